/- What the laws share, part 9. No condition. -/
import Derived.LaidMore
import Derived.Lay
import Derived.LaidByTextLater
import Derived.Stop.Joined
import Derived.SevenTiedAt
import Derived.Lib.SlicesCompact
import Derived.Test.YtfnghamklcdgnaaGreatDoorQ8
set_option maxHeartbeats 4000000
set_option maxRecDepth 10000
namespace Go.Proofs.YtfnghamklcdgnaaGreatDoor
open Go Go.ChangeShapes Go.WideShapes Go.ChangeAt Go.RowKit
abbrev j5(x:Int):Value:= .int .u64 x
abbrev j7(a:Array Value)(T:TypeId)(z:Nat×Nat:=(0,0)):Obj->Prop:=fun o=>o=Obj.cells a T z
abbrev jk:=@qu Tryz.prog
abbrev jl:=@qD Tryz.prog
def q1P{H:Type}:Nat->DataW H->Option (je)
 |0,_=>none
 |_+1, .lit (.int k n)=>some [.int k n]
 |_+1, .lit (.bool b)=>some [.bool b]
 |_+1, .lit (.string l)=>some [.string ⟨l.toArray⟩]
 |n+1, .agg ds=>(ds.mapM (q1P n)).map List.flatten
 |_+1,_=>none
def qkI(P:Program)(f:TypeId->Bool):List Field->Nat->Option Nat
 | [],off=>some off
 |x::r,off=>if x.offset=off/\f x.type=true then qkI P f r (off+P.cellsOf x.type) else none
def qbf(P:Program):Nat->TypeId->Bool
 |0,_=>false
 |n+1,t=>match P.underlying t with
  |some (.int _)|some .bool|some .string=>true
  |some (.array k e)=>qbf P n e&&decide (P.cellsOf t=k*P.cellsOf e)
  |some (.struct b)=>qkI P (qbf P n) b.toList 0==some (P.cellsOf t)
  |_=>false
theorem q6T{α β:Type}{f:α->Option β}:∀(l:List α) (ys:List β),l.length=ys.length->(∀(i:Nat) x,l[i]? =some x->f x=ys[i]?)->l.mapM f=some ys
 | [],[],_,_=>by simp
 |x::l,y::ys,b,h=>by
  have d:=h 0 x rfl;simp only[Zr] at d;have g:=q6T l ys (by simpa using b) (fun i x e=>by have:=h (i+1) x (by simpa using e);simpa using this);rw[List.mapM_cons,d,g];rfl
 | [],_::_,b,_=>by cases b
 |_::_,[],b,_=>by cases b
theorem q4T{cs:je}(s:Nat):∀k,((List.range k).map fun i=>(cs.drop (i*s)).take s).flatten=cs.take (k*s)
 |0=>by simp
 |k+1=>by
  rw[List.range_succ,zv,zP,q4T s k,ZJ,List.take_add];simp
theorem q8p{P:Program}{f:TypeId->Bool}{cs:je}:∀(l:List Field) (off b:Nat),qkI P f l off=some b->off<=b/\(l.map fun x=>(cs.drop x.offset).take (P.cellsOf x.type)).flatten=(cs.drop off).take (b-off)
 | [],off,b,h=>by
  simp only[qkI,Option.some.injEq] at h;subst h;simp
 |x::l,off,b,h=>by
  unfold qkI at h
  split at h
  ·rename_i g;obtain⟨h1,d⟩:=q8p (cs:=cs) l _ b h;refine⟨Yb,?_⟩;rw[zG,Z1,d,g.1];have e:b-off=P.cellsOf x.type+(b-(off+P.cellsOf x.type)):=Yb;rw[e,List.take_add,yx]
  ·cases h
theorem qb4{P:Program}{f:TypeId->Bool}:∀(l:List Field) (off d:Nat),qkI P f l off=some d->∀x∈l,f x.type=true
 | [],_,_,_,x,b=>by cases b
 |y::l,off,d,h,x,b=>by
  unfold qkI at h
  split at h
  ·rename_i e
   rcases zX.1 b with rfl|b
   ·exact e.2
   ·exact qb4 l _ _ h x b
  ·cases h
section
variable{H:Type}{enc:TypeId×Value->H}{P:Program}{w:World}{base:Nat}{spare:Nat->Bool}{held:Bool}
theorem q5E:∀(n fuel:Nat) (t:TypeId) (cs:je) (d:DataW H) (p:List MemPlace),qbf P n t=true->DataW.trod enc P w base spare held fuel t cs=some (d,p)->q1P n d=some cs
 |0,_,_,_,_,_,h,_=>by simp[qbf] at h
 |n+1,fuel,t,cs,d,p,h,hd=>by
  unfold qbf at h
  split at h
  ·rename_i hu;obtain⟨m,rfl,b,_⟩:=DataW.trod_int hu hd;simp only[Prod.mk.injEq] at b;rw[b.1];rfl
  ·rename_i hu;obtain⟨m,rfl,b⟩:=DataW.trod_bool hu hd;simp only[Prod.mk.injEq] at b;rw[b.1];rfl
  ·rename_i hu;obtain⟨m,rfl,b,_⟩:=DataW.trod_string hu hd;simp only[Prod.mk.injEq] at b;rw[b.1];simp[q1P]
  ·rename_i k e hu;simp only[zH,decide_eq_true_eq] at h;obtain⟨xs,m,_,b,r,f,j⟩:=DataW.trod_array hu hd;simp only[Prod.mk.injEq] at b;rw[b.1];have hm:(xs.map (·.1)).mapM (q1P n)=some ((List.range k).map fun i=>(cs.drop (i*P.cellsOf e)).take (P.cellsOf e)):=by
    refine q6T _ _ (by simp[f]) fun i x b=>?_
    rw[zI] at b;obtain⟨y,o,rfl⟩:=Zf.1 b;have hi:i<k:=by rw[<-f];exact(z7.1 o).1
    have:=j i hi;rw[o] at this;rw[q5E n m e _ y.1 y.2 h.1 this];simp[hi]
   simp only[q1P,hm,Zm];rw[q4T,<-h.2,<-r,Z3]
  ·rename_i g hu;simp only[beq_iff_eq] at h;obtain⟨xs,m,_,b,r,f,j⟩:=DataW.trod_struct hu hd;simp only[Prod.mk.injEq] at b;rw[b.1];have hm:(xs.map (·.1)).mapM (q1P n)=some (g.toList.map fun x=>(cs.drop x.offset).take (P.cellsOf x.type)):=by
    refine q6T _ _ (by simp[f]) fun i x b=>?_
    rw[zI] at b;obtain⟨y,o,rfl⟩:=Zf.1 b;have hi:i<g.size:=by rw[<-f];exact(z7.1 o).1
    have s:g[i]? =some g[i]:=ZE hi;have:=j i g[i] s;rw[o] at this;have q:=qb4 g.toList 0 _ h g[i] Yd;rw[q5E n m _ _ y.1 y.2 q this];simp[hi]
   simp only[q1P,hm,Zm];rw[(q8p (cs:=cs) g.toList 0 _ h).2];simp[<-r]
  ·cases h
end
structure q0Z(W0:World)(g:Nat)(cs:je):Prop where
 size:g<W0.heap.size
 cell:∀j v,cs[j]? =some v->W0.cell? ⟨g,j,none⟩=some v
theorem q0Z.st{W0 w:World}{own:Own}{g:Nat}{cs:je}(h:q0Z W0 g cs)(hw:St W0 own w):q0Z w g cs:=
 ⟨Y8 h.size hw.size,fun j v b=>(World.cell?_of_block (w:=W0) (hw.base g h.size)).trans (h.cell j v b)⟩
theorem q0Z.kn{W0:World}{own:Own}{g:Nat}{cs:je}(h:q0Z W0 g cs){j:Nat}{v:Value}(b:cs[j]? =some v):Kn W0 own (fun w=>w.cell? ⟨g,j,none⟩=some v):=fun _ hw=>(h.st hw).cell j v b
theorem qjf{W0:World}{own:Own}{g:Nat}{cs:je}(h:q0Z W0 g cs){j:Nat}{K:Value->Prop}(v:Value)(d:cs[j]? =some v)(b:K v):Ld W0 own ⟨g,j,none⟩ K:=⟨v,h.kn d,b⟩
theorem qaf{W0:World}{own:Own}{g:Nat}{cs:je}(h:q0Z W0 g cs){j n:Nat}{K:jg->Prop}(vs:je)(f:(cs.drop j).take n=vs)(e:vs.length=n)(d:K vs.toArray):LdN W0 own ⟨g,j,none⟩ n K:=by
 refine⟨vs.toArray,by simpa using e,fun w hw i hi=>?_,d⟩;rw[qN];have b:i<vs.length:=Yb;refine(h.kn (own:=own) (v:=vs[i]) ?_ w hw).trans (by simp[b]);subst f;rw[z7];simp only[zM,ZM] at b;exact⟨Yb,by simp[List.getElem_take,List.getElem_drop]⟩
theorem qac{P:Program}{w:World}:∀{l:List (String×DataW Unit)} {ps:List MemPlace},DataW.LaidVars P w l ps->∀{n:String} {d:DataW Unit},(n,d)∈l->
  ∃g t cs fuel p,P.globalNamed n=some g/\(P.globals[g]?).map (·.type)=some t/\w.var? P n=some cs/\DataW.trod (fun _=>()) P w 0 (fun _=>true) false fuel t cs.toList=some (d,p)
 | [],_,_,_,_,h=>by cases h
 |(n',d')::r,ps,s,n,d,h=>by
  obtain⟨g,t,cs,fuel,p,q,b,f,j,k,o,_⟩:=s
  rcases zX.1 h with e|h
  ·cases e;exact⟨g,t,cs,fuel,p,b,f,j,k⟩
  ·exact qac o h
theorem qdd{P:Program}{w:World}{l:List (String×DataW Unit)}{n:String}{d:DataW Unit}{g:Nat}{t:TypeId}{cs:je}(A:(l.all fun x=>x.2.handleName?.isNone)=true)
  (h:laidMetH P l w) (hm:(n,d)∈l) (q:P.globalNamed n=some g) (B:(P.globals[g]?).map (·.type)=some t) (z:qbf P 6 t=true) (y:q1P 6 d=some cs) (f:cs≠ []):q0Z w g cs:=by
 rw[MakeChecks.laidMetH_plain _ _ _ A] at h;obtain⟨ps,u,_,_⟩:=h;obtain⟨g',t',cs',fuel,p,k,o,r,s⟩:=qac u hm;rw[q] at k;obtain rfl:=Option.some.inj k;rw[B] at o;obtain rfl:=Option.some.inj o;have e:=q5E 6 fuel t _ d p z s;rw[y] at e;have e:=(Option.some.inj e).symm;have b:∀j v,cs[j]? =some v->w.cell? ⟨g,j,none⟩=some v:=fun j v C=>by
  rw[World.var?_cell q r j,<-Z5,e,C]
 refine⟨?_,b⟩
 match cs,f with
 |v::_,_=>
  have:=b 0 v rfl;unfold World.cell? at this
  split at this
  ·rename_i hb;exact(Zg.1 hb).1
  ·cases this
namespace Alu
open Go
theorem qlM:FloatKind.f64.format=Ieee.double:=rfl
theorem sw:Ieee.double.signWeight=9223372036854775808:=Yc
theorem bn:Ieee.double.binade=4503599627370496:=Yc
theorem ir:Ieee.double.infRung=9218868437227405312:=Yc
def isN(x:Nat):Bool:=decide (9218868437227405312<x % 9223372036854775808)
theorem qaB(x:Nat):(Ieee.double.read x).isNaN=isN x:=by
 unfold Ieee.Format.read isN;simp only[sw,bn,ir]
 split
 ·simp only[Ieee.Datum.isNaN];symm;rw[decide_eq_false_iff_not];omega
 ·split
  ·simp only[Ieee.Datum.isNaN];symm;rw[decide_eq_false_iff_not];omega
  ·split
   ·simp only[Ieee.Datum.isNaN];symm;rw[decide_eq_false_iff_not];omega
   ·simp only[Ieee.Datum.isNaN];symm;rw[decide_eq_true_eq];omega
theorem qbl(d:Ieee.Datum):d.order d=if d.isNaN then none else some .eq:=by
 cases d with
 |nan=>rfl
 |infinity s=>simp[Ieee.Datum.order,Ieee.Datum.isNaN]
 |number s m i=>simp[Ieee.Datum.order,Ieee.Datum.isNaN]
theorem qbm(x:Nat):FloatKind.f64.format.order x x=if isN x then none else some .eq:=by
 rw[<-qaB];exact qbl _
theorem qfr(x:Nat):q5I .neq (FloatKind.f64.format.order x x)=isN x:=by
 rw[qbm];cases isN x <;>rfl
theorem qfQ{r:Nat}(h:qnj r):isN r=true:=by
 obtain⟨s,t,hs,e,rfl⟩:=h;unfold isN;rw[decide_eq_true_eq];have b:(2:Nat) ^ 63=9223372036854775808:=Yc;have d:(2:Nat) ^ 52=4503599627370496:=Yc;rw[d] at e;rw[b];omega
def okW(x:Int):Prop:=0<=x/\x<=18446744073709551615
def truthM(b:Bool):Int:=if b then 1 else 0
def nanW:Int:=9221120237041090560
def plainM(x:Nat):Int:=if isN x then nanW else x
theorem q3I(W0:World)(own:Own)(a:Nat):jl W0 284 [.float .f64 a] own (.bool (isN a)):=by
 refine qi (sH [] ?_)
 repeat'((try conv=>whnf);first|refine q68 _ (qfr _) ?_|exact Ent.refl|refine And.intro rfl ?_)
 all_goals exact⟨rfl,eB⟩
theorem q2b(W0:World)(own:Own)(a:Nat):jl W0 285 [.float .f64 a] own (j5 (plainM a)):=by
 refine qi (sH [] ?_);cases b:isN a
 ·have d:∀own,jl W0 284 [.float .f64 a] own (.bool false):=fun own=>by rw[<-b];exact q3I W0 own a
  repeat'((try conv=>whnf);first|apply qp (d _)|refine q2W ?_)
  all_goals(refine⟨q0s (vi ?_),eB⟩;simp[plainM,b])
 ·have d:∀own,jl W0 284 [.float .f64 a] own (.bool true):=fun own=>by rw[<-b];exact q3I W0 own a
  repeat'((try conv=>whnf);first|apply qp (d _)|refine q26 ?_)
  all_goals(refine⟨q0s (vi ?_),eB⟩;simp[plainM,b,nanW])
theorem qaV(W0:World)(own:Own)(b:Bool):jl W0 286 [.bool b] own (j5 (truthM b)):=by
 refine qi (sH [] ?_);cases b <;>(repeat'((try conv=>whnf);first|refine q26 ?_|refine q2W ?_);all_goals exact⟨rfl,eB⟩)
theorem qob{k:IntKind}{m n:Int}{K:Int->Prop}(b:0<=n)(h:K (k.wrap (m*2 ^ (min n.toNat k.bits)))):Shl k m n K:=⟨b,h⟩
theorem qoe{k:IntKind}{m n:Int}{K:Int->Prop}(b:0<=n)(h:K (m.fdiv (2 ^ (min n.toNat k.bits)))):Shr k m n K:=⟨b,h⟩
def intsM(fn x y:Int):Int:=
 if fn=0 then IntKind.u64.wrap (x+y) else if fn=1 then IntKind.u64.wrap (x-y) else if fn=2 then IntKind.u64.wrap (x*y) else if fn=3 then qfo .and .u64 x y else if fn=4 then qfo .or .u64 x y
 else if fn=5 then qfo .xor .u64 x y else if fn=6 then IntKind.u64.wrap (x*2 ^ (min (y % 64).toNat IntKind.u64.bits)) else if fn=7 then x.fdiv (2 ^ (min (y % 64).toNat IntKind.u64.bits))
 else if fn=8 then truthM (decide (x=y)) else if fn=9 then truthM (decide (x≠y)) else if fn=10 then truthM (decide (IntKind.i64.wrap x<IntKind.i64.wrap y)) else truthM (decide (x<y))
theorem qjU(W0:World)(own:Own)(fn x y:Int)(hf:0<=fn/\fn<12)(b:okW y):jl W0 211 [j4 fn,j5 x,j5 y] own (j5 (intsM fn x y)):=by
 unfold okW at b;have hw:fn=0\/fn=1\/fn=2\/fn=3\/fn=4\/fn=5\/fn=6\/fn=7\/fn=8\/fn=9\/fn=10\/fn=11:=Yb;refine qi (sH [] ?_)
 rcases hw with rfl|rfl|rfl|rfl|rfl|rfl|rfl|rfl|rfl|rfl|rfl|rfl
 all_goals
  repeat'((try conv=>whnf);first|refine q26 ?_|refine q2W ?_|refine arw ?_|refine qnz ?_|refine qob Yb ?_|refine qoe Yb ?_|apply qp (qaV _ _ _)|refine q2R ?_ ?_;omega|exact Ent.refl|refine And.intro rfl ?_)
  all_goals exact⟨rfl,eB⟩
def fopM(op:BinOp)(a b:Nat):Int:=match floatBits op .f64 a b with|some r=>plainM r|none=>nanW
theorem q3z{r:Nat}(h:qnj r):plainM r=nanW:=by unfold plainM;rw[qfQ h];rfl
theorem qmC(W0:World)(own:Own)(a b:Nat):jl W0 287 [.float .f64 a, .float .f64 b] own (.float .f64 (q5f true a b)):=by
 refine qi (sH [] ?_)
 repeat'((try conv=>whnf);first|refine q26 ?_|exact Ent.refl|refine And.intro rfl ?_)
 all_goals exact⟨rfl,eB⟩
theorem qmB(W0:World)(own:Own)(a b:Nat):jl W0 288 [.float .f64 a, .float .f64 b] own (.float .f64 (q5f false a b)):=by
 refine qi (sH [] ?_)
 repeat'((try conv=>whnf);first|refine q26 ?_|exact Ent.refl|refine And.intro rfl ?_)
 all_goals exact⟨rfl,eB⟩
def floatsM(fn:Int)(a b:Nat):Int:=
 if fn=12 then fopM .add a b else if fn=13 then fopM .sub a b else if fn=14 then fopM .mul a b else if fn=15 then fopM .quo a b
 else if fn=16 then(if isN a||isN b then nanW else plainM (q5f true a b)) else if fn=17 then(if isN a||isN b then nanW else plainM (q5f false a b))
 else if fn=18 then truthM (q5I .eql (FloatKind.f64.format.order a b)) else truthM (q5I .lss (FloatKind.f64.format.order a b))
theorem qe3(W0:World)(own:Own)(fn:Int)(a b:Nat)(hf:12<=fn/\fn<20):jl W0 210 [j4 fn, .float .f64 a, .float .f64 b] own (j5 (floatsM fn a b)):=by
 have e:=fun own=>q3I W0 own a
 have f:=fun own=>q3I W0 own b
 generalize j:isN a=na at e;generalize k:isN b=g at f;refine qi (sH [] ?_);have hw:fn=12\/fn=13\/fn=14\/fn=15\/fn=16\/fn=17\/fn=18\/fn=19:=Yb
 rcases hw with rfl|rfl|rfl|rfl|rfl|rfl|rfl|rfl
 case inl=>
  cases d:floatBits .add .f64 a b <;>cases na <;>cases g
  all_goals
   repeat'((try conv=>whnf);first|refine qS ?_|refine q0b ?_|refine q26 ?_|refine qfE _ d ?_|refine qfD d fun r h=>?_|apply qp (e _)|apply qp (f _)|apply qp (q2b _ _ _))
   all_goals(refine⟨q0s (vi ?_),eB⟩;simp[floatsM,fopM,d];try exact q3z (by assumption))
 case inr.inl=>
  cases d:floatBits .sub .f64 a b <;>cases na <;>cases g
  all_goals
   repeat'((try conv=>whnf);first|refine qS ?_|refine q0b ?_|refine q26 ?_|refine q2W ?_|refine qfE _ d ?_|refine qfD d fun r h=>?_|apply qp (e _)|apply qp (f _)|apply qp (q2b _ _ _))
   all_goals(refine⟨q0s (vi ?_),eB⟩;simp[floatsM,fopM,d];try exact q3z (by assumption))
 case inr.inr.inl=>
  cases d:floatBits .mul .f64 a b <;>cases na <;>cases g
  all_goals
   repeat'((try conv=>whnf);first|refine qS ?_|refine q0b ?_|refine q26 ?_|refine q2W ?_|refine qfE _ d ?_|refine qfD d fun r h=>?_|apply qp (e _)|apply qp (f _)|apply qp (q2b _ _ _))
   all_goals(refine⟨q0s (vi ?_),eB⟩;simp[floatsM,fopM,d];try exact q3z (by assumption))
 case inr.inr.inr.inl=>
  cases d:floatBits .quo .f64 a b <;>cases na <;>cases g
  all_goals
   repeat'((try conv=>whnf);first|refine qS ?_|refine q0b ?_|refine q26 ?_|refine q2W ?_|refine qfE _ d ?_|refine qfD d fun r h=>?_|apply qp (e _)|apply qp (f _)|apply qp (q2b _ _ _))
   all_goals(refine⟨q0s (vi ?_),eB⟩;simp[floatsM,fopM,d];try exact q3z (by assumption))
 all_goals
  cases na <;>cases g
  all_goals
   repeat'((try conv=>whnf);first|refine qS ?_|refine q0b ?_|refine q26 ?_|refine q2W ?_|refine qlN ?_|apply qp (e _)|apply qp (f _)|apply qp (q2b _ _ _)|apply qp (qaV _ _ _)|apply qp (qmC _ _ _ _)|apply qp (qmB _ _ _ _)|exact Ent.refl|refine And.intro rfl ?_)
   all_goals(refine⟨q0s (vi ?_),eB⟩;simp[floatsM,j,k,nanW])
def qnh:Nat:=4890909195324358656
def qng:Nat:=14114281232179134464
theorem qg2:Ieee.double.read qnh= .number false 4503599627370496 11:=Yc
theorem qdE:Ieee.double.read qng= .number true 4503599627370496 11:=Yc
theorem q9V(s:Bool)(n drop:Nat):Ieee.Toward.zero.cut s n drop=n/2 ^ (min drop (n.log2+2)):=by
 simp[Ieee.Toward.cut,Nat.shiftLeft_eq]
theorem qln{s:Bool}{n drop j:Nat}(h:n<2 ^ (drop+j)):Ieee.Toward.zero.cut s n drop<2 ^ j:=by
 rw[q9V]
 by_cases hd:drop<=n.log2+2
 ·rw[yH hd];refine(Nat.div_lt_iff_lt_mul (Nat.two_pow_pos _)).2 ?_;rw[<-ye,yR j drop];exact h
 ·rw[Nat.min_eq_right Yb];have b:n<2 ^ (n.log2+2):=Y8 Nat.lt_log2_self (Nat.pow_le_pow_right Yb Yb);rw[Nat.div_eq_of_lt b];exact Nat.two_pow_pos _
theorem qlm{s:Bool}{n drop j:Nat}(h:n<=2 ^ (drop+j)):Ieee.Toward.zero.cut s n drop<=2 ^ j:=by
 rw[q9V]
 by_cases hd:drop<=n.log2+2
 ·rw[yH hd];refine Nat.div_le_of_le_mul ?_;rw[<-ye];exact h
 ·rw[Nat.min_eq_right Yb];have b:n<2 ^ (n.log2+2):=Y8 Nat.lt_log2_self (Nat.pow_le_pow_right Yb Yb);rw[Nat.div_eq_of_lt b];exact zl _
theorem qdM{s:Bool}{m:Nat}{e:Int}(h:m<<<(e-min e 11).toNat<4503599627370496<<<(11-min e 11).toNat):Ieee.Toward.zero.cut s (m<<<e.toNat) (-e).toNat<9223372036854775808:=by
 have k:(9223372036854775808:Nat)=2 ^ 63:=Yc;have g:(4503599627370496:Nat)=2 ^ 52:=Yc;rw[k];refine qln ?_;rw[g,ZX,ZX,<-ye] at h;rw[ZX]
 by_cases h11:11<=e
 ·have f:min e 11=11:=Yb;rw[f] at h;have b:(-e).toNat=0:=Yb;have d:e.toNat=(e-11).toNat+11:=Yb;rw[b,d,ye,<-Nat.mul_assoc];have:=Nat.mul_lt_mul_of_pos_right h (show 0<2 ^ 11 by decide);rw[<-ye] at this
  simpa using this
 ·have f:min e 11=e:=Yb;rw[f] at h;have j:(e-e).toNat=0:=Yb;rw[j,Nat.pow_zero,yo] at h
  by_cases hneg:e<0
  ·have b:e.toNat=0:=Yb;rw[b,Nat.pow_zero,yo];have d:(-e).toNat+63=52+(11-e).toNat:=Yb;rw[d];exact h
  ·have b:(-e).toNat=0:=Yb;have d:0+63=52+(11-e).toNat+e.toNat:=Yb;rw[b,d,ye _ _ e.toNat];exact Nat.mul_lt_mul_of_pos_right h (Nat.two_pow_pos _)
theorem qbr{s:Bool}{m:Nat}{e:Int}(h:m<<<(e-min e 11).toNat<=4503599627370496<<<(11-min e 11).toNat):Ieee.Toward.zero.cut s (m<<<e.toNat) (-e).toNat<=9223372036854775808:=by
 have k:(9223372036854775808:Nat)=2 ^ 63:=Yc;have g:(4503599627370496:Nat)=2 ^ 52:=Yc;rw[k];refine qlm ?_;rw[g,ZX,ZX,<-ye] at h;rw[ZX]
 by_cases h11:11<=e
 ·have f:min e 11=11:=Yb;rw[f] at h;have b:(-e).toNat=0:=Yb;have d:e.toNat=(e-11).toNat+11:=Yb;rw[b,d,ye,<-Nat.mul_assoc];have:=ZT (2 ^ 11) h;rw[<-ye] at this
  simpa using this
 ·have f:min e 11=e:=Yb;rw[f] at h;have j:(e-e).toNat=0:=Yb;rw[j,Nat.pow_zero,yo] at h
  by_cases hneg:e<0
  ·have b:e.toNat=0:=Yb;rw[b,Nat.pow_zero,yo];have d:(-e).toNat+63=52+(11-e).toNat:=Yb;rw[d];exact h
  ·have b:(-e).toNat=0:=Yb;have d:0+63=52+(11-e).toNat+e.toNat:=Yb;rw[b,d,ye _ _ e.toNat];exact ZT _ h
theorem qfw{b:Nat}(u:isN b=false)(g:q5I .geq (FloatKind.f64.format.order b qnh)=false)(f:q5I .lss (FloatKind.f64.format.order b qng)=false):∃n,floatToIntVal .f64 b .i64=some n:=by
 rw[<-qaB] at u;unfold floatToIntVal FloatKind.decode;rw[qlM] at*;unfold Ieee.Format.order at g f;rw[qg2] at g;rw[qdE] at f;generalize Ieee.double.read b=d at*;cases d with
 |nan=>simp[Ieee.Datum.isNaN] at u
 |infinity s=>cases s <;>simp[Ieee.Datum.order,q5I] at g f
 |number s m e=>
  simp only[Ieee.Datum.order,q5I] at g f;simp only[Ieee.Datum.toInt,Ieee.Datum.integral];have k:IntKind.i64.min= -9223372036854775808:=rfl;have j:IntKind.i64.max=9223372036854775807:=rfl;have q:IntKind.i64.min<=Ieee.signed s (Ieee.Toward.zero.cut s (m<<<e.toNat) (-e).toNat) 0/\Ieee.signed s (Ieee.Toward.zero.cut s (m<<<e.toNat) (-e).toNat) 0<=IntKind.i64.max:=by
   rw[k,j];cases s with
   |false=>
    have r:m<<<(e-min e 11).toNat<4503599627370496<<<(11-min e 11).toNat:=by
     rcases yP (m<<<(e-min e 11).toNat) (4503599627370496<<<(11-min e 11).toNat) with h|h
     ·exact h
     ·exfalso;have o:compare (Ieee.signed false m (e-min e 11).toNat) (Ieee.signed false 4503599627370496 (11-min e 11).toNat)≠ .lt:=by
       simp only[Ieee.signed,zV,if_false,ne_eq,Int.compare_eq_lt];omega
      revert g o
      generalize compare (Ieee.signed false m (e-min e 11).toNat) (Ieee.signed false 4503599627370496 (11-min e 11).toNat)=c;cases c <;>simp
    have:=qdM (s:=false) r;simp only[Ieee.signed,zV,if_false,Nat.shiftLeft_zero];omega
   |true=>
    have hle:m<<<(e-min e 11).toNat<=4503599627370496<<<(11-min e 11).toNat:=by
     rcases yP (4503599627370496<<<(11-min e 11).toNat) (m<<<(e-min e 11).toNat) with h|h
     ·exfalso;have o:compare (Ieee.signed true m (e-min e 11).toNat) (Ieee.signed true 4503599627370496 (11-min e 11).toNat)= .lt:=by
       simp only[Ieee.signed,if_true,Int.compare_eq_lt];omega
      rw[o] at f;simp at f
     ·exact h
    have:=qbr (s:=true) hle;simp only[Ieee.signed,if_true,Nat.shiftLeft_zero];omega
  exact⟨_,if_pos q⟩
def q6w(b:Nat):Int:=
 if isN b then 0 else if q5I .geq (FloatKind.f64.format.order b qnh) then 9223372036854775807 else if q5I .lss (FloatKind.f64.format.order b qng) then-9223372036854775808 else(floatToIntVal .f64 b .i64).getD 0
theorem qh5(W0:World)(own:Own)(a:Nat):jl W0 208 [.float .f64 a] own (j4 (q6w a)):=by
 have f:=fun own=>q3I W0 own a
 refine qi (sH [] ?_);cases d:isN a <;>rw[d] at f
 ·cases b:q5I .geq (FloatKind.f64.format.order a qnh)
  ·cases e:q5I .lss (FloatKind.f64.format.order a qng)
   ·obtain⟨n,he⟩:=qfw d b e
    repeat'((try conv=>whnf);first|refine q2W ?_|apply qp (f _)|refine q68 _ b ?_|refine q68 _ e ?_|refine qnH _ he ?_)
    all_goals(refine⟨q0s (vi ?_),eB⟩;simp[q6w,d,b,e,he])
   ·repeat'((try conv=>whnf);first|refine q26 ?_|refine q2W ?_|apply qp (f _)|refine q68 _ b ?_|refine q68 _ e ?_)
    all_goals(refine⟨q0s (vi ?_),eB⟩;simp[q6w,d,b,e])
  ·repeat'((try conv=>whnf);first|refine q26 ?_|refine q2W ?_|apply qp (f _)|refine q68 _ b ?_)
   all_goals(refine⟨q0s (vi ?_),eB⟩;simp[q6w,d,b])
 ·repeat'((try conv=>whnf);first|refine q26 ?_|apply qp (f _))
  all_goals(refine⟨q0s (vi ?_),eB⟩;simp[q6w,d])
def applyW(fn x y:Int):Int:=
 if 0<=fn/\fn<22 then
  if fn=20 then(FloatKind.f64.nearest (IntKind.i64.wrap x):Int) else if fn=21 then IntKind.u64.wrap (q6w x.toNat) else if 12<=fn then floatsM fn x.toNat y.toNat else intsM fn x y
 else 0
def q62(fn:Int):Int:=if 0<=fn/\fn<22 then 0 else 10
theorem sp_apply(W0:World)(own:Own)(fn x y:Int)(g:okW y):
  jl W0 140 [j4 fn,j5 x,j5 y] own (.tuple #[j5 (applyW fn x y),j4 (q62 fn)]):=by
 refine qi (sH [] ?_)
 by_cases h:0<=fn/\fn<22
 ·by_cases b:fn=20
  ·subst b
   repeat'((try conv=>whnf);first|refine qS ?_|refine q26 ?_|refine q2W ?_|refine arw ?_)
   all_goals(refine⟨qc2 (vi ?_) (vi ?_),eB⟩ <;>simp[applyW,q62])
  ·by_cases d:fn=21
   ·subst d
    repeat'((try conv=>whnf);first|refine qS ?_|refine q26 ?_|refine q2W ?_|apply qp (qh5 _ _ _)|refine arw ?_)
    all_goals(refine⟨qc2 (vi ?_) (vi ?_),eB⟩ <;>simp[applyW,q62])
   ·by_cases e:12<=fn
    ·repeat'((try conv=>whnf);first|refine qS ?_|refine q0D Yb ?_|refine q1l Yb ?_|refine q3j Yb ?_|apply qp (qe3 _ _ fn _ _ Yb))
     all_goals(refine⟨qc2 (vi ?_) (vi ?_),eB⟩ <;>simp[applyW,q62,h,b,d,e])
    ·repeat'((try conv=>whnf);first|refine qS ?_|refine q1l Yb ?_|refine q3j Yb ?_|apply qp (qjU _ _ fn _ _ Yb g))
     all_goals(refine⟨qc2 (vi ?_) (vi ?_),eB⟩ <;>simp[applyW,q62,h,b,d,e])
 ·repeat'((try conv=>whnf);first|refine qS ?_|refine q0b ?_|refine q26 ?_|refine q0D Yb ?_|refine q0X (fun f=>?_) fun f=>?_)
  all_goals first|exfalso;omega|(refine⟨qc2 (vi ?_) (vi ?_),eB⟩ <;>simp[applyW,q62,h])
theorem fb_lt{op:BinOp}{a b r:Nat}(h:floatBits op .f64 a b=some r):r<18446744073709551616:=by
 have:=floatBits_wf h
 simpa [Lit.wf] using this
end Alu
open Go
structure Ins where
 op:Int
 a:Int
 b:Int
 c:Int
 imm:Int
abbrev Ins.enc(i:Ins):je:= [j4 i.op,j4 i.a,j4 i.b,j4 i.c,j4 i.imm]
abbrev Ins.v(i:Ins):Value:= .agg #[j4 i.op,j4 i.a,j4 i.b,j4 i.c,j4 i.imm]
def has(s:ByteArray)(c:Int):Bool:=decide (0<=qfb s c)
theorem qgo(W0:World)(own:Own)(s:ByteArray)(c:Int):jl W0 311 [.string s, .int .u8 c] own (j4 (qfb s c)):=by
 refine qi (sH [] ?_)
 repeat'((try conv=>whnf);first|exact Ent.refl|refine And.intro rfl ?_)
 all_goals exact⟨rfl,eB⟩
theorem qof{c:UInt8}{K:Value->Prop}(h:K (.int .u8 c.toNat)):qou ⟨#[c]⟩ 0 K:=⟨0,c,rfl,rfl,h⟩
theorem qfG(c:UInt8):qfb ⟨#[c]⟩ c.toNat=0:=by
 unfold qfb;have e:((c.toNat:Int).toNat.toUInt8)=c:=Yd;have b:((⟨#[c]⟩:ByteArray)[0]!)=c:=rfl;have d:(List.range (⟨#[c]⟩:ByteArray).size).find? (fun i=>(⟨#[c]⟩:ByteArray)[i]! ==(c.toNat:Int).toNat.toUInt8)=some 0:=by
  show(List.range 1).find? _=some 0;simp only[List.range_succ,List.range_zero,zj,List.find?_cons,b,e,beq_self_eq_true]
 rw[d];rfl
theorem qex(W0:World)(own:Own)(s:ByteArray)(c:UInt8):jl W0 305 [.string s, .string ⟨#[c]⟩] own (j4 (qfb s c.toNat)):=by
 refine qi (sH [] ?_)
 by_cases b:(⟨#[c]⟩:ByteArray).toList=s.toList
 ·have e:s=⟨#[c]⟩:=by
   rw[ByteArray.toList_eq,ByteArray.toList_eq] at b;have:=ZK.1 b;cases s;simp at this;rw[<-this]
  subst e
  repeat'((try conv=>whnf);first|refine q0D ?_ ?_;(solve|simp|(simp;omega))|refine qS ?_)
  all_goals(refine⟨q0s (vi ?_),eB⟩;first|rfl|exact(qfG c).symm)
 ·repeat'((try conv=>whnf);first|refine q1l b ?_|refine qof ?_|apply qp (qgo _ _ s c.toNat)|refine qS ?_|refine q26 ?_|exact Ent.refl|refine And.intro rfl ?_)
  all_goals exact⟨rfl,eB⟩
theorem q77(W0:World)(own:Own)(s:ByteArray)(c:UInt8):jl W0 290 [.string s, .string ⟨#[c]⟩] own (j4 (qfb s c.toNat)):=by
 refine qi (sH [] ?_)
 repeat'((try conv=>whnf);first|apply qp (qex _ _ s c)|exact Ent.refl|refine And.intro rfl ?_)
 all_goals exact⟨rfl,eB⟩
theorem q3g(W0:World)(own:Own)(s:ByteArray)(c:UInt8):jl W0 218 [.string s, .string ⟨#[c]⟩] own (.bool (has s c.toNat)):=by
 refine qi (sH [] ?_)
 repeat'((try conv=>whnf);first|apply qp (q77 _ _ s c)|exact Ent.refl|refine And.intro rfl ?_)
 all_goals exact⟨rfl,eB⟩
def qfg(op:Int):Bool:=op==1||op==2||op==3||op==5||op==6||op==10||op==11||op==12||op==13||op==14||op==15||op==17
def qih(op:Int):Bool:=op==2||op==3||op==10||op==11||op==12||op==13
def qii(op:Int):Bool:=op==3
def q1n(u:Bool)(r:Int):Prop:=if u then 0<=r/\r<8 else r=0
instance(u:Bool)(r:Int):Decidable (q1n u r):=by unfold q1n;infer_instance
def q3v(op imm:Int):Prop:=
 if op=1\/op=10\/op=11\/op=12\/op=13 then True else if op=3 then 0<=imm/\imm<22 else if op=4\/op=5\/op=6 then 0<=imm/\imm<=64 else if op=7 then 1<=imm/\imm<=8 else if op=14 then 0<=imm/\imm<4 else imm=0
instance(op imm:Int):Decidable (q3v op imm):=by unfold q3v;infer_instance
def qH(i:Ins):Int:=
 if i.op<0\/18<=i.op then 10 else if q1n (qfg i.op) i.a/\q1n (qih i.op) i.b/\q1n (qii i.op) i.c then(if q3v i.op i.imm then 0 else 11) else 11
def qcV:je:= [.string ⟨#[110,111,112]⟩, .string ⟨#[]⟩, .string ⟨#[99,111,110,115,116]⟩, .string ⟨#[65,73]⟩, .string ⟨#[109,111,118,101]⟩, .string ⟨#[65,66]⟩, .string ⟨#[]⟩, .string ⟨#[65,66,67]⟩, .string ⟨#[106,117,109,112]⟩, .string ⟨#[73]⟩,
 .string ⟨#[122,101,114,111]⟩, .string ⟨#[65,73]⟩, .string ⟨#[110,111,110,122,101,114,111]⟩, .string ⟨#[65,73]⟩, .string ⟨#[98,101,103,105,110]⟩, .string ⟨#[73]⟩, .string ⟨#[99,111,109,109,105,116]⟩, .string ⟨#[]⟩, .string ⟨#[97,98,111,114,116]⟩, .string ⟨#[]⟩,
 .string ⟨#[116,114,101,97,100]⟩, .string ⟨#[65,66,73]⟩, .string ⟨#[116,119,114,105,116,101]⟩, .string ⟨#[65,66,73]⟩, .string ⟨#[112,114,101,97,100]⟩, .string ⟨#[65,66,73]⟩, .string ⟨#[112,119,114,105,116,101]⟩, .string ⟨#[65,66,73]⟩,
 .string ⟨#[97,108,108,111,99]⟩, .string ⟨#[65,73]⟩, .string ⟨#[102,114,101,101]⟩, .string ⟨#[65]⟩, .string ⟨#[102,101,110,99,101]⟩, .string ⟨#[]⟩, .string ⟨#[111,117,116,99,111,109,101]⟩, .string ⟨#[65]⟩]
def qE(W0:World):Prop:=q0Z W0 1 qcV
theorem qkv{s:ByteArray}{lo hi:Option Int}{K:Value->Prop}(l r:Nat)(t:ByteArray)(e:lo.getD 0=l)(f:hi.getD s.size=r)(b:Nat.ble l r=true)(d:Nat.ble r s.size=true)(g:s.extract l r=t)(h:K (.string t)):qov s lo hi K:=
 ⟨l,r,e,f,by simpa using b,by simpa using d,by rw[g];exact h⟩
theorem qiW:(⟨#[65,66,67]⟩:ByteArray).extract 0 1=⟨#[65]⟩:=by decide+kernel
theorem qiX:(⟨#[65,66,67]⟩:ByteArray).extract 1 2=⟨#[66]⟩:=by decide+kernel
theorem qiY:(⟨#[65,66,67]⟩:ByteArray).extract 2 3=⟨#[67]⟩:=by decide+kernel
theorem qi8{W0:World}{own:Own}{s:ByteArray}{c:UInt8}{K:Value->Prop}(b:Bool)(hb:has s c.toNat=b)(h:K (.bool b)):q4q Tryz.prog W0 own 218 [.string s, .string ⟨#[c]⟩] K:=
 q2o (fun _=>q3g _ _ s c) (by rw[hb];exact h)
theorem qel(W0:World)(own:Own)(i:Ins):jl W0 219 [i.v] own (.bool (decide (q3v i.op i.imm))):=by
 refine qi (sH [] ?_)
 repeat'((try conv=>whnf);first|refine qS ?_|refine q1G ?_|refine q0D Yb ?_|apply qU;exact eM;exact rfl|refine qg fun bk hbk=>?_|refine q4f (fun b=>?_) fun b=>?_|refine q3p (fun b=>?_) fun b=>?_)
 all_goals(refine⟨q0s (vb ?_),eB⟩)
 all_goals first|(refine dd ?_;unfold q3v;(repeat' split) <;>omega)|(refine dt ?_;unfold q3v;(repeat' split) <;>first|exact True.intro|omega)|(refine df ?_;unfold q3v;(repeat' split) <;>omega)
theorem qbB(W0:World)(own:Own)(h:qE W0)(op a b c imm:Int)(I:Bool)(j:∀own,jl W0 219 [.agg #[j4 op,j4 a,j4 b,j4 c,j4 imm]] own (.bool I)):
  jl W0 155 [.agg #[j4 op,j4 a,j4 b,j4 c,j4 imm]] own (j4 (if op<0\/18<=op then 10 else if q1n (qfg op) a/\q1n (qih op) b/\q1n (qii op) c then(if I then 0 else 11) else 11)):=by
 refine qi (sH (jo 11 3 [0]) ?_)
 by_cases e:op<0\/18<=op
 ·rw[if_pos e]
  repeat'((try conv=>whnf);first|refine qS ?_|refine q0b ?_|refine q26 ?_|refine q0D Yb ?_|apply qU;exact eM;exact rfl|refine qg fun g f=>?_|refine q0X (fun d=>?_) fun d=>?_|exact Ent.refl|refine Ent.cons ?_|refine And.intro rfl ?_)
  all_goals first|exact⟨rfl,eB⟩|exfalso;omega
 ·rw[if_neg e];have hw:op=0\/op=1\/op=2\/op=3\/op=4\/op=5\/op=6\/op=7\/op=8\/op=9\/op=10\/op=11\/op=12\/op=13\/op=14\/op=15\/op=16\/op=17:=Yb;cases I <;>rcases hw with rfl|rfl|rfl|rfl|rfl|rfl|rfl|rfl|rfl|rfl|rfl|rfl|rfl|rfl|rfl|rfl|rfl|rfl
  all_goals
   repeat'((try conv=>whnf);first|refine qS ?_|refine q1G ?_|refine q0b ?_|refine q26 ?_|refine q2W ?_|refine q31 4 ?_|refine qjf h _ rfl ?_|refine qkv 0 1 _ rfl rfl rfl rfl qiW ?_|refine qkv 1 2 _ rfl rfl rfl rfl qiX ?_|refine qkv 2 3 _ rfl rfl rfl rfl qiY ?_|refine qi8 true rfl ?_|refine qi8 false rfl ?_|apply qp (j _)|refine fB ?_|refine fO ?_|refine ix0 rfl ?_|refine ix1 rfl ?_|refine ix2 rfl ?_|refine ix3 rfl ?_|refine ix4 rfl ?_|refine fP ?_|apply qU;exact eM;exact rfl|apply qZ;exact eM;exact rfl|refine qg fun g f=>?_|refine q0X (fun d=>?_) fun d=>?_|refine q3p (fun d=>?_) fun d=>?_)
   all_goals(refine⟨q0s (vi ?_),eB⟩;simp[q1n,qfg,qih,qii];try omega)
theorem q5s(W0:World)(own:Own)(b:qE W0)(i:Ins):jl W0 155 [i.v] own (j4 (qH i)):=by
 have h:=qbB W0 own b i.op i.a i.b i.c i.imm _ (fun own=>qel W0 own i);simp only[decide_eq_true_eq] at h;exact h
def qhM(c:Int):List UInt8->Bool
 | []=>false
 |x::l=>if(x.toNat:Int)=c then true else qhM c l
theorem q9q(W0:World)(own:Own)(s:ByteArray)(c:Int)(hs:s.size<=9223372036854775807):jl W0 131 [.string s, .int .u8 c] own (.bool (qhM c s.data.toList)):=by
 refine qi (sH [] ?_);have hsz:s.data.toList.length=s.size:=Yd;refine q1C (σ:=Nat) (fun k=> [(5,j4 k)]) (fun k=>k<=s.size/\qhM c (s.data.toList.drop k)=qhM c s.data.toList) (fun k=>s.size-k) 0 ⟨Yb,rfl⟩ (eF) rfl ?_;rintro k junk ⟨hk,b⟩
 by_cases hlt:k<s.size
 ·obtain⟨x,e⟩:∃x,s.data.toList[k]? =some x:=⟨_,z6 Yb⟩
  have hd:s.data.toList.drop k=x::s.data.toList.drop (k+1):=by
   rw[Zd Yb]
   congr 1
   exact(z7.1 e).2
  rw[hd,qhM] at b
  repeat'((try conv=>whnf);first|refine q0D Yb ?_|refine⟨k,x,rfl,e,?_⟩|refine fB ?_|refine q3p (fun d=>?_) fun d=>?_)
  ·rw[if_pos d] at b;exact⟨q0s (vb b),eB⟩
  ·rw[if_neg d] at b;exact⟨k+1,⟨Yb,b⟩,Yb,(eF),Ent.refl⟩
 ·have:k=s.data.toList.length:=Yb;rw[this,Zw] at b
  repeat'((try conv=>whnf);first|refine q1l Yb ?_)
  exact⟨q0s (vb b),eB⟩
def qdH:List ByteArray:= [⟨#[]⟩,⟨#[114,105]⟩,⟨#[114,115]⟩,⟨#[114,115,116,102]⟩,⟨#[106]⟩,⟨#[114,106]⟩,⟨#[114,106]⟩,⟨#[97]⟩,⟨#[]⟩,⟨#[]⟩,⟨#[114,115,105]⟩,⟨#[114,115,105]⟩,⟨#[114,115,105]⟩,⟨#[114,115,105]⟩,⟨#[114,99]⟩,⟨#[114]⟩,⟨#[]⟩,⟨#[114]⟩]
def qbp(op:Int):ByteArray:=qdH.getD op.toNat ⟨#[]⟩
theorem qaS(W0:World)(own:Own)(op:Int)(h:0<=op/\op<18):jl W0 129 [j4 op] own (.string (qbp op)):=by
 refine qi (sH [] ?_);have d:qdH.length=18:=rfl;have b:(qdH.map Value.string)[0+op.toNat*1]? =some (.string (qbp op)):=by
  have e:0+op.toNat*1=op.toNat:=Yb;rw[e];have:op.toNat<18:=Yb;simp[qbp,d,this]
 repeat'((try conv=>whnf);first|refine qU _ (List.Mem.head _) b ?_|refine qjd ?_ ?_;omega|refine qg fun bk hbk=>?_)
 all_goals exact⟨rfl,eB⟩
theorem q8e(W0:World)(own:Own)(r:Int)(u:Bool):jl W0 130 [j4 r, .bool u] own (.bool (decide (q1n u r))):=by
 refine qi (sH [] ?_);cases u
 all_goals
  repeat'((try conv=>whnf);first|refine qS ?_|refine q1G ?_|refine q26 ?_|refine q2W ?_|refine q4f (fun b=>?_) fun b=>?_|exact Ent.refl|refine And.intro rfl ?_)
  all_goals(refine⟨q0s (vb ?_),eB⟩)
  all_goals first|(refine dd ?_;simp[q1n];try omega)|(refine df ?_;simp[q1n];try omega)|(refine dt ?_;simp[q1n];try omega)
theorem qi9{W0:World}{own:Own}{s:ByteArray}{c:Int}{K:Value->Prop}(b:Bool)(hb:qhM c s.data.toList=b)(d:Nat.ble s.size 10=true)(h:K (.bool b)):q4q Tryz.prog W0 own 131 [.string s, .int .u8 c] K:=
 q2o (fun _=>q9q _ _ s c (by have:=Nat.le_of_ble_eq_true d;omega)) (by rw[hb];exact h)
theorem qi4{W0:World}{own:Own}{s:ByteArray}{c:Int}{K:Value->Own->Prop}(b:Bool)(hb:qhM c s.data.toList=b)(d:Nat.ble s.size 10=true)(h:K (.bool b) own):q0g Tryz.prog W0 own 131 [.string s, .int .u8 c] K:=
 qp (q9q _ _ s c (by have:=Nat.le_of_ble_eq_true d;omega)) (by rw[hb];exact h)
theorem qbH(W0:World)(own:Own)(op a b c imm:Int):
  jl W0 82 [.agg #[j4 op,j4 a,j4 b,j4 c,j4 imm]] own (j4 (qH ⟨op,a,b,c,imm⟩)):=by
 refine qi (sH (jo 22 3 [0]) ?_);simp only[qH]
 by_cases e:op<0\/18<=op
 ·rw[if_pos e]
  repeat'((try conv=>whnf);first|refine qS ?_|refine q0b ?_|refine q26 ?_|refine q0D Yb ?_|apply qU;exact eM;exact rfl|refine qg fun k j=>?_|refine q0X (fun d=>?_) fun d=>?_|exact Ent.refl|refine Ent.cons ?_|refine And.intro rfl ?_)
  all_goals first|exact⟨rfl,eB⟩|exfalso;omega
 ·rw[if_neg e];have hw:op=0\/op=1\/op=2\/op=3\/op=4\/op=5\/op=6\/op=7\/op=8\/op=9\/op=10\/op=11\/op=12\/op=13\/op=14\/op=15\/op=16\/op=17:=Yb
  by_cases f:q1n (qfg op) a <;>by_cases g:q1n (qih op) b <;>by_cases h:q1n (qii op) c
  all_goals rcases hw with rfl|rfl|rfl|rfl|rfl|rfl|rfl|rfl|rfl|rfl|rfl|rfl|rfl|rfl|rfl|rfl|rfl|rfl
  all_goals
   repeat'((try conv=>whnf);first|refine qS ?_|refine q0b ?_|refine q26 ?_|refine q2W ?_|refine q7g f ?_|refine q7f f ?_|refine q7g g ?_|refine q7f g ?_|refine q7p h ?_|refine q9N h ?_|apply qp (qaS _ _ _ Yc)|refine qi9 true rfl rfl ?_|refine qi9 false rfl rfl ?_|refine qi4 true rfl rfl ?_|refine qi4 false rfl rfl ?_|apply q2o (fun _=>q8e _ _ _ _)|apply qU;exact eM;exact rfl|refine qg fun k j=>?_|refine q0X (fun d=>?_) fun d=>?_|refine q3p (fun d=>?_) fun d=>?_)
   all_goals(refine⟨q0s (vi ?_),eB⟩;simp[f,g,h,q3v];try omega)
theorem q5u(W0:World)(own:Own)(i:Ins):jl W0 82 [i.v] own (j4 (qH i)):=qbH W0 own i.op i.a i.b i.c i.imm
def q1q(i:Ins):Int:=
 if qH i=0 then(if i.op=8\/i.op=9\/i.op=10\/i.op=11\/i.op=14\/i.op=15 then 1 else if i.op=7\/i.op=12\/i.op=13\/i.op=16\/i.op=17 then 2 else 0) else 0
def q10(i:Ins):Bool:=decide (qH i=0/\(i.op=4\/i.op=5\/i.op=6))
def q5S(i:Ins):Int:=if q10 i then i.imm else 0
theorem qeb(W0:World)(own:Own)(d:qE W0)(i:Ins):jl W0 156 [i.v] own (j4 (q1q i)):=by
 refine qi (sH [] ?_);have b:=fun own=>q5s W0 own d i
 unfold q1q;generalize qH i=z at*
 repeat'((try conv=>whnf);first|refine q0D Yb ?_|apply qp (b _)|apply qU;exact eM;exact rfl|apply qZ;exact eM;exact rfl|refine qg fun bk hbk=>?_|refine q3p (fun b=>?_) fun b=>?_)
 all_goals(refine⟨q0s (vi ?_),eB⟩;(repeat' split) <;>first|rfl|omega)
theorem qes(W0:World)(own:Own)(i:Ins):jl W0 83 [i.v] own (j4 (q1q i)):=by
 refine qi (sH [] ?_);have b:=fun own=>q5u W0 own i
 unfold q1q;generalize qH i=z at*
 repeat'((try conv=>whnf);first|refine q0D Yb ?_|apply qp (b _)|apply qU;exact eM;exact rfl|apply qZ;exact eM;exact rfl|refine qg fun bk hbk=>?_|refine q3p (fun b=>?_) fun b=>?_)
 all_goals(refine⟨q0s (vi ?_),eB⟩;(repeat' split) <;>first|rfl|omega)
theorem qec(W0:World)(own:Own)(d:qE W0)(i:Ins):jl W0 220 [i.v] own (.tuple #[j4 (q5S i), .bool (q10 i)]):=by
 refine qi (sH [] ?_);have b:=fun own=>q5s W0 own d i
 unfold q5S q10;generalize qH i=z at*
 repeat'((try conv=>whnf);first|refine q0D Yb ?_|apply qp (b _)|apply qU;exact eM;exact rfl|apply qZ;exact eM;exact rfl|refine qg fun bk hbk=>?_|refine q3p (fun b=>?_) fun b=>?_)
 all_goals(refine⟨qc2 (vi ?_) (vb ?_),eB⟩)
 all_goals first|rfl|simp;done|simp[*];done|simp;omega|symm;simp;omega
theorem qet(W0:World)(own:Own)(i:Ins):jl W0 84 [i.v] own (.tuple #[j4 (q5S i), .bool (q10 i)]):=by
 refine qi (sH [] ?_);have d:=fun own=>q5u W0 own i
 unfold q5S q10
 by_cases f:qH i=0
 ·have e:¬(i.op<0\/18<=i.op):=by
   intro h;unfold qH at f;rw[if_pos h] at f;omega
  have n:=fun own=>qaS W0 own i.op Yb
  have o:qhM 106 (qbp i.op).data.toList=decide (i.op=4\/i.op=5\/i.op=6):=by
   obtain⟨op,b⟩:∃op,op=i.op:=⟨_,rfl⟩
   rw[<-b] at e ⊢;have hw:op=0\/op=1\/op=2\/op=3\/op=4\/op=5\/op=6\/op=7\/op=8\/op=9\/op=10\/op=11\/op=12\/op=13\/op=14\/op=15\/op=16\/op=17:=Yb
   rcases hw with rfl|rfl|rfl|rfl|rfl|rfl|rfl|rfl|rfl|rfl|rfl|rfl|rfl|rfl|rfl|rfl|rfl|rfl <;>decide+kernel
  have hsz:(qbp i.op).size<=10:=by
   obtain⟨op,b⟩:∃op,op=i.op:=⟨_,rfl⟩
   rw[<-b] at e ⊢;have hw:op=0\/op=1\/op=2\/op=3\/op=4\/op=5\/op=6\/op=7\/op=8\/op=9\/op=10\/op=11\/op=12\/op=13\/op=14\/op=15\/op=16\/op=17:=Yb
   rcases hw with rfl|rfl|rfl|rfl|rfl|rfl|rfl|rfl|rfl|rfl|rfl|rfl|rfl|rfl|rfl|rfl|rfl|rfl <;>decide+kernel
  have j:=fun own=>q9q W0 own (qbp i.op) 106 Yb
  rw[o] at j;rw[f] at d ⊢
  repeat'((try conv=>whnf);first|refine qS ?_|apply qp (d _)|apply qp (n _)|apply qp (j _)|apply qU;exact eM;exact rfl|apply qZ;exact eM;exact rfl|refine qg fun k g=>?_|refine qcq (fun d=>?_) fun d=>?_)
  all_goals(refine⟨qc2 (vi ?_) (vb ?_),eB⟩)
  all_goals first|rfl|simp[*];done|simp;omega|symm;simp;omega
 ·generalize qH i=z at*
  repeat'((try conv=>whnf);first|refine q0b ?_|refine q26 ?_|refine q5H Yb ?_|apply qp (d _)|apply qZ;exact eM;exact rfl|refine qg fun k g=>?_)
  all_goals(refine⟨qc2 (vi ?_) (vb ?_),eB⟩)
  all_goals first|rfl|simp[*];done|simp;omega|symm;simp;omega
open Go Go.RowKit
def q1y:List Ins->Nat->Nat
 | [],k=>k
 |x::l,k=>if x.op=8 then k else q1y l (k+1)
def q0B(p:List Ins)(b:Nat):Nat:=q1y (p.drop (b+1)) (b+1)
def q20(len:Nat):List Ins->Nat->Nat->Bool
 | [],_,_=>false
 |x::l,j,t=>decide (j<t/\x.op=7/\t<=q1y l (j+1)/\t+1<=len)||q20 len l (j+1) t
def q0V(len t:Nat):List Ins->Nat->Int->Int×Int
 | [],_,b=>if 0<=b/\b<=t/\t<len then(b,len) else(-1, -1)
 |x::l,k,b=>if b<0/\x.op=7 then q0V len t l (k+1) k else if 0<=b/\x.op=8 then(if b<=t/\t<=k then(b,k) else q0V len t l (k+1) (-1)) else q0V len t l (k+1) b
def qeK(p:List Ins)(t:Nat):Int×Int:=q0V p.length t p 0 (-1)
def q0t(p:List Ins)(k:Nat)(b:Int)(x:Ins):Int:=
 if q10 x then(if(p.length:Int)<k+1+x.imm then 42 else if 0<=b then(if(q0B p b.toNat:Int)<k+1+x.imm then 42 else 0) else(if q20 p.length (p.drop (k+1)) (k+1) (k+1+x.imm.toNat) then 42 else 0)) else 0
def q1e(p:List Ins)(k t:Nat):Bool:=
 if p.length<t then false else if 0<=(qeK p k).1 then decide ((t:Int)<=(qeK p k).2) else decide ((qeK p t).1<0\/(qeK p t).1=t)
def q1R(p:List Ins)(k:Nat)(x:Ins):Int:=if q10 x then(if q1e p k (k+1+x.imm.toNat) then 0 else 42) else 0
def q7K(d:Int)(b:Int)(x:Ins):Int:=
 if qH x≠0 then qH x else if(x.op=7/\0<=b)\/(x.op=8/\b<0) then 40 else if(q1q x=1/\b<0)\/(q1q x=2/\0<=b) then 41 else d
def q0w(x:Ins)(k:Nat)(b:Int):Int:=if x.op=7 then k else if x.op=8 then-1 else b
def q03(d:Nat->Int->Ins->Int):List Ins->Nat->Int->Int×Int
 | [],_,b=>if 0<=b then(b,43) else(0,0)
 |x::l,k,b=>if q7K (d k b x) b x≠0 then(k,q7K (d k b x) b x) else q03 d l (k+1) (q0w x k b)
def qB(p:List Ins):Int×Int:=if 64<p.length then(0,3) else q03 (q0t p) p 0 (-1)
def q0C(p:List Ins):Int×Int:=if 64<p.length then(0,3) else q03 (fun k _ x=>q1R p k x) p 0 (-1)
theorem q3b:∀(l:List Ins) (k:Nat),k<=q1y l k/\q1y l k<=k+l.length
 | [],k=>by simp[q1y]
 |x::l,k=>by
  unfold q1y;have:=q3b l (k+1);simp only[zu]
  split <;>omega
theorem q4y(len:Nat):∀(l:List Ins) (j t:Nat),t<=j->q20 len l j t=false
 | [],_,_,_=>rfl
 |x::l,j,t,h=>by
  unfold q20;rw[q4y len l (j+1) t Yb,Bool.or_false,decide_eq_false_iff_not];omega
theorem q2z(len t:Nat):∀(l:List Ins) (j:Nat) (b:Int),(b<0/\t<j)\/((t:Int)<b/\t<j)->(q0V len t l j b).1<0
 | [],j,b,h=>by
  unfold q0V;rw[if_neg Yb]
  decide
 |x::l,j,b,h=>by
  unfold q0V
  split
  ·exact q2z len t l (j+1) j (.inr ⟨Yb,Yb⟩)
  ·split
   ·rw[if_neg Yb];exact q2z len t l (j+1) (-1) (.inl ⟨Yb,Yb⟩)
   ·exact q2z len t l (j+1) b Yb
theorem qaZ(len t:Nat):∀(l:List Ins) (j:Nat),t<j->len=j+l.length->q0V len t l j t=((t:Int),(q1y l j:Int))
 | [],j,h,b=>by
  simp only[zE,ZI] at b;unfold q0V q1y;rw[if_pos Yb,b]
 |x::l,j,h,b=>by
  simp only[zu] at b;unfold q0V q1y;rw[if_neg Yb]
  split
  ·rename_i d;rw[if_pos Yb,if_pos d.2]
  ·rename_i d;rw[if_neg Yb];exact qaZ len t l (j+1) Yb Yb
theorem qb0(len t:Nat):∀(l:List Ins) (j:Nat) (b:Int),0<=b->b<=t->t<j->len=j+l.length->q0V len t l j b=(b,(q1y l j:Int))
 | [],j,b,e,f,h,d=>by
  simp only[zE,ZI] at d;unfold q0V q1y;rw[if_pos Yb,d]
 |x::l,j,b,e,f,h,d=>by
  simp only[zu] at d;unfold q0V q1y;rw[if_neg Yb]
  split
  ·rename_i g;rw[if_pos Yb,if_pos g.2]
  ·rename_i g;rw[if_neg Yb];exact qb0 len t l (j+1) b e f Yb Yb
mutual
theorem q7a(len t:Nat):∀(l:List Ins) (j:Nat),len=j+l.length->t<=len->(((q0V len t l j (-1)).1<0\/(q0V len t l j (-1)).1=t)↔q20 len l j t=false)
 | [],j,_,_=>by
  unfold q0V q20;simp
 |x::l,j,g,f=>by
  simp only[zu] at g;unfold q0V q20
  by_cases e:x.op=7
  ·rw[if_pos ⟨Yb,e⟩]
   by_cases d:j<t
   ·rw[q8k len t l (j+1) j d Yb f];rw[Y1,decide_eq_false_iff_not];constructor
    ·intro h;exact⟨Yb,h.2⟩
    ·intro h;exact⟨Yb,h.2⟩
   ·rw[q4y len l (j+1) t Yb]
    by_cases b:j=t
    ·subst b;rw[qaZ len j l (j+1) Yb Yb];simp
    ·have:=q2z len t l (j+1) j (.inr ⟨Yb,Yb⟩);simp[this];omega
  ·rw[if_neg Yb,if_neg Yb,q7a len t l (j+1) Yb f];simp[e]
theorem q8k(len t:Nat):∀(l:List Ins) (j:Nat) (b:Nat),b<t->len=j+l.length->t<=len->(((q0V len t l j b).1<0\/(q0V len t l j b).1=t)↔(¬(t<=q1y l j/\t+1<=len)/\q20 len l j t=false))
 | [],j,b,hb,e,f=>by
  simp only[zE,ZI] at e;unfold q0V q20 q1y
  by_cases h:t<len
  ·rw[if_pos Yb];simp;omega
  ·rw[if_neg Yb];simp;omega
 |x::l,j,b,hb,e,f=>by
  simp only[zu] at e;rw[q0V,q20,show q1y (x::l) j=(if x.op=8 then j else q1y l (j+1)) from rfl];rw[if_neg Yb]
  by_cases d:x.op=8
  ·rw[if_pos ⟨Yb,d⟩,if_pos d]
   by_cases htj:t<=j
   ·rw[if_pos ⟨Yb,Yb⟩];simp;omega
   ·rw[if_neg Yb,q7a len t l (j+1) Yb f];have g:¬x.op=7:=Yb;simp[g];omega
  ·rw[if_neg Yb,if_neg d,q8k len t l (j+1) b hb Yb f];rw[Y1,decide_eq_false_iff_not];constructor
   ·intro h;exact⟨h.1,Yb,h.2⟩
   ·intro h;exact⟨h.1,h.2.2⟩
end
structure q9D(p:List Ins)(k:Nat)(b:Int):Prop where
 sp:∀t,k<=t->qeK p t=q0V p.length t (p.drop k) k b
 bb:b= -1\/(0<=b/\b<k/\q0B p b.toNat=q1y (p.drop k) k)
theorem q9D.start(p:List Ins):q9D p 0 (-1):=⟨fun _ _=>rfl, .inl rfl⟩
theorem q0N{p:List Ins}{k:Nat}{x:Ins}(d:p[k]? =some x):p.drop k=x::p.drop (k+1):=by
 obtain⟨b,he⟩:=z7.1 d;rw[Zd b,he]
theorem q9D.step{p:List Ins}{k:Nat}{b:Int}{x:Ins}(h:q9D p k b)(o:p[k]? =some x)(j:x.op=7->b<0)(n:x.op=8->0<=b):q9D p (k+1) (q0w x k b):=by
 have hd:=q0N o;refine⟨fun t ht=>?_,?_⟩
 ·rw[h.sp t Yb,hd,q0V];unfold q0w
  by_cases d:x.op=7
  ·rw[if_pos ⟨j d,d⟩,if_pos d]
  ·by_cases e:x.op=8
   ·rw[if_neg Yb,if_pos ⟨n e,e⟩,if_neg Yb,if_neg d,if_pos e]
   ·rw[if_neg Yb,if_neg Yb,if_neg d,if_neg e]
 ·unfold q0w
  by_cases d:x.op=7
  ·rw[if_pos d];refine .inr ⟨Yb,Yb,?_⟩;simp[q0B]
  ·by_cases e:x.op=8
   ·rw[if_neg d,if_pos e];exact .inl rfl
   ·rw[if_neg d,if_neg e]
    rcases h.bb with hb|⟨f,h1,g⟩
    ·exact .inl hb
    ·refine .inr ⟨f,Yb,?_⟩;rw[g,hd,q1y,if_neg e]
theorem q2J{x:Ins}(h:q10 x=true):(x.op=4\/x.op=5\/x.op=6)/\0<=x.imm/\x.imm<=64:=by
 unfold q10 at h;simp only[decide_eq_true_eq] at h;refine⟨h.2,?_⟩;have b:=h.1;unfold qH at b
 split at b
 ·omega
 ·split at b
  ·split at b
   ·rename_i hi;unfold q3v at hi;rw[if_neg Yb,if_neg Yb,if_pos Yb] at hi;exact hi
   ·omega
  ·omega
theorem q9D.target{p:List Ins}{k:Nat}{b:Int}{x:Ins}(h:q9D p k b)(o:p[k]? =some x):q0t p k b x=q1R p k x:=by
 unfold q0t q1R
 by_cases j:q10 x=true
 ·obtain⟨hop,hi0,hi1⟩:=q2J j;rw[if_pos j,if_pos j];obtain⟨t,s⟩:∃t:Nat,(t:Int)=k+1+x.imm:=⟨k+1+x.imm.toNat,Yb⟩
  have ht':k+1+x.imm.toNat=t:=Yb;rw[ht',<-s];have hk:=(z7.1 o).1;have hd:=q0N o;have hlen:p.length=k+1+(p.drop (k+1)).length:=by rw[ZM];omega
  by_cases e:p.length<t
  ·have g:q1e p k t=false:=by unfold q1e;rw[if_pos e]
   rw[g,if_pos Yb];rfl
  ·rw[if_neg (show ¬(p.length:Int)<t by omega)];have s1:=h.sp k (zN _);rw[hd,q0V,if_neg Yb,if_neg Yb] at s1;have s2:=h.sp t Yb;rw[hd,q0V,if_neg Yb,if_neg Yb] at s2
   rcases h.bb with hb|⟨n,h1,q⟩
   ·subst hb;have r:=q2z p.length k (p.drop (k+1)) (k+1) (-1) (.inl ⟨Yb,Yb⟩);rw[<-s1] at r;have f:=q7a p.length t (p.drop (k+1)) (k+1) hlen Yb;rw[<-s2] at f;have g:q1e p k t= !q20 p.length (p.drop (k+1)) (k+1) t:=by
     unfold q1e;rw[if_neg e,if_neg (show ¬0<=(qeK p k).1 by omega)];cases d:q20 p.length (p.drop (k+1)) (k+1) t with
     |true=>rw[d] at f;rw[decide_eq_false (by rw[f];simp)];rfl
     |false=>rw[d] at f;rw[decide_eq_true (f.2 rfl)];rfl
    rw[g,if_neg Yb];cases q20 p.length (p.drop (k+1)) (k+1) t <;>rfl
   ·have d:=qb0 p.length k (p.drop (k+1)) (k+1) b n Yb Yb hlen;rw[d] at s1;have g:q1e p k t=decide ((t:Int)<=(q1y (p.drop (k+1)) (k+1):Nat)):=by
     unfold q1e;rw[if_neg e,s1,if_pos n]
    have he:q1y (p.drop k) k=q1y (p.drop (k+1)) (k+1):=by rw[hd,q1y,if_neg Yb]
    rw[g,if_pos n,q,he]
    by_cases hle:(t:Int)<=(q1y (p.drop (k+1)) (k+1):Nat)
    ·rw[if_neg Yb,decide_eq_true hle];rfl
    ·rw[if_pos Yb,decide_eq_false hle];rfl
 ·rw[if_neg j,if_neg j]
theorem q6W{t b:Int}{x:Ins}(h:q7K t b x=0):(x.op=7->b<0)/\(x.op=8->0<=b)/\qH x=0/\t=0:=by
 unfold q7K at h
 split at h
 ·omega
 ·split at h
  ·omega
  ·split at h
   ·omega
   ·rename_i d h2 _;simp at d;refine⟨Yb,Yb,d,h⟩
theorem q66(p:List Ins):∀(n k:Nat) (b:Int),n+k=p.length->q9D p k b->q03 (q0t p) (p.drop k) k b=q03 (fun k _ x=>q1R p k x) (p.drop k) k b
 |0,k,b,g,_=>by
  have:p.drop k= []:=List.drop_eq_nil_iff.2 Yb;rw[this,q03,q03]
 |n+1,k,b,g,h=>by
  obtain⟨x,d⟩:∃x,p[k]? =some x:=⟨_,z6 Yb⟩
  rw[q0N d,q03,q03,h.target d]
  split
  ·rfl
  ·rename_i f;have e:=q6W (t:=q1R p k x) (b:=b) (x:=x) (by simpa using f);exact q66 p n (k+1) _ Yb (h.step d e.1 e.2.1)
theorem q9S(p:List Ins):qB p=q0C p:=by
 unfold qB q0C
 split
 ·rfl
 ·exact q66 p p.length 0 (-1) Yb (q9D.start p)
open Go
theorem q2M{W0:World}{own:Own}{a:Addr}{vs:je}{n:Nat}{K:Own->Prop}(h:vs.length=n)(b:StN W0 own a vs K):vs.length=n/\StN W0 own a vs K:=⟨h,b⟩
section
variable{W0:World}{own:Own}{a:j8}{cap:Nat}{p:List Ins}
theorem qdX(j:RdE Ins.enc 5 W0 own a p)(hl:p.length<=1099511627776)(b:Nat)(hb:b+1<=p.length):jl W0 137 [.slice a p.length cap,j4 b] own (j4 (q0B p b)):=by
 refine qi (sH [] ?_)
 repeat'((try conv=>whnf);first|refine fB ?_)
 refine q1C (σ:=Nat) (fun k=> [(5,j4 k)]) (fun k=>k<=p.length/\q1y (p.drop k) k=q0B p b) (fun k=>p.length-k) (b+1) ⟨Yb,rfl⟩ (eF) rfl ?_;rintro k junk ⟨hk,d⟩
 by_cases g:k<p.length
 ·obtain⟨x,h⟩:∃x,p[k]? =some x:=⟨_,z6 g⟩
  rw[q0N h,q1y] at d
  repeat'((try conv=>whnf);first|refine q0D Yb ?_|(apply gLd;first|refine ldE (k:=0) (RdE.ent j ?_) h ?_ rfl ?_;rotate_left;rfl;rotate_left;(solve|(exact eB)))|(apply qL;first|refine ixE j h ?_ ?_;(first|rfl|omega))|refine fB ?_|refine q3p (fun e=>?_) fun e=>?_)
  ·rw[if_pos e] at d;exact⟨q0s (vi (by rw[d])),eB⟩
  ·rw[if_neg e] at d;exact⟨k+1,⟨Yb,d⟩,Yb,(eF),Ent.refl⟩
 ·have f:k=p.length:=Yb;subst f;rw[Zw,q1y] at d
  repeat'((try conv=>whnf);first|refine q1l Yb ?_)
  exact⟨q0s (vi (by rw[<-d])),eB⟩
theorem qjT(e:RdE Ins.enc 5 W0 own a p)(q:p.length<=1099511627776)(k t:Nat)(ht:k+1<=t/\t<=p.length):
  jl W0 221 [.slice a p.length cap,j4 k,j4 t] own (.bool (q20 p.length (p.drop (k+1)) (k+1) t)):=by
 refine qi (sH [] ?_)
 repeat'((try conv=>whnf);first|refine fB ?_)
 refine q1C (σ:=Nat) (fun b=> [(7,j4 b)]) (fun b=>b<=t/\q20 p.length (p.drop b) b t=q20 p.length (p.drop (k+1)) (k+1) t) (fun b=>t-b) (k+1) ⟨Yb,rfl⟩ (eF) rfl ?_;rintro b junk ⟨hb,d⟩
 by_cases j:b<t
 ·obtain⟨x,f⟩:∃x,p[b]? =some x:=⟨_,z6 Yb⟩
  have n:=fun ex=>qdX (cap:=cap) (e.ent (Ent.app (A:=ex) Ent.refl)) q b Yb
  have he:q0B p b=q1y (p.drop (b+1)) (b+1):=rfl;rw[q0N f,q20,<-he] at d;have h:=q3b (p.drop (b+1)) (b+1);rw[<-he,ZM] at h
  by_cases o:x.op=7
  ·by_cases g:t<=q0B p b/\t+1<=p.length
   ·rw[decide_eq_true ⟨j,o,g.1,g.2⟩,Bool.true_or] at d
    repeat'((try conv=>whnf);first|refine qS ?_|refine q0D Yb ?_|refine q5H Yb ?_|refine qp (n []) ?_|(apply gLd;first|refine ldE (k:=0) (RdE.ent e ?_) f ?_ rfl ?_;rotate_left;rfl;rotate_left;(solve|(exact eB)))|(apply qL;first|refine ixE e f ?_ ?_;(first|rfl|omega))|refine fB ?_|refine q5c ?_)
    all_goals first|exact⟨q0s (vb d),eB⟩|exfalso;omega
   ·rw[decide_eq_false Yb,yX] at d
    repeat'((try conv=>whnf);first|refine qS ?_|refine q0D Yb ?_|refine q1l Yb ?_|refine q5H Yb ?_|refine qp (n []) ?_|(apply gLd;first|refine ldE (k:=0) (RdE.ent e ?_) f ?_ rfl ?_;rotate_left;rfl;rotate_left;(solve|(exact eB)))|(apply qL;first|refine ixE e f ?_ ?_;(first|rfl|omega))|refine fB ?_|refine q5c ?_)
    all_goals first|exact⟨b+1,⟨Yb,d⟩,Yb,(eF),Ent.refl⟩|exfalso;omega
  ·rw[decide_eq_false Yb,yX] at d
   repeat'((try conv=>whnf);first|refine q1G ?_|refine q2W ?_|refine q0D Yb ?_|refine q3j Yb ?_|(apply gLd;first|refine ldE (k:=0) (RdE.ent e ?_) f ?_ rfl ?_;rotate_left;rfl;rotate_left;(solve|(exact eB)))|(apply qL;first|refine ixE e f ?_ ?_;(first|rfl|omega))|refine fB ?_)
   all_goals exact⟨b+1,⟨Yb,d⟩,Yb,(eF),Ent.refl⟩
 ·rw[q4y _ _ _ _ Yb] at d
  repeat'((try conv=>whnf);first|refine q1l Yb ?_)
  exact⟨q0s (vb d),eB⟩
theorem qeF(r:qE W0)(e:RdE Ins.enc 5 W0 own a p)(hl:p.length<=64)(k:Nat)(b:Int)(x:Ins)(f:p[k]? =some x)(hb:b= -1\/(0<=b/\b<k)):
  jl W0 157 [.slice a p.length cap,j4 k,j4 b] own (j4 (q0t p k b x)):=by
 refine qi (sH [] ?_);have hk:=(z7.1 f).1;have h:=fun own=>qec W0 own r x
 unfold q0t;cases d:q10 x
 ·have hi:q5S x=0:=by unfold q5S;rw[d];rfl
  rw[d,hi] at h
  repeat'((try conv=>whnf);first|refine q26 ?_|apply qp (h _)|(apply qL;first|refine ixE e f ?_ ?_;(first|rfl|omega))|(apply q27;first|refine qfd (RdE.ent e ?_) f ?_ ?_ ?_;rotate_left;rfl;rfl;rotate_left;(solve|(exact eB)))|refine fO ?_)
  all_goals exact⟨q0s (vi Yd),eB⟩
 ·obtain⟨hop,hi0,hi1⟩:=q2J d;have hi:q5S x=x.imm:=by unfold q5S;rw[d];rfl
  rw[d,hi] at h;simp only[if_true];generalize x.imm=m at*
  by_cases n:(p.length:Int)<k+1+m
  ·rw[if_pos n]
   repeat'((try conv=>whnf);first|refine q2W ?_|refine q0D Yb ?_|apply qp (h _)|(apply qL;first|refine ixE e f ?_ ?_;(first|rfl|omega))|(apply q27;first|refine qfd (RdE.ent e ?_) f ?_ ?_ ?_;rotate_left;rfl;rfl;rotate_left;(solve|(exact eB)))|refine fB ?_|refine fO ?_)
   all_goals exact⟨rfl,eB⟩
  ·rw[if_neg n]
   rcases hb with hb|⟨j,hb1⟩
   ·subst hb;rw[if_neg Yb];obtain⟨t,u⟩:∃t:Nat,(t:Int)=k+1+m:=⟨k+1+m.toNat,Yb⟩
    have ht':k+1+m.toNat=t:=Yb;rw[ht'];have g:=qjT (cap:=cap) e Yb k t Yb;rw[u] at g;cases v:q20 p.length (p.drop (k+1)) (k+1) t <;>rw[v] at g
    all_goals
     repeat'((try conv=>whnf);first|refine qS ?_|refine q1G ?_|refine q26 ?_|refine q2W ?_|refine q1l Yb ?_|apply qp (h _)|refine qp g ?_|(apply qL;first|refine ixE e f ?_ ?_;(first|rfl|omega))|(apply q27;first|refine qfd (RdE.ent e ?_) f ?_ ?_ ?_;rotate_left;rfl;rfl;rotate_left;(solve|(exact eB)))|refine fB ?_|refine fO ?_)
     all_goals exact⟨rfl,eB⟩
   ·rw[if_pos j];obtain⟨b,rfl⟩:=Zb j;simp only[zF];have q:=qdX (cap:=cap) e Yb b Yb;have o:=q3b (p.drop (b+1)) (b+1);have he:q0B p b=q1y (p.drop (b+1)) (b+1):=rfl;rw[<-he,ZM] at o
    repeat'((try conv=>whnf);first|refine qS ?_|refine q1G ?_|refine q2W ?_|refine q1l Yb ?_|apply qp (h _)|refine qp q ?_|(apply qL;first|refine ixE e f ?_ ?_;(first|rfl|omega))|(apply q27;first|refine qfd (RdE.ent e ?_) f ?_ ?_ ?_;rotate_left;rfl;rfl;rotate_left;(solve|(exact eB)))|refine fB ?_|refine fO ?_|refine q3p (fun s=>?_) fun s=>?_)
    all_goals(refine⟨q0s (vi ?_),eB⟩;first|rw[if_pos Yb];done|rw[if_neg Yb];done|(split <;>omega))
theorem qmE(g:qE W0)(f:RdE Ins.enc 5 W0 own a p)(h:p.length<=64)(k:Nat)(b:Int)(x:Ins)(e:p[k]? =some x)(hb:b= -1\/(0<=b/\b<k)):
  jl W0 105 [.slice a p.length cap,j4 k,j4 b] own (j4 (q7K (q0t p k b x) b x)):=by
 refine qi (sH [] ?_);have hk:=(z7.1 e).1;have d:=fun own=>q5s W0 own g x
 have j:=fun own=>qeb W0 own g x
 have n:=qeF (cap:=cap) g f h k b x e hb;generalize q0t p k b x=t at*;unfold q7K;generalize qH x=z at*;generalize q1q x=q at*
 repeat'((try conv=>whnf);first|refine qS ?_|refine q1G ?_|refine q2W ?_|refine q0D Yb ?_|refine q1l Yb ?_|refine q3j Yb ?_|refine q7p Yb ?_|refine q9N Yb ?_|apply qp (d _)|apply qp (j _)|refine qp n ?_|(apply gLd;first|refine ldE (k:=0) (RdE.ent f ?_) e ?_ rfl ?_;rotate_left;rfl;rotate_left;(solve|(exact eB)))|(apply qL;first|refine ixE f e ?_ ?_;(first|rfl|omega))|(apply q27;first|refine qfd (RdE.ent f ?_) e ?_ ?_ ?_;rotate_left;rfl;rfl;rotate_left;(solve|(exact eB)))|refine q4f (fun d=>?_) fun d=>?_|refine q3p (fun d=>?_) fun d=>?_|refine qcq (fun d=>?_) fun d=>?_)
 all_goals(refine⟨q0s (vi ?_),eB⟩;(repeat' split) <;>first|rfl|exfalso;omega|omega)
theorem q5t(C:qE W0)(g:RdE Ins.enc 5 W0 own a p):
  jl W0 73 [.slice a p.length cap] own (.tuple #[j4 (qB p).1,j4 (qB p).2]):=by
 refine qi (sH [] ?_);unfold qB
 by_cases j:64<p.length
 ·rw[if_pos j]
  repeat'((try conv=>whnf);first|refine q0D Yb ?_)
  all_goals first|exact⟨rfl,eB⟩|exfalso;omega
 ·rw[if_neg j];generalize n:q03 (q0t p) p 0 (-1)=res
  repeat'((try conv=>whnf);first|refine q1l Yb ?_)
  refine q1C (σ:=Nat×Int) (fun s=> [(13,j4 s.1),(4,j4 s.2)]) (fun s=>s.1<=p.length/\(s.2= -1\/(0<=s.2/\s.2<s.1))/\q03 (q0t p) (p.drop s.1) s.1 s.2=res) (fun s=>p.length-s.1) (0, -1) ⟨Yd,Yd,n⟩ (eF) rfl ?_;rintro⟨k,b⟩ junk ⟨E,hb,e⟩;simp only[] at E hb e
  by_cases y:k<p.length
  ·obtain⟨x,f⟩:∃x,p[k]? =some x:=⟨_,z6 y⟩
   rw[q0N f,q03] at e;have o:=fun ex=>qmE (cap:=cap) C (g.ent (Ent.app (A:=ex) Ent.refl)) Yb k b x f hb
   have d:q0w x k b= -1\/(0<=q0w x k b/\q0w x k b<(k+1:Nat)):=by unfold q0w;(repeat' split) <;>omega
   generalize hz:q7K (q0t p k b x) b x=z at*
   by_cases r:z=0
   ·rw[if_neg (by simpa using r)] at e;unfold q0w at e d;subst r
    by_cases u:x.op=7
    ·rw[if_pos u] at e d
     repeat'((try conv=>whnf);first|refine q2W ?_|refine q0D Yb ?_|refine q2M rfl ?_|refine qp (o [_]) ?_|(apply qL;first|refine ixE g f ?_ ?_;(first|rfl|omega))|(apply q27;first|refine qfd (RdE.ent g ?_) f ?_ ?_ ?_;rotate_left;rfl;rfl;rotate_left;(solve|(exact eB)))|refine fB ?_|apply qU;exact eM;exact rfl|apply q2A;exact eU;(solve|((try(conv=>arg 2;whnf));repeat'(first|exact Lis.nil|apply Lis.cons|apply q0M.here|apply q0M.there|apply q0a.done|apply q0a.put|apply q0a.skip)));exact rfl|refine qg fun q h=>?_)
     all_goals exact⟨(k+1,(k:Int)),⟨by simp;omega,d,e⟩,by simp;omega,(eF),eB⟩
    ·by_cases B:x.op=8
     ·rw[if_neg u,if_pos B] at e d
      repeat'((try conv=>whnf);first|refine q2W ?_|refine q0D Yb ?_|refine q1l Yb ?_|refine q2M rfl ?_|refine qp (o [_]) ?_|(apply qL;first|refine ixE g f ?_ ?_;(first|rfl|omega))|(apply q27;first|refine qfd (RdE.ent g ?_) f ?_ ?_ ?_;rotate_left;rfl;rfl;rotate_left;(solve|(exact eB)))|refine fB ?_|apply qU;exact eM;exact rfl|apply q2A;exact eU;(solve|((try(conv=>arg 2;whnf));repeat'(first|exact Lis.nil|apply Lis.cons|apply q0M.here|apply q0M.there|apply q0a.done|apply q0a.put|apply q0a.skip)));exact rfl|refine qg fun q h=>?_)
      all_goals exact⟨(k+1, -1),⟨by simp;omega,d,e⟩,by simp;omega,(eF),eB⟩
     ·rw[if_neg u,if_neg B] at e d
      repeat'((try conv=>whnf);first|refine q2W ?_|refine q0D Yb ?_|refine q1l Yb ?_|refine q2M rfl ?_|refine qp (o [_]) ?_|(apply qL;first|refine ixE g f ?_ ?_;(first|rfl|omega))|(apply q27;first|refine qfd (RdE.ent g ?_) f ?_ ?_ ?_;rotate_left;rfl;rfl;rotate_left;(solve|(exact eB)))|refine fB ?_|apply qU;exact eM;exact rfl|apply q2A;exact eU;(solve|((try(conv=>arg 2;whnf));repeat'(first|exact Lis.nil|apply Lis.cons|apply q0M.here|apply q0M.there|apply q0a.done|apply q0a.put|apply q0a.skip)));exact rfl|refine qg fun q h=>?_)
      all_goals exact⟨(k+1,b),⟨by simp;omega,d,e⟩,by simp;omega,(eF),eB⟩
   ·rw[if_pos r] at e
    repeat'((try conv=>whnf);first|refine q0D Yb ?_|refine q2M rfl ?_|refine qp (o [_]) ?_|(apply qL;first|refine ixE g f ?_ ?_;(first|rfl|omega))|(apply q27;first|refine qfd (RdE.ent g ?_) f ?_ ?_ ?_;rotate_left;rfl;rfl;rotate_left;(solve|(exact eB)))|apply q2A;exact eU;(solve|((try(conv=>arg 2;whnf));repeat'(first|exact Lis.nil|apply Lis.cons|apply q0M.here|apply q0M.there|apply q0a.done|apply q0a.put|apply q0a.skip)));exact rfl|refine qg fun q h=>?_)
    all_goals(rw[<-e];exact⟨rfl,eB⟩)
  ·have v:k=p.length:=Yb;subst v;rw[Zw,q03] at e;rw[<-e]
   repeat'((try conv=>whnf);first|refine q1l Yb ?_|refine q3p (fun D=>?_) fun D=>?_)
   all_goals(refine⟨qc2 (vi ?_) (vi ?_),eB⟩ <;>split <;>first|rfl|exfalso;omega)
end
open Go
structure Cfg where
 words:Int
 orecs:Int
 base:Int
 c0:Int
 c1:Int
 c2:Int
 c3:Int
 reads:Int
 writes:Int
 allocs:Int
 frees:Int
 clock:Int
 strong:Bool
def Cfg.cs(c:Cfg):jg:= #[j4 c.words,j4 c.orecs,j4 c.base,j4 c.c0,j4 c.c1,j4 c.c2,j4 c.c3,j4 c.reads,j4 c.writes,j4 c.allocs,j4 c.frees,j4 c.clock, .bool c.strong]
def Cfg.v(c:Cfg):Value:= .agg c.cs
def okW(c:Cfg):Prop:=1<=c.words/\c.words<=64/\1<=c.orecs/\c.orecs<=64
def okC(c:Cfg):Prop:=0<=c.c0/\c.c0<=64/\0<=c.c1/\c.c1<=64/\0<=c.c2/\c.c2<=64/\0<=c.c3/\c.c3<=64
def nB(c:Cfg):Int:=c.c0+c.c1+c.c2+c.c3
def nW(c:Cfg):Int:=c.c0+c.c1*2+c.c2*4+c.c3*8
def okH(c:Cfg):Prop:=okC c/\nB c<=64/\0<=c.base/\c.base<=c.words/\c.base+nW c<=c.words
def okL(c:Cfg):Prop:=1<=c.reads/\c.reads<=32/\1<=c.writes/\c.writes<=32/\0<=c.allocs/\c.allocs<=8/\0<=c.frees/\c.frees<=8
def okK(c:Cfg):Prop:=0<=c.clock/\c.clock<=1099511627776
instance(c:Cfg):Decidable (okW c):=by unfold okW;exact Ye
instance(c:Cfg):Decidable (okC c):=by unfold okC;exact Ye
instance(c:Cfg):Decidable (okH c):=by unfold okH;exact Ye
instance(c:Cfg):Decidable (okL c):=by unfold okL;exact Ye
instance(c:Cfg):Decidable (okK c):=by unfold okK;exact Ye
def qI(c:Cfg):Int:=if okW c then if okH c then if okL c then if okK c then 0 else 53 else 52 else 51 else 50
theorem qnB{c:Cfg}(b:¬okW c):50=qI c:=by simp[qI,b]
theorem qnC{c:Cfg}(b:okW c)(d:¬okH c):51=qI c:=by simp[qI,b,d]
theorem qnD{c:Cfg}(b:okW c)(d:okH c)(e:¬okL c):52=qI c:=by simp[qI,b,d,e]
theorem qnE{c:Cfg}(b:okW c)(d:okH c)(e:okL c)(f:¬okK c):53=qI c:=by simp[qI,b,d,e,f]
theorem cm0{c:Cfg}(b:okW c)(d:okH c)(e:okL c)(f:okK c):0=qI c:=by simp[qI,b,d,e,f]
def qh(c:Cfg):Int:=if qI c=0 then nB c else 0
theorem q2y(W0:World)(own:Own)(a b c:Int):jl W0 72 [j4 a,j4 b,j4 c] own (.bool (decide (b<=a/\a<=c))):=by
 refine qi (sH [] ?_)
 repeat'((try conv=>whnf);first|refine qS ?_|refine q1G ?_|refine q4f (fun d=>?_) fun d=>?_)
 all_goals(refine⟨q0s (vb ?_),eB⟩;(first|rfl|refine dd ?_;omega|refine df ?_;omega|refine dt ?_;omega|refine dn ?_;omega))
theorem qbK(W0:World)(own:Own)(a b c:Int):jl W0 86 [j4 a,j4 b,j4 c] own (.bool (decide (b<=a/\a<=c))):=by
 refine qi (sH [] ?_)
 repeat'((try conv=>whnf);first|refine qS ?_|refine q1G ?_|refine q4f (fun d=>?_) fun d=>?_)
 all_goals(refine⟨q0s (vb ?_),eB⟩;(first|rfl|refine dd ?_;omega|refine df ?_;omega|refine dt ?_;omega|refine dn ?_;omega))
theorem qe8(W0:World)(own:Own)(c:Cfg):jl W0 104 [c.v] own
  (.tuple #[j4 (if okC c then nB c else 0),j4 (if okC c then nW c else 0), .bool (decide (okC c/\nB c<=64))]):=by
 refine qi (sH [] ?_)
 repeat'((try conv=>whnf);first|refine q31 5 ?_|refine qS ?_|refine q0b ?_|refine q26 ?_|refine q2W ?_|refine fB ?_|refine fO ?_|refine ix0 rfl ?_|refine ix1 rfl ?_|refine ix2 rfl ?_|refine ix3 rfl ?_|apply q1A;exact eM;exact rfl;exact rfl|refine qg fun bk hbk=>?_|refine q0X (fun b=>?_) fun b=>?_|refine q3p (fun b=>?_) fun b=>?_|refine qnn ?_ ?_;omega|refine qno ?_ ?_;omega|refine qo9 ?_ ?_;omega|refine qoa ?_ ?_;omega)
 all_goals
  refine⟨qoN (vi ?_) (vi ?_) (vb ?_),eB⟩
  ·(try simp only[okC,nB]);(first|rfl|omega|(split <;>omega)|(split <;>split <;>omega))
  ·(try simp only[okC,nW]);(first|rfl|omega|(split <;>omega)|(split <;>split <;>omega))
  ·(try simp only[okC,nB]);(first|rfl|refine dd ?_;omega|refine df ?_;omega|refine dt ?_;omega|refine dn ?_;omega)
theorem q81(W0:World)(own:Own)(c:Cfg)(h:okC c):jl W0 104 [c.v] own (.tuple #[j4 (nB c),j4 (nW c), .bool (decide (nB c<=64))]):=by
 have:=qe8 W0 own c
 simpa [h] using this
theorem qe9(W0:World)(own:Own)(c:Cfg)(h:¬okC c):jl W0 104 [c.v] own (.tuple #[j4 0,j4 0, .bool false]):=by
 have:=qe8 W0 own c
 simpa [h] using this
theorem q1v(W0:World)(own:Own)(c:Cfg):jl W0 71 [c.v] own (j4 (qI c)):=by
 refine qi (sH [] ?_)
 by_cases b:okC c
 ·have e:=b;unfold okC at e
  repeat'((try conv=>whnf);first|apply qp (q2y _ _ _ _ _)|apply qp (q81 _ _ c b)|refine qS ?_|refine q0b ?_|refine q26 ?_|refine fB ?_|refine fO ?_|apply qU;exact eM;exact rfl|apply qZ;exact eM;exact rfl|refine qg fun f d=>?_|refine q3O (fun b=>?_) fun b=>?_|refine q3p (fun b=>?_) fun b=>?_|refine qcq (fun b=>?_) fun b=>?_)
  all_goals(refine⟨q0s (vi ?_),eB⟩;(try unfold nB at*);(try unfold nW at*))
  all_goals first|exact qnB (by unfold okW;omega)|exact qnC (by unfold okW;omega) (by unfold okH okC nB nW;omega)|exact qnD (by unfold okW;omega) (by unfold okH okC nB nW;omega) (by unfold okL;omega)|exact qnE (by unfold okW;omega) (by unfold okH okC nB nW;omega) (by unfold okL;omega) (by unfold okK;omega)|exact cm0 (by unfold okW;omega) (by unfold okH okC nB nW;omega) (by unfold okL;omega) (by unfold okK;omega)
 ·repeat'((try conv=>whnf);first|apply qp (q2y _ _ _ _ _)|apply qp (qe9 _ _ c b)|refine qS ?_|refine q0b ?_|refine q26 ?_|refine fO ?_|apply qU;exact eM;exact rfl|apply qZ;exact eM;exact rfl|refine qg fun f d=>?_|refine q3O (fun b=>?_) fun b=>?_|refine qcq (fun b=>?_) fun b=>?_)
  all_goals(refine⟨q0s (vi ?_),eB⟩;(try unfold okC at*))
  all_goals first|exact qnB (by unfold okW;omega)|exact qnC (by unfold okW;omega) (by unfold okH okC nB nW;omega)|exact qnD (by unfold okW;omega) (by unfold okH okC nB nW;omega) (by unfold okL;omega)|exact qnE (by unfold okW;omega) (by unfold okH okC nB nW;omega) (by unfold okL;omega) (by unfold okK;omega)|exact cm0 (by unfold okW;omega) (by unfold okH okC nB nW;omega) (by unfold okL;omega) (by unfold okK;omega)
theorem q6o(W0:World)(own:Own)(c:Cfg):jl W0 50 [c.v] own (j4 (qI c)):=by
 refine qi (sH [] ?_)
 repeat'((try conv=>whnf);first|apply qp (qbK _ _ _ _ _)|refine q31 5 ?_|refine qS ?_|refine q0b ?_|refine q26 ?_|refine q2W ?_|refine fB ?_|refine ix0 rfl ?_|refine ix1 rfl ?_|refine ix2 rfl ?_|refine ix3 rfl ?_|apply qU;exact eM;exact rfl|refine qg fun bk hbk=>?_|refine q0X (fun b=>?_) fun b=>?_|refine q3O (fun b=>?_) fun b=>?_|refine q3p (fun b=>?_) fun b=>?_|refine qcq (fun b=>?_) fun b=>?_|refine qnn ?_ ?_;omega|refine qno ?_ ?_;omega|refine qo9 ?_ ?_;omega|refine qoa ?_ ?_;omega)
 all_goals refine⟨q0s (vi ?_),eB⟩
 all_goals first|exact qnB (by unfold okW;omega)|exact qnC (by unfold okW;omega) (by unfold okH okC nB nW;omega)|exact qnD (by unfold okW;omega) (by unfold okH okC nB nW;omega) (by unfold okL;omega)|exact qnE (by unfold okW;omega) (by unfold okH okC nB nW;omega) (by unfold okL;omega) (by unfold okK;omega)|exact cm0 (by unfold okW;omega) (by unfold okH okC nB nW;omega) (by unfold okL;omega) (by unfold okK;omega)
theorem qK{c:Cfg}(h:qI c=0):okW c/\okH c/\okL c/\okK c:=by
 unfold qI at h
 split at h
 ·split at h
  ·split at h
   ·split at h
    ·exact⟨by assumption,by assumption,by assumption,by assumption⟩
    ·omega
   ·omega
  ·omega
 ·omega
theorem q1M{c:Cfg}(h:qI c=0):1<=c.words/\c.words<=64/\1<=c.orecs/\c.orecs<=64/\0<=c.c0/\0<=c.c1/\0<=c.c2/\0<=c.c3/\c.c0+c.c1+c.c2+c.c3<=64/\0<=c.base/\c.base+(c.c0+c.c1*2+c.c2*4+c.c3*8)<=c.words:=by
 obtain⟨b,d,_,_⟩:=qK h;unfold okW at b;unfold okH okC nB nW at d;omega
theorem q3F(W0:World)(own:Own)(c:Cfg):jl W0 106 [c.v] own (j4 (qh c)):=by
 refine qi (sH [] ?_)
 by_cases b:qI c=0
 ·have g:okC c:=(qK b).2.1.1
  repeat'((try conv=>whnf);first|apply qp (q1v _ _ c)|apply qp (q81 _ _ c g)|refine fO ?_|apply qZ;exact eM;exact rfl|refine qg fun f d=>?_|refine q3p (fun e=>?_) fun e=>?_)
  all_goals first|exfalso;omega|refine⟨q0s (vi ?_),eB⟩;simp only[qh,b,if_true]
 ·repeat'((try conv=>whnf);first|apply qp (q1v _ _ c)|apply qZ;exact eM;exact rfl|refine qg fun f d=>?_|refine q3p (fun e=>?_) fun e=>?_)
  all_goals first|exfalso;omega|refine⟨q0s (vi ?_),eB⟩;simp only[qh,b,if_false]
theorem q6n(W0:World)(own:Own)(c:Cfg):jl W0 27 [c.v] own (j4 (qh c)):=by
 refine qi (sH [] ?_)
 by_cases b:qI c=0
 ·have hb:=q1M b
  repeat'((try conv=>whnf);first|apply qp (q6o _ _ c)|refine fB ?_|refine ix0 rfl ?_|refine ix1 rfl ?_|refine ix2 rfl ?_|refine ix3 rfl ?_|apply qU;exact eM;exact rfl|apply qZ;exact eM;exact rfl|refine qg fun f d=>?_|refine q3p (fun e=>?_) fun e=>?_)
  all_goals first|exfalso;omega|refine⟨q0s (vi ?_),eB⟩;simp only[qh,b,if_true,nB]
 ·repeat'((try conv=>whnf);first|apply qp (q6o _ _ c)|refine fB ?_|refine ix0 rfl ?_|refine ix1 rfl ?_|refine ix2 rfl ?_|refine ix3 rfl ?_|apply qU;exact eM;exact rfl|apply qZ;exact eM;exact rfl|refine qg fun f d=>?_|refine q3p (fun e=>?_) fun e=>?_)
  all_goals first|exfalso;omega|refine⟨q0s (vi ?_),eB⟩;simp only[qh,b,if_false]
def ql(c:Cfg)(b:Int):Int:=
 if qI c=0/\0<=b then if b<c.c0 then 0 else if b<c.c0+c.c1 then 1 else if b<c.c0+c.c1+c.c2 then 2 else if b<c.c0+c.c1+c.c2+c.c3 then 3 else-1 else-1
def qs(c:Cfg)(b:Int):Int:=
 if qI c=0/\0<=b then if b<c.c0 then c.base+b else if b<c.c0+c.c1 then c.base+c.c0+(b-c.c0)*2
  else if b<c.c0+c.c1+c.c2 then c.base+c.c0+c.c1*2+(b-c.c0-c.c1)*4 else if b<c.c0+c.c1+c.c2+c.c3 then c.base+c.c0+c.c1*2+c.c2*4+(b-c.c0-c.c1-c.c2)*8 else-1 else-1
theorem q84(W0:World)(own:Own)(c:Cfg)(b:Int)(hb: -9223372036854775808<=b/\b<=9223372036854775807):
  jl W0 87 [c.v,j4 b] own (.tuple #[j4 (ql c b),j4 (qs c b)]):=by
 refine qi (sH (jo 8 3 [0]) ?_)
 by_cases e:qI c=0/\0<=b
 ·have hbd:=q1M e.1
  repeat'((try conv=>whnf);first|apply qp (q1v _ _ c)|refine q31 5 ?_|refine qS ?_|refine q0b ?_|refine q26 ?_|refine q2W ?_|refine fB ?_|refine fO ?_|refine ix0 rfl ?_|refine ix1 rfl ?_|refine ix2 rfl ?_|refine ix3 rfl ?_|apply qU;exact eM;exact rfl|apply qZ;exact eM;exact rfl|apply q1A;exact eM;exact rfl;exact rfl|refine qg fun g f=>?_|refine q0X (fun d=>?_) fun d=>?_|refine q3p (fun d=>?_) fun d=>?_|refine qnn ?_ ?_;omega|refine qno ?_ ?_;omega|refine qo9 ?_ ?_;omega|refine qoa ?_ ?_;omega)
  all_goals first|exfalso;omega|refine⟨qc2 (vi ?_) (vi ?_),eB⟩
  all_goals(simp only[ql,qs,e,if_true,and_self];repeat'(first|omega|rw[if_pos Yb]|rw[if_neg Yb]))
 ·repeat'((try conv=>whnf);first|apply qp (q1v _ _ c)|refine qS ?_|refine q0b ?_|refine q26 ?_|apply qU;exact eM;exact rfl|apply qZ;exact eM;exact rfl|apply q1A;exact eM;exact rfl;exact rfl|refine qg fun g f=>?_|refine q0X (fun d=>?_) fun d=>?_|refine q3p (fun d=>?_) fun d=>?_)
  all_goals first|exfalso;omega|refine⟨qc2 (vi ?_) (vi ?_),eB⟩
  all_goals simp only[ql,qs,e,if_false]
theorem q3G(W0:World)(own:Own)(c:Cfg)(b:Int)(hb: -9223372036854775808<=b/\b<=9223372036854775807):
  jl W0 162 [c.v,j4 b] own (j4 (ql c b)):=by
 refine qi (sH [] ?_)
 repeat'((try conv=>whnf);first|apply qp (q84 _ _ c b hb)|refine fO ?_|apply qZ;exact eM;exact rfl|refine qg fun bk hbk=>?_|exact Ent.refl|refine Ent.cons ?_|refine And.intro rfl ?_)
 all_goals exact⟨rfl,eB⟩
theorem q4K(W0:World)(own:Own)(c:Cfg)(b:Int)(hb: -9223372036854775808<=b/\b<=9223372036854775807):
  jl W0 54 [c.v,j4 b] own (j4 (qs c b)):=by
 refine qi (sH [] ?_)
 repeat'((try conv=>whnf);first|apply qp (q84 _ _ c b hb)|refine fO ?_|apply qZ;exact eM;exact rfl|refine qg fun bk hbk=>?_|exact Ent.refl|refine Ent.cons ?_|refine And.intro rfl ?_)
 all_goals exact⟨rfl,eB⟩
theorem qP(c:Cfg):0<=qh c/\qh c<=64:=by
 unfold qh
 split
 ·have:=q1M (by assumption);unfold nB;omega
 ·omega
theorem q1X{c:Cfg}{b:Int}(h0:0<=b)(h:b<qh c):qI c=0/\b<c.c0+c.c1+c.c2+c.c3:=by
 unfold qh at h
 split at h
 ·exact⟨by assumption,h⟩
 ·omega
theorem q0J{c:Cfg}{b:Int}(d:0<=b)(h:b<qh c):0<=ql c b/\ql c b<=3:=by
 have e:=q1X d h;simp only[ql,e.1,d,and_self,if_true]
 repeat' split
 all_goals omega
theorem q6K{c:Cfg}{b:Int}(d:0<=b)(h:b<qh c):0<=qs c b/\qs c b<64:=by
 have e:=q1X d h;have hb:=q1M e.1;simp only[qs,e.1,d,and_self,if_true]
 repeat' split
 all_goals omega
def q4s(c:Cfg)(a:Int):Nat->Int->Int
 |0,_=> -1
 |n+1,k=>if qs c k=a then k else q4s c a n (k+1)
def qJ(c:Cfg)(a:Int):Int:=q4s c a (qh c).toNat 0
theorem q9j(W0:World)(own:Own)(c:Cfg)(a:Int):jl W0 277 [c.v,j5 a] own (j4 (qJ c a)):=by
 refine qi (sH [] ?_);have hB:=qP c
 repeat'((try conv=>whnf);first|apply qp (q3F _ _ c)|apply qZ;exact eM;exact rfl|refine qg fun bk hbk=>?_)
 refine q1C (σ:=Int) (fun k=> [(8,j4 k)]) (fun k=>0<=k/\k<=qh c/\q4s c a (qh c-k).toNat k=qJ c a) (fun k=>(qh c-k).toNat) 0 ⟨Yb,Yb,by simp[qJ]⟩ (eF) rfl ?_;rintro k junk ⟨f,hk1,b⟩
 by_cases g:k<qh c
 ·have hf:=q6K f g;have e:(qh c-k).toNat=(qh c-(k+1)).toNat+1:=Yb;rw[e,q4s] at b
  repeat'((try conv=>whnf);first|apply qp (q4K _ _ c k Yb)|refine fB ?_|refine fC ?_|apply qZ;exact eM;exact rfl|refine q3p (fun d=>?_) fun d=>?_)
  ·rw[if_pos (by assumption)] at b;exact⟨q0s (vi b),eB⟩
  ·rw[if_neg (by assumption)] at b;exact⟨k+1,⟨Yb,Yb,b⟩,Yb,(eF),Ent.refl⟩
  ·omega
 ·repeat'((try conv=>whnf);first|apply qp (q4K _ _ c k Yb)|refine fB ?_|refine fC ?_|apply qZ;exact eM;exact rfl|refine q3p (fun d=>?_) fun d=>?_)
  ·omega
  ·omega
  ·have e:(qh c-k).toNat=0:=Yb;rw[e,q4s] at b;exact⟨q0s (vi b),eB⟩
def qC(c:Cfg)(a:Int):Int:=if qI c=0/\0<=a/\a<c.words+qh c then a % c.orecs else-1
theorem q4a(W0:World)(own:Own)(c:Cfg)(a:Int):jl W0 236 [c.v,j4 a] own (j4 (qC c a)):=by
 refine qi (sH (jo 16 3 [0]) ?_);have hB:=qP c
 by_cases f:qI c=0
 ·have hbd:=q1M f
  repeat'((try conv=>whnf);first|apply q2o (fun _=>q1v _ _ c)|apply q2o (fun _=>q3F _ _ c)|refine qS ?_|refine q0b ?_|refine q26 ?_|refine fB ?_|apply qU;exact eM;exact rfl|apply qZ;exact eM;exact rfl|refine qg fun e d=>?_|refine q0X (fun b=>?_) fun b=>?_|refine q3p (fun b=>?_) fun b=>?_|refine q2R ?_ ?_;omega)
  all_goals first|exfalso;omega|(refine⟨q0s (vi ?_),eB⟩;unfold qC;first|rw[if_neg Yb]|rw[if_pos Yb])
 ·repeat'((try conv=>whnf);first|apply q2o (fun _=>q1v _ _ c)|apply q2o (fun _=>q3F _ _ c)|refine qS ?_|refine q0b ?_|refine q26 ?_|refine fB ?_|apply qU;exact eM;exact rfl|apply qZ;exact eM;exact rfl|refine qg fun e d=>?_|refine q0X (fun b=>?_) fun b=>?_|refine q3p (fun b=>?_) fun b=>?_|refine q2R ?_ ?_;omega)
  all_goals first|exfalso;omega|refine⟨q0s (vi ?_),eB⟩;unfold qC;rw[if_neg Yb]
def qbo(c:Cfg)(i:Int):Int:=
 if i<=c.c0 then c.base+i else if i<=c.c0+c.c1 then c.base+c.c0+(i-c.c0)*2
  else if i<=c.c0+c.c1+c.c2 then c.base+c.c0+c.c1*2+(i-c.c0-c.c1)*4 else c.base+c.c0+c.c1*2+c.c2*4+(i-c.c0-c.c1-c.c2)*8
theorem q7L{c:Cfg}{b:Int}(d:0<=b)(h:b<qh c):qs c b=qbo c b:=by
 have e:=q1X d h;have hb:=q1M e.1;simp only[qs,qbo,e.1,d,and_self,if_true]
 repeat' split
 all_goals omega
theorem qau{c:Cfg}{i:Int}(b:0<=i)(h:i<qh c):(ql c i=0/\qbo c (i+1)=qbo c i+1)\/(ql c i=1/\qbo c (i+1)=qbo c i+2)\/(ql c i=2/\qbo c (i+1)=qbo c i+4)\/(ql c i=3/\qbo c (i+1)=qbo c i+8):=by
 have d:=q1X b h;have hb:=q1M d.1;simp only[ql,qbo,d.1,b,and_self,if_true]
 repeat' split
 all_goals omega
structure PH where
 a:j8
 cap:Nat
 p:List Ins
abbrev PH.enc(h:PH):je:= [.slice h.a h.p.length h.cap]
abbrev qw(n:Int):je:= [j4 n]
def psG:List PH->Nat->Option (Int×Int×Int)
 | [],_=>none
 |h::l,t=>if(qB h.p).2≠0 then some (t,(qB h.p).1,(qB h.p).2) else psG l (t+1)
def ksG(n:Nat):jd->Nat->Int×Int×Int
 | [],_=>(0,0,0)
 |k::l,i=>if k<0\/(n:Int)<=k then(0,i,56) else ksG n l (i+1)
def csM(c:Cfg)(il:Nat)(ps:List PH)(ks:jd):Int×Int×Int:=
 if qI c≠0 then(0,0,qI c) else if ps.length<1\/16<ps.length then(0,0,54) else if(il:Int)≠c.words then(0,0,55) else
  match psG ps 0 with
  |some r=>r
  |none=>if 65536<ks.length then(0,0,56) else ksG ps.length ks 0
def qoD(r:Int×Int×Int):Value:= .tuple #[j4 r.1,j4 r.2.1,j4 r.2.2]
abbrev q9e(c:Cfg)(ia:j8)(il ic:Nat)(pa:j8)(b pc:Nat)(ka:j8)(kn kc:Nat):Value:=
 .agg #[j4 c.words,j4 c.orecs,j4 c.base,j4 c.c0,j4 c.c1,j4 c.c2,j4 c.c3,j4 c.reads,j4 c.writes,j4 c.allocs,j4 c.frees,j4 c.clock, .bool c.strong, .slice ia il ic, .slice pa b pc, .slice ka kn kc]
theorem q4X{α:Type}{l:List α}{k:Nat}{x:α}(d:l[k]? =some x):l.drop k=x::l.drop (k+1):=by
 obtain⟨b,he⟩:=z7.1 d;rw[Zd b,he]
section
variable{W0:World}{own:Own}{c:Cfg}{ia pa ka:j8}{il ic pc kc:Nat}{ps:List PH}{ks:jd}
theorem qmz(K:qE W0)(v:RdE PH.enc 1 W0 own pa ps)(L:∀h∈ps,RdE Ins.enc 5 W0 own h.a h.p)(u:RdE qw 1 W0 own ka ks):
  jl W0 44 [q9e c ia il ic pa ps.length pc ka ks.length kc] own (qoD (csM c il ps ks)):=by
 refine qi (sH [] ?_);have d:=fun own=>q1v W0 own c
 unfold csM;generalize qI c=z at*
 by_cases E:z=0
 ·subst E;simp only[ne_eq,not_true_eq_false,if_false]
  by_cases F:ps.length<1\/16<ps.length
  ·rw[if_pos F]
   repeat'((try conv=>whnf);first|refine q2W ?_|refine q9N Yb ?_|apply qp (d _)|apply qp (q2y _ _ _ _ _)|apply qU;exact eM;exact rfl|apply q1A;exact eM;exact rfl;exact rfl|refine qg fun y e=>?_)
   all_goals exact⟨rfl,eB⟩
  ·rw[if_neg F]
   by_cases G:¬(il:Int)=c.words
   ·rw[if_pos G]
    repeat'((try conv=>whnf);first|refine q2W ?_|refine q0D Yb ?_|refine q7p Yb ?_|apply qp (d _)|apply qp (q2y _ _ _ _ _)|apply qU;exact eM;exact rfl|apply q1A;exact eM;exact rfl;exact rfl|refine qg fun y e=>?_)
    all_goals exact⟨rfl,eB⟩
   ·rw[if_neg G]
    repeat'((try conv=>whnf);first|refine q2W ?_|refine q1l Yb ?_|refine q7p Yb ?_|apply qp (d _)|apply qp (q2y _ _ _ _ _)|apply qU;exact eM;exact rfl|apply q1A;exact eM;exact rfl;exact rfl|refine qg fun y e=>?_)
    generalize q:psG ps 0=res;refine q1C (σ:=Nat) (fun t=> [(33,j4 t)]) (fun t=>t<=ps.length/\psG (ps.drop t) t=res) (fun t=>ps.length-t) 0 ⟨Yb,q⟩ (eF) rfl ?_;rintro t junk ⟨ht,b⟩
    by_cases C:t<ps.length
    ·obtain⟨x,g⟩:∃x,ps[t]? =some x:=⟨_,z6 C⟩
     have D:=L x (zh g);have j:=fun ex=>q5t (cap:=x.cap) K (D.ent (Ent.app (A:=ex) Ent.refl))
     rw[q4X g,psG] at b;generalize qB x.p=r at*
     by_cases J:r.2≠0
     ·rw[if_pos J] at b;subst b
      repeat'((try conv=>whnf);first|refine q0D Yb ?_|refine qp (j [_]) ?_|(apply gLd;first|refine ldE (k:=0) (RdE.ent v ?_) g ?_ rfl ?_;rotate_left;rfl;rotate_left;(solve|(exact eB)))|(apply qL;first|refine ixE v g ?_ ?_;(first|rfl|omega))|refine fO ?_)
      all_goals exact⟨rfl,eB⟩
     ·rw[if_neg J] at b
      repeat'((try conv=>whnf);first|refine q0D Yb ?_|refine q1l Yb ?_|refine qp (j [_]) ?_|(apply gLd;first|refine ldE (k:=0) (RdE.ent v ?_) g ?_ rfl ?_;rotate_left;rfl;rotate_left;(solve|(exact eB)))|(apply qL;first|refine ixE v g ?_ ?_;(first|rfl|omega))|refine fB ?_|refine fO ?_)
      all_goals exact⟨t+1,⟨Yb,b⟩,Yb,(eF),eB⟩
    ·have ht':t=ps.length:=Yb;subst ht';rw[Zw,psG] at b;subst b;simp only[]
     by_cases I:65536<ks.length
     ·rw[if_pos I]
      repeat'((try conv=>whnf);first|refine q0D Yb ?_|refine q1l Yb ?_|apply qU;exact eM;exact rfl)
      all_goals exact⟨rfl,eB⟩
     ·rw[if_neg I];generalize f:ksG ps.length ks 0=s
      repeat'((try conv=>whnf);first|refine q1l Yb ?_|apply qU;exact eM;exact rfl)
      refine q1C (σ:=Nat) (fun i=> [(56,j4 i)]) (fun i=>i<=ks.length/\ksG ps.length (ks.drop i) i=s) (fun i=>ks.length-i) 0 ⟨Yb,f⟩ (eF) rfl ?_;rintro i junk2 ⟨hi,b⟩
      by_cases o:i<ks.length
      ·obtain⟨k,n⟩:∃k,ks[i]? =some k:=⟨_,z6 o⟩
       rw[q4X n,ksG] at b
       by_cases hb:k<0\/(ps.length:Int)<=k
       ·rw[if_pos hb] at b;subst b
        repeat'((try conv=>whnf);first|refine qS ?_|refine q0b ?_|refine q26 ?_|refine q0D Yb ?_|(apply gLd;first|refine ldE (k:=0) (RdE.ent u ?_) n ?_ rfl ?_;rotate_left;rfl;rotate_left;(solve|(exact eB)))|(apply qL;first|refine ixE u n ?_ ?_;(first|rfl|omega))|apply qU;exact eM;exact rfl|refine q0X (fun M=>?_) fun M=>?_)
        all_goals exact⟨rfl,eB⟩
       ·rw[if_neg hb] at b
        repeat'((try conv=>whnf);first|refine qS ?_|refine q0D Yb ?_|refine q1l Yb ?_|refine q3j Yb ?_|(apply gLd;first|refine ldE (k:=0) (RdE.ent u ?_) n ?_ rfl ?_;rotate_left;rfl;rotate_left;(solve|(exact eB)))|(apply qL;first|refine ixE u n ?_ ?_;(first|rfl|omega))|refine fB ?_|apply qU;exact eM;exact rfl)
        all_goals exact⟨i+1,⟨Yb,b⟩,Yb,(eF),eB⟩
      ·have B:i=ks.length:=Yb;subst B;rw[Zw,ksG] at b;subst b
       repeat'((try conv=>whnf);first|refine q1l Yb ?_)
       all_goals exact⟨rfl,eB⟩
 ·rw[if_pos E]
  repeat'((try conv=>whnf);first|refine q0D Yb ?_|apply qp (d _)|apply q1A;exact eM;exact rfl;exact rfl|refine qg fun y e=>?_)
  all_goals exact⟨rfl,eB⟩
end
open Go
def stB(p:List Ins):Nat->Int
 |0=> -1
 |k+1=>match p[k]? with
  |some x=>q0w x k (stB p k)
  |none=>stB p k
theorem q2d{p:List Ins}{k:Nat}{x:Ins}(b:p[k]? =some x):stB p (k+1)=q0w x k (stB p k):=by
 simp only[stB,b]
theorem q7t{p:List Ins}(h:qB p=(0,0)):p.length<=64:=by
 unfold qB at h
 split at h
 ·simp at h
 ·omega
theorem q6G{p:List Ins}(h:qB p=(0,0)):∀k,k<=p.length->q9D p k (stB p k)/\q03 (q0t p) (p.drop k) k (stB p k)=(0,0)
 |0,_=>by
  refine⟨q9D.start p,?_⟩;unfold qB at h
  split at h
  ·simp at h
  ·exact h
 |k+1,hk=>by
  obtain⟨g,b⟩:=q6G h k Yb;obtain⟨x,e⟩:∃x,p[k]? =some x:=⟨_,z6 Yb⟩
  rw[q0N e,q03] at b
  split at b
  ·rename_i d;simp only[Prod.mk.injEq] at b;exact absurd b.2 d
  ·rename_i d;have f:=q6W (by simpa using d);rw[q2d e];exact⟨g.step e f.1 f.2.1,b⟩
theorem qcB{p:List Ins}(h:qB p=(0,0)){k:Nat}{x:Ins}(e:p[k]? =some x):q7K (q0t p k (stB p k) x) (stB p k) x=0:=by
 have hk:=(z7.1 e).1;have b:=(q6G h k Yb).2;rw[q0N e,q03] at b
 split at b
 ·rename_i d;simp only[Prod.mk.injEq] at b;exact absurd b.2 d
 ·rename_i d
  simpa using d
theorem qli{p:List Ins}(h:qB p=(0,0)):stB p p.length<0:=by
 have b:=(q6G h p.length (zN _)).2;rw[Zw,q03] at b
 split at b
 ·simp at b
 ·omega
theorem qcA{p:List Ins}(h:qB p=(0,0)){k:Nat}(b:k<=p.length):q9D p k (stB p k):=(q6G h k b).1
theorem q2Z{p:List Ins}(h:qB p=(0,0)){k:Nat}{x:Ins}(e:p[k]? =some x):
  qH x=0/\(x.op=7->stB p k<0)/\(x.op=8->0<=stB p k)/\q0t p k (stB p k) x=0/\
   (x.op=9\/x.op=10\/x.op=11\/x.op=14\/x.op=15->0<=stB p k):=by
 have d:=qcB h e;have b:=q6W d;refine⟨b.2.2.1,b.1,b.2.1,b.2.2.2,fun hop=>?_⟩;unfold q7K at d;rw[if_neg (by simpa using b.2.2.1)] at d
 split at d
 ·omega
 ·split at d
  ·omega
  ·rename_i h2;have hp:q1q x=1:=by unfold q1q;rw[if_pos b.2.2.1,if_pos Yb]
   omega
theorem qd7{p:List Ins}(h:qB p=(0,0)):∀(n k:Nat),n+k=p.length->0<=stB p k->
  ∃c,q1y (p.drop k) k=c/\k<=c/\c<p.length/\(∃x,p[c]? =some x/\x.op=8)/\stB p (c+1)= -1/\∀i,k<=i->i<=c->stB p i=stB p k/\q1y (p.drop i) i=c/\(i<c->∀x,p[i]? =some x->x.op≠7/\x.op≠8)
 |0,k,C,hb=>by
  have B:k=p.length:=Yb;have:=qli h;rw[<-B] at this;omega
 |n+1,k,C,hb=>by
  obtain⟨x,d⟩:∃x,p[k]? =some x:=⟨_,z6 Yb⟩
  have hi:=q2Z h d;have g:x.op≠7:=fun e=>by have:=hi.2.1 e;omega
  have hd:q1y (p.drop k) k=if x.op=8 then k else q1y (p.drop (k+1)) (k+1):=by rw[q0N d,q1y]
  by_cases b:x.op=8
  ·refine⟨k,by rw[hd,if_pos b],zN k,Yb,⟨x,d,b⟩,?_,fun i A s=>?_⟩
   ·rw[q2d d,q0w,if_neg g,if_pos b]
   ·obtain rfl:i=k:=Yb;exact⟨rfl,by rw[hd,if_pos b],fun h=>absurd h Yb⟩
  ·have v:stB p (k+1)=stB p k:=by rw[q2d d,q0w,if_neg g,if_neg b]
   obtain⟨c,u,hkc,q,o,j,f⟩:=qd7 h n (k+1) Yb (by rw[v];exact hb);refine⟨c,by rw[hd,if_neg b,u],Yb,q,o,j,fun i A s=>?_⟩
   by_cases r:i=k
   ·subst r;refine⟨rfl,by rw[hd,if_neg b,u],fun _ y z=>?_⟩;rw[d] at z;obtain rfl:=Option.some.inj z;exact⟨g,b⟩
   ·have:=f i Yb s;rw[v] at this;exact this
theorem q0v{p:List Ins}(h:qB p=(0,0)){k:Nat}{x:Ins}(e:p[k]? =some x)(q:x.op=7):
  ∃c,q0B p k=c/\k<c/\c<p.length/\(∃y,p[c]? =some y/\y.op=8)/\stB p (c+1)= -1/\∀i,k<i->i<=c->stB p i=k/\q1y (p.drop i) i=c/\(i<c->∀y,p[i]? =some y->y.op≠7/\y.op≠8):=by
 have hk:=(z7.1 e).1;have d:stB p (k+1)=k:=by rw[q2d e,q0w,if_pos q]
 obtain⟨c,f,g,j,n,o,b⟩:=qd7 h (p.length-(k+1)) (k+1) Yb (by rw[d];omega);rw[d] at b;exact⟨c,f,g,j,n,o,fun i hi=>b i Yb⟩
def q2V(p:List Ins)(k:Nat)(x:Ins):jd:=
 if x.op=4 then [k+1+x.imm] else if x.op=5\/x.op=6 then [k+1,k+1+x.imm] else if x.op=9 then [(q0B p k:Int)+1] else [k+1]
theorem qaa(len:Nat):∀(l:List Ins) (j t:Nat),q20 len l j t=false->∀(i:Nat) (x:Ins),l[i]? =some x->j+i<t->x.op=7->q1y (l.drop (i+1)) (j+i+1)<t\/len<=t
 | [],j,t,_,i,x,b,_,_=>by simp at b
 |y::l,j,t,h,i,x,b,hi,d=>by
  unfold q20 at h;rw[Y1,decide_eq_false_iff_not] at h;cases i with
  |zero=>
   simp only[Zr,Option.some.injEq] at b;subst b;simp only[ZI,zy,yi,List.drop_zero]
   by_cases f:t<=q1y l (j+1)
   ·right
    by_cases g:t+1<=len
    ·exact absurd ⟨Yb,d,f,g⟩ h.1
    ·omega
   ·left;omega
  |succ i=>
   have:=qaa len l (j+1) t h.2 i x (by simpa using b) Yb d;simp only[yi];have e:j+(i+1)+1=j+1+i+1:=Yb;rw[e];exact this
theorem qd9{x:Ins}(b:qH x=0)(h:x.op=4\/x.op=5\/x.op=6):q10 x=true:=by
 unfold q10;rw[decide_eq_true_iff];exact⟨b,h⟩
theorem q4w{p:List Ins}(h:qB p=(0,0)){k:Nat}{x:Ins}(G:p[k]? =some x):∀t∈q2V p k x,∃j:Nat,t=j/\k<j/\j<=p.length/\
  (0<=stB p k->x.op≠8->(x.op≠9->j<=q1y (p.drop k) k)/\(x.op=9->j=q1y (p.drop k) k+1))/\
  (stB p k<0->∀(b:Nat) (y:Ins),k<b->p[b]? =some y->y.op=7->j<=b\/q0B p b<j):=by
 have hk:=(z7.1 G).1;have hi:=q2Z h G;have C:=fun hb=>qd7 h (p.length-k) k Yb hb
 have u:x.op≠8->q1y (p.drop k) k=q1y (p.drop (k+1)) (k+1):=fun e=>by rw[q0N G,q1y,if_neg e]
 have step:∃j:Nat,((k:Int)+1)=j/\k<j/\j<=p.length/\(0<=stB p k->x.op≠8->j<=q1y (p.drop k) k)/\
   (stB p k<0->∀(b:Nat) (y:Ins),k<b->p[b]? =some y->y.op=7->j<=b\/q0B p b<j):=by
  refine⟨k+1,Yb,Yb,Yb,fun hb e=>?_,fun _ b y hb _ _=> .inl Yb⟩;rw[u e];exact(q3b _ _).1
 have skip:(x.op=4\/x.op=5\/x.op=6)->∃j:Nat,((k:Int)+1+x.imm)=j/\k<j/\j<=p.length/\(0<=stB p k->x.op≠8->j<=q1y (p.drop k) k)/\
   (stB p k<0->∀(b:Nat) (y:Ins),k<b->p[b]? =some y->y.op=7->j<=b\/q0B p b<j):=fun F=>by
  have K:=qd9 hi.1 F;have hs2:=q2J K;have d:=hi.2.2.2.1;unfold q0t at d;rw[if_pos K] at d
  split at d
  ·omega
  ·rename_i hlen;refine⟨k+1+x.imm.toNat,Yb,Yb,Yb,fun hb e=>?_,fun hb b y hkb I J=>?_⟩
   ·rw[if_pos hb] at d
    split at d
    ·omega
    ·rename_i he
     rcases (qcA h (by omega:k<=p.length)).bb with hb1|⟨_,_,z⟩
     ·omega
     ·rw[z] at he;omega
   ·rw[if_neg Yb] at d
    split at d
    ·omega
    ·rename_i E
     by_cases D:k+1+x.imm.toNat<=b
     ·exact .inl D
     ·right;have hbl:=(z7.1 I).1;have:=qaa p.length (p.drop (k+1)) (k+1) (k+1+x.imm.toNat) (by simpa using E) (b-(k+1)) y (by rw[yJ,show k+1+(b-(k+1))=b by omega];exact I) Yb J;rw[yx,show k+1+(b-(k+1)+1)=b+1 by omega,show k+1+(b-(k+1))+1=b+1 by omega] at this;obtain⟨c,s,_,B,_⟩:=q0v h I J;have A:q1y (p.drop (b+1)) (b+1)=c:=s;rw[s];rw[A] at this;omega
 intro t d;unfold q2V at d
 split at d
 ·rename_i L;obtain⟨j,r,f,g,n,o⟩:=skip (.inl L);rw[zf.1 d];exact⟨j,r,f,g,fun hb e=>⟨fun _=>n hb e,fun q=>by omega⟩,o⟩
 ·split at d
  ·rename_i v
   rcases zX.1 d with rfl|d
   ·obtain⟨j,r,f,g,n,o⟩:=step;exact⟨j,r,f,g,fun hb e=>⟨fun _=>n hb e,fun q=>by omega⟩,o⟩
   ·obtain⟨j,r,f,g,n,o⟩:=skip (.inr v);rw[zf.1 d];exact⟨j,r,f,g,fun hb e=>⟨fun _=>n hb e,fun q=>by omega⟩,o⟩
  ·split at d
   ·rename_i q;rw[zf.1 d];have hb:=hi.2.2.2.2 (.inl q);obtain⟨c,s,hkc,B,_⟩:=C hb;have he:q0B p k=c:=by unfold q0B;rw[<-u Yb,s]
    rw[he];refine⟨c+1,Yb,Yb,Yb,fun _ _=>⟨fun h=>absurd q h,fun _=>by rw[s]⟩,fun hb2=>by omega⟩
   ·rename_i q;obtain⟨j,r,f,g,n,o⟩:=step;rw[zf.1 d];exact⟨j,r,f,g,fun hb e=>⟨fun _=>n hb e,fun h=>absurd h q⟩,o⟩
def q4V(p:List Ins)(k:Int):Int:=if(qB p).2=0/\0<=k then(match p[k.toNat]? with
 |some x=>if x.op=7 then q0B p k.toNat else-1
 |none=> -1) else-1
theorem q8G{p:List Ins}:(qB p).2=0↔qB p=(0,0):=by
 refine⟨fun h=>?_,fun h=>by rw[h]⟩;have key:∀(d:Nat->Int->Ins->Int) (l:List Ins) (k:Nat) (b:Int),(q03 d l k b).2=0->q03 d l k b=(0,0):=fun d l=>by
  induction l with
  |nil=>
   intro k b;simp only[q03]
   split
   ·intro h;simp at h
   ·intro _;rfl
  |cons x l g=>
   intro k b;simp only[q03]
   split
   ·rename_i f;intro h;exact absurd h f
   ·exact g _ _
 unfold qB at*
 split at h
 ·simp at h
 ·rename_i e;rw[if_neg e];exact key _ _ _ _ h
section
variable{W0:World}{own:Own}{a:j8}{cap:Nat}{p:List Ins}
theorem qh9(b:qE W0)(d:RdE Ins.enc 5 W0 own a p):jl W0 136 [.slice a p.length cap] own (.bool (decide ((qB p).2=0))):=by
 refine qi (sH [] ?_);have e:=q5t (cap:=cap) b d;generalize qB p=r at*
 repeat'((try conv=>whnf);first|refine qp e ?_|refine fO ?_|exact Ent.refl|refine And.intro rfl ?_)
 all_goals exact⟨rfl,eB⟩
theorem q8M{k:Int}(h:¬(0<=k/\k<p.length)):q4V p k= -1:=by
 unfold q4V
 split
 ·rename_i hc;rw[zR Yb]
 ·rfl
theorem q3Y{k:Nat}{x:Ins}(b:p[k]? =some x):q4V p k=if(qB p).2=0/\x.op=7 then(q0B p k:Int) else-1:=by
 unfold q4V;rw[zF,b];simp only
 (repeat' split) <;>first|rfl|omega
theorem q7Y(h:qE W0)(d:RdE Ins.enc 5 W0 own a p)(n:p.length<=1099511627776)(k:Int):jl W0 93 [.slice a p.length cap,j4 k] own (j4 (q4V p k)):=by
 refine qi (sH [] ?_);have g:=qh9 (cap:=cap) h d
 by_cases f:0<=k/\k<p.length
 ·obtain⟨j,rfl⟩:=Zb f.1;obtain⟨x,e⟩:∃x,p[j]? =some x:=⟨_,z6 Yb⟩
  have he:=qdX (cap:=cap) d n j Yb;rw[q3Y e];generalize (qB p).2=r at*
  repeat'((try conv=>whnf);first|refine qS ?_|refine q0b ?_|refine q26 ?_|refine q3j Yb ?_|refine qp g ?_|refine qp he ?_|(apply gLd;first|refine ldE (k:=0) (RdE.ent d ?_) e ?_ rfl ?_;rotate_left;rfl;rotate_left;(solve|(exact eB)))|(apply qL;first|refine ixE d e ?_ ?_;(first|rfl|omega))|refine q3O (fun b=>?_) fun b=>?_|refine q3p (fun b=>?_) fun b=>?_)
  all_goals(refine⟨q0s (vi ?_),eB⟩;(repeat' split) <;>first|rfl|exfalso;omega|omega)
 ·rw[q8M f];generalize (qB p).2=r at*
  repeat'((try conv=>whnf);first|refine qS ?_|refine q0b ?_|refine q26 ?_|refine q5H Yb ?_|refine qp g ?_|refine q0X (fun b=>?_) fun b=>?_|refine q3O (fun b=>?_) fun b=>?_)
  all_goals first|exact⟨rfl,eB⟩|exfalso;omega
end
open Go
abbrev qV(n:Int):Int:=IntKind.u64.wrap n
abbrev okU(x:Int):Prop:=0<=x/\x<=18446744073709551615
structure Rg where
 r0:Int
 r1:Int
 r2:Int
 r3:Int
 r4:Int
 r5:Int
 r6:Int
 r7:Int
abbrev Rg.enc(r:Rg):je:= [j5 r.r0,j5 r.r1,j5 r.r2,j5 r.r3,j5 r.r4,j5 r.r5,j5 r.r6,j5 r.r7]
def Rg.get(r:Rg):Nat->Int
 |0=>r.r0|1=>r.r1|2=>r.r2|3=>r.r3|4=>r.r4|5=>r.r5|6=>r.r6|7=>r.r7|_=>0
def Rg.set(r:Rg):Nat->Int->Rg
 |0,v=>{r with r0:=v}|1,v=>{r with r1:=v}|2,v=>{r with r2:=v}|3,v=>{r with r3:=v}
 |4,v=>{r with r4:=v}|5,v=>{r with r5:=v}|6,v=>{r with r6:=v}|7,v=>{r with r7:=v}|_,_=>r
theorem lt8{k:Nat}(h:k<8):k=0\/k=1\/k=2\/k=3\/k=4\/k=5\/k=6\/k=7:=Yb
theorem Rg.get_set{r:Rg}{k j:Nat}{v:Int}(h:k<8):(r.set k v).get j=if j=k then v else r.get j:=by
 rcases lt8 h with rfl|rfl|rfl|rfl|rfl|rfl|rfl|rfl
 all_goals
  by_cases b:j<8
  ·rcases lt8 b with rfl|rfl|rfl|rfl|rfl|rfl|rfl|rfl <;>rfl
  ·rw[if_neg Yb];obtain⟨m,rfl⟩:∃m,j=m+8:=⟨j-8,Yb⟩
   rfl
structure Thr where
 pc:Nat
 rg:Rg
 oc:Int
 dn:Bool
abbrev Thr.enc(t:Thr):je:= [j4 t.pc,j5 t.rg.r0,j5 t.rg.r1,j5 t.rg.r2,j5 t.rg.r3,j5 t.rg.r4,j5 t.rg.r5,j5 t.rg.r6,j5 t.rg.r7,j4 t.oc, .bool t.dn]
theorem Thr.enc_get{t:Thr}{k:Nat}(h:k<8):t.enc[1+k]? =some (j5 (t.rg.get k)):=by
 rcases lt8 h with rfl|rfl|rfl|rfl|rfl|rfl|rfl|rfl <;>rfl
theorem Thr.enc_set{t:Thr}{k:Nat}{v:Int}(h:k<8):t.enc.set (1+k) (j5 v)={t with rg:=t.rg.set k v:Thr}.enc:=by
 rcases lt8 h with rfl|rfl|rfl|rfl|rfl|rfl|rfl|rfl <;>rfl
structure ObM where
 pc:Nat
 k:Int
 v:Int
abbrev ObM.enc(o:ObM):je:= [j4 o.pc,j4 o.k,j5 o.v]
structure EvM where
 ev:Int
 t:Int
 k:Int
 w:Int
 r:jd
 wl:jd
def EH.m(e:EH):EvM:=⟨e.ev,e.t,e.k,e.w,e.rl,e.wl⟩
structure ChM where
 t:Int
 f:Int
 ad:jd
structure GS where
 d:jd
 tk:List Bool
 T:List Thr
 E:List EvM
 O:List (List ObM)
 n:Nat
def q4C(t:Thr)(x:Ins):Rg:=
 if x.op=1 then t.rg.set x.a.toNat (qV x.imm) else if x.op=2 then t.rg.set x.a.toNat (t.rg.get x.b.toNat)
 else if x.op=3 then t.rg.set x.a.toNat (Alu.applyW x.imm (t.rg.get x.b.toNat) (t.rg.get x.c.toNat)) else if x.op=17 then t.rg.set x.a.toNat (qV t.oc) else t.rg
def q1B(t:Thr)(x:Ins):Nat:=
 if x.op=4\/(x.op=5/\t.rg.get x.a.toNat=0)\/(x.op=6/\t.rg.get x.a.toNat≠0) then t.pc+1+x.imm.toNat else t.pc+1
def q1r(t:Thr)(x:Ins):Thr:={t with rg:=q4C t x,pc:=q1B t x}
structure BM where
 d:jd
 tk:List Bool
 t:Thr
 r:jd
 w:jd
 o:List ObM
 ad:jd
def adr(r:Rg)(b imm:Int):Int:=qV (r.get b.toNat+qV imm)
def q2O(l:jd)(a:Int):jd:=if a∈l then l else l++ [a]
def wrM(b:BM)(a:Nat)(v:Int):BM:={b with d:=b.d.set a v,w:=q2O b.w a}
def wrL(b:BM)(a:Nat):Nat->BM
 |0=>b
 |n+1=>wrM (wrL b a n) (a+n) 0
def BM.put(b:BM)(r:Int)(k v:Int):BM:={b with t:={b.t with rg:=b.t.rg.set r.toNat v,pc:=b.t.pc+1},o:=b.o++ [⟨b.t.pc,k,v⟩]}
def BM.go(b:BM):BM:={b with t:={b.t with pc:=b.t.pc+1}}
def rdM(b:BM)(a:Nat):BM:={b with r:=if(a:Int)∈b.w\/(a:Int)∈b.r then b.r else b.r++ [(a:Int)]}
def alB(c:Cfg)(tk:List Bool)(ad:jd)(imm:Int):Option (Nat×Nat):=
 match ad with
 | []=>none
 |a::_=>if a<0\/qJ c a<0\/ql c (qJ c a)≠imm\/tk.getD (qJ c a).toNat false=true then none else some (a.toNat,(qJ c a).toNat)
def q0d(c:Cfg)(b:BM)(x:Ins):BM×Int:=
 if x.op=10 then(if c.words<=adr b.t.rg x.b x.imm then(b.go,7) else((rdM b (adr b.t.rg x.b x.imm).toNat).put x.a 1 (b.d.getD (adr b.t.rg x.b x.imm).toNat 0),0))
 else if x.op=11 then(if c.words<=adr b.t.rg x.a x.imm then(b.go,7) else((wrM b (adr b.t.rg x.a x.imm).toNat (b.t.rg.get x.b.toNat)).go,0))
 else if x.op=14 then(match alB c b.tk b.ad x.imm with
  |none=>(b, -1)
  |some (a,k)=>((wrL {b with ad:=b.ad.tail,tk:=b.tk.set k true} a (2 ^ x.imm.toNat)).put x.a 2 a,0))
 else if x.op=15 then(if qJ c (b.t.rg.get x.a.toNat)<0\/b.tk.getD (qJ c (b.t.rg.get x.a.toNat)).toNat false=false then(b.go,8) else({b with tk:=b.tk.set (qJ c (b.t.rg.get x.a.toNat)).toNat false}.go,0))
 else if x.op=8 then(b.go,1) else if x.op=9 then(b.go,2) else({b with t:=q1r b.t x},0)
def q4k(c:Cfg)(p:List Ins):Nat->BM->BM×Int
 |0,b=>(b, -1)
 |n+1,b=>match p[b.t.pc]? with
  |none=>(b, -1)
  |some x=>if(q0d c b x).2=0 then q4k c p n (q0d c b x).1 else q0d c b x
def GS.fin(s:GS)(t:Nat)(th:Thr)(l:List ObM):GS:={s with T:=s.T.set t th,O:=s.O.set t (s.O.getD t []++l)}
def GS.ev(s:GS)(l:List EvM):GS:={s with E:=s.E++l}
def GS.mem(s:GS)(d:jd)(tk:List Bool):GS:={s with d:=d,tk:=tk}
def txM(c:Cfg)(p:List Ins)(s:GS)(th:Thr)(t:Nat)(f:Int)(ad:jd):Option GS:=
 if f≠0 then(if(3<=f/\f<=6)/\ad= [] then some (s.fin t ⟨q0B p th.pc+1,th.rg,f,decide (q0B p th.pc+1=p.length)⟩ [⟨th.pc,3,f⟩]) else none)
 else match q4k c p p.length ⟨s.d,s.tk,{th with pc:=th.pc+1},[],[],[],ad⟩ with
  |(b,o)=>if o= -1\/b.ad≠ [] then none
   else if o=1 then some (((s.mem b.d b.tk).ev [⟨s.n,t,3,0,[],[]⟩,⟨s.n,t,4,0,b.r,b.w⟩]).fin t ⟨q0B p th.pc+1,b.t.rg,1,decide (q0B p th.pc+1=p.length)⟩ (b.o++ [⟨th.pc,3,1⟩]))
   else some ((s.ev [⟨s.n,t,3,0,[],[]⟩,⟨s.n,t,4,0,b.r,[]⟩]).fin t ⟨q0B p th.pc+1,th.rg,o,decide (q0B p th.pc+1=p.length)⟩ [⟨th.pc,3,o⟩])
def plE(c:Cfg)(n t:Nat)(k a:Int):List EvM:=
 if c.strong then [⟨n,t,3,0,[],[]⟩,⟨n,t,4,0,if k=1 then [a] else [],if k=1 then [] else [a]⟩] else [⟨n,t,k,a,[],[]⟩]
def Thr.nxt(th:Thr)(len:Nat)(r:Rg):Thr:=⟨th.pc+1,r,th.oc,decide (th.pc+1=len)⟩
def sgM(c:Cfg)(p:List Ins)(s:GS)(th:Thr)(t:Nat)(f:Int)(x:Ins):Option GS:=
 if x.op=12\/x.op=13 then
  (match adr th.rg (if x.op=12 then x.b else x.a) x.imm with
  |a=>if f≠0 then(if f=6/\c.strong=true/\x.op=13/\a<c.words then some (s.fin t (th.nxt p.length th.rg) [⟨th.pc,7,6⟩]) else none)
   else if c.words<=a then some (s.fin t (th.nxt p.length (if x.op=12 then th.rg.set x.a.toNat 0 else th.rg)) [⟨th.pc,7,7⟩])
   else if x.op=12 then some ((s.ev (plE c s.n t 1 a)).fin t (th.nxt p.length (th.rg.set x.a.toNat (s.d.getD a.toNat 0))) [⟨th.pc,4,s.d.getD a.toNat 0⟩])
   else some (((s.mem (s.d.set a.toNat (th.rg.get x.b.toNat)) s.tk).ev (plE c s.n t 2 a)).fin t (th.nxt p.length th.rg) [⟨th.pc,5,th.rg.get x.b.toNat⟩]))
 else if f≠0 then none
 else some (s.fin t {q1r th x with dn:=decide ((q1r th x).pc=p.length)} (if x.op=16 then [⟨th.pc,6,0⟩] else []))
def chM(c:Cfg)(ps:List (List Ins))(s:GS)(ch:ChM):Option GS:=
 if ch.t<0 then none else match s.T[ch.t.toNat]?,ps[ch.t.toNat]? with
 |some th,some p=>if th.dn then none else match p[th.pc]? with
  |some x=>if x.op=7 then txM c p s th ch.t.toNat ch.f ch.ad else if ch.ad= [] then sgM c p s th ch.t.toNat ch.f x else none
  |none=>none
 |_,_=>none
def doM(c:Cfg)(ps:List (List Ins))(s:GS)(ch:ChM):Int×GS:=
 match chM c ps s ch with
 |some s'=>(0,{s' with n:=s.n+1})
 |none=>(70,s)
def q4j(c:Cfg)(b:jd)(ps:List (List Ins)):GS:=
 ⟨b,List.replicate (qh c).toNat false,ps.map fun p=>⟨0,⟨0,0,0,0,0,0,0,0⟩,0,decide (p.length=0)⟩,[],ps.map fun _=> [],0⟩
structure MS where
 d:jd
 o:jd
 ck:Int
 tk:Int
 sv:Int
 sl:jd
 hd:jd
 nx:jd
abbrev MS.L(m:MS):List (jd):= [m.d,m.o,[m.ck],[m.tk],[m.sv],m.sl,m.hd,m.nx]
structure AcM where
 k:Int
 c:Int
 i:Int
 got:Int
 put:Int
 dn:Bool
abbrev AcM.enc(a:AcM):je:= [j4 a.k,j4 a.c,j4 a.i,j5 a.got,j5 a.put, .bool a.dn]
abbrev AcM.v(a:AcM):Value:= .agg #[j4 a.k,j4 a.c,j4 a.i,j5 a.got,j5 a.put, .bool a.dn]
def acz:AcM:=⟨0,0,0,0,0,false⟩
def acL(c i v:Int):AcM:=⟨1,c,i,v,v,true⟩
def acS(c i old v:Int):AcM:=⟨2,c,i,old,v,true⟩
def acW(c i old v:Int)(ok:Bool):AcM:=⟨3,c,i,old,if ok then v else old,ok⟩
def acA(c i old v:Int):AcM:=⟨4,c,i,old,qV (old+v),true⟩
structure StM where
 t:Int
 ph:Int
 at':Int
 ac:AcM
abbrev StM.enc(s:StM):je:= j4 s.t:: j4 s.ph:: j4 s.at'::s.ac.enc
def q5J(o:Int):Int:=o/64
def q3R(o:Int):Int:=o % 64-1
def q02(h:Int):Int:=h % 65536-1
def q05(h b:Int):Int:=if b< -1\/64<=b then 0 else(h/65536+1) % 281474976710656*65536+(b+1)
inductive Ko
 |en (code:Int)
 |tk (v:Int)
 |wr (a v:Int)
 |ud (code:Int)
 |fd (b v:Int)
inductive AP
 |idle
 |loc (k:Ko)
 |ent (n:Nat)
 |rd (n:Nat) (bf vl:Int)
 |pp (n:Nat) (k hd nx:Int)
 |lk (seen:Int) (ld:Bool)
 |tn (tk:Bool)
 |ck (l:jd)
 |dc
 |wr (a v:jd)
 |rl (o w:jd)
 |sp
 |ps
 |ph (n:Nat) (b hd:Int)
 |lv
structure AT where
 st:Int
 code:Int
 rv:Int
 set:jd
 ad:jd
 vl:jd
 seen:jd
 addr:Int
 val:Int
 oc:jd
 old:jd
 ck:Int
 dn:Bool
 tk:Int
 ph:AP
 al:jd
 fr:jd
 pu:Nat
 us:Int
def AT.new:AT:=⟨0,0,0,[],[],[],[],0,0,[],[],0,false,0, .idle,[],[],0, -1⟩
def AT.sto(x:AT):Bool:=decide (x.code=1/\x.ad≠ [])
def AT.ver(x:AT):Int:=if x.dn=true/\x.sto=true then x.ck+1 else-1
def q8l(l:jd):jd:=Go.Lib.compact (l.mergeSort fun x y=>decide (x<=y))
def AT.endA(c:Cfg)(x:AT)(code:Int):AT:=
 if code=1/\x.ad≠ [] then{x with code:=code,oc:=q8l (x.ad.map (qC c)),old:= [],ph:= .lk 0 false} else{x with code:=code,ph:= .tn false}
def AT.fin(x:AT):AT:=if x.code=1\/x.pu=x.al.length then{x with ph:= .lv} else{x with ph:= .ph 0 (x.al.getD x.pu 0) 0}
def AT.undo(x:AT)(code:Int):AT:={x with code:=code}.fin
def q2Q(cap:Int)(ad vl:jd)(a v:Int):Option (jd×jd):=match ad.idxOf? a with
 |some n=>some (ad,vl.set n v)
 |none=>if(ad.length:Int)=cap then none else some (ad++ [a],vl++ [v])
def q14(ad vl:jd)(a:Int):Option Int:=match ad.idxOf? a with
 |some n=>vl[n]?
 |none=>none
def q1J(cap:Int):Nat->Int->jd×jd->(jd×jd)×Bool
 |0,_,l=>(l,true)
 |n+1,a,l=>match q2Q cap l.1 l.2 a 0 with
  |some l'=>q1J cap n (a+1) l'
  |none=>(l,false)
def AT.allo(c:Cfg)(x:AT)(k b:Int):AT:=
 if b<0 then x.undo 4 else match q2Q c.writes x.ad x.vl (c.words+b) (k+1) with
  |none=>{x with al:=x.al++ [b]}.undo 3
  |some l=>if(q1J c.writes (2 ^ k.toNat) (qs c b) l).2 then{x with al:=x.al++ [b],ad:=(q1J c.writes (2 ^ k.toNat) (qs c b) l).1.1,vl:=(q1J c.writes (2 ^ k.toNat) (qs c b) l).1.2,val:=qs c b}
   else{x with al:=x.al++ [b],ad:=(q1J c.writes (2 ^ k.toNat) (qs c b) l).1.1,vl:=(q1J c.writes (2 ^ k.toNat) (qs c b) l).1.2}.undo 3
def AT.frd(c:Cfg)(x:AT)(b v:Int):AT:=
 if v≠ql c b+1 then x.endA c 8 else if c.frees<=(x.fr.length:Int) then x.undo 3 else match q2Q c.writes x.ad x.vl (c.words+b) 0 with
  |some l=>{x with ad:=l.1,vl:=l.2,fr:=x.fr++ [b]}
  |none=>x.undo 3
def AT.kont(c:Cfg)(x:AT):Ko->AT
 | .en code=>x.endA c code
 | .tk v=>{x with val:=v}
 | .wr a v=>if c.words<=a then x.endA c 7 else match q2Q c.writes x.ad x.vl a v with
  |some (ad,vl)=>{x with ad:=ad,vl:=vl}
  |none=>x.undo 3
 | .ud code=>x.undo code
 | .fd b v=>x.frd c b v
def AT.read(c:Cfg)(x:AT)(a:Int):AT:=if c.words<=a then{x with ph:= .loc (.en 7)} else match q14 x.ad x.vl a with
 |some v=>{x with ph:= .loc (.tk v)}
 |none=>{x with ph:= .rd 0 0 0,addr:=a,us:= -1}
def AT.alloc(c:Cfg)(x:AT)(k:Int):AT:=if c.allocs<=(x.al.length:Int) then{x with ph:= .loc (.ud 3)} else{x with ph:= .pp 0 k 0 0}
def AT.free(c:Cfg)(x:AT)(a:Int):AT:=if qJ c a<0 then{x with ph:= .loc (.en 8)} else match q14 x.ad x.vl (c.words+qJ c a) with
 |some v=>{x with ph:= .loc (.fd (qJ c a) v)}
 |none=>{x with ph:= .rd 0 0 0,addr:=c.words+qJ c a,us:=qJ c a}
def AT.rest(x:AT):AT:=if x.oc= [] then{x with ph:= .ps} else{x with ph:= .rl x.oc x.old}
def q60(cap:Int)(l:jd)(o:Int):Option (jd):=if o∈l then some l else if(l.length:Int)>=cap then none else some (l++ [o])
def AT.got(c:Cfg)(x:AT)(v:Int):AT:=if x.us<0 then{x with val:=v} else x.frd c x.us v
def AT.saw(c:Cfg)(x:AT):jd:=if x.addr<c.words then q2O x.seen x.addr else x.seen
def q0p(c:Cfg)(m:MS)(n:Nat)(b h:Int):MS×Option (Nat×Int)×AcM×Int:=
 if n=0 then(m,some (1,m.hd.getD (ql c b).toNat 0),acL 7 (ql c b) (m.hd.getD (ql c b).toNat 0),21)
 else if n=1 then({m with nx:=m.nx.set b.toNat (q02 h+1)},some (2,h),acS 8 b (m.nx.getD b.toNat 0) (q02 h+1),22)
 else if m.hd.getD (ql c b).toNat 0=h then({m with hd:=m.hd.set (ql c b).toNat (q05 h b)},none,acW 7 (ql c b) h (q05 h b) true,23)
 else(m,some (0,h),acW 7 (ql c b) (m.hd.getD (ql c b).toNat 0) (q05 h b) false,23)
def qf(c:Cfg)(t:Int)(m:MS)(x:AT):MS×AT×AcM×Int:=
 match x.ph with
 | .idle=>(m,x,acz,0)
 | .loc k=>(m,{x with ph:= .idle}.kont c k,acz,0)
 | .ent n=>if n=0 then({m with sl:=m.sl.set t.toNat 1},{x with ph:= .ent 1},acS 6 t (m.sl.getD t.toNat 0) 1,2)
  else if n=1 then(m,{x with rv:=m.ck,ph:= .ent 2},acL 3 0 m.ck,3)
  else({m with sl:=m.sl.set t.toNat (qV (x.rv+2))},{x with ph:= .idle},acS 6 t (m.sl.getD t.toNat 0) (qV (x.rv+2)),4)
 | .rd n b v=>if n=0 then(match m.o.getD (qC c x.addr).toNat 0 with
   |w=>(m,if q3R w>=0\/q5J w>x.rv then x.undo 9 else{x with ph:= .rd 1 w 0},acL 2 (qC c x.addr) w,5))
  else if n=1 then(match m.d.getD x.addr.toNat 0 with
   |v=>(m,{x with ph:= .rd 2 b v},acL 1 x.addr v,6))
  else match m.o.getD (qC c x.addr).toNat 0 with
   |w=>(m,if w≠b then x.undo 9 else match q60 c.reads x.set (qC c x.addr) with
    |none=>{x with seen:=x.saw c}.undo 3
    |some s=>AT.got c {x with seen:=x.saw c,set:=s,ph:= .idle} v,acL 2 (qC c x.addr) w,7)
 | .pp n k h nx=>if n=0 then(match m.hd.getD k.toNat 0 with
   |w=>(m,if q02 w<0 then{x with ph:= .idle}.allo c k (-1) else{x with ph:= .pp 1 k w nx},acL 7 k w,8))
  else if n=1 then(match m.nx.getD (q02 h).toNat 0 with
   |v=>(m,{x with ph:= .pp 2 k h v},acL 8 (q02 h) v,9))
  else match m.hd.getD k.toNat 0 with
   |w=>if w=h then({m with hd:=m.hd.set k.toNat (q05 h (nx-1))},{x with ph:= .idle}.allo c k (q02 h),acW 7 k w (q05 h (nx-1)) true,10)
    else(m,{x with ph:= .pp 0 k h nx},acW 7 k w (q05 h (nx-1)) false,10)
 | .lk s ld=>match x.oc.getD x.old.length 0 with
  |o=>match m.o.getD o.toNat 0 with
   |w=>if ld=false then(m,{x with ph:= .lk w (decide (q3R w<0))},acL 2 o w,11)
    else if w=s then({m with o:=m.o.set o.toNat (qV (s+t+1))},{x with old:=x.old++ [s],ph:=if x.old.length+1=x.oc.length then .tn false else .lk s false},acW 2 o w (qV (s+t+1)) true,12)
    else(m,{x with ph:= .lk s false},acW 2 o w (qV (s+t+1)) false,12)
 | .tn b=>if b=false then({m with tk:=qV (m.tk+1)},{x with tk:=m.tk,ph:= .tn true},acA 4 0 m.tk 1,13) else(m,if m.sv=x.tk then(if x.set= [] then{x with ph:= .dc} else{x with ph:= .ck x.set}) else x,acL 5 0 m.sv,14)
 | .ck l=>match l.headD 0 with
  |o=>match m.o.getD o.toNat 0 with
   |w=>(m,if q5J w>x.rv then{x with code:=9}.rest else if l.tail= [] then{x with ph:= .dc} else{x with ph:= .ck l.tail},acL 2 o w,15)
 | .dc=>(m,if x.sto/\m.ck>=c.clock then{x with ck:=m.ck,code:=6}.rest else if x.sto then{x with ck:=m.ck,dn:=true,ph:= .wr x.ad x.vl} else{x with ck:=m.ck,dn:=true}.rest,acL 3 0 m.ck,16)
 | .wr a v=>({m with d:=m.d.set (a.headD 0).toNat (v.headD 0)},if a.tail= [] then{x with ph:= .rl x.oc (x.oc.map fun _=>(x.ck+1)*64)} else{x with ph:= .wr a.tail v.tail},acS 1 (a.headD 0) (m.d.getD (a.headD 0).toNat 0) (v.headD 0),17)
 | .rl o w=>({m with o:=m.o.set (o.headD 0).toNat (w.headD 0)},if o.tail= [] then{x with ph:=if x.dn/\x.sto then .sp else .ps} else{x with ph:= .rl o.tail w.tail},acS 2 (o.headD 0) (m.o.getD (o.headD 0).toNat 0) (w.headD 0),18)
 | .sp=>({m with ck:=qV (x.ck+1)},{x with ph:= .ps},acS 3 0 m.ck (qV (x.ck+1)),19)
 | .ps=>({m with sv:=qV (x.tk+1)},x.fin,acS 5 0 m.sv (qV (x.tk+1)),20)
 | .ph n b h=>match q0p c m n b h with
  |(m',some z,ac,p)=>(m',{x with ph:= .ph z.1 b z.2},ac,p)
  |(m',none,ac,p)=>(m',{x with pu:=x.pu+1}.fin,ac,p)
 | .lv=>({m with sl:=m.sl.set t.toNat 0},{x with ph:= .idle,st:=2},acS 6 t (m.sl.getD t.toNat 0) 0,24)
section
variable{c:Cfg}{t:Int}{m:MS}{x:AT}
theorem q9u{b v:Int}(h:x.ph= .rd 0 b v):qf c t m x=(m,if q3R (m.o.getD (qC c x.addr).toNat 0)>=0\/q5J (m.o.getD (qC c x.addr).toNat 0)>x.rv then x.undo 9 else{x with ph:= .rd 1 (m.o.getD (qC c x.addr).toNat 0) 0},acL 2 (qC c x.addr) (m.o.getD (qC c x.addr).toNat 0),5):=by unfold qf;simp only[h];try rfl
theorem qkw{b v:Int}(h:x.ph= .rd 2 b v):qf c t m x=(m,if m.o.getD (qC c x.addr).toNat 0≠b then x.undo 9 else match q60 c.reads x.set (qC c x.addr) with
   |none=>{x with seen:=x.saw c}.undo 3
   |some s=>AT.got c {x with seen:=x.saw c,set:=s,ph:= .idle} v,acL 2 (qC c x.addr) (m.o.getD (qC c x.addr).toNat 0),7):=by unfold qf;simp only[h];try rfl
theorem q34{s:Int}{ld:Bool}(h:x.ph= .lk s ld):qf c t m x=(if ld=false then(m,{x with ph:= .lk (m.o.getD (x.oc.getD x.old.length 0).toNat 0) (decide (q3R (m.o.getD (x.oc.getD x.old.length 0).toNat 0)<0))},acL 2 (x.oc.getD x.old.length 0) (m.o.getD (x.oc.getD x.old.length 0).toNat 0),11)
    else if m.o.getD (x.oc.getD x.old.length 0).toNat 0=s then({m with o:=m.o.set (x.oc.getD x.old.length 0).toNat (qV (s+t+1))},{x with old:=x.old++ [s],ph:=if x.old.length+1=x.oc.length then .tn false else .lk s false},acW 2 (x.oc.getD x.old.length 0) (m.o.getD (x.oc.getD x.old.length 0).toNat 0) (qV (s+t+1)) true,12)
    else(m,{x with ph:= .lk s false},acW 2 (x.oc.getD x.old.length 0) (m.o.getD (x.oc.getD x.old.length 0).toNat 0) (qV (s+t+1)) false,12)):=by unfold qf;simp only[h];try rfl
theorem q3h(h:x.ph= .tn false):qf c t m x=({m with tk:=qV (m.tk+1)},{x with tk:=m.tk,ph:= .tn true},acA 4 0 m.tk 1,13):=by unfold qf;simp only[h];try rfl
theorem q3i(h:x.ph= .tn true):qf c t m x=(m,if m.sv=x.tk then(if x.set= [] then{x with ph:= .dc} else{x with ph:= .ck x.set}) else x,acL 5 0 m.sv,14):=by unfold qf;simp only[h];try rfl
theorem q6t{l:jd}(h:x.ph= .ck l):qf c t m x=(m,if q5J (m.o.getD (l.headD 0).toNat 0)>x.rv then{x with code:=9}.rest else if l.tail= [] then{x with ph:= .dc} else{x with ph:= .ck l.tail},acL 2 (l.headD 0) (m.o.getD (l.headD 0).toNat 0),15):=by unfold qf;simp only[h];try rfl
theorem q33(h:x.ph= .dc):qf c t m x=(m,if x.sto/\m.ck>=c.clock then{x with ck:=m.ck,code:=6}.rest else if x.sto then{x with ck:=m.ck,dn:=true,ph:= .wr x.ad x.vl} else{x with ck:=m.ck,dn:=true}.rest,acL 3 0 m.ck,16):=by unfold qf;simp only[h];try rfl
end
structure FT where
 ld:Bool
 lim:Int
 nx:Nat
 dr:Option (jd×Nat×Int)
structure GT where
 th:Thr
 at':Option AT
 bg:Nat
 sv:Rg
 tr:Nat
 seen:List ObM
 fn:Option FT
 obs:List ObM
 ct:Nat
 stg:Bool
 ask:Nat
 lm:List (Int×Int)
def GT.to(x:GT)(n pc:Nat):GT:={x with th:={x.th with pc:=pc,dn:=decide (pc=n)}}
def AT.busy(a:AT):Bool:=match a.ph with
 | .idle=>false
 |_=>true
def GT.endG(p:List Ins)(x:GT)(a:AT):GT:=
 let d:GT:=if a.code=1 then{x with at':=none,obs:=x.obs++x.seen,lm:=x.lm++a.fr.map fun b=>(b,a.ver)} else{x with at':=none,th:={x.th with rg:=x.sv}}
 if a.code=9/\(x.tr:Int)<((p[x.bg]?).map (·.imm)).getD 0 then d.to p.length x.bg
 else({d with tr:=0,th:={d.th with oc:=if a.code=9 then 5 else a.code},obs:=d.obs++ [⟨x.bg,3,if a.code=9 then 5 else a.code⟩]}:GT).to p.length (q0B p x.bg+1)
def GT.accG(p:List Ins)(x:GT)(i:Ins)(v:Int):GT:=
 if i.op=12 then({x with th:={x.th with rg:=x.th.rg.set i.a.toNat v},obs:=x.obs++ [⟨x.th.pc,4,v⟩]}:GT).to p.length (x.th.pc+1)
 else({x with obs:=x.obs++ [⟨x.th.pc,5,v⟩]}:GT).to p.length (x.th.pc+1)
def GT.endS(p:List Ins)(x:GT)(a:AT)(i:Ins):GT:=
 if a.code=1 then GT.accG p {x with at':=none,stg:=false} i (if i.op=13 then x.th.rg.get i.b.toNat else a.val)
 else if a.code=6 then({x with at':=none,stg:=false,obs:=x.obs++ [⟨x.th.pc,7,6⟩]}:GT).to p.length (x.th.pc+1) else{x with at':=none,stg:=false}
def GT.ans(p:List Ins)(x:GT)(a:AT)(i:Ins):GT:=
 if a.st=2 then(if x.stg then x.endS p a i else x.endG p a)
 else if x.stg then{x with at':=some a}
 else if i.op=10\/i.op=14 then({x with at':=some a,th:={x.th with rg:=x.th.rg.set i.a.toNat a.val},seen:=x.seen++ [⟨x.th.pc,if i.op=10 then 1 else 2,a.val⟩]}:GT).to p.length (x.th.pc+1)
 else({x with at':=some a}:GT).to p.length (x.th.pc+1)
section
variable{p:List Ins}{x:GT}{a:AT}{i:Ins}
theorem qnv(h:a.st=2)(b:x.stg=false):x.ans p a i=x.endG p a:=by unfold GT.ans;rw[if_pos h,b,if_neg Yc]
theorem qnw(h:a.st=2)(b:x.stg=true):x.ans p a i=x.endS p a i:=by unfold GT.ans;rw[if_pos h,b,if_pos rfl]
theorem qiy(h:a.st≠2)(b:x.stg=true):x.ans p a i={x with at':=some a}:=by unfold GT.ans;rw[if_neg h,b,if_pos rfl]
theorem qfj(h:a.st≠2)(b:x.stg=false)(h1:i.op≠10)(h2:i.op≠14):x.ans p a i=({x with at':=some a}:GT).to p.length (x.th.pc+1):=by unfold GT.ans;rw[if_neg h,if_neg (by rw[b];decide),if_neg Yb]
theorem qix(h:a.st≠2)(d:x.stg=false)(b:i.op=10):x.ans p a i=({x with at':=some a,th:={x.th with rg:=x.th.rg.set i.a.toNat a.val},seen:=x.seen++ [⟨x.th.pc,1,a.val⟩]}:GT).to p.length (x.th.pc+1):=by unfold GT.ans;rw[if_neg h,if_neg (by rw[d];decide),if_pos (.inl b),if_pos b]
theorem ql7(h:a.st≠2)(d:x.stg=false)(b:i.op=14):x.ans p a i=({x with at':=some a,th:={x.th with rg:=x.th.rg.set i.a.toNat a.val},seen:=x.seen++ [⟨x.th.pc,2,a.val⟩]}:GT).to p.length (x.th.pc+1):=by unfold GT.ans;rw[if_neg h,if_neg (by rw[d];decide),if_pos (.inr b),if_neg Yb]
theorem qiQ(h:a.code=1):x.endG p a=({x with at':=none,obs:=x.obs++x.seen++ [⟨x.bg,3,1⟩],tr:=0,th:={x.th with oc:=1},lm:=x.lm++a.fr.map fun b=>(b,a.ver)}:GT).to p.length (q0B p x.bg+1):=by
 unfold GT.endG;rw[if_pos h,if_neg (fun d=>absurd (h.symm.trans d.1) Yc),if_neg (fun d=>absurd (h.symm.trans d) Yc),h]
theorem qiR(h:a.code=9)(d:(x.tr:Int)<((p[x.bg]?).map (·.imm)).getD 0):x.endG p a=({x with at':=none,th:={x.th with rg:=x.sv}}:GT).to p.length x.bg:=by
 unfold GT.endG;rw[if_neg (fun b=>absurd (h.symm.trans b) Yc),if_pos ⟨h,d⟩]
theorem qlr(h:a.code=9)(d:¬(x.tr:Int)<((p[x.bg]?).map (·.imm)).getD 0):x.endG p a=({x with at':=none,th:={x.th with rg:=x.sv,oc:=5},tr:=0,obs:=x.obs++ [⟨x.bg,3,5⟩]}:GT).to p.length (q0B p x.bg+1):=by
 unfold GT.endG;rw[if_neg (fun b=>absurd (h.symm.trans b) Yc),if_neg (fun b=>d b.2),if_pos h]
theorem qhE(d:a.code≠1)(b:a.code≠9):x.endG p a=({x with at':=none,th:={x.th with rg:=x.sv,oc:=a.code},tr:=0,obs:=x.obs++ [⟨x.bg,3,a.code⟩]}:GT).to p.length (q0B p x.bg+1):=by
 unfold GT.endG;rw[if_neg d,if_neg (fun h=>b h.1),if_neg b]
end
def evA(c:Cfg)(t:Int)(a:AT)(ph:Int):List EvM:=
 if ph=3 then [⟨0,t,3,0,[],[]⟩] else if ph=16/\a.dn=true then [⟨0,t,4,0,a.seen,if a.code=1 then a.ad.filter fun x=>decide (x<c.words) else []⟩] else []
def q0A(c:Cfg)(p:List Ins)(t:Int)(m:MS)(x:GT)(a:AT)(i:Ins):MS×GT×StM×List EvM:=
 match qf c t m a with
 |(m',b,ac,ph)=>(m',if b.busy then{x with at':=some b} else x.ans p b i,⟨t,ph,x.ct,ac⟩,evA c t b ph)
def q11(c:Cfg)(r:Rg)(a:AT)(i:Ins):AT:=
 if i.op=10 then a.read c (adr r i.b i.imm) else if i.op=11 then{a with ph:= .loc (.wr (adr r i.a i.imm) (r.get i.b.toNat))}
 else if i.op=14 then a.alloc c i.imm else if i.op=15 then a.free c (r.get i.a.toNat)
 else if i.op=8 then{a with ph:= .loc (.en 1)} else{a with ph:= .loc (.en 2)}
def q1m(c:Cfg)(p:List Ins)(t:Int)(m:MS)(x:GT)(i:Ins):MS×GT×StM×List EvM:=
 if i.op=7 then q0A c p t m {x with bg:=x.th.pc,sv:=x.th.rg,tr:=x.tr+1,seen:= [],ct:=x.ct+1} {AT.new with st:=1,ph:= .ent 0} i
 else if(8<=i.op/\i.op<=11)\/i.op=14\/i.op=15 then(match x.at' with
  |some a=>q0A c p t m x (q11 c x.th.rg a i) i
  |none=>(m,x,⟨t,0,0,acz⟩,[]))
 else(m,{x with th:={q1r x.th i with dn:=decide ((q1r x.th i).pc=p.length)}},⟨t,0,if x.at'.isSome then x.ct else 0,acz⟩,[])
def q9g(t:Int)(k:Nat):Nat:=if(k:Int)=t then k+1 else k
def qdv(lim s:Int):Bool:=if s=0 then true else if s=1 then false else decide (lim<=qV (s-2))
def q1c(t:Int)(m:MS)(f:FT):FT×AcM×Int:=
 if f.ld=false then(⟨true,m.ck,q9g t 0,none⟩,acL 3 0 m.ck,25)
 else(if qdv f.lim (m.sl.getD f.nx 0) then{f with nx:=q9g t (f.nx+1)} else f,acL 6 f.nx (m.sl.getD f.nx 0),26)
def GT.fenD(p:List Ins)(x:GT):GT:=({x with fn:=none,obs:=x.obs++ [⟨x.th.pc,6,0⟩]}:GT).to p.length (x.th.pc+1)
def lmL(lim:Int)(l:List (Int×Int)):jd:=(l.filter fun q=>decide (q.2<=lim)).map (·.1)
def lmR(lim:Int)(l:List (Int×Int)):List (Int×Int):=l.filter fun q=>decide (lim<q.2)
def GT.lmX(x:GT)(lim:Int):GT:={x with lm:=lmR lim x.lm}
def qM(c:Cfg)(n:Nat)(p:List Ins)(t:Int)(m:MS)(x:GT)(f:FT):MS×GT×StM×List EvM:=
 match f.dr with
 |none=>(m,if n<=(q1c t m f).1.nx then(if lmL (q1c t m f).1.lim x.lm= [] then(x.lmX (q1c t m f).1.lim).fenD p else{x.lmX (q1c t m f).1.lim with fn:=some {(q1c t m f).1 with dr:=some (lmL (q1c t m f).1.lim x.lm,0,0)}})
   else{x with fn:=some (q1c t m f).1},⟨t,(q1c t m f).2.2,0,(q1c t m f).2.1⟩,[])
 |some (l,k,h)=>match q0p c m k (l.headD 0) h with
  |(m',some z,ac,ph)=>(m',{x with fn:=some {f with dr:=some (l,z.1,z.2)}},⟨t,ph,0,ac⟩,[])
  |(m',none,ac,ph)=>(m',if l.tail= [] then x.fenD p else{x with fn:=some {f with dr:=some (l.tail,0,0)}},⟨t,ph,0,ac⟩,[])
def q1D(x:GT)(i:Ins):Int:=adr x.th.rg (if i.op=12 then i.b else i.a) i.imm
def q0c(c:Cfg)(p:List Ins)(t:Int)(m:MS)(x:GT)(i:Ins):MS×GT×StM×List EvM:=
 if c.words<=q1D x i then(m,({x with th:={x.th with rg:=if i.op=12 then x.th.rg.set i.a.toNat 0 else x.th.rg},obs:=x.obs++ [⟨x.th.pc,7,7⟩]}:GT).to p.length (x.th.pc+1),⟨t,0,0,acz⟩,[])
 else q0A c p t m {x with seen:= [],ct:=x.ct+1,stg:=true,ask:=0} {AT.new with st:=1,ph:= .ent 0} i
def q1i(c:Cfg)(x:GT)(a:AT)(i:Ins):AT:=
 if 1<=x.ask then{a with ph:= .loc (.en 1)} else if i.op=12 then a.read c (q1D x i) else{a with ph:= .loc (.wr (q1D x i) (x.th.rg.get i.b.toNat))}
def q2l(c:Cfg)(p:List Ins)(n:Nat)(t:Int)(m:MS)(x:GT)(i:Ins):MS×GT×StM×List EvM:=
 if i.op=12\/i.op=13 then q0c c p t m x i else if i.op=16 then qM c n p t m x ⟨false,0,0,none⟩ else q1m c p t m x i
def qY(c:Cfg)(p:List Ins)(n:Nat)(t:Int)(m:MS)(x:GT):MS×GT×StM×List EvM:=
 match p[x.th.pc]? with
 |none=>(m,x,⟨t,0,0,acz⟩,[])
 |some i=>match x.fn with
  |some f=>qM c n p t m x f
  |none=>match x.at' with
   |some a=>if a.busy then q0A c p t m x a i else if x.stg then q0A c p t m {x with ask:=x.ask+1} (q1i c x a i) i else q2l c p n t m x i
   |none=>q2l c p n t m x i
def GT.rest(x:GT):Bool:=x.at'.isNone&&x.fn.isNone&&decide (x.tr=0)
def GT.dec(x:GT):Bool:=match x.at' with
 |some a=>a.dn
 |none=>false
def GT.cod(x:GT):Int:=match x.at' with
 |some a=>a.code
 |none=>0
def chN(c:Cfg)(x x':GT)(s:StM):List ChM:=
 if s.ph=16 then(match x'.at' with
  |some a=>if a.dn then [⟨s.t,0,a.al.map (qs c)⟩] else []
  |none=> [])
 else if s.ph=24 then(if x.dec=true\/x'.rest=false\/(x.stg=true/\x.cod≠6) then [] else [⟨s.t,if x.stg then 6 else x'.th.oc,[]⟩])
 else if s.at'≠0\/x'.rest=false then [] else [⟨s.t,0,[]⟩]
def GT.stor(x:GT):Bool:=match x.at' with
 |some a=>a.dn&&a.sto&&(match a.ph with
  | .wr _ _=>true
  | .rl _ _=>true
  | .sp=>true
  |_=>false)
 |none=>false
def qnf(k:Nat)(e:EvM):EvM:={e with ev:=(k:Int)}
structure RM where
 m:MS
 xs:List GT
 S:List StM
 E:List EvM
def q1j(c:Cfg)(ps:List (List Ins))(n:Nat)(r:RM)(t:Nat):RM:=
 match r.xs[t]?,ps[t]? with
 |some x,some p=>if x.th.dn then r else⟨(qY c p n t r.m x).1,r.xs.set t (qY c p n t r.m x).2.1,r.S++ [(qY c p n t r.m x).2.2.1],r.E++(qY c p n t r.m x).2.2.2.map (qnf r.S.length)⟩
 |_,_=>r
def qg7(c:Cfg)(ps:List (List Ins))(n:Nat)(r:RM)(l:jh):RM:=l.foldl (q1j c ps n) r
theorem q5i{c:Cfg}{ps:List (List Ins)}{n:Nat}{r:RM}{l:jh}{t:Nat}:qg7 c ps n r (l++ [t])=q1j c ps n (qg7 c ps n r l) t:=List.foldl_append ..
def goM(r:RM)(t:Nat):Bool:=match r.xs[t]? with
 |some x=> !x.th.dn
 |none=>false
def chR(c:Cfg)(ps:List (List Ins))(n:Nat)(r:RM)(t:Nat):List ChM:=
 match r.xs[t]?,ps[t]? with
 |some x,some p=>if x.th.dn then [] else chN c x (qY c p n t r.m x).2.1 (qY c p n t r.m x).2.2.1
 |_,_=> []
def q5Q(c:Cfg)(ps:List (List Ins))(n:Nat):RM->jh->List ChM
 |_,[]=> []
 |r,t::l=>chR c ps n r t++q5Q c ps n (q1j c ps n r t) l
theorem q9T{c:Cfg}{ps:List (List Ins)}{n:Nat}:∀(l:jh) (r:RM) (l2:jh),q5Q c ps n r (l++l2)=q5Q c ps n r l++q5Q c ps n (qg7 c ps n r l) l2
 | [],_,_=>rfl
 |t::l,r,l2=>by
  rw[zk,q5Q,q5Q,q9T l,zd];rfl
theorem q7s{c:Cfg}{ps:List (List Ins)}{n:Nat}{r:RM}{l:jh}{t:Nat}:q5Q c ps n r (l++ [t])=q5Q c ps n r l++chR c ps n (qg7 c ps n r l) t:=by
 rw[q9T];show _++(chR c ps n _ t++ [])=_;rw[zC]
def q3f(p:List Ins):GT:=⟨⟨0,⟨0,0,0,0,0,0,0,0⟩,0,decide (0=p.length)⟩,none,0,⟨0,0,0,0,0,0,0,0⟩,0,[],none,[],0,false,0,[]⟩
def hdC(n f:Int):Int:=if n=0 then 0 else f+1
def nxC(n f:Int):jd:=(List.range n.toNat).map fun j:Nat=>if(j:Int)+1<n then f+j+2 else 0
def hd0(c:Cfg):jd:= [hdC c.c0 0,hdC c.c1 c.c0,hdC c.c2 (c.c0+c.c1),hdC c.c3 (c.c0+c.c1+c.c2)]
def nx0(c:Cfg):jd:=nxC c.c0 0++(nxC c.c1 c.c0++(nxC c.c2 (c.c0+c.c1)++nxC c.c3 (c.c0+c.c1+c.c2)))
def ms0(c:Cfg)(il:jd)(O n:Nat):MS:=⟨il++List.replicate (qh c).toNat 0,List.replicate O 0,0,0,0,List.replicate n 0,hd0 c,nx0 c⟩
abbrev q0Y(c:Cfg)(il:jd)(O:Nat)(ps:List (List Ins))(l:jh):RM:=qg7 c ps ps.length ⟨ms0 c il O ps.length,ps.map q3f,[],[]⟩ l
open Go Go.RowKit
section
variable{W0:World}{own:Own}{a:j8}{cap:Nat}{p:List Ins}
theorem qkg(f:RdE Ins.enc 5 W0 own a p)(hl:p.length<=1099511627776)(t:Nat):
  jl W0 132 [.slice a p.length cap,j4 t] own (.tuple #[j4 (qeK p t).1,j4 (qeK p t).2]):=by
 refine qi (sH [] ?_);unfold qeK;generalize h:q0V p.length t p 0 (-1)=res;refine q1C (σ:=Nat×Int) (fun s=> [(7,j4 s.1),(6,j4 s.2)]) (fun s=>s.1<=p.length/\(s.2= -1\/(0<=s.2/\s.2<s.1))/\q0V p.length t (p.drop s.1) s.1 s.2=res) (fun s=>p.length-s.1) (0, -1) ⟨Yd,Yd,h⟩ (eF) rfl ?_;rintro⟨k,b⟩ junk ⟨v,hb,d⟩;simp only[] at v hb d
 by_cases n:k<p.length
 ·obtain⟨x,e⟩:∃x,p[k]? =some x:=⟨_,z6 n⟩
  rw[q0N e,q0V] at d
  by_cases q:b<0/\x.op=7
  ·rw[if_pos q] at d
   repeat'((try conv=>whnf);first|refine fH ?_|refine fF ?_|refine fJ ?_|apply gLd;refine q0n f e rfl ?_|(apply qL;first|refine ixE f e ?_ ?_;(first|rfl|omega))|refine fB ?_)
   all_goals exact⟨(k+1,(k:Int)),⟨by simp;omega,by simp;omega,d⟩,by simp;omega,(eF),(eC)⟩
  ·rw[if_neg q] at d
   by_cases r:0<=b/\x.op=8
   ·rw[if_pos r] at d
    by_cases g:b<=t/\t<=k
    ·rw[if_pos g] at d
     repeat'((try conv=>whnf);first|refine fH ?_|refine fI ?_|refine fD ?_|refine fF ?_|refine fJ ?_|refine fK ?_|apply gLd;refine q0n f e rfl ?_|(apply qL;first|refine ixE f e ?_ ?_;(first|rfl|omega)))
     all_goals(rw[<-d];exact⟨rfl,(eC)⟩)
    ·rw[if_neg g] at d
     repeat'((try conv=>whnf);first|refine fH ?_|refine fI ?_|refine fD ?_|refine fF ?_|refine fG ?_|refine fJ ?_|refine fK ?_|apply gLd;refine q0n f e rfl ?_|(apply qL;first|refine ixE f e ?_ ?_;(first|rfl|omega))|refine fB ?_|apply q0W;exact rfl;exact rfl;all_goals intro u)
     all_goals exact⟨(k+1, -1),⟨by simp;omega,Yd,d⟩,by simp;omega,(eF),(eC)⟩
   ·rw[if_neg r] at d
    repeat'((try conv=>whnf);first|refine fH ?_|refine fI ?_|refine fD ?_|refine fF ?_|refine fG ?_|refine fJ ?_|refine fK ?_|apply gLd;refine q0n f e rfl ?_|(apply qL;first|refine ixE f e ?_ ?_;(first|rfl|omega))|refine fB ?_|apply q0W;exact rfl;exact rfl;all_goals intro u)
    all_goals exact⟨(k+1,b),⟨by simp;omega,by simp;omega,d⟩,by simp;omega,(eF),(eC)⟩
 ·have j:k=p.length:=Yb;subst j;rw[Zw,q0V] at d
  by_cases o:0<=b/\b<=t/\t<p.length
  ·rw[if_pos o] at d
   repeat'((try conv=>whnf);first|refine fH ?_|refine fF ?_|refine fG ?_|refine fJ ?_)
   all_goals(rw[<-d];exact⟨rfl,(eC)⟩)
  ·rw[if_neg o] at d
   repeat'((try conv=>whnf);first|refine fH ?_|refine fI ?_|refine fD ?_|refine fG ?_|apply q0W;exact rfl;exact rfl;all_goals intro u)
   all_goals(rw[<-d];exact⟨rfl,(eC)⟩)
theorem qbI(g:RdE Ins.enc 5 W0 own a p)(j:p.length<=1099511627776)(k t:Nat):
  jl W0 85 [.slice a p.length cap,j4 k,j4 t] own (.bool (q1e p k t)):=by
 refine qi (sH [] ?_);have b:=fun t=>qkg (cap:=cap) g j t
 unfold q1e
 by_cases d:p.length<t
 ·rw[if_pos d]
  repeat'((try conv=>whnf);first|refine fF ?_)
  all_goals exact⟨rfl,(eC)⟩
 ·rw[if_neg d]
  by_cases e:0<=(qeK p k).1
  ·rw[if_pos e]
   repeat'((try conv=>whnf);first|refine fF ?_|refine fG ?_|apply qe;refine qd (b k) ?_|refine fO ?_)
   all_goals exact⟨rfl,(eC)⟩
  ·rw[if_neg e]
   by_cases f:(qeK p t).1<0
   ·repeat'((try conv=>whnf);first|refine fI ?_|refine fG ?_|refine fJ ?_|(apply qe;first|refine qd (b k) ?_|refine qd (b t) ?_)|refine fO ?_)
    all_goals exact⟨q0s (vb (by symm;rw[decide_eq_true_eq];exact .inl f)),(eC)⟩
   ·repeat'((try conv=>whnf);first|refine fH ?_|refine fG ?_|refine fK ?_|(apply qe;first|refine qd (b k) ?_|refine qd (b t) ?_)|refine fO ?_)
    all_goals(refine⟨q0s (vb ?_),(eC)⟩;exact dd ⟨fun h=> .inr h,fun h=>h.elim (fun h=>absurd h f) id⟩)
theorem qbJ(f:RdE Ins.enc 5 W0 own a p):
  jl W0 49 [.slice a p.length cap] own (.tuple #[j4 (q0C p).1,j4 (q0C p).2]):=by
 refine qi (sH [] ?_);unfold q0C
 by_cases C:64<p.length
 ·rw[if_pos C]
  repeat'((try conv=>whnf);first|refine fF ?_)
  all_goals first|exact⟨rfl,(eC)⟩|exfalso;omega
 ·rw[if_neg C];generalize E:q03 (fun k _ x=>q1R p k x) p 0 (-1)=res
  repeat'((try conv=>whnf);first|refine fG ?_)
  refine q1C (σ:=Nat×Int) (fun s=> [(5,j4 s.1),(4,j4 s.2)]) (fun s=>s.1<=p.length/\(s.2= -1\/(0<=s.2/\s.2<s.1))/\q03 (fun k _ x=>q1R p k x) (p.drop s.1) s.1 s.2=res) (fun s=>p.length-s.1) (0, -1) ⟨Yd,Yd,E⟩ (eF) rfl ?_;rintro⟨k,b⟩ junk ⟨O,hb,d⟩;simp only[] at O hb d
  by_cases J:k<p.length
  ·obtain⟨x,j⟩:∃x,p[k]? =some x:=⟨_,z6 J⟩
   rw[q0N j,q03] at d;have n:=fun own=>q5u W0 own x
   have y:=fun own=>qes W0 own x
   have v:=fun own=>qet W0 own x
   have K:=fun(t:Nat) (own':Own) (h:Ent W0 own' own)=>qbI (cap:=cap) (f.ent h) Yb k t
   have e:q0w x k b= -1\/(0<=q0w x k b/\q0w x k b<(k+1:Nat)):=by unfold q0w;(repeat' split) <;>omega
   have M:=fun h=>q2J (x:=x) h
   have L:q10 x=true->q5S x=x.imm:=fun h=>by unfold q5S;rw[h];rfl
   unfold q7K q1R at d;generalize qH x=z at*;generalize q1q x=q at*
   by_cases G:z=0
   ·subst G;simp only[ne_eq,not_true_eq_false,if_false] at d
    by_cases A:(x.op=7/\0<=b)\/(x.op=8/\b<0)
    ·rw[if_pos A] at d
     repeat'((try conv=>whnf);first|refine fH ?_|refine fI ?_|refine fE ?_|refine fD ?_|refine fF ?_|refine fJ ?_|(apply qL;first|refine ixE f j ?_ ?_;(first|rfl|omega))|apply q27;refine q0O f j rfl ?_|apply qe;refine qd (n _) ?_|refine fA ?_|refine fL ?_|refine fM ?_|refine qg fun u o=>?_|apply q0W;exact rfl;exact rfl;all_goals intro n)
     all_goals(rw[<-d];exact⟨rfl,(eC)⟩)
    ·rw[if_neg A] at d
     by_cases B:(q=1/\b<0)\/(q=2/\0<=b)
     ·rw[if_pos B] at d
      repeat'((try conv=>whnf);first|refine fH ?_|refine fI ?_|refine fE ?_|refine fD ?_|refine fF ?_|refine fG ?_|refine fJ ?_|refine fK ?_|(apply qL;first|refine ixE f j ?_ ?_;(first|rfl|omega))|apply q27;refine q0O f j rfl ?_|(apply qe;first|refine qd (n _) ?_|refine qd (y _) ?_)|refine fA ?_|refine fL ?_|refine fM ?_|refine qg fun u o=>?_|apply q0W;exact rfl;exact rfl;all_goals intro n)
      all_goals(rw[<-d];exact⟨rfl,(eC)⟩)
     ·rw[if_neg B] at d;cases r:q10 x
      ·rw[r] at v d;simp only[zV,if_false,not_true_eq_false] at d;unfold q0w at d e
       by_cases D:x.op=7
       ·rw[if_pos D] at d e
        repeat'((try conv=>whnf);first|refine fH ?_|refine fI ?_|refine fD ?_|refine fF ?_|refine fG ?_|refine fJ ?_|refine fK ?_|(apply qL;first|refine ixE f j ?_ ?_;(first|rfl|omega))|apply q27;refine q0O f j rfl ?_|(apply qe;first|refine qd (n _) ?_|refine qd (y _) ?_|refine qd (v _) ?_)|refine fB ?_|refine fO ?_|refine fA ?_|refine fL ?_|refine fM ?_|refine qg fun u o=>?_|apply q0W;exact rfl;exact rfl;all_goals intro n)
        all_goals exact⟨(k+1,(k:Int)),⟨by simp;omega,e,d⟩,by simp;omega,(eF),(eC)⟩
       ·by_cases F:x.op=8
        ·rw[if_neg D,if_pos F] at d e
         repeat'((try conv=>whnf);first|refine fH ?_|refine fI ?_|refine fD ?_|refine fF ?_|refine fG ?_|refine fJ ?_|refine fK ?_|(apply qL;first|refine ixE f j ?_ ?_;(first|rfl|omega))|apply q27;refine q0O f j rfl ?_|(apply qe;first|refine qd (n _) ?_|refine qd (y _) ?_|refine qd (v _) ?_)|refine fB ?_|refine fO ?_|refine fA ?_|refine fL ?_|refine fM ?_|refine qg fun u o=>?_|apply q0W;exact rfl;exact rfl;all_goals intro n)
         all_goals exact⟨(k+1, -1),⟨by simp;omega,e,d⟩,by simp;omega,(eF),(eC)⟩
        ·rw[if_neg D,if_neg F] at d e
         repeat'((try conv=>whnf);first|refine fH ?_|refine fI ?_|refine fD ?_|refine fF ?_|refine fG ?_|refine fK ?_|(apply qL;first|refine ixE f j ?_ ?_;(first|rfl|omega))|apply q27;refine q0O f j rfl ?_|(apply qe;first|refine qd (n _) ?_|refine qd (y _) ?_|refine qd (v _) ?_)|refine fB ?_|refine fO ?_|refine fA ?_|refine fL ?_|refine fM ?_|refine qg fun u o=>?_|apply q0W;exact rfl;exact rfl;all_goals intro n)
         all_goals exact⟨(k+1,b),⟨by simp;omega,e,d⟩,by simp;omega,(eF),(eC)⟩
      ·obtain⟨hop,hi0,hi1⟩:=M r;rw[r,L r] at v;rw[r] at d;simp only[if_true] at d;obtain⟨t,Q⟩:∃t:Nat,(t:Int)=k+1+x.imm:=⟨k+1+x.imm.toNat,Yb⟩
       have ht':k+1+x.imm.toNat=t:=Yb;rw[ht'] at d;have g:=K t;rw[Q] at g;have D:¬x.op=7:=Yb;have F:¬x.op=8:=Yb;cases N:q1e p k t
       ·rw[N] at d g;simp only[zV,if_false,Int.reduceEq,not_false_eq_true,if_true] at d
        repeat'((try conv=>whnf);first|refine fH ?_|refine fI ?_|refine fE ?_|refine fD ?_|refine fF ?_|refine fG ?_|refine fK ?_|(apply qL;first|refine ixE f j ?_ ?_;(first|rfl|omega))|apply q27;refine q0O f j rfl ?_|(apply qe;first|refine qd (n _) ?_|refine qd (y _) ?_|refine qd (v _) ?_|refine qd (g _ qiU) ?_)|refine fB ?_|refine fO ?_|refine fA ?_|refine fL ?_|refine fM ?_|refine qg fun u o=>?_|apply q0W;exact rfl;exact rfl;all_goals intro n)
        all_goals(rw[<-d];exact⟨rfl,(eC)⟩)
       ·rw[N] at d g;simp only[if_true,not_true_eq_false,if_false] at d;unfold q0w at d e;rw[if_neg D,if_neg F] at d e
        repeat'((try conv=>whnf);first|refine fH ?_|refine fI ?_|refine fD ?_|refine fF ?_|refine fG ?_|refine fK ?_|(apply qL;first|refine ixE f j ?_ ?_;(first|rfl|omega))|apply q27;refine q0O f j rfl ?_|(apply qe;first|refine qd (n _) ?_|refine qd (y _) ?_|refine qd (v _) ?_|refine qd (g _ qiU) ?_)|refine fB ?_|refine fO ?_|refine fA ?_|refine fL ?_|refine fM ?_|refine qg fun u o=>?_|apply q0W;exact rfl;exact rfl;all_goals intro n)
        all_goals exact⟨(k+1,b),⟨by simp;omega,e,d⟩,by simp;omega,(eF),(eC)⟩
   ·rw[if_pos (by rw[if_pos G];exact G),if_pos G] at d
    repeat'((try conv=>whnf);first|refine fF ?_|(apply qL;first|refine ixE f j ?_ ?_;(first|rfl|omega))|apply q27;refine q0O f j rfl ?_|apply qe;refine qd (n _) ?_|refine fL ?_|refine fM ?_|refine qg fun u o=>?_)
    all_goals(rw[<-d];exact⟨rfl,(eC)⟩)
  ·have I:k=p.length:=Yb;subst I;rw[Zw,q03] at d;rw[<-d]
   repeat'((try conv=>whnf);first|refine fG ?_|apply q6D;exact rfl;all_goals intro n)
   all_goals(refine⟨qc2 (vi ?_) (vi ?_),(eC)⟩ <;>split <;>first|rfl|exfalso;omega)
end
open Go Go.RowKit
inductive qf7 (K:Value->Prop):je->Prop
 |nil:qf7 K []
 |cons {x:Value} {l:je} (h:K x) (hl:qf7 K l):qf7 K (x::l)
theorem qf7.mem{K:Value->Prop}{l:je}(h:qf7 K l):∀v∈l,K v:=by
 induction h with
 |nil=>intro v b;cases b
 |cons h _ d=>
  intro v b
  rcases zX.1 b with rfl|b
  ·exact h
  ·exact d v b
theorem qhR{W0:World}{own:Own}{b off:Nat}{cs:jg}{T:TypeId}{fz:Nat×Nat}{K:Value->Prop}(hm:(b,j7 cs T fz)∈own)(d:off<cs.toList.length)(h:qf7 K cs.toList):
  Ld W0 own ⟨b,off,none⟩ K:=qU cs.toList[off] hm (z6 d) (h.mem _ (ZW d))
def mkP(op:Int)(x:Ins):Prop:=x.op=op/\qH x=0/\(op=4\/op=5\/op=6->x.imm=0)/\0<=x.imm/\x.imm<=64
theorem qjz{op a b c imm:Int}(h:0<=op/\op<18)(d:q1n (qfg op) a)(hb:q1n (qih op) b)(e:q1n (qii op) c)(hi:q3v op imm):qH ⟨op,a,b,c,imm⟩=0:=by
 unfold qH;rw[if_neg (by simp only;omega),if_pos ⟨d,hb,e⟩,if_pos hi]
theorem qmA(W0:World)(own:Own)(op n:Int)(h:0<=op/\op<18)(hn:0<=n/\n<=18446744073709551615):
  jk W0 48 [j4 op,j5 n] own fun v own'=>∃x:Ins,v=x.v/\mkP op x/\Ent W0 own' own:=by
 refine sH [] ?_
 repeat'((try conv=>whnf);first|refine fF ?_|refine qdC ?_ ?_;omega|apply qhR;exact eN;simp;omega|exact qf7.nil|refine qf7.cons ?_ ?_|refine fB ?_|refine qjd ?_ ?_;omega|refine fL ?_|refine fM ?_|refine qg fun bk hbk=>?_|apply q6D;exact rfl;all_goals intro hc|refine q2R ?_ ?_;omega)
 all_goals refine⟨⟨_,_,_,_,_⟩,rfl,?_,(eC)⟩
 all_goals(try subst op)
 all_goals refine⟨rfl,?_,fun h=>?_,?_,?_⟩
 all_goals first
  |(dsimp only;omega)
  |rfl
  |(exfalso;omega)
  |(refine qjz h ?_ ?_ ?_ ?_ <;>simp[q1n,qfg,qih,qii,q3v] <;>omega)
  |exact rest_ok Yb
def qg5:List Ins->Nat->Int->Option Int
 | [],_,b=>some b
 |x::l,k,b=>if q7K 0 b x=0 then qg5 l (k+1) (q0w x k b) else none
theorem q7O(x:Ins):∀(l:List Ins) (k:Nat) (b:Int),qg5 (l++ [x]) k b=(qg5 l k b).bind fun d=>if q7K 0 d x=0 then some (q0w x (k+l.length) d) else none
 | [],k,b=>by simp[qg5]
 |y::l,k,b=>by
  simp only[zk,qg5,zu]
  split
  ·rw[q7O x l,yf,yR 1]
  ·rfl
theorem q7r(p:List Ins)(r:∀x∈p,q10 x=true->x.imm=0){g:Int}(f:g<0):∀(n k:Nat) (b:Int),n+k=p.length->q9D p k b->qg5 (p.drop k) k b=some g->q03 (q0t p) (p.drop k) k b=(0,0)
 |0,k,b,s,_,d=>by
  have:p.drop k= []:=List.drop_eq_nil_iff.2 Yb;rw[this,qg5,Option.some.injEq] at d;rw[this,q03,if_neg Yb]
 |n+1,k,b,s,h,d=>by
  obtain⟨x,e⟩:∃x,p[k]? =some x:=⟨_,z6 Yb⟩
  rw[q0N e,qg5] at d
  split at d
  ·rename_i j;have o:=q6W j;have u:q0t p k b x=0:=by
    unfold q0t
    split
    ·rename_i q;have hi:=r x (zh e) q;have h8:=q2J q;rw[hi,if_neg Yb]
     split
     ·rename_i hb
      rcases h.bb with hb1|⟨_,_,he⟩
      ·omega
      ·have:=q3b (p.drop (k+1)) (k+1);rw[he,q0N e,q1y]
       (repeat' split) <;>omega
     ·rw[q4y _ _ _ _ Yd];rfl
    ·rfl
   rw[q0N e,q03,u,if_neg (by simpa using j)];exact q7r p r f n (k+1) _ Yb (h.step e o.1 o.2.1) d
  ·cases d
structure Mk(p:List Ins)(b:Int):Prop where
 run:qg5 p 0 (-1)=some b
 zer:∀x∈p,q10 x=true->x.imm=0
theorem Mk.nil:Mk [] (-1):=⟨rfl,fun _ h=>by cases h⟩
theorem Mk.snoc{p:List Ins}{b:Int}{x:Ins}(h:Mk p b)(f:q7K 0 b x=0)(hi:q10 x=true->x.imm=0):Mk (p++ [x]) (q0w x p.length b):=by
 refine⟨by rw[q7O,h.run];simp[f],fun y d e=>?_⟩
 rcases zw.1 d with d|d
 ·exact h.zer y d e
 ·obtain rfl:=zf.1 d;exact hi e
theorem Mk.ok{p:List Ins}{b:Int}(h:Mk p b)(hb:b<0)(hl:p.length<=64):q0C p=(0,0):=by
 rw[<-q9S];unfold qB;rw[if_neg Yb];exact q7r p h.zer hb p.length 0 (-1) Yb (q9D.start p) h.run
def qj0(o:Bool)(op:Int):Prop:=
 (1<=op/\op<=6)\/(o=false/\(op=7\/op=12\/op=13\/op=16\/op=17))\/(o=true/\(op=8\/op=9\/op=10\/op=11\/op=14\/op=15))
theorem qa0{o:Bool}{b:Int}{x:Ins}(g:qj0 o x.op)(f:qH x=0)(hb:o=decide (0<=b)):q7K 0 b x=0:=by
 unfold q7K;have j:q1q x=if x.op=8\/x.op=9\/x.op=10\/x.op=11\/x.op=14\/x.op=15 then 1 else if x.op=7\/x.op=12\/x.op=13\/x.op=16\/x.op=17 then 2 else 0:=by unfold q1q;rw[if_pos f]
 rw[if_neg Yb,j]
 rcases g with h|⟨d,h⟩|⟨d,h⟩
 ·(repeat' split) <;>omega
 ·subst d;have e:¬0<=b:=of_decide_eq_false hb.symm
  (repeat' split) <;>omega
 ·subst d;have e:0<=b:=of_decide_eq_true hb.symm
  (repeat' split) <;>omega
theorem arx{e:Int}{K:Int->Prop}(h:∀m,0<=m/\m<=18446744073709551615->K m):q4N .u64 e K:=by
 refine⟨h _ ?_⟩;have:IntKind.u64.wrap e=e % 18446744073709551616:=by
  simp[IntKind.wrap,IntKind.signed,IntKind.bits]
 rw[this];omega
theorem qiE{α:Type}{en:α->Value}{Φ:α->Prop}{P:Program}{W0:World}{own:Own}{k:FuncId}{args:je}{K:Value->Own->Prop}(h:qu P W0 k args own fun v own'=>∃x,v=en x/\Φ x/\Ent W0 own' own)(d:∀x,Φ x->K (en x) own):q0g P W0 own k args K:=
 ⟨fun w hw=>(h w hw).mono fun _ _ ⟨_,_,he,e,x,f,g,b⟩=>⟨_,own,by rw[he,f],b _ e,d x g⟩⟩
abbrev qne(n:Nat):je:= [j4 n]
structure PS where
 i:Nat
 o:Bool
 b:Int
 p:List Ins
 a:j8
 cap:Nat
 D:Own
 js:jh
 a2:j8
 cap2:Nat
 D2:Own
abbrev qg3(heap:Bool)(x:Ins):Prop:=(0<=x.imm/\x.imm<=64)/\(x.op=14\/x.op=15->heap=true)
structure PI(heap:Bool)(n:Nat)(most:Int)(s:PS):Prop where
 le:s.i<=n
 ob:s.o=decide (0<=s.b)
 mkd:Mk s.p s.b
 bp:qq Ins.enc 62 5 s.a s.cap s.p s.D
 bj:qq qne 3 1 s.a2 s.cap2 s.js s.D2
 lp:s.p.length+1<=most
 lj:s.js.length<=s.p.length
 asc:s.js.Pairwise (· < ·)
 zer:∀j∈s.js,∃x,s.p[j]? =some x/\x.imm=0
 rng:∀x∈s.p,qg3 heap x
theorem qfH{y:Ins}(h:qH y=0)(d:y.op=5\/y.op=6){m:Int}(hm:0<=m/\m<8):qH ⟨y.op,m,y.b,y.c,y.imm⟩=0:=by
 unfold qH at*;rw[if_neg Yb] at h;rw[if_neg (by simp only;omega)]
 split at h
 ·rename_i f;have b:q1n (qfg y.op) m:=by rcases d with e|e <;>rw[e] <;>simpa [q1n,qfg] using hm
  rw[if_pos ⟨b,f.2⟩];exact h
 ·cases h
theorem PI.next{heap:Bool}{n:Nat}{b:Int}{s:PS}(h:PI heap n b s)(hi:s.i<n)(hl:(s.p.length:Int)+1<b){y:Ins}(g:qj0 s.o y.op)(f:qH y=0)(v:y.op=4\/y.op=5\/y.op=6->y.imm=0)(r:qg3 heap y)
  {a:j8} {cap:Nat} {D:Own} (hb:qq Ins.enc 62 5 a cap (s.p++ [y]) D) {o:Bool} (q:o=if y.op=7 then true else if y.op=8 then false else s.o):
  PI heap n b ⟨s.i+1,o,q0w y s.p.length s.b,s.p++ [y],a,cap,D,s.js,s.a2,s.cap2,s.D2⟩:=by
 refine⟨by simp only;omega,?_,h.mkd.snoc (qa0 g f h.ob) (fun u=>v (q2J u).1),hb,h.bj,by simp;omega,?_,h.asc,fun j k=>?_,fun x d=>by
  rcases zw.1 d with d|d
  ·exact h.rng x d
  ·rw[zf.1 d];exact r⟩
 ·simp only;rw[q];unfold q0w
  split
  ·exact(decide_eq_true Yb).symm
  ·split
   ·exact(decide_eq_false Yb).symm
   ·exact h.ob
 ·have:=h.lj;simp;omega
 ·obtain⟨x,d,e⟩:=h.zer j k;exact⟨x,by rw[zB (z7.1 d).1];exact d,e⟩
theorem PI.jump{heap:Bool}{n:Nat}{b:Int}{s:PS}(h:PI heap n b s)(hi:s.i<n)(B:(s.p.length:Int)+1<b){y:Ins}(z:qj0 s.o y.op)(v:qH y=0)(d:y.op=4\/y.op=5\/y.op=6)(r:y.imm=0)
  {a:j8} {cap:Nat} {D:Own} (hb:qq Ins.enc 62 5 a cap (s.p++ [y]) D) {a2:j8} {e:Nat} {u:Own} (g:qq qne 3 1 a2 e (s.js++ [s.p.length]) u):
  PI heap n b ⟨s.i+1,s.o,s.b,s.p++ [y],a,cap,D,s.js++ [s.p.length],a2,e,u⟩:=by
 have f:=h.next hi B z v (fun _=>r) ⟨by rw[r];exact⟨Yc,Yc⟩,fun h=>by omega⟩ hb (o:=s.o) (by rw[if_neg Yb,if_neg Yb]);have C:q0w y s.p.length s.b=s.b:=by unfold q0w;rw[if_neg Yb,if_neg Yb]
 have q:∀j∈s.js,j<s.p.length:=fun j d=>by
  obtain⟨x,E,_⟩:=h.zer j d;exact(z7.1 E).1
 refine⟨f.le,h.ob,by have:=f.mkd;simp only[C] at this;exact this,hb,g,f.lp,?_,?_,fun j d=>?_,f.rng⟩
 ·have:=h.lj;simp;omega
 ·rw[Y0];exact⟨h.asc,yO _ _,fun j d k A=>by rw[zf.1 A];exact q j d⟩
 ·rcases zw.1 d with d|d
  ·exact f.zer j d
  ·rw[zf.1 d];exact⟨y,Yd,r⟩
theorem PI.commit{heap:Bool}{n:Nat}{b:Int}{s:PS}(h:PI heap n b s)(g:s.o=true):Mk (s.p++ [⟨8,0,0,0,0⟩]) (q0w ⟨8,0,0,0,0⟩ s.p.length s.b)/\q0w ⟨8,0,0,0,0⟩ s.p.length s.b<0/\∀j∈s.js,∃x,(s.p++ [⟨8,0,0,0,0⟩])[j]? =some x/\x.imm=0:=by
 refine⟨h.mkd.snoc (qa0 (o:=s.o) (by rw[g];simp[qj0]) rfl h.ob) (fun _=>rfl),by simp[q0w],fun j f=>?_⟩;obtain⟨x,d,e⟩:=h.zer j f;exact⟨x,by rw[zB (z7.1 d).1];exact d,e⟩
theorem qm2{α:Type}{enc:α->je}{sz:Nat}{W0:World}{own:Own}{a:j8}{l:List α}{i:Int}{n:Nat}{K:Addr->Prop}{j:Nat}{x:α}(h:RdE enc sz W0 own a l)(e:l[j]? =some x)(d:n=l.length)(hi:i=j)(b:K ⟨ab a,ao a+j*sz,none⟩):IxS a sz i n K:=by
 subst d;exact ixE h e hi b
theorem qg9{l:List Ins}{j:Nat}{x y:Ins}(d:l[j]? =some x)(b:x.imm=0):(l.set j y).set j ⟨x.op,x.a,x.b,x.c,0⟩=l:=by
 obtain⟨hj,he⟩:=z7.1 d;rw[yr];have:(⟨x.op,x.a,x.b,x.c,0⟩:Ins)=l[j]:=by rw[he,<-b]
 rw[this,yu]
theorem qlb{l:jh}(h:l.Pairwise (· < ·)){a b i j:Nat}(hi:l[a]? =some i)(g:l[b]? =some j)(d:a<b):i≠j:=by
 obtain⟨e,e1⟩:=z7.1 hi;obtain⟨f,e2⟩:=z7.1 g;have:=(ZF.1 h) a b e f d;omega
theorem q4S(d:Nat->Int->Ins->Int):∀(l:List Ins) (k:Nat) (b:Int),(q03 d l k b).2=0->q03 d l k b=(0,0)
 | [],k,b,h=>by
  unfold q03 at*
  split at h
  ·cases h
  ·rename_i hb;rw[if_neg hb]
 |x::l,k,b,h=>by
  unfold q03 at*
  split at h
  ·rename_i e;exact absurd h e
  ·rename_i e;rw[if_neg e];exact q4S d l (k+1) _ h
theorem q8H{p:List Ins}(h:(q0C p).2=0):q0C p=(0,0):=by
 unfold q0C at*
 split at h
 ·cases h
 ·rename_i b;rw[if_neg b];exact q4S _ _ _ _ h
section
variable{W0:World}{own:Own}{la:j8}{lc:Nat}{l:jd}
theorem q6m(b:Int)(heap plain:Bool)(hL:RdE (fun n=> [j4 n]) 1 W0 own la l)(hl:l.length<=1000000)(hm:1<=b/\b<=64):
  jk W0 26 [.slice la l.length lc,j4 b, .bool heap, .bool plain] own fun v own'=>
   ∃a cap D p,v= .slice a (List.length p) cap/\qq Ins.enc 62 5 a cap p D/\Ent W0 own' (D++own)/\q0C p=(0,0)/\(p.length:Int)<=b/\∀x∈p,qg3 heap x:=by
 refine sC [17,744,804,948] [] ?_
 (try conv=>whnf)
 refine qQ (σ:=PS) (fun s=> [(9, .slice s.a s.p.length s.cap),(10, .bool s.o),(11, .slice s.a2 s.js.length s.cap2),(12,j4 s.i)]) (fun s=>s.D++(s.D2++own)) (PI heap l.length b) (fun s=>l.length-s.i) ⟨0,false, -1,[],none,0,[],[],none,0,[]⟩
  ⟨Yd,rfl,Mk.nil,qq.nil,qq.nil,by simp;omega,Yd,List.Pairwise.nil,fun _ h=>(by cases h),fun _ h=>(by cases h)⟩ (eF) Ent.refl rfl ?_
 ·rintro s junk z;have ae:=z;obtain⟨hi,az,ay,g,I,hlp,aG,O,S,R⟩:=ae
  by_cases e:s.i<l.length/\(s.p.length:Int)+1<b
  ·obtain⟨x,u⟩:∃x,l[s.i]? =some x:=⟨_,z6 e.1⟩
   have hh1:(s.i:Int)<l.length:=Yb;have hh2:(s.p.length:Int)<b-1:=Yb
   repeat'((try conv=>whnf);first|refine q0Q ?_ ?_;exact rfl|apply q3q;exact rfl;omega|apply q1x;exact rfl;omega|refine arx fun m hm=>?_|refine qdC ?_ ?_;omega|apply gLd;refine q0n hL u rfl ?_|(apply qL;first|refine ixE hL u ?_ ?_;(first|rfl|omega))|refine ari ?_ ?_;omega|refine q2R ?_ ?_;omega)
   refine q39 (σ:=Int×Int) 2658455991569831745807605324467707904 (fun r=> [(13,j5 r.2),(15,j4 r.1)]) (fun _=>s.D++(s.D2++own)) (fun r=>(0<=r.2/\r.2<=18446744073709551615)/\qj0 s.o r.1/\(r.1=14\/r.1=15->heap=true)) rfl ?_ ?_
   ·clear g I O S ay aG hi;obtain⟨o,ho⟩:∃o,s.o=o:=⟨_,rfl⟩
    rw[ho];cases o <;>cases heap <;>cases plain
    all_goals as_aux_lemma=>
     repeat'((try conv=>whnf);first|refine q0Q ?_ ?_;exact rfl|refine fI ?_|refine q6E ?_ ?_;exact rfl|refine fD ?_|apply q3q;exact rfl;omega|apply q2X;exact rfl;omega|apply q1x;exact rfl;omega|apply q1h;exact rfl;omega|refine qdC ?_ ?_;omega|apply qhR;exact eN;simp;omega|exact qf7.nil|refine qf7.cons ?_ ?_|refine qjd ?_ ?_;omega|refine qg fun Z A=>?_|apply q0W;exact rfl;exact rfl;all_goals intro hc|apply q6D;exact rfl;all_goals intro hc|refine q2R ?_ ?_;omega)
     all_goals refine⟨(_,_),⟨?_,?_,?_⟩,(eF),(eC)⟩
     all_goals first|simp only[];omega|simp[qj0]
   ·rintro⟨op,m2⟩ junk2 ⟨aw,V,K⟩;simp only at aw V K;have aC:0<=op/\op<18:=by unfold qj0 at V;omega
    have aq:=fun ex=>qmA W0 ex op m2 aC aw
    as_aux_lemma=>
     refine qiE (aq _) fun y hy=>?_;obtain⟨aM,F,G,Y⟩:=hy;subst aM;have aE:(y.op=5\/y.op=6)\/y.op=4\/(y.op≠4/\y.op≠5/\y.op≠6):=Yb
     rcases aE with h6|h6|h6
     ·rcases h6 with h6|h6
      all_goals
       repeat'((try conv=>whnf);first|refine q0Q ?_ ?_;exact rfl|refine fI ?_|refine q6E ?_ ?_;exact rfl|apply q3q;exact rfl;omega|apply q2X;exact rfl;omega|apply q1x;exact rfl;omega|apply q1h;exact rfl;omega|refine q3U (enc:=qne) s.p.length I (by(repeat(first|exact At.head|apply At.tail|apply At.skip))) (eN) rfl rfl Yb rfl rfl Yb fun a1 c1 D1 f=>?_|refine q3U (enc:=Ins.enc) ⟨y.op,m2 % 4,y.b,y.c,y.imm⟩ g (by(repeat(first|exact At.head|apply At.tail|apply At.skip))) (eN) rfl rfl Yb rfl rfl Yb fun a3 C B d=>?_|refine ari ?_ ?_;omega|refine fL ?_|refine fN ?_|refine fM ?_|refine qg fun Z A=>?_|refine q2R ?_ ?_;omega|refine qcF ?_)
      all_goals refine⟨⟨s.i+1,s.o,s.b,s.p++ [⟨y.op,m2 % 4,y.b,y.c,y.imm⟩],a3,C,B,s.js++ [s.p.length],a1,c1,D1⟩,z.jump (y:=⟨y.op,m2 % 4,y.b,y.c,y.imm⟩) e.1 e.2 V (qfH (y:=y) F Yb Yb) (by first|omega|simp only;omega) (G Yb) d f,by simp only;omega,?_,(eC)⟩
      all_goals(simp only[z8,zu,zE,zy];exact(eF))
     ·repeat'((try conv=>whnf);first|refine q0Q ?_ ?_;exact rfl|apply q3q;exact rfl;omega|apply q2X;exact rfl;omega|apply q1h;exact rfl;omega|refine q3U (enc:=qne) s.p.length I (by(repeat(first|exact At.head|apply At.tail|apply At.skip))) (eN) rfl rfl Yb rfl rfl Yb fun a1 c1 D1 f=>?_|refine q3U (enc:=Ins.enc) y g (by(repeat(first|exact At.head|apply At.tail|apply At.skip))) (eN) rfl rfl Yb rfl rfl Yb fun a3 C B d=>?_|refine ari ?_ ?_;omega|refine fL ?_|refine fM ?_|refine qg fun Z A=>?_|refine qcF ?_)
      refine⟨⟨s.i+1,s.o,s.b,s.p++ [y],a3,C,B,s.js++ [s.p.length],a1,c1,D1⟩,z.jump e.1 e.2 V F Yb (G Yb) d f,by simp only;omega,?_,(eC)⟩
      (simp only[z8,zu,zE,zy];exact(eF))
     ·have N:y.op=7\/y.op=8\/(y.op≠7/\y.op≠8):=Yb
      rcases N with N|N|N
      ·repeat'((try conv=>whnf);first|refine q0Q ?_ ?_;exact rfl|apply q3q;exact rfl;omega|apply q2X;exact rfl;omega|apply q1h;exact rfl;omega|refine q3U (enc:=Ins.enc) y g (by(repeat(first|exact At.head|apply At.tail|apply At.skip))) (eN) rfl rfl Yb rfl rfl Yb fun a3 C B d=>?_|refine ari ?_ ?_;omega|refine fL ?_|refine fM ?_|refine qg fun Z A=>?_|refine qcF ?_)
       refine⟨⟨s.i+1,true,q0w y s.p.length s.b,s.p++ [y],a3,C,B,s.js,s.a2,s.cap2,s.D2⟩,z.next e.1 e.2 V F G ⟨Y,K⟩ d (by rw[if_pos N]),by simp only;omega,?_,(eC)⟩
       (simp only[z8,zu,zE,zy];exact(eF))
      ·repeat'((try conv=>whnf);first|refine q0Q ?_ ?_;exact rfl|apply q3q;exact rfl;omega|apply q2X;exact rfl;omega|apply q1h;exact rfl;omega|refine q3U (enc:=Ins.enc) y g (by(repeat(first|exact At.head|apply At.tail|apply At.skip))) (eN) rfl rfl Yb rfl rfl Yb fun a3 C B d=>?_|refine ari ?_ ?_;omega|refine fL ?_|refine fM ?_|refine qg fun Z A=>?_|refine qcF ?_)
       refine⟨⟨s.i+1,false,q0w y s.p.length s.b,s.p++ [y],a3,C,B,s.js,s.a2,s.cap2,s.D2⟩,z.next e.1 e.2 V F G ⟨Y,K⟩ d (by rw[if_neg Yb,if_pos N]),by simp only;omega,?_,(eC)⟩
       (simp only[z8,zu,zE,zy];exact(eF))
      ·repeat'((try conv=>whnf);first|refine q0Q ?_ ?_;exact rfl|apply q2X;exact rfl;omega|apply q1h;exact rfl;omega|refine q3U (enc:=Ins.enc) y g (by(repeat(first|exact At.head|apply At.tail|apply At.skip))) (eN) rfl rfl Yb rfl rfl Yb fun a3 C B d=>?_|refine ari ?_ ?_;omega|refine fL ?_|refine fM ?_|refine qg fun Z A=>?_|refine qcF ?_)
       refine⟨⟨s.i+1,s.o,q0w y s.p.length s.b,s.p++ [y],a3,C,B,s.js,s.a2,s.cap2,s.D2⟩,z.next e.1 e.2 V F G ⟨Y,K⟩ d (by rw[if_neg N.1,if_neg N.2]),by simp only;omega,?_,(eC)⟩
       (simp only[z8,zu,zE,zy];exact(eF))
  ·have E:¬(s.i:Int)<l.length\/((s.i:Int)<l.length/\¬(s.p.length:Int)<b-1):=Yb
   rcases E with E|⟨aB,E⟩
   all_goals
    repeat'((try conv=>whnf);first|refine q0Q ?_ ?_;exact rfl|refine fI ?_|refine fD ?_|apply q2X;exact rfl;omega|apply q1x;exact rfl;omega|apply q1h;exact rfl;omega|refine ari ?_ ?_;omega)
    refine q39 (σ:=List Ins×j8×Nat×Own) 11326637689314497616078557453551193402333477208576 (fun q=> [(9, .slice q.2.1 q.1.length q.2.2.1)]) (fun q=>q.2.2.2++(s.D2++own)) (fun q=>qq Ins.enc 62 5 q.2.1 q.2.2.1 q.1 q.2.2.2/\q0C q.1=(0,0)/\(q.1.length:Int)<=b/\(∀j∈s.js,∃x,q.1[j]? =some x/\x.imm=0)/\∀x∈q.1,qg3 heap x) rfl ?_ ?_
    ·repeat'((try conv=>whnf);first|refine qoH (fun hs=>?_) fun hs=>?_|refine q3U (enc:=Ins.enc) ⟨8,0,0,0,0⟩ g (by(repeat(first|exact At.head|apply At.tail|apply At.skip))) (eN) rfl rfl Yb rfl rfl Yb fun a3 C B d=>?_|refine qg fun Z A=>?_)
     ·have U:=z.commit hs;refine⟨(s.p++ [⟨8,0,0,0,0⟩],a3,C,B),⟨d,U.1.ok U.2.1 (by simp;omega),by simp;omega,U.2.2,fun x u=>by
       rcases zw.1 u with u|u
       ·exact R x u
       ·rw[zf.1 u];exact⟨⟨Yc,Yc⟩,fun h=>by simp at h⟩⟩,?_,(eC)⟩
      (simp only[z8,zu,zE,zy];exact(eF))
     ·rw[hs] at az;exact⟨(s.p,s.a,s.cap,s.D),⟨g,ay.ok (by simpa using az.symm) Yb,by simp only;omega,S,R⟩,(eF),(eC)⟩
    ·rintro q junk3 ⟨aI,aJ,hq3,aK,aL⟩
     (try conv=>whnf)
     refine qQ (σ:=Nat×List Ins×Own) (fun r=> [(17,j4 r.1)]) (fun r=>r.2.2++(s.D2++own)) (fun r=>(r.1<=s.js.length/\r.2.1.length=q.1.length)/\qq Ins.enc 62 5 q.2.1 q.2.2.1 r.2.1 r.2.2/\q0C r.2.1=(0,0)/\(∀m j,r.1<=m->s.js[m]? =some j->∃x,r.2.1[j]? =some x/\x.imm=0)/\∀x∈r.2.1,qg3 heap x)
      (fun r=>s.js.length-r.1) (0,q.1,q.2.2.2) ⟨⟨Yd,rfl⟩,aI,aJ,fun m j _ Q=>aK j (zh Q),aL⟩ (eF) Ent.refl rfl ?_
     rintro r junk4 ⟨⟨hr1,W⟩,L,aA,X,M⟩
     by_cases av:r.1<s.js.length
     ·obtain⟨j,Q⟩:∃j,s.js[r.1]? =some j:=⟨_,z6 av⟩
      obtain⟨x,u,aB⟩:=X r.1 j (zN _) Q;have hJ:=I.rd (W0:=W0);have hP:=L.rd (W0:=W0);have hh:(r.1:Int)<s.js.length:=Yb;have aF:j<r.2.1.length:=(z7.1 u).1;have E:(r.2.1.set j ⟨x.op,x.a,x.b,x.c,1⟩)[j]? =some ⟨x.op,x.a,x.b,x.c,1⟩:=Z9 aF;have au:(r.2.1.set j ⟨x.op,x.a,x.b,x.c,1⟩).length=q.1.length:=by rw[zm,W]
      have T:(r.2.1.set j ⟨x.op,x.a,x.b,x.c,1⟩).set j ⟨x.op,x.a,x.b,x.c,0⟩=r.2.1:=qg9 u aB;have aj:∀D1,qq Ins.enc 62 5 q.2.1 q.2.2.1 (r.2.1.set j ⟨x.op,x.a,x.b,x.c,1⟩) D1->∀own',Ent W0 own' D1->jl W0 49 [.slice q.2.1 q.1.length q.2.2.1] own' (.tuple #[j4 (q0C (r.2.1.set j ⟨x.op,x.a,x.b,x.c,1⟩)).1,j4 (q0C (r.2.1.set j ⟨x.op,x.a,x.b,x.c,1⟩)).2]):=fun D1 h own' he=>by
       have:=qbJ (cap:=q.2.2.1) ((h.rd (W0:=W0)).ent he)
       rwa[au] at this
      have aH:∀m j',r.1+1<=m->s.js[m]? =some j'->∃x',(r.2.1.set j ⟨x.op,x.a,x.b,x.c,1⟩)[j']? =some x'/\x'.imm=0:=fun m j' hm J=>by
       obtain⟨x',h1,h2⟩:=X m j' Yb J;exact⟨x',by rw[List.getElem?_set_ne (qlb O Q J Yb)];exact h1,h2⟩
      by_cases he:(q0C (r.2.1.set j ⟨x.op,x.a,x.b,x.c,1⟩)).2=0
      ·have hz:=q8H he
       repeat'((try conv=>whnf);first|apply q3q;exact rfl;omega|apply q2X;exact rfl;omega|refine qm2 (hP.ent (eB)) u Yb rfl ?_|refine stE (k:=4) ⟨x.op,x.a,x.b,x.c,1⟩ L (by(repeat(first|exact At.head|apply At.tail|apply At.skip))) u rfl Yb rfl rfl fun D1 f=>?_|refine qp (aj _ f _ (eB)) ?_|apply gLd;refine q0n hJ Q rfl ?_|(apply qL;first|refine ixE hJ Q ?_ ?_;(first|rfl|omega))|refine ari ?_ ?_;omega|refine fO ?_)
       exact⟨(r.1+1,_,D1),⟨⟨by simp only;omega,au⟩,f,hz,aH,fun y hy=>by
        rcases Ze hy with hy|rfl
        ·exact M y hy
        ·exact⟨⟨(by decide:(0:Int)<=1),(by decide:(1:Int)<=64)⟩,(M x (zh u)).2⟩⟩,by simp only;omega,(eF),(eC)⟩
      ·repeat'((try conv=>whnf);first|apply q3q;exact rfl;omega|refine qm2 (hP.ent (eB)) u Yb rfl ?_|refine stE (k:=4) ⟨x.op,x.a,x.b,x.c,0⟩ f (by(repeat(first|exact At.head|apply At.tail|apply At.skip))) E rfl Yb rfl rfl fun D2 af=>?_|refine stE (k:=4) ⟨x.op,x.a,x.b,x.c,1⟩ L (by(repeat(first|exact At.head|apply At.tail|apply At.skip))) u rfl Yb rfl rfl fun D1 f=>?_|refine qp (aj _ f _ (eB)) ?_|apply gLd;refine q0n hJ Q rfl ?_|(apply qL;first|refine ixE hJ Q ?_ ?_;(first|rfl|omega))|refine ari ?_ ?_;omega|refine fO ?_)
       rw[T] at af;exact⟨(r.1+1,r.2.1,D2),⟨⟨by simp only;omega,W⟩,af,aA,fun m j' hm J=>X m j' (by simp only at hm;omega) J,M⟩,by simp only;omega,(eF),(eC)⟩
     ·repeat'((try conv=>whnf);first|apply q2X;exact rfl;omega)
      exact⟨q.2.1,q.2.2.1,r.2.2,r.2.1,by rw[W];rfl,L,Ent.of_sub ((Zl s.D2 own).append_left r.2.2),aA,Yb,M⟩
end
end Go.Proofs.YtfnghamklcdgnaaGreatDoor
