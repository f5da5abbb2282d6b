/- What the laws share, part 9. No condition. -/
import Derived.LaidMore
import Derived.Lay
import Derived.LaidByTextLater
import Derived.Stop.Joined
import Derived.SevenTiedAt
import Derived.Lib.SlicesCompact
import Derived.Test.YtikpjajangpdjaaGreatDoorQ8
set_option maxHeartbeats 4000000
set_option maxRecDepth 10000
namespace Go.Proofs.YtikpjajangpdjaaGreatDoor
open Go Go.ChangeShapes Go.WideShapes Go.ChangeAt Go.RowKit
abbrev j6(x:Int):Value:= .int .u64 x
abbrev j8(a:Array Value)(T:TypeId)(z:Nat×Nat:=(0,0)):Obj->Prop:=fun o=>o=Obj.cells a T z
abbrev jn:=@qq Tryz.prog
abbrev jo:=@qA Tryz.prog
def q1U{H:Type}:Nat->DataW H->Option (jf)
 |0,_=>none
 |_+1, .lit (.int k n)=>some [.int k n]
 |_+1, .lit (.bool b)=>some [.bool b]
 |_+1, .lit (.string l)=>some [.string ⟨l.toArray⟩]
 |n+1, .agg ds=>(ds.mapM (q1U n)).map List.flatten
 |_+1,_=>none
def qod(P:Program)(f:TypeId->Bool):List Field->Nat->Option Nat
 | [],off=>some off
 |x::r,off=>if x.offset=off/\f x.type=true then qod P f r (off+P.cellsOf x.type) else none
def qd2(P:Program):Nat->TypeId->Bool
 |0,_=>false
 |n+1,t=>match P.underlying t with
  |some (.int _)|some .bool|some .string=>true
  |some (.array k e)=>qd2 P n e&&decide (P.cellsOf t=k*P.cellsOf e)
  |some (.struct b)=>qod P (qd2 P n) b.toList 0==some (P.cellsOf t)
  |_=>false
theorem q8c{α β:Type}{f:α->Option β}:∀(l:List α) (ys:List β),l.length=ys.length->(∀(i:Nat) x,l[i]? =some x->f x=ys[i]?)->l.mapM f=some ys
 | [],[],_,_=>by simp
 |x::l,y::ys,b,h=>by
  have d:=h 0 x rfl;simp only[Zo] at d;have g:=q8c l ys (by simpa using b) (fun i x e=>by have:=h (i+1) x (by simpa using e);simpa using this);rw[List.mapM_cons,d,g];rfl
 | [],_::_,b,_=>by cases b
 |_::_,[],b,_=>by cases b
theorem q5y{cs:jf}(s:Nat):∀k,((List.range k).map fun i=>(cs.drop (i*s)).take s).flatten=cs.take (k*s)
 |0=>by simp
 |k+1=>by
  rw[ZQ,zB,zY,q5y s k,ZK,List.take_add];simp
theorem q9N{P:Program}{f:TypeId->Bool}{cs:jf}:∀(l:List Field) (off b:Nat),qod P f l off=some b->off<=b/\(l.map fun x=>(cs.drop x.offset).take (P.cellsOf x.type)).flatten=(cs.drop off).take (b-off)
 | [],off,b,h=>by
  simp only[qod,Option.some.injEq] at h;subst h;simp
 |x::l,off,b,h=>by
  unfold qod at h
  split at h
  ·rename_i g;obtain⟨h1,d⟩:=q9N (cs:=cs) l _ b h;refine⟨Yu,?_⟩;rw[zF,Z8,d,g.1];have e:b-off=P.cellsOf x.type+(b-(off+P.cellsOf x.type)):=Yu;rw[e,List.take_add,yA]
  ·cases h
theorem qcF{P:Program}{f:TypeId->Bool}:∀(l:List Field) (off d:Nat),qod P f l off=some d->∀x∈l,f x.type=true
 | [],_,_,_,x,b=>by cases b
 |y::l,off,d,h,x,b=>by
  unfold qod at h
  split at h
  ·rename_i e
   rcases zN.1 b with rfl|b
   ·exact e.2
   ·exact qcF l _ _ h x b
  ·cases h
section
variable{H:Type}{enc:TypeId×Value->H}{P:Program}{w:World}{base:Nat}{spare:Nat->Bool}{held:Bool}
theorem q6v:∀(n fuel:Nat) (t:TypeId) (cs:jf) (d:DataW H) (p:List MemPlace),qd2 P n t=true->DataW.trod enc P w base spare held fuel t cs=some (d,p)->q1U n d=some cs
 |0,_,_,_,_,_,h,_=>by simp[qd2] at h
 |n+1,fuel,t,cs,d,p,h,hd=>by
  unfold qd2 at h
  split at h
  ·rename_i hu;obtain⟨m,rfl,b,_⟩:=DataW.trod_int hu hd;simp only[Prod.mk.injEq] at b;rw[b.1];rfl
  ·rename_i hu;obtain⟨m,rfl,b⟩:=DataW.trod_bool hu hd;simp only[Prod.mk.injEq] at b;rw[b.1];rfl
  ·rename_i hu;obtain⟨m,rfl,b,_⟩:=DataW.trod_string hu hd;simp only[Prod.mk.injEq] at b;rw[b.1];simp[q1U]
  ·rename_i k e hu;simp only[zu,decide_eq_true_eq] at h;obtain⟨xs,m,_,b,s,f,j⟩:=DataW.trod_array hu hd;simp only[Prod.mk.injEq] at b;rw[b.1];have hm:(xs.map (·.1)).mapM (q1U n)=some ((List.range k).map fun i=>(cs.drop (i*P.cellsOf e)).take (P.cellsOf e)):=by
    refine q8c _ _ (by simp[f]) fun i x b=>?_
    rw[zI] at b;obtain⟨y,q,rfl⟩:=Zb.1 b;have o:i<k:=by rw[<-f];exact(z7.1 q).1
    have:=j i o;rw[q] at this;rw[q6v n m e _ y.1 y.2 h.1 this];simp[o]
   simp only[q1U,hm,Zu];rw[q5y,<-h.2,<-s,Z4]
  ·rename_i g hu;simp only[beq_iff_eq] at h;obtain⟨xs,m,_,b,s,f,j⟩:=DataW.trod_struct hu hd;simp only[Prod.mk.injEq] at b;rw[b.1];have hm:(xs.map (·.1)).mapM (q1U n)=some (g.toList.map fun x=>(cs.drop x.offset).take (P.cellsOf x.type)):=by
    refine q8c _ _ (by simp[f]) fun i x b=>?_
    rw[zI] at b;obtain⟨y,q,rfl⟩:=Zb.1 b;have o:i<g.size:=by rw[<-f];exact(z7.1 q).1
    have u:g[i]? =some g[i]:=ZE o;have:=j i g[i] u;rw[q] at this;have r:=qcF g.toList 0 _ h g[i] Yw;rw[q6v n m _ _ y.1 y.2 r this];simp[o]
   simp only[q1U,hm,Zu];rw[(q9N (cs:=cs) g.toList 0 _ h).2];simp[<-s]
  ·cases h
end
structure q0y(W0:World)(g:Nat)(cs:jf):Prop where
 size:g<W0.heap.size
 cell:∀j v,cs[j]? =some v->W0.cell? ⟨g,j,none⟩=some v
theorem q0y.st{W0 w:World}{own:Own}{g:Nat}{cs:jf}(h:q0y W0 g cs)(hw:St W0 own w):q0y w g cs:=
 ⟨yq h.size hw.size,fun j v b=>(World.cell?_of_block (w:=W0) (hw.base g h.size)).trans (h.cell j v b)⟩
theorem q0y.kn{W0:World}{own:Own}{g:Nat}{cs:jf}(h:q0y W0 g cs){j:Nat}{v:Value}(b:cs[j]? =some v):Kn W0 own (fun w=>w.cell? ⟨g,j,none⟩=some v):=fun _ hw=>(h.st hw).cell j v b
theorem qmJ{W0:World}{own:Own}{g:Nat}{cs:jf}(h:q0y W0 g cs){j:Nat}{K:Value->Prop}(v:Value)(d:cs[j]? =some v)(b:K v):Ld W0 own ⟨g,j,none⟩ K:=⟨v,h.kn d,b⟩
theorem q0D{W0:World}{own:Own}{g:Nat}{cs:jf}(h:q0y W0 g cs){j n:Nat}{K:jh->Prop}(vs:jf)(f:(cs.drop j).take n=vs)(e:vs.length=n)(d:K vs.toArray):LdN W0 own ⟨g,j,none⟩ n K:=by
 refine⟨vs.toArray,by simpa using e,fun w hw i hi=>?_,d⟩;rw[qM];have b:i<vs.length:=Yu;refine(h.kn (own:=own) (v:=vs[i]) ?_ w hw).trans (by simp[b]);subst f;rw[z7];simp only[zQ,ZN] at b;exact⟨Yu,by simp[List.getElem_take,List.getElem_drop]⟩
theorem qbP{P:Program}{w:World}:∀{l:List (String×DataW Unit)} {ps:List MemPlace},DataW.LaidVars P w l ps->∀{n:String} {d:DataW Unit},(n,d)∈l->
  ∃g t cs fuel p,P.globalNamed n=some g/\(P.globals[g]?).map (·.type)=some t/\w.var? P n=some cs/\DataW.trod (fun _=>()) P w 0 (fun _=>true) false fuel t cs.toList=some (d,p)
 | [],_,_,_,_,h=>by cases h
 |(n',d')::r,ps,s,n,d,h=>by
  obtain⟨g,t,cs,fuel,p,q,b,f,j,k,o,_⟩:=s
  rcases zN.1 h with e|h
  ·cases e;exact⟨g,t,cs,fuel,p,b,f,j,k⟩
  ·exact qbP o h
theorem qfm{P:Program}{w:World}{l:List (String×DataW Unit)}{n:String}{d:DataW Unit}{g:Nat}{t:TypeId}{cs:jf}(A:(l.all fun x=>x.2.handleName?.isNone)=true)
  (h:laidMetH P l w) (hm:(n,d)∈l) (q:P.globalNamed n=some g) (B:(P.globals[g]?).map (·.type)=some t) (z:qd2 P 6 t=true) (y:q1U 6 d=some cs) (f:cs≠ []):q0y w g cs:=by
 rw[MakeChecks.laidMetH_plain _ _ _ A] at h;obtain⟨ps,u,_,_⟩:=h;obtain⟨g',t',cs',fuel,p,k,o,r,s⟩:=qbP u hm;rw[q] at k;obtain rfl:=Option.some.inj k;rw[B] at o;obtain rfl:=Option.some.inj o;have e:=q6v 6 fuel t _ d p z s;rw[y] at e;have e:=(Option.some.inj e).symm;have b:∀j v,cs[j]? =some v->w.cell? ⟨g,j,none⟩=some v:=fun j v C=>by
  rw[World.var?_cell q r j,<-Z7,e,C]
 refine⟨?_,b⟩
 match cs,f with
 |v::_,_=>
  have:=b 0 v rfl;unfold World.cell? at this
  split at this
  ·rename_i hb;exact(Zg.1 hb).1
  ·cases this
namespace Alu
open Go
theorem qpu:FloatKind.f64.format=Ieee.double:=rfl
theorem sw:Ieee.double.signWeight=9223372036854775808:=Yv
theorem bn:Ieee.double.binade=4503599627370496:=Yv
theorem ir:Ieee.double.infRung=9218868437227405312:=Yv
def isN(x:Nat):Bool:=decide (9218868437227405312<x % 9223372036854775808)
theorem qce(x:Nat):(Ieee.double.read x).isNaN=isN x:=by
 unfold Ieee.Format.read isN;simp only[sw,bn,ir]
 split
 ·simp only[Ieee.Datum.isNaN];symm;rw[decide_eq_false_iff_not];omega
 ·split
  ·simp only[Ieee.Datum.isNaN];symm;rw[decide_eq_false_iff_not];omega
  ·split
   ·simp only[Ieee.Datum.isNaN];symm;rw[decide_eq_false_iff_not];omega
   ·simp only[Ieee.Datum.isNaN];symm;rw[decide_eq_true_eq];omega
theorem qda(d:Ieee.Datum):d.order d=if d.isNaN then none else some .eq:=by
 cases d with
 |nan=>rfl
 |infinity s=>simp[Ieee.Datum.order,Ieee.Datum.isNaN]
 |number s m i=>simp[Ieee.Datum.order,Ieee.Datum.isNaN]
theorem qdb(x:Nat):FloatKind.f64.format.order x x=if isN x then none else some .eq:=by
 rw[<-qce];exact qda _
theorem qhV(x:Nat):q6z .neq (FloatKind.f64.format.order x x)=isN x:=by
 rw[qdb];cases isN x <;>rfl
theorem qiz{r:Nat}(h:qrm r):isN r=true:=by
 obtain⟨s,t,hs,e,rfl⟩:=h;unfold isN;rw[decide_eq_true_eq];have b:(2:Nat) ^ 63=9223372036854775808:=Yv;have d:(2:Nat) ^ 52=4503599627370496:=Yv;rw[d] at e;rw[b];omega
def okW(x:Int):Prop:=0<=x/\x<=18446744073709551615
def truthM(b:Bool):Int:=if b then 1 else 0
def nanW:Int:=9221120237041090560
def plainM(x:Nat):Int:=if isN x then nanW else x
theorem q48(W0:World)(own:Own)(a:Nat):jo W0 187 [.float .f64 a] own (.bool (isN a)):=by
 refine qg (sH [] ?_)
 repeat'((try conv=>whnf);first|refine q78 _ (qhV _) ?_|exact Ent.refl|refine And.intro rfl ?_)
 all_goals exact⟨rfl,eB⟩
theorem q2r(W0:World)(own:Own)(a:Nat):jo W0 188 [.float .f64 a] own (j6 (plainM a)):=by
 refine qg (sH [] ?_);cases b:isN a
 ·have d:∀own,jo W0 187 [.float .f64 a] own (.bool false):=fun own=>by rw[<-b];exact q48 W0 own a
  repeat'((try conv=>whnf);first|apply qm (d _)|refine q3I ?_)
  all_goals(refine⟨q0a (vi ?_),eB⟩;simp[plainM,b])
 ·have d:∀own,jo W0 187 [.float .f64 a] own (.bool true):=fun own=>by rw[<-b];exact q48 W0 own a
  repeat'((try conv=>whnf);first|apply qm (d _)|refine q2H ?_)
  all_goals(refine⟨q0a (vi ?_),eB⟩;simp[plainM,b,nanW])
theorem qcw(W0:World)(own:Own)(b:Bool):jo W0 189 [.bool b] own (j6 (truthM b)):=by
 refine qg (sH [] ?_);cases b <;>(repeat'((try conv=>whnf);first|refine q2H ?_|refine q3I ?_);all_goals exact⟨rfl,eB⟩)
theorem qsd{k:IntKind}{m n:Int}{K:Int->Prop}(b:0<=n)(h:K (k.wrap (m*2 ^ (min n.toNat k.bits)))):Shl k m n K:=⟨b,h⟩
theorem qse{k:IntKind}{m n:Int}{K:Int->Prop}(b:0<=n)(h:K (m.fdiv (2 ^ (min n.toNat k.bits)))):Shr k m n K:=⟨b,h⟩
def intsM(fn x y:Int):Int:=
 if fn=0 then IntKind.u64.wrap (x+y) else if fn=1 then IntKind.u64.wrap (x-y) else if fn=2 then IntKind.u64.wrap (x*y) else if fn=3 then qhQ .and .u64 x y else if fn=4 then qhQ .or .u64 x y
 else if fn=5 then qhQ .xor .u64 x y else if fn=6 then IntKind.u64.wrap (x*2 ^ (min (y % 64).toNat IntKind.u64.bits)) else if fn=7 then x.fdiv (2 ^ (min (y % 64).toNat IntKind.u64.bits))
 else if fn=8 then truthM (decide (x=y)) else if fn=9 then truthM (decide (x≠y)) else if fn=10 then truthM (decide (IntKind.i64.wrap x<IntKind.i64.wrap y)) else truthM (decide (x<y))
theorem qnr(W0:World)(own:Own)(fn x y:Int)(hf:0<=fn/\fn<12)(b:okW y):jo W0 142 [j5 fn,j6 x,j6 y] own (j6 (intsM fn x y)):=by
 unfold okW at b;have hw:fn=0\/fn=1\/fn=2\/fn=3\/fn=4\/fn=5\/fn=6\/fn=7\/fn=8\/fn=9\/fn=10\/fn=11:=Yu;refine qg (sH [] ?_)
 rcases hw with rfl|rfl|rfl|rfl|rfl|rfl|rfl|rfl|rfl|rfl|rfl|rfl
 all_goals
  repeat'((try conv=>whnf);first|refine q2H ?_|refine q3I ?_|refine arw ?_|refine qrC ?_|refine qsd Yu ?_|refine qse Yu ?_|apply qm (qcw _ _ _)|refine q3Z ?_ ?_;omega|exact Ent.refl|refine And.intro rfl ?_)
  all_goals exact⟨rfl,eB⟩
def fopM(op:BinOp)(a b:Nat):Int:=match floatBits op .f64 a b with|some r=>plainM r|none=>nanW
theorem q3X{r:Nat}(h:qrm r):plainM r=nanW:=by unfold plainM;rw[qiz h];rfl
theorem qqv(W0:World)(own:Own)(a b:Nat):jo W0 190 [.float .f64 a, .float .f64 b] own (.float .f64 (q5W true a b)):=by
 refine qg (sH [] ?_)
 repeat'((try conv=>whnf);first|refine q2H ?_|exact Ent.refl|refine And.intro rfl ?_)
 all_goals exact⟨rfl,eB⟩
theorem qqu(W0:World)(own:Own)(a b:Nat):jo W0 191 [.float .f64 a, .float .f64 b] own (.float .f64 (q5W false a b)):=by
 refine qg (sH [] ?_)
 repeat'((try conv=>whnf);first|refine q2H ?_|exact Ent.refl|refine And.intro rfl ?_)
 all_goals exact⟨rfl,eB⟩
def floatsM(fn:Int)(a b:Nat):Int:=
 if fn=12 then fopM .add a b else if fn=13 then fopM .sub a b else if fn=14 then fopM .mul a b else if fn=15 then fopM .quo a b
 else if fn=16 then(if isN a||isN b then nanW else plainM (q5W true a b)) else if fn=17 then(if isN a||isN b then nanW else plainM (q5W false a b))
 else if fn=18 then truthM (q6z .eql (FloatKind.f64.format.order a b)) else truthM (q6z .lss (FloatKind.f64.format.order a b))
theorem qgo(W0:World)(own:Own)(fn:Int)(a b:Nat)(hf:12<=fn/\fn<20):jo W0 141 [j5 fn, .float .f64 a, .float .f64 b] own (j6 (floatsM fn a b)):=by
 have e:=fun own=>q48 W0 own a
 have f:=fun own=>q48 W0 own b
 generalize j:isN a=na at e;generalize k:isN b=g at f;refine qg (sH [] ?_);have hw:fn=12\/fn=13\/fn=14\/fn=15\/fn=16\/fn=17\/fn=18\/fn=19:=Yu
 rcases hw with rfl|rfl|rfl|rfl|rfl|rfl|rfl|rfl
 case inl=>
  cases d:floatBits .add .f64 a b <;>cases na <;>cases g
  all_goals
   repeat'((try conv=>whnf);first|refine qO ?_|refine q09 ?_|refine q2H ?_|refine qih _ d ?_|refine qig d fun r h=>?_|apply qm (e _)|apply qm (f _)|apply qm (q2r _ _ _))
   all_goals(refine⟨q0a (vi ?_),eB⟩;simp[floatsM,fopM,d];try exact q3X (by assumption))
 case inr.inl=>
  cases d:floatBits .sub .f64 a b <;>cases na <;>cases g
  all_goals
   repeat'((try conv=>whnf);first|refine qO ?_|refine q09 ?_|refine q2H ?_|refine q3I ?_|refine qih _ d ?_|refine qig d fun r h=>?_|apply qm (e _)|apply qm (f _)|apply qm (q2r _ _ _))
   all_goals(refine⟨q0a (vi ?_),eB⟩;simp[floatsM,fopM,d];try exact q3X (by assumption))
 case inr.inr.inl=>
  cases d:floatBits .mul .f64 a b <;>cases na <;>cases g
  all_goals
   repeat'((try conv=>whnf);first|refine qO ?_|refine q09 ?_|refine q2H ?_|refine q3I ?_|refine qih _ d ?_|refine qig d fun r h=>?_|apply qm (e _)|apply qm (f _)|apply qm (q2r _ _ _))
   all_goals(refine⟨q0a (vi ?_),eB⟩;simp[floatsM,fopM,d];try exact q3X (by assumption))
 case inr.inr.inr.inl=>
  cases d:floatBits .quo .f64 a b <;>cases na <;>cases g
  all_goals
   repeat'((try conv=>whnf);first|refine qO ?_|refine q09 ?_|refine q2H ?_|refine q3I ?_|refine qih _ d ?_|refine qig d fun r h=>?_|apply qm (e _)|apply qm (f _)|apply qm (q2r _ _ _))
   all_goals(refine⟨q0a (vi ?_),eB⟩;simp[floatsM,fopM,d];try exact q3X (by assumption))
 all_goals
  cases na <;>cases g
  all_goals
   repeat'((try conv=>whnf);first|refine qO ?_|refine q09 ?_|refine q2H ?_|refine q3I ?_|refine qpv ?_|apply qm (e _)|apply qm (f _)|apply qm (q2r _ _ _)|apply qm (qcw _ _ _)|apply qm (qqv _ _ _ _)|apply qm (qqu _ _ _ _)|exact Ent.refl|refine And.intro rfl ?_)
   all_goals(refine⟨q0a (vi ?_),eB⟩;simp[floatsM,j,k,nanW])
def qrk:Nat:=4890909195324358656
def qrj:Nat:=14114281232179134464
theorem qiO:Ieee.double.read qrk= .number false 4503599627370496 11:=Yv
theorem qfS:Ieee.double.read qrj= .number true 4503599627370496 11:=Yv
theorem qbo(s:Bool)(n drop:Nat):Ieee.Toward.zero.cut s n drop=n/2 ^ (min drop (n.log2+2)):=by
 simp[Ieee.Toward.cut,Nat.shiftLeft_eq]
theorem qoX{s:Bool}{n drop j:Nat}(h:n<2 ^ (drop+j)):Ieee.Toward.zero.cut s n drop<2 ^ j:=by
 rw[qbo]
 by_cases hd:drop<=n.log2+2
 ·rw[Ye hd];refine(Nat.div_lt_iff_lt_mul (Nat.two_pow_pos _)).2 ?_;rw[<-yb,yU j drop];exact h
 ·rw[Nat.min_eq_right Yu];have b:n<2 ^ (n.log2+2):=yq Nat.lt_log2_self (Nat.pow_le_pow_right Yu Yu);rw[Nat.div_eq_of_lt b];exact Nat.two_pow_pos _
theorem qoW{s:Bool}{n drop j:Nat}(h:n<=2 ^ (drop+j)):Ieee.Toward.zero.cut s n drop<=2 ^ j:=by
 rw[qbo]
 by_cases hd:drop<=n.log2+2
 ·rw[Ye hd];refine Nat.div_le_of_le_mul ?_;rw[<-yb];exact h
 ·rw[Nat.min_eq_right Yu];have b:n<2 ^ (n.log2+2):=yq Nat.lt_log2_self (Nat.pow_le_pow_right Yu Yu);rw[Nat.div_eq_of_lt b];exact zv _
theorem qg4{s:Bool}{m:Nat}{e:Int}(h:m<<<(e-min e 11).toNat<4503599627370496<<<(11-min e 11).toNat):Ieee.Toward.zero.cut s (m<<<e.toNat) (-e).toNat<9223372036854775808:=by
 have k:(9223372036854775808:Nat)=2 ^ 63:=Yv;have g:(4503599627370496:Nat)=2 ^ 52:=Yv;rw[k];refine qoX ?_;rw[g,y4,y4,<-yb] at h;rw[y4]
 by_cases h11:11<=e
 ·have f:min e 11=11:=Yu;rw[f] at h;have b:(-e).toNat=0:=Yu;have d:e.toNat=(e-11).toNat+11:=Yu;rw[b,d,yb,<-Nat.mul_assoc];have:=Nat.mul_lt_mul_of_pos_right h (show 0<2 ^ 11 by decide);rw[<-yb] at this
  simpa using this
 ·have f:min e 11=e:=Yu;rw[f] at h;have j:(e-e).toNat=0:=Yu;rw[j,Nat.pow_zero,yG] at h
  by_cases hneg:e<0
  ·have b:e.toNat=0:=Yu;rw[b,Nat.pow_zero,yG];have d:(-e).toNat+63=52+(11-e).toNat:=Yu;rw[d];exact h
  ·have b:(-e).toNat=0:=Yu;have d:0+63=52+(11-e).toNat+e.toNat:=Yu;rw[b,d,yb _ _ e.toNat];exact Nat.mul_lt_mul_of_pos_right h (Nat.two_pow_pos _)
theorem qdh{s:Bool}{m:Nat}{e:Int}(h:m<<<(e-min e 11).toNat<=4503599627370496<<<(11-min e 11).toNat):Ieee.Toward.zero.cut s (m<<<e.toNat) (-e).toNat<=9223372036854775808:=by
 have k:(9223372036854775808:Nat)=2 ^ 63:=Yv;have g:(4503599627370496:Nat)=2 ^ 52:=Yv;rw[k];refine qoW ?_;rw[g,y4,y4,<-yb] at h;rw[y4]
 by_cases h11:11<=e
 ·have f:min e 11=11:=Yu;rw[f] at h;have b:(-e).toNat=0:=Yu;have d:e.toNat=(e-11).toNat+11:=Yu;rw[b,d,yb,<-Nat.mul_assoc];have:=ZW (2 ^ 11) h;rw[<-yb] at this
  simpa using this
 ·have f:min e 11=e:=Yu;rw[f] at h;have j:(e-e).toNat=0:=Yu;rw[j,Nat.pow_zero,yG] at h
  by_cases hneg:e<0
  ·have b:e.toNat=0:=Yu;rw[b,Nat.pow_zero,yG];have d:(-e).toNat+63=52+(11-e).toNat:=Yu;rw[d];exact h
  ·have b:(-e).toNat=0:=Yu;have d:0+63=52+(11-e).toNat+e.toNat:=Yu;rw[b,d,yb _ _ e.toNat];exact ZW _ h
theorem qi9{b:Nat}(u:isN b=false)(g:q6z .geq (FloatKind.f64.format.order b qrk)=false)(f:q6z .lss (FloatKind.f64.format.order b qrj)=false):∃n,floatToIntVal .f64 b .i64=some n:=by
 rw[<-qce] at u;unfold floatToIntVal FloatKind.decode;rw[qpu] at*;unfold Ieee.Format.order at g f;rw[qiO] at g;rw[qfS] at f;generalize Ieee.double.read b=d at*;cases d with
 |nan=>simp[Ieee.Datum.isNaN] at u
 |infinity s=>cases s <;>simp[Ieee.Datum.order,q6z] at g f
 |number s m e=>
  simp only[Ieee.Datum.order,q6z] at g f;simp only[Ieee.Datum.toInt,Ieee.Datum.integral];have k:IntKind.i64.min= -9223372036854775808:=rfl;have j:IntKind.i64.max=9223372036854775807:=rfl;have q:IntKind.i64.min<=Ieee.signed s (Ieee.Toward.zero.cut s (m<<<e.toNat) (-e).toNat) 0/\Ieee.signed s (Ieee.Toward.zero.cut s (m<<<e.toNat) (-e).toNat) 0<=IntKind.i64.max:=by
   rw[k,j];cases s with
   |false=>
    have r:m<<<(e-min e 11).toNat<4503599627370496<<<(11-min e 11).toNat:=by
     rcases yJ (m<<<(e-min e 11).toNat) (4503599627370496<<<(11-min e 11).toNat) with h|h
     ·exact h
     ·exfalso;have o:compare (Ieee.signed false m (e-min e 11).toNat) (Ieee.signed false 4503599627370496 (11-min e 11).toNat)≠ .lt:=by
       simp only[Ieee.signed,zL,if_false,ne_eq,Int.compare_eq_lt];omega
      revert g o
      generalize compare (Ieee.signed false m (e-min e 11).toNat) (Ieee.signed false 4503599627370496 (11-min e 11).toNat)=c;cases c <;>simp
    have:=qg4 (s:=false) r;simp only[Ieee.signed,zL,if_false,Nat.shiftLeft_zero];omega
   |true=>
    have hle:m<<<(e-min e 11).toNat<=4503599627370496<<<(11-min e 11).toNat:=by
     rcases yJ (4503599627370496<<<(11-min e 11).toNat) (m<<<(e-min e 11).toNat) with h|h
     ·exfalso;have o:compare (Ieee.signed true m (e-min e 11).toNat) (Ieee.signed true 4503599627370496 (11-min e 11).toNat)= .lt:=by
       simp only[Ieee.signed,if_true,Int.compare_eq_lt];omega
      rw[o] at f;simp at f
     ·exact h
    have:=qdh (s:=true) hle;simp only[Ieee.signed,if_true,Nat.shiftLeft_zero];omega
  exact⟨_,if_pos q⟩
def q7y(b:Nat):Int:=
 if isN b then 0 else if q6z .geq (FloatKind.f64.format.order b qrk) then 9223372036854775807 else if q6z .lss (FloatKind.f64.format.order b qrj) then-9223372036854775808 else(floatToIntVal .f64 b .i64).getD 0
theorem qjM(W0:World)(own:Own)(a:Nat):jo W0 139 [.float .f64 a] own (j5 (q7y a)):=by
 have f:=fun own=>q48 W0 own a
 refine qg (sH [] ?_);cases d:isN a <;>rw[d] at f
 ·cases b:q6z .geq (FloatKind.f64.format.order a qrk)
  ·cases e:q6z .lss (FloatKind.f64.format.order a qrj)
   ·obtain⟨n,he⟩:=qi9 d b e
    repeat'((try conv=>whnf);first|refine q3I ?_|apply qm (f _)|refine q78 _ b ?_|refine q78 _ e ?_|refine qrN _ he ?_)
    all_goals(refine⟨q0a (vi ?_),eB⟩;simp[q7y,d,b,e,he])
   ·repeat'((try conv=>whnf);first|refine q2H ?_|refine q3I ?_|apply qm (f _)|refine q78 _ b ?_|refine q78 _ e ?_)
    all_goals(refine⟨q0a (vi ?_),eB⟩;simp[q7y,d,b,e])
  ·repeat'((try conv=>whnf);first|refine q2H ?_|refine q3I ?_|apply qm (f _)|refine q78 _ b ?_)
   all_goals(refine⟨q0a (vi ?_),eB⟩;simp[q7y,d,b])
 ·repeat'((try conv=>whnf);first|refine q2H ?_|apply qm (f _))
  all_goals(refine⟨q0a (vi ?_),eB⟩;simp[q7y,d])
def applyW(fn x y:Int):Int:=
 if 0<=fn/\fn<22 then
  if fn=20 then(FloatKind.f64.nearest (IntKind.i64.wrap x):Int) else if fn=21 then IntKind.u64.wrap (q7y x.toNat) else if 12<=fn then floatsM fn x.toNat y.toNat else intsM fn x y
 else 0
def q6Y(fn:Int):Int:=if 0<=fn/\fn<22 then 0 else 10
theorem sp_apply(W0:World)(own:Own)(fn x y:Int)(g:okW y):
  jo W0 111 [j5 fn,j6 x,j6 y] own (.tuple #[j6 (applyW fn x y),j5 (q6Y fn)]):=by
 refine qg (sH [] ?_)
 by_cases h:0<=fn/\fn<22
 ·by_cases b:fn=20
  ·subst b
   repeat'((try conv=>whnf);first|refine qO ?_|refine q2H ?_|refine q3I ?_|refine arw ?_)
   all_goals(refine⟨qhA (vi ?_) (vi ?_),eB⟩ <;>simp[applyW,q6Y])
  ·by_cases d:fn=21
   ·subst d
    repeat'((try conv=>whnf);first|refine qO ?_|refine q2H ?_|refine q3I ?_|apply qm (qjM _ _ _)|refine arw ?_)
    all_goals(refine⟨qhA (vi ?_) (vi ?_),eB⟩ <;>simp[applyW,q6Y])
   ·by_cases e:12<=fn
    ·repeat'((try conv=>whnf);first|refine qO ?_|refine q0G Yu ?_|refine q1r Yu ?_|refine q3H Yu ?_|apply qm (qgo _ _ fn _ _ Yu))
     all_goals(refine⟨qhA (vi ?_) (vi ?_),eB⟩ <;>simp[applyW,q6Y,h,b,d,e])
    ·repeat'((try conv=>whnf);first|refine qO ?_|refine q1r Yu ?_|refine q3H Yu ?_|apply qm (qnr _ _ fn _ _ Yu g))
     all_goals(refine⟨qhA (vi ?_) (vi ?_),eB⟩ <;>simp[applyW,q6Y,h,b,d,e])
 ·repeat'((try conv=>whnf);first|refine qO ?_|refine q09 ?_|refine q2H ?_|refine q0G Yu ?_|refine q1w (fun f=>?_) fun f=>?_)
  all_goals first|exfalso;omega|(refine⟨qhA (vi ?_) (vi ?_),eB⟩ <;>simp[applyW,q6Y,h])
theorem fb_lt{op:BinOp}{a b r:Nat}(h:floatBits op .f64 a b=some r):r<18446744073709551616:=by
 have:=floatBits_wf h
 simpa [Lit.wf] using this
end Alu
open Go
structure Ins where
 op:Int
 a:Int
 b:Int
 c:Int
 imm:Int
abbrev Ins.enc(i:Ins):jf:= [j5 i.op,j5 i.a,j5 i.b,j5 i.c,j5 i.imm]
abbrev Ins.v(i:Ins):Value:= .agg #[j5 i.op,j5 i.a,j5 i.b,j5 i.c,j5 i.imm]
def has(s:ByteArray)(c:Int):Bool:=decide (0<=qhv s c)
theorem qdT(c:UInt8):(⟨#[c]⟩:ByteArray).size=1:=rfl
theorem qja(W0:World)(own:Own)(s:ByteArray)(c:Int):jo W0 327 [.string s, .int .u8 c] own (j5 (qhv s c)):=by
 refine qg (sH [] ?_)
 repeat'((try conv=>whnf);first|exact Ent.refl|refine And.intro rfl ?_)
 all_goals exact⟨rfl,eB⟩
theorem qsf{c:UInt8}{K:Value->Prop}(h:K (.int .u8 c.toNat)):qsw ⟨#[c]⟩ 0 K:=⟨0,c,rfl,rfl,h⟩
theorem qip(c:UInt8):qhv ⟨#[c]⟩ c.toNat=0:=by
 unfold qhv;have e:((c.toNat:Int).toNat.toUInt8)=c:=Yw;have b:((⟨#[c]⟩:ByteArray)[0]!)=c:=rfl;have d:(List.range (⟨#[c]⟩:ByteArray).size).find? (fun i=>(⟨#[c]⟩:ByteArray)[i]! ==(c.toNat:Int).toNat.toUInt8)=some 0:=by
  show(List.range 1).find? _=some 0;simp only[ZQ,List.range_zero,zk,List.find?_cons,b,e,beq_self_eq_true]
 rw[d];rfl
theorem qgM(W0:World)(own:Own)(s:ByteArray)(c:UInt8):jo W0 315 [.string s, .string ⟨#[c]⟩] own (j5 (qhv s c.toNat)):=by
 refine qg (sH [] ?_)
 by_cases b:(⟨#[c]⟩:ByteArray).toList=s.toList
 ·have e:s=⟨#[c]⟩:=by
   rw[ByteArray.toList_eq,ByteArray.toList_eq] at b;have:=ZM.1 b;cases s;simp at this;rw[<-this]
  subst e
  repeat'((try conv=>whnf);first|refine q0G ?_ ?_;(solve|simp|(simp;omega))|refine qO ?_)
  all_goals(refine⟨q0a (vi ?_),eB⟩;first|rfl|exact(qip c).symm)
 ·repeat'((try conv=>whnf);first|refine q1r b ?_|refine qsf ?_|apply qm (qja _ _ s c.toNat)|refine qO ?_|refine q2H ?_|exact Ent.refl|refine And.intro rfl ?_)
  all_goals exact⟨rfl,eB⟩
theorem q8s(W0:World)(own:Own)(s:ByteArray)(c:UInt8):jo W0 250 [.string s, .string ⟨#[c]⟩] own (j5 (qhv s c.toNat)):=by
 refine qg (sH [] ?_)
 repeat'((try conv=>whnf);first|apply qm (qgM _ _ s c)|exact Ent.refl|refine And.intro rfl ?_)
 all_goals exact⟨rfl,eB⟩
theorem q3E(W0:World)(own:Own)(s:ByteArray)(c:UInt8):jo W0 192 [.string s, .string ⟨#[c]⟩] own (.bool (has s c.toNat)):=by
 refine qg (sH [] ?_)
 repeat'((try conv=>whnf);first|apply qm (q8s _ _ s c)|exact Ent.refl|refine And.intro rfl ?_)
 all_goals exact⟨rfl,eB⟩
def qhB(op:Int):Bool:=op==1||op==2||op==3||op==5||op==6||op==10||op==11||op==12||op==13||op==14||op==15||op==17
def qlc(op:Int):Bool:=op==2||op==3||op==10||op==11||op==12||op==13
def qld(op:Int):Bool:=op==3
def q1t(u:Bool)(r:Int):Prop:=if u then 0<=r/\r<8 else r=0
instance(u:Bool)(r:Int):Decidable (q1t u r):=by unfold q1t;infer_instance
def q4u(op imm:Int):Prop:=
 if op=1\/op=10\/op=11\/op=12\/op=13 then True else if op=3 then 0<=imm/\imm<22 else if op=4\/op=5\/op=6 then 0<=imm/\imm<=64 else if op=7 then 1<=imm/\imm<=8 else if op=14 then 0<=imm/\imm<4 else imm=0
instance(op imm:Int):Decidable (q4u op imm):=by unfold q4u;infer_instance
def qJ(i:Ins):Int:=
 if i.op<0\/18<=i.op then 10 else if q1t (qhB i.op) i.a/\q1t (qlc i.op) i.b/\q1t (qld i.op) i.c then(if q4u i.op i.imm then 0 else 11) else 11
def qf1:jf:= [.string ⟨#[110,111,112]⟩, .string ⟨#[]⟩, .string ⟨#[99,111,110,115,116]⟩, .string ⟨#[65,73]⟩, .string ⟨#[109,111,118,101]⟩, .string ⟨#[65,66]⟩, .string ⟨#[]⟩, .string ⟨#[65,66,67]⟩, .string ⟨#[106,117,109,112]⟩, .string ⟨#[73]⟩,
 .string ⟨#[122,101,114,111]⟩, .string ⟨#[65,73]⟩, .string ⟨#[110,111,110,122,101,114,111]⟩, .string ⟨#[65,73]⟩, .string ⟨#[98,101,103,105,110]⟩, .string ⟨#[73]⟩, .string ⟨#[99,111,109,109,105,116]⟩, .string ⟨#[]⟩, .string ⟨#[97,98,111,114,116]⟩, .string ⟨#[]⟩,
 .string ⟨#[116,114,101,97,100]⟩, .string ⟨#[65,66,73]⟩, .string ⟨#[116,119,114,105,116,101]⟩, .string ⟨#[65,66,73]⟩, .string ⟨#[112,114,101,97,100]⟩, .string ⟨#[65,66,73]⟩, .string ⟨#[112,119,114,105,116,101]⟩, .string ⟨#[65,66,73]⟩,
 .string ⟨#[97,108,108,111,99]⟩, .string ⟨#[65,73]⟩, .string ⟨#[102,114,101,101]⟩, .string ⟨#[65]⟩, .string ⟨#[102,101,110,99,101]⟩, .string ⟨#[]⟩, .string ⟨#[111,117,116,99,111,109,101]⟩, .string ⟨#[65]⟩]
def qz(W0:World):Prop:=q0y W0 2 qf1
theorem qo2{s:ByteArray}{f e:Option Int}{K:Value->Prop}(l r:Nat)(t:ByteArray)(g:f.getD 0=l)(j:e.getD s.size=r)(b:Nat.ble l r=true)(d:Nat.ble r s.size=true)(k:s.extract l r=t)(h:K (.string t)):qsx s f e K:=
 ⟨l,r,g,j,by simpa using b,by simpa using d,by rw[k];exact h⟩
theorem qmh:(⟨#[65,66,67]⟩:ByteArray).extract 0 1=⟨#[65]⟩:=by decide+kernel
theorem qmi:(⟨#[65,66,67]⟩:ByteArray).extract 1 2=⟨#[66]⟩:=by decide+kernel
theorem qmj:(⟨#[65,66,67]⟩:ByteArray).extract 2 3=⟨#[67]⟩:=by decide+kernel
theorem qkT{W0:World}{own:Own}{s:ByteArray}{c:UInt8}{K:Value->Prop}(b:Bool)(hb:has s c.toNat=b)(h:K (.bool b)):q50 Tryz.prog W0 own 192 [.string s, .string ⟨#[c]⟩] K:=
 q2M (fun _=>q3E _ _ s c) (by rw[hb];exact h)
theorem qgD(W0:World)(own:Own)(i:Ins):jo W0 193 [i.v] own (.bool (decide (q4u i.op i.imm))):=by
 refine qg (sH [] ?_)
 repeat'((try conv=>whnf);first|refine qO ?_|refine q1I ?_|refine q0G Yu ?_|apply qS;exact eM;exact rfl|refine qf fun bk hbk=>?_|refine q4K (fun b=>?_) fun b=>?_|refine q59 (fun b=>?_) fun b=>?_)
 all_goals(refine⟨q0a (vb ?_),eB⟩)
 all_goals first|(refine dd ?_;unfold q4u;(repeat' split) <;>omega)|(refine dt ?_;unfold q4u;(repeat' split) <;>first|exact True.intro|omega)|(refine df ?_;unfold q4u;(repeat' split) <;>omega)
theorem qdu(W0:World)(own:Own)(h:qz W0)(op a b c imm:Int)(I:Bool)(j:∀own,jo W0 193 [.agg #[j5 op,j5 a,j5 b,j5 c,j5 imm]] own (.bool I)):
  jo W0 143 [.agg #[j5 op,j5 a,j5 b,j5 c,j5 imm]] own (j5 (if op<0\/18<=op then 10 else if q1t (qhB op) a/\q1t (qlc op) b/\q1t (qld op) c then(if I then 0 else 11) else 11)):=by
 refine qg (sH (jq 11 3 [0]) ?_)
 by_cases e:op<0\/18<=op
 ·rw[if_pos e]
  repeat'((try conv=>whnf);first|refine qO ?_|refine q09 ?_|refine q2H ?_|refine q0G Yu ?_|apply qS;exact eM;exact rfl|refine qf fun g f=>?_|refine q1w (fun d=>?_) fun d=>?_|exact Ent.refl|refine Ent.cons ?_|refine And.intro rfl ?_)
  all_goals first|exact⟨rfl,eB⟩|exfalso;omega
 ·rw[if_neg e];have hw:op=0\/op=1\/op=2\/op=3\/op=4\/op=5\/op=6\/op=7\/op=8\/op=9\/op=10\/op=11\/op=12\/op=13\/op=14\/op=15\/op=16\/op=17:=Yu;cases I <;>rcases hw with rfl|rfl|rfl|rfl|rfl|rfl|rfl|rfl|rfl|rfl|rfl|rfl|rfl|rfl|rfl|rfl|rfl|rfl
  all_goals
   repeat'((try conv=>whnf);first|refine qO ?_|refine q1I ?_|refine q09 ?_|refine q2H ?_|refine q3I ?_|refine q1y 4 ?_|refine qmJ h _ rfl ?_|refine qo2 0 1 _ rfl rfl rfl rfl qmh ?_|refine qo2 1 2 _ rfl rfl rfl rfl qmi ?_|refine qo2 2 3 _ rfl rfl rfl rfl qmj ?_|refine qkT true rfl ?_|refine qkT false rfl ?_|apply qm (j _)|refine fB ?_|refine fO ?_|refine ix0 rfl ?_|refine ix1 rfl ?_|refine ix2 rfl ?_|refine ix3 rfl ?_|refine ix4 rfl ?_|refine fP ?_|apply qS;exact eM;exact rfl|apply q07;exact eM;exact rfl|refine qf fun g f=>?_|refine q1w (fun d=>?_) fun d=>?_|refine q59 (fun d=>?_) fun d=>?_)
   all_goals(refine⟨q0a (vi ?_),eB⟩;simp[q1t,qhB,qlc,qld];try omega)
theorem q6h(W0:World)(own:Own)(b:qz W0)(i:Ins):jo W0 143 [i.v] own (j5 (qJ i)):=by
 have h:=qdu W0 own b i.op i.a i.b i.c i.imm _ (fun own=>qgD W0 own i);simp only[decide_eq_true_eq] at h;exact h
def qky(c:Int):List UInt8->Bool
 | []=>false
 |x::l=>if(x.toNat:Int)=c then true else qky c l
theorem qaQ(W0:World)(own:Own)(s:ByteArray)(c:Int)(hs:s.size<=9223372036854775807):jo W0 133 [.string s, .int .u8 c] own (.bool (qky c s.data.toList)):=by
 refine qg (sH [] ?_);have hsz:s.data.toList.length=s.size:=Yw;refine q1o (σ:=Nat) (fun k=> [(5,j5 k)]) (fun k=>k<=s.size/\qky c (s.data.toList.drop k)=qky c s.data.toList) (fun k=>s.size-k) 0 ⟨Yu,rfl⟩ (eF) rfl ?_;rintro k junk ⟨hk,b⟩
 by_cases hlt:k<s.size
 ·obtain⟨x,e⟩:∃x,s.data.toList[k]? =some x:=⟨_,z6 Yu⟩
  have hd:s.data.toList.drop k=x::s.data.toList.drop (k+1):=by
   rw[ZG Yu]
   congr 1
   exact(z7.1 e).2
  rw[hd,qky] at b
  repeat'((try conv=>whnf);first|refine q0G Yu ?_|refine⟨k,x,rfl,e,?_⟩|refine fB ?_|refine q59 (fun d=>?_) fun d=>?_)
  ·rw[if_pos d] at b;exact⟨q0a (vb b),eB⟩
  ·rw[if_neg d] at b;exact⟨k+1,⟨Yu,b⟩,Yu,(eF),Ent.refl⟩
 ·have:k=s.data.toList.length:=Yu;rw[this,ZC] at b
  repeat'((try conv=>whnf);first|refine q1r Yu ?_)
  exact⟨q0a (vb b),eB⟩
def qfW:List ByteArray:= [⟨#[]⟩,⟨#[114,105]⟩,⟨#[114,115]⟩,⟨#[114,115,116,102]⟩,⟨#[106]⟩,⟨#[114,106]⟩,⟨#[114,106]⟩,⟨#[97]⟩,⟨#[]⟩,⟨#[]⟩,⟨#[114,115,105]⟩,⟨#[114,115,105]⟩,⟨#[114,115,105]⟩,⟨#[114,115,105]⟩,⟨#[114,99]⟩,⟨#[114]⟩,⟨#[]⟩,⟨#[114]⟩]
def qdf(op:Int):ByteArray:=qfW.getD op.toNat ⟨#[]⟩
theorem qcs(W0:World)(own:Own)(op:Int)(h:0<=op/\op<18):jo W0 131 [j5 op] own (.string (qdf op)):=by
 refine qg (sH [] ?_);have d:qfW.length=18:=rfl;have b:(qfW.map Value.string)[0+op.toNat*1]? =some (.string (qdf op)):=by
  have e:0+op.toNat*1=op.toNat:=Yu;rw[e];have:op.toNat<18:=Yu;simp[qdf,d,this]
 repeat'((try conv=>whnf);first|refine qS _ (List.Mem.head _) b ?_|refine qmE ?_ ?_;omega|refine qf fun bk hbk=>?_)
 all_goals exact⟨rfl,eB⟩
theorem q9E(W0:World)(own:Own)(r:Int)(u:Bool):jo W0 132 [j5 r, .bool u] own (.bool (decide (q1t u r))):=by
 refine qg (sH [] ?_);cases u
 all_goals
  repeat'((try conv=>whnf);first|refine qO ?_|refine q1I ?_|refine q2H ?_|refine q3I ?_|refine q4K (fun b=>?_) fun b=>?_|exact Ent.refl|refine And.intro rfl ?_)
  all_goals(refine⟨q0a (vb ?_),eB⟩)
  all_goals first|(refine dd ?_;simp[q1t];try omega)|(refine df ?_;simp[q1t];try omega)|(refine dt ?_;simp[q1t];try omega)
theorem qkU{W0:World}{own:Own}{s:ByteArray}{c:Int}{K:Value->Prop}(b:Bool)(hb:qky c s.data.toList=b)(d:Nat.ble s.size 10=true)(h:K (.bool b)):q50 Tryz.prog W0 own 133 [.string s, .int .u8 c] K:=
 q2M (fun _=>qaQ _ _ s c (by have:=Nat.le_of_ble_eq_true d;omega)) (by rw[hb];exact h)
theorem qkO{W0:World}{own:Own}{s:ByteArray}{c:Int}{K:Value->Own->Prop}(b:Bool)(hb:qky c s.data.toList=b)(d:Nat.ble s.size 10=true)(h:K (.bool b) own):q0k Tryz.prog W0 own 133 [.string s, .int .u8 c] K:=
 qm (qaQ _ _ s c (by have:=Nat.le_of_ble_eq_true d;omega)) (by rw[hb];exact h)
theorem qdz(W0:World)(own:Own)(op a b c imm:Int):
  jo W0 98 [.agg #[j5 op,j5 a,j5 b,j5 c,j5 imm]] own (j5 (qJ ⟨op,a,b,c,imm⟩)):=by
 refine qg (sH (jq 22 3 [0]) ?_);simp only[qJ]
 by_cases e:op<0\/18<=op
 ·rw[if_pos e]
  repeat'((try conv=>whnf);first|refine qO ?_|refine q09 ?_|refine q2H ?_|refine q0G Yu ?_|apply qS;exact eM;exact rfl|refine qf fun k j=>?_|refine q1w (fun d=>?_) fun d=>?_|exact Ent.refl|refine Ent.cons ?_|refine And.intro rfl ?_)
  all_goals first|exact⟨rfl,eB⟩|exfalso;omega
 ·rw[if_neg e];have hw:op=0\/op=1\/op=2\/op=3\/op=4\/op=5\/op=6\/op=7\/op=8\/op=9\/op=10\/op=11\/op=12\/op=13\/op=14\/op=15\/op=16\/op=17:=Yu
  by_cases f:q1t (qhB op) a <;>by_cases g:q1t (qlc op) b <;>by_cases h:q1t (qld op) c
  all_goals rcases hw with rfl|rfl|rfl|rfl|rfl|rfl|rfl|rfl|rfl|rfl|rfl|rfl|rfl|rfl|rfl|rfl|rfl|rfl
  all_goals
   repeat'((try conv=>whnf);first|refine qO ?_|refine q09 ?_|refine q2H ?_|refine q3I ?_|refine q8B f ?_|refine q8A f ?_|refine q8B g ?_|refine q8A g ?_|refine q8N h ?_|refine qbe h ?_|apply qm (qcs _ _ _ Yv)|refine qkU true rfl rfl ?_|refine qkU false rfl rfl ?_|refine qkO true rfl rfl ?_|refine qkO false rfl rfl ?_|apply q2M (fun _=>q9E _ _ _ _)|apply qS;exact eM;exact rfl|refine qf fun k j=>?_|refine q1w (fun d=>?_) fun d=>?_|refine q59 (fun d=>?_) fun d=>?_)
   all_goals(refine⟨q0a (vi ?_),eB⟩;simp[f,g,h,q4u];try omega)
theorem q6k(W0:World)(own:Own)(i:Ins):jo W0 98 [i.v] own (j5 (qJ i)):=qdz W0 own i.op i.a i.b i.c i.imm
def q1x(i:Ins):Int:=
 if qJ i=0 then(if i.op=8\/i.op=9\/i.op=10\/i.op=11\/i.op=14\/i.op=15 then 1 else if i.op=7\/i.op=12\/i.op=13\/i.op=16\/i.op=17 then 2 else 0) else 0
def q18(i:Ins):Bool:=decide (qJ i=0/\(i.op=4\/i.op=5\/i.op=6))
def q6I(i:Ins):Int:=if q18 i then i.imm else 0
theorem qgu(W0:World)(own:Own)(d:qz W0)(i:Ins):jo W0 144 [i.v] own (j5 (q1x i)):=by
 refine qg (sH [] ?_);have b:=fun own=>q6h W0 own d i
 unfold q1x;generalize qJ i=z at*
 repeat'((try conv=>whnf);first|refine q0G Yu ?_|apply qm (b _)|apply qS;exact eM;exact rfl|apply q07;exact eM;exact rfl|refine qf fun bk hbk=>?_|refine q59 (fun b=>?_) fun b=>?_)
 all_goals(refine⟨q0a (vi ?_),eB⟩;(repeat' split) <;>first|rfl|omega)
theorem qgI(W0:World)(own:Own)(i:Ins):jo W0 99 [i.v] own (j5 (q1x i)):=by
 refine qg (sH [] ?_);have b:=fun own=>q6k W0 own i
 unfold q1x;generalize qJ i=z at*
 repeat'((try conv=>whnf);first|refine q0G Yu ?_|apply qm (b _)|apply qS;exact eM;exact rfl|apply q07;exact eM;exact rfl|refine qf fun bk hbk=>?_|refine q59 (fun b=>?_) fun b=>?_)
 all_goals(refine⟨q0a (vi ?_),eB⟩;(repeat' split) <;>first|rfl|omega)
theorem qgv(W0:World)(own:Own)(d:qz W0)(i:Ins):jo W0 194 [i.v] own (.tuple #[j5 (q6I i), .bool (q18 i)]):=by
 refine qg (sH [] ?_);have b:=fun own=>q6h W0 own d i
 unfold q6I q18;generalize qJ i=z at*
 repeat'((try conv=>whnf);first|refine q0G Yu ?_|apply qm (b _)|apply qS;exact eM;exact rfl|apply q07;exact eM;exact rfl|refine qf fun bk hbk=>?_|refine q59 (fun b=>?_) fun b=>?_)
 all_goals(refine⟨qhA (vi ?_) (vb ?_),eB⟩)
 all_goals first|rfl|simp;done|simp[*];done|simp;omega|symm;simp;omega
theorem qgJ(W0:World)(own:Own)(i:Ins):jo W0 100 [i.v] own (.tuple #[j5 (q6I i), .bool (q18 i)]):=by
 refine qg (sH [] ?_);have d:=fun own=>q6k W0 own i
 unfold q6I q18
 by_cases f:qJ i=0
 ·have e:¬(i.op<0\/18<=i.op):=by
   intro h;unfold qJ at f;rw[if_pos h] at f;omega
  have n:=fun own=>qcs W0 own i.op Yu
  have o:qky 106 (qdf i.op).data.toList=decide (i.op=4\/i.op=5\/i.op=6):=by
   obtain⟨op,b⟩:∃op,op=i.op:=⟨_,rfl⟩
   rw[<-b] at e ⊢;have hw:op=0\/op=1\/op=2\/op=3\/op=4\/op=5\/op=6\/op=7\/op=8\/op=9\/op=10\/op=11\/op=12\/op=13\/op=14\/op=15\/op=16\/op=17:=Yu
   rcases hw with rfl|rfl|rfl|rfl|rfl|rfl|rfl|rfl|rfl|rfl|rfl|rfl|rfl|rfl|rfl|rfl|rfl|rfl <;>decide+kernel
  have hsz:(qdf i.op).size<=10:=by
   obtain⟨op,b⟩:∃op,op=i.op:=⟨_,rfl⟩
   rw[<-b] at e ⊢;have hw:op=0\/op=1\/op=2\/op=3\/op=4\/op=5\/op=6\/op=7\/op=8\/op=9\/op=10\/op=11\/op=12\/op=13\/op=14\/op=15\/op=16\/op=17:=Yu
   rcases hw with rfl|rfl|rfl|rfl|rfl|rfl|rfl|rfl|rfl|rfl|rfl|rfl|rfl|rfl|rfl|rfl|rfl|rfl <;>decide+kernel
  have j:=fun own=>qaQ W0 own (qdf i.op) 106 Yu
  rw[o] at j;rw[f] at d ⊢
  repeat'((try conv=>whnf);first|refine qO ?_|apply qm (d _)|apply qm (n _)|apply qm (j _)|apply qS;exact eM;exact rfl|apply q07;exact eM;exact rfl|refine qf fun k g=>?_|refine qel (fun d=>?_) fun d=>?_)
  all_goals(refine⟨qhA (vi ?_) (vb ?_),eB⟩)
  all_goals first|rfl|simp[*];done|simp;omega|symm;simp;omega
 ·generalize qJ i=z at*
  repeat'((try conv=>whnf);first|refine q09 ?_|refine q2H ?_|refine q6x Yu ?_|apply qm (d _)|apply q07;exact eM;exact rfl|refine qf fun k g=>?_)
  all_goals(refine⟨qhA (vi ?_) (vb ?_),eB⟩)
  all_goals first|rfl|simp[*];done|simp;omega|symm;simp;omega
open Go Go.RowKit
def q1S:List Ins->Nat->Nat
 | [],k=>k
 |x::l,k=>if x.op=8 then k else q1S l (k+1)
def q0v(p:List Ins)(b:Nat):Nat:=q1S (p.drop (b+1)) (b+1)
def q2P(len:Nat):List Ins->Nat->Nat->Bool
 | [],_,_=>false
 |x::l,j,t=>decide (j<t/\x.op=7/\t<=q1S l (j+1)/\t+1<=len)||q2P len l (j+1) t
def q1u(len t:Nat):List Ins->Nat->Int->Int×Int
 | [],_,b=>if 0<=b/\b<=t/\t<len then(b,len) else(-1, -1)
 |x::l,k,b=>if b<0/\x.op=7 then q1u len t l (k+1) k else if 0<=b/\x.op=8 then(if b<=t/\t<=k then(b,k) else q1u len t l (k+1) (-1)) else q1u len t l (k+1) b
def qgZ(p:List Ins)(t:Nat):Int×Int:=q1u p.length t p 0 (-1)
def q0o(p:List Ins)(k:Nat)(b:Int)(x:Ins):Int:=
 if q18 x then(if(p.length:Int)<k+1+x.imm then 42 else if 0<=b then(if(q0v p b.toNat:Int)<k+1+x.imm then 42 else 0) else(if q2P p.length (p.drop (k+1)) (k+1) (k+1+x.imm.toNat) then 42 else 0)) else 0
def q1j(p:List Ins)(k t:Nat):Bool:=
 if p.length<t then false else if 0<=(qgZ p k).1 then decide ((t:Int)<=(qgZ p k).2) else decide ((qgZ p t).1<0\/(qgZ p t).1=t)
def q1W(p:List Ins)(k:Nat)(x:Ins):Int:=if q18 x then(if q1j p k (k+1+x.imm.toNat) then 0 else 42) else 0
def q9a(d:Int)(b:Int)(x:Ins):Int:=
 if qJ x≠0 then qJ x else if(x.op=7/\0<=b)\/(x.op=8/\b<0) then 40 else if(q1x x=1/\b<0)\/(q1x x=2/\0<=b) then 41 else d
def q0w(x:Ins)(k:Nat)(b:Int):Int:=if x.op=7 then k else if x.op=8 then-1 else b
def qV(d:Nat->Int->Ins->Int):List Ins->Nat->Int->Int×Int
 | [],_,b=>if 0<=b then(b,43) else(0,0)
 |x::l,k,b=>if q9a (d k b x) b x≠0 then(k,q9a (d k b x) b x) else qV d l (k+1) (q0w x k b)
def qw(p:List Ins):Int×Int:=if 64<p.length then(0,3) else qV (q0o p) p 0 (-1)
def q0F(p:List Ins):Int×Int:=if 64<p.length then(0,3) else qV (fun k _ x=>q1W p k x) p 0 (-1)
theorem q3A:∀(l:List Ins) (k:Nat),k<=q1S l k/\q1S l k<=k+l.length
 | [],k=>by simp[q1S]
 |x::l,k=>by
  unfold q1S;have:=q3A l (k+1);simp only[zm]
  split <;>omega
theorem q5f(len:Nat):∀(l:List Ins) (j t:Nat),t<=j->q2P len l j t=false
 | [],_,_,_=>rfl
 |x::l,j,t,h=>by
  unfold q2P;rw[q5f len l (j+1) t Yu,Bool.or_false,decide_eq_false_iff_not];omega
theorem q32(len t:Nat):∀(l:List Ins) (j:Nat) (b:Int),(b<0/\t<j)\/((t:Int)<b/\t<j)->(q1u len t l j b).1<0
 | [],j,b,h=>by
  unfold q1u;rw[if_neg Yu]
  decide
 |x::l,j,b,h=>by
  unfold q1u
  split
  ·exact q32 len t l (j+1) j (.inr ⟨Yu,Yu⟩)
  ·split
   ·rw[if_neg Yu];exact q32 len t l (j+1) (-1) (.inl ⟨Yu,Yu⟩)
   ·exact q32 len t l (j+1) b Yu
theorem qcy(len t:Nat):∀(l:List Ins) (j:Nat),t<j->len=j+l.length->q1u len t l j t=((t:Int),(q1S l j:Int))
 | [],j,h,b=>by
  simp only[zE,ZV] at b;unfold q1u q1S;rw[if_pos Yu,b]
 |x::l,j,h,b=>by
  simp only[zm] at b;unfold q1u q1S;rw[if_neg Yu]
  split
  ·rename_i d;rw[if_pos Yu,if_pos d.2]
  ·rename_i d;rw[if_neg Yu];exact qcy len t l (j+1) Yu Yu
theorem qcz(len t:Nat):∀(l:List Ins) (j:Nat) (b:Int),0<=b->b<=t->t<j->len=j+l.length->q1u len t l j b=(b,(q1S l j:Int))
 | [],j,b,e,f,h,d=>by
  simp only[zE,ZV] at d;unfold q1u q1S;rw[if_pos Yu,d]
 |x::l,j,b,e,f,h,d=>by
  simp only[zm] at d;unfold q1u q1S;rw[if_neg Yu]
  split
  ·rename_i g;rw[if_pos Yu,if_pos g.2]
  ·rename_i g;rw[if_neg Yu];exact qcz len t l (j+1) b e f Yu Yu
mutual
theorem qcA(len t:Nat):∀(l:List Ins) (j:Nat),len=j+l.length->t<=len->(((q1u len t l j (-1)).1<0\/(q1u len t l j (-1)).1=t)↔q2P len l j t=false)
 | [],j,_,_=>by
  unfold q1u q2P;simp
 |x::l,j,g,f=>by
  simp only[zm] at g;unfold q1u q2P
  by_cases e:x.op=7
  ·rw[if_pos ⟨Yu,e⟩]
   by_cases d:j<t
   ·rw[qMu len t l (j+1) j d Yu f];rw[Yb,decide_eq_false_iff_not];constructor
    ·intro h;exact⟨Yu,h.2⟩
    ·intro h;exact⟨Yu,h.2⟩
   ·rw[q5f len l (j+1) t Yu]
    by_cases b:j=t
    ·subst b;rw[qcy len j l (j+1) Yu Yu];simp
    ·have:=q32 len t l (j+1) j (.inr ⟨Yu,Yu⟩);simp[this];omega
  ·rw[if_neg Yu,if_neg Yu,qcA len t l (j+1) Yu f];simp[e]
theorem qMu(len t:Nat):∀(l:List Ins) (j:Nat) (b:Nat),b<t->len=j+l.length->t<=len->(((q1u len t l j b).1<0\/(q1u len t l j b).1=t)↔(¬(t<=q1S l j/\t+1<=len)/\q2P len l j t=false))
 | [],j,b,hb,e,f=>by
  simp only[zE,ZV] at e;unfold q1u q2P q1S
  by_cases h:t<len
  ·rw[if_pos Yu];simp;omega
  ·rw[if_neg Yu];simp;omega
 |x::l,j,b,hb,e,f=>by
  simp only[zm] at e;rw[q1u,q2P,show q1S (x::l) j=(if x.op=8 then j else q1S l (j+1)) from rfl];rw[if_neg Yu]
  by_cases d:x.op=8
  ·rw[if_pos ⟨Yu,d⟩,if_pos d]
   by_cases htj:t<=j
   ·rw[if_pos ⟨Yu,Yu⟩];simp;omega
   ·rw[if_neg Yu,qcA len t l (j+1) Yu f];have g:¬x.op=7:=Yu;simp[g];omega
  ·rw[if_neg Yu,if_neg d,qMu len t l (j+1) b hb Yu f];rw[Yb,decide_eq_false_iff_not];constructor
   ·intro h;exact⟨h.1,Yu,h.2⟩
   ·intro h;exact⟨h.1,h.2.2⟩
end
structure qb4(p:List Ins)(k:Nat)(b:Int):Prop where
 sp:∀t,k<=t->qgZ p t=q1u p.length t (p.drop k) k b
 bb:b= -1\/(0<=b/\b<k/\q0v p b.toNat=q1S (p.drop k) k)
theorem qb4.start(p:List Ins):qb4 p 0 (-1):=⟨fun _ _=>rfl, .inl rfl⟩
theorem q0A{p:List Ins}{k:Nat}{x:Ins}(d:p[k]? =some x):p.drop k=x::p.drop (k+1):=by
 obtain⟨b,he⟩:=z7.1 d;rw[ZG b,he]
theorem qb4.step{p:List Ins}{k:Nat}{b:Int}{x:Ins}(h:qb4 p k b)(o:p[k]? =some x)(j:x.op=7->b<0)(n:x.op=8->0<=b):qb4 p (k+1) (q0w x k b):=by
 have hd:=q0A o;refine⟨fun t ht=>?_,?_⟩
 ·rw[h.sp t Yu,hd,q1u];unfold q0w
  by_cases d:x.op=7
  ·rw[if_pos ⟨j d,d⟩,if_pos d]
  ·by_cases e:x.op=8
   ·rw[if_neg Yu,if_pos ⟨n e,e⟩,if_neg Yu,if_neg d,if_pos e]
   ·rw[if_neg Yu,if_neg Yu,if_neg d,if_neg e]
 ·unfold q0w
  by_cases d:x.op=7
  ·rw[if_pos d];refine .inr ⟨Yu,Yu,?_⟩;simp[q0v]
  ·by_cases e:x.op=8
   ·rw[if_neg d,if_pos e];exact .inl rfl
   ·rw[if_neg d,if_neg e]
    rcases h.bb with hb|⟨f,h1,g⟩
    ·exact .inl hb
    ·refine .inr ⟨f,Yu,?_⟩;rw[g,hd,q1S,if_neg e]
theorem q3e{x:Ins}(h:q18 x=true):(x.op=4\/x.op=5\/x.op=6)/\0<=x.imm/\x.imm<=64:=by
 unfold q18 at h;simp only[decide_eq_true_eq] at h;refine⟨h.2,?_⟩;have b:=h.1;unfold qJ at b
 split at b
 ·omega
 ·split at b
  ·split at b
   ·rename_i d;unfold q4u at d;rw[if_neg Yu,if_neg Yu,if_pos Yu] at d;exact d
   ·omega
  ·omega
theorem qb4.target{p:List Ins}{k:Nat}{b:Int}{x:Ins}(h:qb4 p k b)(q:p[k]? =some x):q0o p k b x=q1W p k x:=by
 unfold q0o q1W
 by_cases j:q18 x=true
 ·obtain⟨hop,hi0,hi1⟩:=q3e j;rw[if_pos j,if_pos j];obtain⟨t,u⟩:∃t:Nat,(t:Int)=k+1+x.imm:=⟨k+1+x.imm.toNat,Yu⟩
  have o:k+1+x.imm.toNat=t:=Yu;rw[o,<-u];have hk:=(z7.1 q).1;have hd:=q0A q;have hlen:p.length=k+1+(p.drop (k+1)).length:=by rw[ZN];omega
  by_cases e:p.length<t
  ·have g:q1j p k t=false:=by unfold q1j;rw[if_pos e]
   rw[g,if_pos Yu];rfl
  ·rw[if_neg (show ¬(p.length:Int)<t by omega)];have s1:=h.sp k (zq _);rw[hd,q1u,if_neg Yu,if_neg Yu] at s1;have s2:=h.sp t Yu;rw[hd,q1u,if_neg Yu,if_neg Yu] at s2
   rcases h.bb with hb|⟨n,h1,r⟩
   ·subst hb;have s:=q32 p.length k (p.drop (k+1)) (k+1) (-1) (.inl ⟨Yu,Yu⟩);rw[<-s1] at s;have f:=qcA p.length t (p.drop (k+1)) (k+1) hlen Yu;rw[<-s2] at f;have g:q1j p k t= !q2P p.length (p.drop (k+1)) (k+1) t:=by
     unfold q1j;rw[if_neg e,if_neg (show ¬0<=(qgZ p k).1 by omega)];cases d:q2P p.length (p.drop (k+1)) (k+1) t with
     |true=>rw[d] at f;rw[decide_eq_false (by rw[f];simp)];rfl
     |false=>rw[d] at f;rw[decide_eq_true (f.2 rfl)];rfl
    rw[g,if_neg Yu];cases q2P p.length (p.drop (k+1)) (k+1) t <;>rfl
   ·have d:=qcz p.length k (p.drop (k+1)) (k+1) b n Yu Yu hlen;rw[d] at s1;have g:q1j p k t=decide ((t:Int)<=(q1S (p.drop (k+1)) (k+1):Nat)):=by
     unfold q1j;rw[if_neg e,s1,if_pos n]
    have he:q1S (p.drop k) k=q1S (p.drop (k+1)) (k+1):=by rw[hd,q1S,if_neg Yu]
    rw[g,if_pos n,r,he]
    by_cases hle:(t:Int)<=(q1S (p.drop (k+1)) (k+1):Nat)
    ·rw[if_neg Yu,decide_eq_true hle];rfl
    ·rw[if_pos Yu,decide_eq_false hle];rfl
 ·rw[if_neg j,if_neg j]
theorem q8f{t b:Int}{x:Ins}(h:q9a t b x=0):(x.op=7->b<0)/\(x.op=8->0<=b)/\qJ x=0/\t=0:=by
 unfold q9a at h
 split at h
 ·omega
 ·split at h
  ·omega
  ·split at h
   ·omega
   ·rename_i d h2 _;simp at d;refine⟨Yu,Yu,d,h⟩
theorem q75(p:List Ins):∀(n k:Nat) (b:Int),n+k=p.length->qb4 p k b->qV (q0o p) (p.drop k) k b=qV (fun k _ x=>q1W p k x) (p.drop k) k b
 |0,k,b,g,_=>by
  have:p.drop k= []:=List.drop_eq_nil_iff.2 Yu;rw[this,qV,qV]
 |n+1,k,b,g,h=>by
  obtain⟨x,d⟩:∃x,p[k]? =some x:=⟨_,z6 Yu⟩
  rw[q0A d,qV,qV,h.target d]
  split
  ·rfl
  ·rename_i f;have e:=q8f (t:=q1W p k x) (b:=b) (x:=x) (by simpa using f);exact q75 p n (k+1) _ Yu (h.step d e.1 e.2.1)
theorem qbi(p:List Ins):qw p=q0F p:=by
 unfold qw q0F
 split
 ·rfl
 ·exact q75 p p.length 0 (-1) Yu (qb4.start p)
open Go
theorem q3h{W0:World}{own:Own}{a:Addr}{vs:jf}{n:Nat}{K:Own->Prop}(h:vs.length=n)(b:StN W0 own a vs K):vs.length=n/\StN W0 own a vs K:=⟨h,b⟩
section
variable{W0:World}{own:Own}{a:j9}{cap:Nat}{p:List Ins}
theorem qgi(j:RdE Ins.enc 5 W0 own a p)(hl:p.length<=1099511627776)(b:Nat)(hb:b+1<=p.length):jo W0 108 [.slice a p.length cap,j5 b] own (j5 (q0v p b)):=by
 refine qg (sH [] ?_)
 repeat'((try conv=>whnf);first|refine fB ?_)
 refine q1o (σ:=Nat) (fun k=> [(5,j5 k)]) (fun k=>k<=p.length/\q1S (p.drop k) k=q0v p b) (fun k=>p.length-k) (b+1) ⟨Yu,rfl⟩ (eF) rfl ?_;rintro k junk ⟨hk,d⟩
 by_cases g:k<p.length
 ·obtain⟨x,h⟩:∃x,p[k]? =some x:=⟨_,z6 g⟩
  rw[q0A h,q1S] at d
  repeat'((try conv=>whnf);first|refine q0G Yu ?_|(apply gLd;first|refine ldE (k:=0) (RdE.ent j ?_) h ?_ rfl ?_;rotate_left;rfl;rotate_left;(solve|(exact eB)))|(apply qF;first|refine ixE j h ?_ ?_;(first|rfl|omega))|refine fB ?_|refine q59 (fun e=>?_) fun e=>?_)
  ·rw[if_pos e] at d;exact⟨q0a (vi (by rw[d])),eB⟩
  ·rw[if_neg e] at d;exact⟨k+1,⟨Yu,d⟩,Yu,(eF),Ent.refl⟩
 ·have f:k=p.length:=Yu;subst f;rw[ZC,q1S] at d
  repeat'((try conv=>whnf);first|refine q1r Yu ?_)
  exact⟨q0a (vi (by rw[<-d])),eB⟩
theorem qnq(e:RdE Ins.enc 5 W0 own a p)(q:p.length<=1099511627776)(k t:Nat)(ht:k+1<=t/\t<=p.length):
  jo W0 195 [.slice a p.length cap,j5 k,j5 t] own (.bool (q2P p.length (p.drop (k+1)) (k+1) t)):=by
 refine qg (sH [] ?_)
 repeat'((try conv=>whnf);first|refine fB ?_)
 refine q1o (σ:=Nat) (fun b=> [(7,j5 b)]) (fun b=>b<=t/\q2P p.length (p.drop b) b t=q2P p.length (p.drop (k+1)) (k+1) t) (fun b=>t-b) (k+1) ⟨Yu,rfl⟩ (eF) rfl ?_;rintro b junk ⟨hb,d⟩
 by_cases j:b<t
 ·obtain⟨x,f⟩:∃x,p[b]? =some x:=⟨_,z6 Yu⟩
  have n:=fun ex=>qgi (cap:=cap) (e.ent (Ent.app (A:=ex) Ent.refl)) q b Yu
  have he:q0v p b=q1S (p.drop (b+1)) (b+1):=rfl;rw[q0A f,q2P,<-he] at d;have h:=q3A (p.drop (b+1)) (b+1);rw[<-he,ZN] at h
  by_cases o:x.op=7
  ·by_cases g:t<=q0v p b/\t+1<=p.length
   ·rw[decide_eq_true ⟨j,o,g.1,g.2⟩,Bool.true_or] at d
    repeat'((try conv=>whnf);first|refine qO ?_|refine q0G Yu ?_|refine q6x Yu ?_|refine qm (n []) ?_|(apply gLd;first|refine ldE (k:=0) (RdE.ent e ?_) f ?_ rfl ?_;rotate_left;rfl;rotate_left;(solve|(exact eB)))|(apply qF;first|refine ixE e f ?_ ?_;(first|rfl|omega))|refine fB ?_|refine q7f ?_)
    all_goals first|exact⟨q0a (vb d),eB⟩|exfalso;omega
   ·rw[decide_eq_false Yu,yP] at d
    repeat'((try conv=>whnf);first|refine qO ?_|refine q0G Yu ?_|refine q1r Yu ?_|refine q6x Yu ?_|refine qm (n []) ?_|(apply gLd;first|refine ldE (k:=0) (RdE.ent e ?_) f ?_ rfl ?_;rotate_left;rfl;rotate_left;(solve|(exact eB)))|(apply qF;first|refine ixE e f ?_ ?_;(first|rfl|omega))|refine fB ?_|refine q7f ?_)
    all_goals first|exact⟨b+1,⟨Yu,d⟩,Yu,(eF),Ent.refl⟩|exfalso;omega
  ·rw[decide_eq_false Yu,yP] at d
   repeat'((try conv=>whnf);first|refine q1I ?_|refine q3I ?_|refine q0G Yu ?_|refine q3H Yu ?_|(apply gLd;first|refine ldE (k:=0) (RdE.ent e ?_) f ?_ rfl ?_;rotate_left;rfl;rotate_left;(solve|(exact eB)))|(apply qF;first|refine ixE e f ?_ ?_;(first|rfl|omega))|refine fB ?_)
   all_goals exact⟨b+1,⟨Yu,d⟩,Yu,(eF),Ent.refl⟩
 ·rw[q5f _ _ _ _ Yu] at d
  repeat'((try conv=>whnf);first|refine q1r Yu ?_)
  exact⟨q0a (vb d),eB⟩
theorem qgU(u:qz W0)(e:RdE Ins.enc 5 W0 own a p)(hl:p.length<=64)(k:Nat)(b:Int)(x:Ins)(f:p[k]? =some x)(hb:b= -1\/(0<=b/\b<k)):
  jo W0 145 [.slice a p.length cap,j5 k,j5 b] own (j5 (q0o p k b x)):=by
 refine qg (sH [] ?_);have hk:=(z7.1 f).1;have h:=fun own=>qgv W0 own u x
 unfold q0o;cases d:q18 x
 ·have q:q6I x=0:=by unfold q6I;rw[d];rfl
  rw[d,q] at h
  repeat'((try conv=>whnf);first|refine q2H ?_|apply qm (h _)|(apply qF;first|refine ixE e f ?_ ?_;(first|rfl|omega))|(apply q24;first|refine qhy (RdE.ent e ?_) f ?_ ?_ ?_;rotate_left;rfl;rfl;rotate_left;(solve|(exact eB)))|refine fO ?_)
  all_goals exact⟨q0a (vi Yw),eB⟩
 ·obtain⟨hop,hi0,hi1⟩:=q3e d;have q:q6I x=x.imm:=by unfold q6I;rw[d];rfl
  rw[d,q] at h;simp only[if_true];generalize x.imm=m at*
  by_cases n:(p.length:Int)<k+1+m
  ·rw[if_pos n]
   repeat'((try conv=>whnf);first|refine q3I ?_|refine q0G Yu ?_|apply qm (h _)|(apply qF;first|refine ixE e f ?_ ?_;(first|rfl|omega))|(apply q24;first|refine qhy (RdE.ent e ?_) f ?_ ?_ ?_;rotate_left;rfl;rfl;rotate_left;(solve|(exact eB)))|refine fB ?_|refine fO ?_)
   all_goals exact⟨rfl,eB⟩
  ·rw[if_neg n]
   rcases hb with hb|⟨j,hb1⟩
   ·subst hb;rw[if_neg Yu];obtain⟨t,y⟩:∃t:Nat,(t:Int)=k+1+m:=⟨k+1+m.toNat,Yu⟩
    have r:k+1+m.toNat=t:=Yu;rw[r];have g:=qnq (cap:=cap) e Yu k t Yu;rw[y] at g;cases z:q2P p.length (p.drop (k+1)) (k+1) t <;>rw[z] at g
    all_goals
     repeat'((try conv=>whnf);first|refine qO ?_|refine q1I ?_|refine q2H ?_|refine q3I ?_|refine q1r Yu ?_|apply qm (h _)|refine qm g ?_|(apply qF;first|refine ixE e f ?_ ?_;(first|rfl|omega))|(apply q24;first|refine qhy (RdE.ent e ?_) f ?_ ?_ ?_;rotate_left;rfl;rfl;rotate_left;(solve|(exact eB)))|refine fB ?_|refine fO ?_)
     all_goals exact⟨rfl,eB⟩
   ·rw[if_pos j];obtain⟨b,rfl⟩:=Zp j;simp only[zD];have s:=qgi (cap:=cap) e Yu b Yu;have o:=q3A (p.drop (b+1)) (b+1);have he:q0v p b=q1S (p.drop (b+1)) (b+1):=rfl;rw[<-he,ZN] at o
    repeat'((try conv=>whnf);first|refine qO ?_|refine q1I ?_|refine q3I ?_|refine q1r Yu ?_|apply qm (h _)|refine qm s ?_|(apply qF;first|refine ixE e f ?_ ?_;(first|rfl|omega))|(apply q24;first|refine qhy (RdE.ent e ?_) f ?_ ?_ ?_;rotate_left;rfl;rfl;rotate_left;(solve|(exact eB)))|refine fB ?_|refine fO ?_|refine q59 (fun v=>?_) fun v=>?_)
    all_goals(refine⟨q0a (vi ?_),eB⟩;first|rw[if_pos Yu];done|rw[if_neg Yu];done|(split <;>omega))
theorem qqw(g:qz W0)(f:RdE Ins.enc 5 W0 own a p)(h:p.length<=64)(k:Nat)(b:Int)(x:Ins)(e:p[k]? =some x)(hb:b= -1\/(0<=b/\b<k)):
  jo W0 113 [.slice a p.length cap,j5 k,j5 b] own (j5 (q9a (q0o p k b x) b x)):=by
 refine qg (sH [] ?_);have hk:=(z7.1 e).1;have d:=fun own=>q6h W0 own g x
 have j:=fun own=>qgu W0 own g x
 have n:=qgU (cap:=cap) g f h k b x e hb;generalize q0o p k b x=t at*;unfold q9a;generalize qJ x=z at*;generalize q1x x=q at*
 repeat'((try conv=>whnf);first|refine qO ?_|refine q1I ?_|refine q3I ?_|refine q0G Yu ?_|refine q1r Yu ?_|refine q3H Yu ?_|refine q8N Yu ?_|refine qbe Yu ?_|apply qm (d _)|apply qm (j _)|refine qm n ?_|(apply gLd;first|refine ldE (k:=0) (RdE.ent f ?_) e ?_ rfl ?_;rotate_left;rfl;rotate_left;(solve|(exact eB)))|(apply qF;first|refine ixE f e ?_ ?_;(first|rfl|omega))|(apply q24;first|refine qhy (RdE.ent f ?_) e ?_ ?_ ?_;rotate_left;rfl;rfl;rotate_left;(solve|(exact eB)))|refine q4K (fun d=>?_) fun d=>?_|refine q59 (fun d=>?_) fun d=>?_|refine qel (fun d=>?_) fun d=>?_)
 all_goals(refine⟨q0a (vi ?_),eB⟩;(repeat' split) <;>first|rfl|exfalso;omega|omega)
theorem q6j(C:qz W0)(g:RdE Ins.enc 5 W0 own a p):
  jo W0 81 [.slice a p.length cap] own (.tuple #[j5 (qw p).1,j5 (qw p).2]):=by
 refine qg (sH [] ?_);unfold qw
 by_cases j:64<p.length
 ·rw[if_pos j]
  repeat'((try conv=>whnf);first|refine q0G Yu ?_)
  all_goals first|exact⟨rfl,eB⟩|exfalso;omega
 ·rw[if_neg j];generalize n:qV (q0o p) p 0 (-1)=res
  repeat'((try conv=>whnf);first|refine q1r Yu ?_)
  refine q1o (σ:=Nat×Int) (fun s=> [(13,j5 s.1),(4,j5 s.2)]) (fun s=>s.1<=p.length/\(s.2= -1\/(0<=s.2/\s.2<s.1))/\qV (q0o p) (p.drop s.1) s.1 s.2=res) (fun s=>p.length-s.1) (0, -1) ⟨Yw,Yw,n⟩ (eF) rfl ?_;rintro⟨k,b⟩ junk ⟨E,hb,e⟩;simp only[] at E hb e
  by_cases y:k<p.length
  ·obtain⟨x,f⟩:∃x,p[k]? =some x:=⟨_,z6 y⟩
   rw[q0A f,qV] at e;have o:=fun ex=>qqw (cap:=cap) C (g.ent (Ent.app (A:=ex) Ent.refl)) Yu k b x f hb
   have d:q0w x k b= -1\/(0<=q0w x k b/\q0w x k b<(k+1:Nat)):=by unfold q0w;(repeat' split) <;>omega
   generalize hz:q9a (q0o p k b x) b x=z at*
   by_cases r:z=0
   ·rw[if_neg (by simpa using r)] at e;unfold q0w at e d;subst r
    by_cases u:x.op=7
    ·rw[if_pos u] at e d
     repeat'((try conv=>whnf);first|refine q3I ?_|refine q0G Yu ?_|refine q3h rfl ?_|refine qm (o [_]) ?_|(apply qF;first|refine ixE g f ?_ ?_;(first|rfl|omega))|(apply q24;first|refine qhy (RdE.ent g ?_) f ?_ ?_ ?_;rotate_left;rfl;rfl;rotate_left;(solve|(exact eB)))|refine fB ?_|apply qS;exact eM;exact rfl|apply q3G;(first|(solve|repeat(first|with_reducible exact Up.head|with_reducible apply Up.tail|with_reducible apply Up.app))|repeat(first|exact Up.head|apply Up.tail|apply Up.app));(solve|((try(conv=>arg 2;whnf));repeat'(first|exact Lis.nil|apply Lis.cons|apply q1b.here|apply q1b.there|apply q0e.done|apply q0e.put|apply q0e.skip)));exact rfl|refine qf fun q h=>?_)
     all_goals exact⟨(k+1,(k:Int)),⟨by simp;omega,d,e⟩,by simp;omega,(eF),eB⟩
    ·by_cases B:x.op=8
     ·rw[if_neg u,if_pos B] at e d
      repeat'((try conv=>whnf);first|refine q3I ?_|refine q0G Yu ?_|refine q1r Yu ?_|refine q3h rfl ?_|refine qm (o [_]) ?_|(apply qF;first|refine ixE g f ?_ ?_;(first|rfl|omega))|(apply q24;first|refine qhy (RdE.ent g ?_) f ?_ ?_ ?_;rotate_left;rfl;rfl;rotate_left;(solve|(exact eB)))|refine fB ?_|apply qS;exact eM;exact rfl|apply q3G;(first|(solve|repeat(first|with_reducible exact Up.head|with_reducible apply Up.tail|with_reducible apply Up.app))|repeat(first|exact Up.head|apply Up.tail|apply Up.app));(solve|((try(conv=>arg 2;whnf));repeat'(first|exact Lis.nil|apply Lis.cons|apply q1b.here|apply q1b.there|apply q0e.done|apply q0e.put|apply q0e.skip)));exact rfl|refine qf fun q h=>?_)
      all_goals exact⟨(k+1, -1),⟨by simp;omega,d,e⟩,by simp;omega,(eF),eB⟩
     ·rw[if_neg u,if_neg B] at e d
      repeat'((try conv=>whnf);first|refine q3I ?_|refine q0G Yu ?_|refine q1r Yu ?_|refine q3h rfl ?_|refine qm (o [_]) ?_|(apply qF;first|refine ixE g f ?_ ?_;(first|rfl|omega))|(apply q24;first|refine qhy (RdE.ent g ?_) f ?_ ?_ ?_;rotate_left;rfl;rfl;rotate_left;(solve|(exact eB)))|refine fB ?_|apply qS;exact eM;exact rfl|apply q3G;(first|(solve|repeat(first|with_reducible exact Up.head|with_reducible apply Up.tail|with_reducible apply Up.app))|repeat(first|exact Up.head|apply Up.tail|apply Up.app));(solve|((try(conv=>arg 2;whnf));repeat'(first|exact Lis.nil|apply Lis.cons|apply q1b.here|apply q1b.there|apply q0e.done|apply q0e.put|apply q0e.skip)));exact rfl|refine qf fun q h=>?_)
      all_goals exact⟨(k+1,b),⟨by simp;omega,d,e⟩,by simp;omega,(eF),eB⟩
   ·rw[if_pos r] at e
    repeat'((try conv=>whnf);first|refine q0G Yu ?_|refine q3h rfl ?_|refine qm (o [_]) ?_|(apply qF;first|refine ixE g f ?_ ?_;(first|rfl|omega))|(apply q24;first|refine qhy (RdE.ent g ?_) f ?_ ?_ ?_;rotate_left;rfl;rfl;rotate_left;(solve|(exact eB)))|apply q3G;(first|(solve|repeat(first|with_reducible exact Up.head|with_reducible apply Up.tail|with_reducible apply Up.app))|repeat(first|exact Up.head|apply Up.tail|apply Up.app));(solve|((try(conv=>arg 2;whnf));repeat'(first|exact Lis.nil|apply Lis.cons|apply q1b.here|apply q1b.there|apply q0e.done|apply q0e.put|apply q0e.skip)));exact rfl|refine qf fun q h=>?_)
    all_goals(rw[<-e];exact⟨rfl,eB⟩)
  ·have v:k=p.length:=Yu;subst v;rw[ZC,qV] at e;rw[<-e]
   repeat'((try conv=>whnf);first|refine q1r Yu ?_|refine q59 (fun D=>?_) fun D=>?_)
   all_goals(refine⟨qhA (vi ?_) (vi ?_),eB⟩ <;>split <;>first|rfl|exfalso;omega)
end
open Go
structure Cfg where
 words:Int
 orecs:Int
 base:Int
 c0:Int
 c1:Int
 c2:Int
 c3:Int
 reads:Int
 writes:Int
 allocs:Int
 frees:Int
 clock:Int
 strong:Bool
def Cfg.cs(c:Cfg):jh:= #[j5 c.words,j5 c.orecs,j5 c.base,j5 c.c0,j5 c.c1,j5 c.c2,j5 c.c3,j5 c.reads,j5 c.writes,j5 c.allocs,j5 c.frees,j5 c.clock, .bool c.strong]
def Cfg.v(c:Cfg):Value:= .agg c.cs
def okW(c:Cfg):Prop:=1<=c.words/\c.words<=64/\1<=c.orecs/\c.orecs<=64
def okC(c:Cfg):Prop:=0<=c.c0/\c.c0<=64/\0<=c.c1/\c.c1<=64/\0<=c.c2/\c.c2<=64/\0<=c.c3/\c.c3<=64
def nB(c:Cfg):Int:=c.c0+c.c1+c.c2+c.c3
def nW(c:Cfg):Int:=c.c0+c.c1*2+c.c2*4+c.c3*8
def okH(c:Cfg):Prop:=okC c/\nB c<=64/\0<=c.base/\c.base<=c.words/\c.base+nW c<=c.words
def okL(c:Cfg):Prop:=1<=c.reads/\c.reads<=32/\1<=c.writes/\c.writes<=32/\0<=c.allocs/\c.allocs<=8/\0<=c.frees/\c.frees<=8
def okK(c:Cfg):Prop:=0<=c.clock/\c.clock<=1099511627776
instance(c:Cfg):Decidable (okW c):=by unfold okW;exact Yx
instance(c:Cfg):Decidable (okC c):=by unfold okC;exact Yx
instance(c:Cfg):Decidable (okH c):=by unfold okH;exact Yx
instance(c:Cfg):Decidable (okL c):=by unfold okL;exact Yx
instance(c:Cfg):Decidable (okK c):=by unfold okK;exact Yx
def qG(c:Cfg):Int:=if okW c then if okH c then if okL c then if okK c then 0 else 53 else 52 else 51 else 50
theorem qrH{c:Cfg}(b:¬okW c):50=qG c:=by simp[qG,b]
theorem qrI{c:Cfg}(b:okW c)(d:¬okH c):51=qG c:=by simp[qG,b,d]
theorem qrJ{c:Cfg}(b:okW c)(d:okH c)(e:¬okL c):52=qG c:=by simp[qG,b,d,e]
theorem qrK{c:Cfg}(b:okW c)(d:okH c)(e:okL c)(f:¬okK c):53=qG c:=by simp[qG,b,d,e,f]
theorem cm0{c:Cfg}(b:okW c)(d:okH c)(e:okL c)(f:okK c):0=qG c:=by simp[qG,b,d,e,f]
def qT(c:Cfg):Int:=if qG c=0 then nB c else 0
theorem q31(W0:World)(own:Own)(a b c:Int):jo W0 80 [j5 a,j5 b,j5 c] own (.bool (decide (b<=a/\a<=c))):=by
 refine qg (sH [] ?_)
 repeat'((try conv=>whnf);first|refine qO ?_|refine q1I ?_|refine q4K (fun d=>?_) fun d=>?_)
 all_goals(refine⟨q0a (vb ?_),eB⟩;(first|rfl|refine dd ?_;omega|refine df ?_;omega|refine dt ?_;omega|refine dn ?_;omega))
theorem qdC(W0:World)(own:Own)(a b c:Int):jo W0 102 [j5 a,j5 b,j5 c] own (.bool (decide (b<=a/\a<=c))):=by
 refine qg (sH [] ?_)
 repeat'((try conv=>whnf);first|refine qO ?_|refine q1I ?_|refine q4K (fun d=>?_) fun d=>?_)
 all_goals(refine⟨q0a (vb ?_),eB⟩;(first|rfl|refine dd ?_;omega|refine df ?_;omega|refine dt ?_;omega|refine dn ?_;omega))
theorem qgr(W0:World)(own:Own)(c:Cfg):jo W0 112 [c.v] own
  (.tuple #[j5 (if okC c then nB c else 0),j5 (if okC c then nW c else 0), .bool (decide (okC c/\nB c<=64))]):=by
 refine qg (sH [] ?_)
 repeat'((try conv=>whnf);first|refine q1y 5 ?_|refine qO ?_|refine q09 ?_|refine q2H ?_|refine q3I ?_|refine fB ?_|refine fO ?_|refine ix0 rfl ?_|refine ix1 rfl ?_|refine ix2 rfl ?_|refine ix3 rfl ?_|apply q2m;exact eM;exact rfl;exact rfl|refine qf fun bk hbk=>?_|refine q1w (fun b=>?_) fun b=>?_|refine q59 (fun b=>?_) fun b=>?_|refine qsI ?_ ?_;omega|refine qsJ ?_ ?_;omega|refine qsK ?_ ?_;omega|refine qsL ?_ ?_;omega)
 all_goals
  refine⟨qt1 (vi ?_) (vi ?_) (vb ?_),eB⟩
  ·(try simp only[okC,nB]);(first|rfl|omega|(split <;>omega)|(split <;>split <;>omega))
  ·(try simp only[okC,nW]);(first|rfl|omega|(split <;>omega)|(split <;>split <;>omega))
  ·(try simp only[okC,nB]);(first|rfl|refine dd ?_;omega|refine df ?_;omega|refine dt ?_;omega|refine dn ?_;omega)
theorem q9u(W0:World)(own:Own)(c:Cfg)(h:okC c):jo W0 112 [c.v] own (.tuple #[j5 (nB c),j5 (nW c), .bool (decide (nB c<=64))]):=by
 have:=qgr W0 own c
 simpa [h] using this
theorem qgs(W0:World)(own:Own)(c:Cfg)(h:¬okC c):jo W0 112 [c.v] own (.tuple #[j5 0,j5 0, .bool false]):=by
 have:=qgr W0 own c
 simpa [h] using this
theorem q2q(W0:World)(own:Own)(c:Cfg):jo W0 79 [c.v] own (j5 (qG c)):=by
 refine qg (sH [] ?_)
 by_cases b:okC c
 ·have e:=b;unfold okC at e
  repeat'((try conv=>whnf);first|apply qm (q31 _ _ _ _ _)|apply qm (q9u _ _ c b)|refine qO ?_|refine q09 ?_|refine q2H ?_|refine fB ?_|refine fO ?_|apply qS;exact eM;exact rfl|apply q07;exact eM;exact rfl|refine qf fun f d=>?_|refine q4j (fun b=>?_) fun b=>?_|refine q59 (fun b=>?_) fun b=>?_|refine qel (fun b=>?_) fun b=>?_)
  all_goals(refine⟨q0a (vi ?_),eB⟩;(try unfold nB at*);(try unfold nW at*))
  all_goals first|exact qrH (by unfold okW;omega)|exact qrI (by unfold okW;omega) (by unfold okH okC nB nW;omega)|exact qrJ (by unfold okW;omega) (by unfold okH okC nB nW;omega) (by unfold okL;omega)|exact qrK (by unfold okW;omega) (by unfold okH okC nB nW;omega) (by unfold okL;omega) (by unfold okK;omega)|exact cm0 (by unfold okW;omega) (by unfold okH okC nB nW;omega) (by unfold okL;omega) (by unfold okK;omega)
 ·repeat'((try conv=>whnf);first|apply qm (q31 _ _ _ _ _)|apply qm (qgs _ _ c b)|refine qO ?_|refine q09 ?_|refine q2H ?_|refine fO ?_|apply qS;exact eM;exact rfl|apply q07;exact eM;exact rfl|refine qf fun f d=>?_|refine q4j (fun b=>?_) fun b=>?_|refine qel (fun b=>?_) fun b=>?_)
  all_goals(refine⟨q0a (vi ?_),eB⟩;(try unfold okC at*))
  all_goals first|exact qrH (by unfold okW;omega)|exact qrI (by unfold okW;omega) (by unfold okH okC nB nW;omega)|exact qrJ (by unfold okW;omega) (by unfold okH okC nB nW;omega) (by unfold okL;omega)|exact qrK (by unfold okW;omega) (by unfold okH okC nB nW;omega) (by unfold okL;omega) (by unfold okK;omega)|exact cm0 (by unfold okW;omega) (by unfold okH okC nB nW;omega) (by unfold okL;omega) (by unfold okK;omega)
theorem q7t(W0:World)(own:Own)(c:Cfg):jo W0 67 [c.v] own (j5 (qG c)):=by
 refine qg (sH [] ?_)
 repeat'((try conv=>whnf);first|apply qm (qdC _ _ _ _ _)|refine q1y 5 ?_|refine qO ?_|refine q09 ?_|refine q2H ?_|refine q3I ?_|refine fB ?_|refine ix0 rfl ?_|refine ix1 rfl ?_|refine ix2 rfl ?_|refine ix3 rfl ?_|apply qS;exact eM;exact rfl|refine qf fun bk hbk=>?_|refine q1w (fun b=>?_) fun b=>?_|refine q4j (fun b=>?_) fun b=>?_|refine q59 (fun b=>?_) fun b=>?_|refine qel (fun b=>?_) fun b=>?_|refine qsI ?_ ?_;omega|refine qsJ ?_ ?_;omega|refine qsK ?_ ?_;omega|refine qsL ?_ ?_;omega)
 all_goals refine⟨q0a (vi ?_),eB⟩
 all_goals first|exact qrH (by unfold okW;omega)|exact qrI (by unfold okW;omega) (by unfold okH okC nB nW;omega)|exact qrJ (by unfold okW;omega) (by unfold okH okC nB nW;omega) (by unfold okL;omega)|exact qrK (by unfold okW;omega) (by unfold okH okC nB nW;omega) (by unfold okL;omega) (by unfold okK;omega)|exact cm0 (by unfold okW;omega) (by unfold okH okC nB nW;omega) (by unfold okL;omega) (by unfold okK;omega)
theorem q1P{c:Cfg}(h:qG c=0):okW c/\okH c/\okL c/\okK c:=by
 unfold qG at h
 split at h
 ·split at h
  ·split at h
   ·split at h
    ·exact⟨by assumption,by assumption,by assumption,by assumption⟩
    ·omega
   ·omega
  ·omega
 ·omega
theorem q7L{c:Cfg}(h:qG c=0):1<=c.words/\c.words<=64/\1<=c.orecs/\c.orecs<=64/\0<=c.c0/\0<=c.c1/\0<=c.c2/\0<=c.c3/\c.c0+c.c1+c.c2+c.c3<=64/\0<=c.base/\c.base+(c.c0+c.c1*2+c.c2*4+c.c3*8)<=c.words:=by
 obtain⟨b,d,_,_⟩:=q1P h;unfold okW at b;unfold okH okC nB nW at d;omega
theorem q6d(W0:World)(own:Own)(c:Cfg):jo W0 146 [c.v] own (j5 (qT c)):=by
 refine qg (sH [] ?_)
 by_cases b:qG c=0
 ·have g:okC c:=(q1P b).2.1.1
  repeat'((try conv=>whnf);first|apply qm (q2q _ _ c)|apply qm (q9u _ _ c g)|refine fO ?_|apply q07;exact eM;exact rfl|refine qf fun f d=>?_|refine q59 (fun e=>?_) fun e=>?_)
  all_goals first|exfalso;omega|refine⟨q0a (vi ?_),eB⟩;simp only[qT,b,if_true]
 ·repeat'((try conv=>whnf);first|apply qm (q2q _ _ c)|apply q07;exact eM;exact rfl|refine qf fun f d=>?_|refine q59 (fun e=>?_) fun e=>?_)
  all_goals first|exfalso;omega|refine⟨q0a (vi ?_),eB⟩;simp only[qT,b,if_false]
theorem q7s(W0:World)(own:Own)(c:Cfg):jo W0 37 [c.v] own (j5 (qT c)):=by
 refine qg (sH [] ?_)
 by_cases b:qG c=0
 ·have hb:=q7L b
  repeat'((try conv=>whnf);first|apply qm (q7t _ _ c)|refine fB ?_|refine ix0 rfl ?_|refine ix1 rfl ?_|refine ix2 rfl ?_|refine ix3 rfl ?_|apply qS;exact eM;exact rfl|apply q07;exact eM;exact rfl|refine qf fun f d=>?_|refine q59 (fun e=>?_) fun e=>?_)
  all_goals first|exfalso;omega|refine⟨q0a (vi ?_),eB⟩;simp only[qT,b,if_true,nB]
 ·repeat'((try conv=>whnf);first|apply qm (q7t _ _ c)|refine fB ?_|refine ix0 rfl ?_|refine ix1 rfl ?_|refine ix2 rfl ?_|refine ix3 rfl ?_|apply qS;exact eM;exact rfl|apply q07;exact eM;exact rfl|refine qf fun f d=>?_|refine q59 (fun e=>?_) fun e=>?_)
  all_goals first|exfalso;omega|refine⟨q0a (vi ?_),eB⟩;simp only[qT,b,if_false]
def qoT(c:Cfg)(b:Int):Int:=
 if qG c=0/\0<=b then if b<c.c0 then 0 else if b<c.c0+c.c1 then 1 else if b<c.c0+c.c1+c.c2 then 2 else if b<c.c0+c.c1+c.c2+c.c3 then 3 else-1 else-1
def qpz(c:Cfg)(b:Int):Int:=
 if qG c=0/\0<=b then if b<c.c0 then c.base+b else if b<c.c0+c.c1 then c.base+c.c0+(b-c.c0)*2
  else if b<c.c0+c.c1+c.c2 then c.base+c.c0+c.c1*2+(b-c.c0-c.c1)*4 else if b<c.c0+c.c1+c.c2+c.c3 then c.base+c.c0+c.c1*2+c.c2*4+(b-c.c0-c.c1-c.c2)*8 else-1 else-1
theorem qek(c:Cfg):0<=qT c/\qT c<=64:=by
 unfold qT
 split
 ·have:=q7L (by assumption);unfold nB;omega
 ·omega
def qpy(c:Cfg)(a:Int):Nat->Int->Int
 |0,_=> -1
 |n+1,k=>if qpz c k=a then k else qpy c a n (k+1)
def q5P(c:Cfg)(a:Int):Int:=qpy c a (qT c).toNat 0
def qB(c:Cfg)(a:Int):Int:=if qG c=0/\0<=a/\a<c.words+qT c then a % c.orecs else-1
theorem q4D(W0:World)(own:Own)(c:Cfg)(a:Int):jo W0 265 [c.v,j5 a] own (j5 (qB c a)):=by
 refine qg (sH (jq 16 3 [0]) ?_);have hB:=qek c
 by_cases f:qG c=0
 ·have hbd:=q7L f
  repeat'((try conv=>whnf);first|apply q2M (fun _=>q2q _ _ c)|apply q2M (fun _=>q6d _ _ c)|refine qO ?_|refine q09 ?_|refine q2H ?_|refine fB ?_|apply qS;exact eM;exact rfl|apply q07;exact eM;exact rfl|refine qf fun e d=>?_|refine q1w (fun b=>?_) fun b=>?_|refine q59 (fun b=>?_) fun b=>?_|refine q3Z ?_ ?_;omega)
  all_goals first|exfalso;omega|(refine⟨q0a (vi ?_),eB⟩;unfold qB;first|rw[if_neg Yu]|rw[if_pos Yu])
 ·repeat'((try conv=>whnf);first|apply q2M (fun _=>q2q _ _ c)|apply q2M (fun _=>q6d _ _ c)|refine qO ?_|refine q09 ?_|refine q2H ?_|refine fB ?_|apply qS;exact eM;exact rfl|apply q07;exact eM;exact rfl|refine qf fun e d=>?_|refine q1w (fun b=>?_) fun b=>?_|refine q59 (fun b=>?_) fun b=>?_|refine q3Z ?_ ?_;omega)
  all_goals first|exfalso;omega|refine⟨q0a (vi ?_),eB⟩;unfold qB;rw[if_neg Yu]
structure PH where
 a:j9
 cap:Nat
 p:List Ins
abbrev PH.enc(h:PH):jf:= [.slice h.a h.p.length h.cap]
abbrev qv(n:Int):jf:= [j5 n]
def psG:List PH->Nat->Option (Int×Int×Int)
 | [],_=>none
 |h::l,t=>if(qw h.p).2≠0 then some (t,(qw h.p).1,(qw h.p).2) else psG l (t+1)
def ksG(n:Nat):je->Nat->Int×Int×Int
 | [],_=>(0,0,0)
 |k::l,i=>if k<0\/(n:Int)<=k then(0,i,56) else ksG n l (i+1)
def csM(c:Cfg)(il:Nat)(ps:List PH)(ks:je):Int×Int×Int:=
 if qG c≠0 then(0,0,qG c) else if ps.length<1\/16<ps.length then(0,0,54) else if(il:Int)≠c.words then(0,0,55) else
  match psG ps 0 with
  |some r=>r
  |none=>if 65536<ks.length then(0,0,56) else ksG ps.length ks 0
def qsM(r:Int×Int×Int):Value:= .tuple #[j5 r.1,j5 r.2.1,j5 r.2.2]
abbrev q9i(c:Cfg)(ia:j9)(il ic:Nat)(pa:j9)(b pc:Nat)(ka:j9)(kn kc:Nat):Value:=
 .agg #[j5 c.words,j5 c.orecs,j5 c.base,j5 c.c0,j5 c.c1,j5 c.c2,j5 c.c3,j5 c.reads,j5 c.writes,j5 c.allocs,j5 c.frees,j5 c.clock, .bool c.strong, .slice ia il ic, .slice pa b pc, .slice ka kn kc]
theorem q1Z{α:Type}{l:List α}{k:Nat}{x:α}(d:l[k]? =some x):l.drop k=x::l.drop (k+1):=by
 obtain⟨b,he⟩:=z7.1 d;rw[ZG b,he]
section
variable{W0:World}{own:Own}{c:Cfg}{ia pa ka:j9}{il ic pc kc:Nat}{ps:List PH}{ks:je}
theorem qqq(L:qz W0)(v:RdE PH.enc 1 W0 own pa ps)(M:∀h∈ps,RdE Ins.enc 5 W0 own h.a h.p)(u:RdE qv 1 W0 own ka ks):
  jo W0 49 [q9i c ia il ic pa ps.length pc ka ks.length kc] own (qsM (csM c il ps ks)):=by
 refine qg (sH [] ?_);have d:=fun own=>q2q W0 own c
 unfold csM;generalize qG c=z at*
 by_cases F:z=0
 ·subst F;simp only[ne_eq,not_true_eq_false,if_false]
  by_cases G:ps.length<1\/16<ps.length
  ·rw[if_pos G]
   repeat'((try conv=>whnf);first|refine q3I ?_|refine qbe Yu ?_|apply qm (d _)|apply qm (q31 _ _ _ _ _)|apply qS;exact eM;exact rfl|apply q2m;exact eM;exact rfl;exact rfl|refine qf fun y e=>?_)
   all_goals exact⟨rfl,eB⟩
  ·rw[if_neg G]
   by_cases I:¬(il:Int)=c.words
   ·rw[if_pos I]
    repeat'((try conv=>whnf);first|refine q3I ?_|refine q0G Yu ?_|refine q8N Yu ?_|apply qm (d _)|apply qm (q31 _ _ _ _ _)|apply qS;exact eM;exact rfl|apply q2m;exact eM;exact rfl;exact rfl|refine qf fun y e=>?_)
    all_goals exact⟨rfl,eB⟩
   ·rw[if_neg I]
    repeat'((try conv=>whnf);first|refine q3I ?_|refine q1r Yu ?_|refine q8N Yu ?_|apply qm (d _)|apply qm (q31 _ _ _ _ _)|apply qS;exact eM;exact rfl|apply q2m;exact eM;exact rfl;exact rfl|refine qf fun y e=>?_)
    generalize q:psG ps 0=res;refine q1o (σ:=Nat) (fun t=> [(33,j5 t)]) (fun t=>t<=ps.length/\psG (ps.drop t) t=res) (fun t=>ps.length-t) 0 ⟨Yu,q⟩ (eF) rfl ?_;rintro t junk ⟨ht,b⟩
    by_cases C:t<ps.length
    ·obtain⟨x,g⟩:∃x,ps[t]? =some x:=⟨_,z6 C⟩
     have E:=M x (zg g);have j:=fun ex=>q6j (cap:=x.cap) L (E.ent (Ent.app (A:=ex) Ent.refl))
     rw[q1Z g,psG] at b;generalize qw x.p=r at*
     by_cases K:r.2≠0
     ·rw[if_pos K] at b;subst b
      repeat'((try conv=>whnf);first|refine q0G Yu ?_|refine qm (j [_]) ?_|(apply gLd;first|refine ldE (k:=0) (RdE.ent v ?_) g ?_ rfl ?_;rotate_left;rfl;rotate_left;(solve|(exact eB)))|(apply qF;first|refine ixE v g ?_ ?_;(first|rfl|omega))|refine fO ?_)
      all_goals exact⟨rfl,eB⟩
     ·rw[if_neg K] at b
      repeat'((try conv=>whnf);first|refine q0G Yu ?_|refine q1r Yu ?_|refine qm (j [_]) ?_|(apply gLd;first|refine ldE (k:=0) (RdE.ent v ?_) g ?_ rfl ?_;rotate_left;rfl;rotate_left;(solve|(exact eB)))|(apply qF;first|refine ixE v g ?_ ?_;(first|rfl|omega))|refine fB ?_|refine fO ?_)
      all_goals exact⟨t+1,⟨Yu,b⟩,Yu,(eF),eB⟩
    ·have D:t=ps.length:=Yu;subst D;rw[ZC,psG] at b;subst b;simp only[]
     by_cases J:65536<ks.length
     ·rw[if_pos J]
      repeat'((try conv=>whnf);first|refine q0G Yu ?_|refine q1r Yu ?_|apply qS;exact eM;exact rfl)
      all_goals exact⟨rfl,eB⟩
     ·rw[if_neg J];generalize f:ksG ps.length ks 0=s
      repeat'((try conv=>whnf);first|refine q1r Yu ?_|apply qS;exact eM;exact rfl)
      refine q1o (σ:=Nat) (fun i=> [(56,j5 i)]) (fun i=>i<=ks.length/\ksG ps.length (ks.drop i) i=s) (fun i=>ks.length-i) 0 ⟨Yu,f⟩ (eF) rfl ?_;rintro i junk2 ⟨hi,b⟩
      by_cases o:i<ks.length
      ·obtain⟨k,n⟩:∃k,ks[i]? =some k:=⟨_,z6 o⟩
       rw[q1Z n,ksG] at b
       by_cases hb:k<0\/(ps.length:Int)<=k
       ·rw[if_pos hb] at b;subst b
        repeat'((try conv=>whnf);first|refine qO ?_|refine q09 ?_|refine q2H ?_|refine q0G Yu ?_|(apply gLd;first|refine ldE (k:=0) (RdE.ent u ?_) n ?_ rfl ?_;rotate_left;rfl;rotate_left;(solve|(exact eB)))|(apply qF;first|refine ixE u n ?_ ?_;(first|rfl|omega))|apply qS;exact eM;exact rfl|refine q1w (fun N=>?_) fun N=>?_)
        all_goals exact⟨rfl,eB⟩
       ·rw[if_neg hb] at b
        repeat'((try conv=>whnf);first|refine qO ?_|refine q0G Yu ?_|refine q1r Yu ?_|refine q3H Yu ?_|(apply gLd;first|refine ldE (k:=0) (RdE.ent u ?_) n ?_ rfl ?_;rotate_left;rfl;rotate_left;(solve|(exact eB)))|(apply qF;first|refine ixE u n ?_ ?_;(first|rfl|omega))|refine fB ?_|apply qS;exact eM;exact rfl)
        all_goals exact⟨i+1,⟨Yu,b⟩,Yu,(eF),eB⟩
      ·have B:i=ks.length:=Yu;subst B;rw[ZC,ksG] at b;subst b
       repeat'((try conv=>whnf);first|refine q1r Yu ?_)
       all_goals exact⟨rfl,eB⟩
 ·rw[if_pos F]
  repeat'((try conv=>whnf);first|refine q0G Yu ?_|apply qm (d _)|apply q2m;exact eM;exact rfl;exact rfl|refine qf fun y e=>?_)
  all_goals exact⟨rfl,eB⟩
end
open Go
def stB(p:List Ins):Nat->Int
 |0=> -1
 |k+1=>match p[k]? with
  |some x=>q0w x k (stB p k)
  |none=>stB p k
theorem q2u{p:List Ins}{k:Nat}{x:Ins}(b:p[k]? =some x):stB p (k+1)=q0w x k (stB p k):=by
 simp only[stB,b]
theorem q5z{p:List Ins}(h:qw p=(0,0)):p.length<=64:=by
 unfold qw at h
 split at h
 ·simp at h
 ·omega
theorem q7N{p:List Ins}(h:qw p=(0,0)):∀k,k<=p.length->qb4 p k (stB p k)/\qV (q0o p) (p.drop k) k (stB p k)=(0,0)
 |0,_=>by
  refine⟨qb4.start p,?_⟩;unfold qw at h
  split at h
  ·simp at h
  ·exact h
 |k+1,hk=>by
  obtain⟨g,b⟩:=q7N h k Yu;obtain⟨x,e⟩:∃x,p[k]? =some x:=⟨_,z6 Yu⟩
  rw[q0A e,qV] at b
  split at b
  ·rename_i d;simp only[Prod.mk.injEq] at b;exact absurd b.2 d
  ·rename_i d;have f:=q8f (by simpa using d);rw[q2u e];exact⟨g.step e f.1 f.2.1,b⟩
theorem qev{p:List Ins}(h:qw p=(0,0)){k:Nat}{x:Ins}(e:p[k]? =some x):q9a (q0o p k (stB p k) x) (stB p k) x=0:=by
 have hk:=(z7.1 e).1;have b:=(q7N h k Yu).2;rw[q0A e,qV] at b
 split at b
 ·rename_i d;simp only[Prod.mk.injEq] at b;exact absurd b.2 d
 ·rename_i d
  simpa using d
theorem qoR{p:List Ins}(h:qw p=(0,0)):stB p p.length<0:=by
 have b:=(q7N h p.length (zq _)).2;rw[ZC,qV] at b
 split at b
 ·simp at b
 ·omega
theorem qeu{p:List Ins}(h:qw p=(0,0)){k:Nat}(b:k<=p.length):qb4 p k (stB p k):=(q7N h k b).1
theorem q3P{p:List Ins}(h:qw p=(0,0)){k:Nat}{x:Ins}(e:p[k]? =some x):
  qJ x=0/\(x.op=7->stB p k<0)/\(x.op=8->0<=stB p k)/\q0o p k (stB p k) x=0/\
   (x.op=9\/x.op=10\/x.op=11\/x.op=14\/x.op=15->0<=stB p k):=by
 have d:=qev h e;have b:=q8f d;refine⟨b.2.2.1,b.1,b.2.1,b.2.2.2,fun hop=>?_⟩;unfold q9a at d;rw[if_neg (by simpa using b.2.2.1)] at d
 split at d
 ·omega
 ·split at d
  ·omega
  ·rename_i h2;have hp:q1x x=1:=by unfold q1x;rw[if_pos b.2.2.1,if_pos Yu]
   omega
theorem qfg{p:List Ins}(h:qw p=(0,0)):∀(n k:Nat),n+k=p.length->0<=stB p k->
  ∃c,q1S (p.drop k) k=c/\k<=c/\c<p.length/\(∃x,p[c]? =some x/\x.op=8)/\stB p (c+1)= -1/\∀i,k<=i->i<=c->stB p i=stB p k/\q1S (p.drop i) i=c/\(i<c->∀x,p[i]? =some x->x.op≠7/\x.op≠8)
 |0,k,D,hb=>by
  have C:k=p.length:=Yu;have:=qoR h;rw[<-C] at this;omega
 |n+1,k,D,hb=>by
  obtain⟨x,d⟩:∃x,p[k]? =some x:=⟨_,z6 Yu⟩
  have B:=q3P h d;have g:x.op≠7:=fun e=>by have:=B.2.1 e;omega
  have hd:q1S (p.drop k) k=if x.op=8 then k else q1S (p.drop (k+1)) (k+1):=by rw[q0A d,q1S]
  by_cases b:x.op=8
  ·refine⟨k,by rw[hd,if_pos b],zq k,Yu,⟨x,d,b⟩,?_,fun i A s=>?_⟩
   ·rw[q2u d,q0w,if_neg g,if_pos b]
   ·obtain rfl:i=k:=Yu;exact⟨rfl,by rw[hd,if_pos b],fun h=>absurd h Yu⟩
  ·have v:stB p (k+1)=stB p k:=by rw[q2u d,q0w,if_neg g,if_neg b]
   obtain⟨c,u,hkc,q,o,j,f⟩:=qfg h n (k+1) Yu (by rw[v];exact hb);refine⟨c,by rw[hd,if_neg b,u],Yu,q,o,j,fun i A s=>?_⟩
   by_cases r:i=k
   ·subst r;refine⟨rfl,by rw[hd,if_neg b,u],fun _ y z=>?_⟩;rw[d] at z;obtain rfl:=Option.some.inj z;exact⟨g,b⟩
   ·have:=f i Yu s;rw[v] at this;exact this
theorem q0g{p:List Ins}(h:qw p=(0,0)){k:Nat}{x:Ins}(e:p[k]? =some x)(q:x.op=7):
  ∃c,q0v p k=c/\k<c/\c<p.length/\(∃y,p[c]? =some y/\y.op=8)/\stB p (c+1)= -1/\∀i,k<i->i<=c->stB p i=k/\q1S (p.drop i) i=c/\(i<c->∀y,p[i]? =some y->y.op≠7/\y.op≠8):=by
 have hk:=(z7.1 e).1;have d:stB p (k+1)=k:=by rw[q2u e,q0w,if_pos q]
 obtain⟨c,f,g,j,n,o,b⟩:=qfg h (p.length-(k+1)) (k+1) Yu (by rw[d];omega);rw[d] at b;exact⟨c,f,g,j,n,o,fun i hi=>b i Yu⟩
def q3o(p:List Ins)(k:Nat)(x:Ins):je:=
 if x.op=4 then [k+1+x.imm] else if x.op=5\/x.op=6 then [k+1,k+1+x.imm] else if x.op=9 then [(q0v p k:Int)+1] else [k+1]
theorem qbM(len:Nat):∀(l:List Ins) (j t:Nat),q2P len l j t=false->∀(i:Nat) (x:Ins),l[i]? =some x->j+i<t->x.op=7->q1S (l.drop (i+1)) (j+i+1)<t\/len<=t
 | [],j,t,_,i,x,b,_,_=>by simp at b
 |y::l,j,t,h,i,x,b,hi,d=>by
  unfold q2P at h;rw[Yb,decide_eq_false_iff_not] at h;cases i with
  |zero=>
   simp only[Zo,Option.some.injEq] at b;subst b;simp only[ZV,zA,yf,List.drop_zero]
   by_cases f:t<=q1S l (j+1)
   ·right
    by_cases g:t+1<=len
    ·exact absurd ⟨Yu,d,f,g⟩ h.1
    ·omega
   ·left;omega
  |succ i=>
   have:=qbM len l (j+1) t h.2 i x (by simpa using b) Yu d;simp only[yf];have e:j+(i+1)+1=j+1+i+1:=Yu;rw[e];exact this
theorem qfi{x:Ins}(b:qJ x=0)(h:x.op=4\/x.op=5\/x.op=6):q18 x=true:=by
 unfold q18;rw[decide_eq_true_iff];exact⟨b,h⟩
theorem q58{p:List Ins}(h:qw p=(0,0)){k:Nat}{x:Ins}(I:p[k]? =some x):∀t∈q3o p k x,∃j:Nat,t=j/\k<j/\j<=p.length/\
  (0<=stB p k->x.op≠8->(x.op≠9->j<=q1S (p.drop k) k)/\(x.op=9->j=q1S (p.drop k) k+1))/\
  (stB p k<0->∀(b:Nat) (y:Ins),k<b->p[b]? =some y->y.op=7->j<=b\/q0v p b<j):=by
 have hk:=(z7.1 I).1;have C:=q3P h I;have D:=fun hb=>qfg h (p.length-k) k Yu hb
 have u:x.op≠8->q1S (p.drop k) k=q1S (p.drop (k+1)) (k+1):=fun e=>by rw[q0A I,q1S,if_neg e]
 have step:∃j:Nat,((k:Int)+1)=j/\k<j/\j<=p.length/\(0<=stB p k->x.op≠8->j<=q1S (p.drop k) k)/\
   (stB p k<0->∀(b:Nat) (y:Ins),k<b->p[b]? =some y->y.op=7->j<=b\/q0v p b<j):=by
  refine⟨k+1,Yu,Yu,Yu,fun hb e=>?_,fun _ b y hb _ _=> .inl Yu⟩;rw[u e];exact(q3A _ _).1
 have skip:(x.op=4\/x.op=5\/x.op=6)->∃j:Nat,((k:Int)+1+x.imm)=j/\k<j/\j<=p.length/\(0<=stB p k->x.op≠8->j<=q1S (p.drop k) k)/\
   (stB p k<0->∀(b:Nat) (y:Ins),k<b->p[b]? =some y->y.op=7->j<=b\/q0v p b<j):=fun G=>by
  have L:=qfi C.1 G;have hs2:=q3e L;have d:=C.2.2.2.1;unfold q0o at d;rw[if_pos L] at d
  split at d
  ·omega
  ·rename_i hlen;refine⟨k+1+x.imm.toNat,Yu,Yu,Yu,fun hb e=>?_,fun hb b y hkb J K=>?_⟩
   ·rw[if_pos hb] at d
    split at d
    ·omega
    ·rename_i he
     rcases (qeu h (by omega:k<=p.length)).bb with hb1|⟨_,_,z⟩
     ·omega
     ·rw[z] at he;omega
   ·rw[if_neg Yu] at d
    split at d
    ·omega
    ·rename_i F
     by_cases E:k+1+x.imm.toNat<=b
     ·exact .inl E
     ·right;have hbl:=(z7.1 J).1;have:=qbM p.length (p.drop (k+1)) (k+1) (k+1+x.imm.toNat) (by simpa using F) (b-(k+1)) y (by rw[yo,show k+1+(b-(k+1))=b by omega];exact J) Yu K;rw[yA,show k+1+(b-(k+1)+1)=b+1 by omega,show k+1+(b-(k+1))+1=b+1 by omega] at this;obtain⟨c,s,_,B,_⟩:=q0g h J K;have A:q1S (p.drop (b+1)) (b+1)=c:=s;rw[s];rw[A] at this;omega
 intro t d;unfold q3o at d
 split at d
 ·rename_i M;obtain⟨j,r,f,g,n,o⟩:=skip (.inl M);rw[zf.1 d];exact⟨j,r,f,g,fun hb e=>⟨fun _=>n hb e,fun q=>by omega⟩,o⟩
 ·split at d
  ·rename_i v
   rcases zN.1 d with rfl|d
   ·obtain⟨j,r,f,g,n,o⟩:=step;exact⟨j,r,f,g,fun hb e=>⟨fun _=>n hb e,fun q=>by omega⟩,o⟩
   ·obtain⟨j,r,f,g,n,o⟩:=skip (.inr v);rw[zf.1 d];exact⟨j,r,f,g,fun hb e=>⟨fun _=>n hb e,fun q=>by omega⟩,o⟩
  ·split at d
   ·rename_i q;rw[zf.1 d];have hb:=C.2.2.2.2 (.inl q);obtain⟨c,s,hkc,B,_⟩:=D hb;have he:q0v p k=c:=by unfold q0v;rw[<-u Yu,s]
    rw[he];refine⟨c+1,Yu,Yu,Yu,fun _ _=>⟨fun h=>absurd q h,fun _=>by rw[s]⟩,fun hb2=>by omega⟩
   ·rename_i q;obtain⟨j,r,f,g,n,o⟩:=step;rw[zf.1 d];exact⟨j,r,f,g,fun hb e=>⟨fun _=>n hb e,fun h=>absurd h q⟩,o⟩
def q5D(p:List Ins)(k:Int):Int:=if(qw p).2=0/\0<=k then(match p[k.toNat]? with
 |some x=>if x.op=7 then q0v p k.toNat else-1
 |none=> -1) else-1
theorem qa5{p:List Ins}:(qw p).2=0↔qw p=(0,0):=by
 refine⟨fun h=>?_,fun h=>by rw[h]⟩;have key:∀(d:Nat->Int->Ins->Int) (l:List Ins) (k:Nat) (b:Int),(qV d l k b).2=0->qV d l k b=(0,0):=fun d l=>by
  induction l with
  |nil=>
   intro k b;simp only[qV]
   split
   ·intro h;simp at h
   ·intro _;rfl
  |cons x l g=>
   intro k b;simp only[qV]
   split
   ·rename_i f;intro h;exact absurd h f
   ·exact g _ _
 unfold qw at*
 split at h
 ·simp at h
 ·rename_i e;rw[if_neg e];exact key _ _ _ _ h
section
variable{W0:World}{own:Own}{a:j9}{cap:Nat}{p:List Ins}
theorem qjQ(b:qz W0)(d:RdE Ins.enc 5 W0 own a p):jo W0 107 [.slice a p.length cap] own (.bool (decide ((qw p).2=0))):=by
 refine qg (sH [] ?_);have e:=q6j (cap:=cap) b d;generalize qw p=r at*
 repeat'((try conv=>whnf);first|refine qm e ?_|refine fO ?_|exact Ent.refl|refine And.intro rfl ?_)
 all_goals exact⟨rfl,eB⟩
theorem qac{k:Int}(h:¬(0<=k/\k<p.length)):q5D p k= -1:=by
 unfold q5D
 split
 ·rename_i hc;rw[zV Yu]
 ·rfl
theorem q4s{k:Nat}{x:Ins}(b:p[k]? =some x):q5D p k=if(qw p).2=0/\x.op=7 then(q0v p k:Int) else-1:=by
 unfold q5D;rw[zD,b];simp only
 (repeat' split) <;>first|rfl|omega
theorem q9p(h:qz W0)(d:RdE Ins.enc 5 W0 own a p)(n:p.length<=1099511627776)(k:Int):jo W0 76 [.slice a p.length cap,j5 k] own (j5 (q5D p k)):=by
 refine qg (sH [] ?_);have g:=qjQ (cap:=cap) h d
 by_cases f:0<=k/\k<p.length
 ·obtain⟨j,rfl⟩:=Zp f.1;obtain⟨x,e⟩:∃x,p[j]? =some x:=⟨_,z6 Yu⟩
  have he:=qgi (cap:=cap) d n j Yu;rw[q4s e];generalize (qw p).2=r at*
  repeat'((try conv=>whnf);first|refine qO ?_|refine q09 ?_|refine q2H ?_|refine q3H Yu ?_|refine qm g ?_|refine qm he ?_|(apply gLd;first|refine ldE (k:=0) (RdE.ent d ?_) e ?_ rfl ?_;rotate_left;rfl;rotate_left;(solve|(exact eB)))|(apply qF;first|refine ixE d e ?_ ?_;(first|rfl|omega))|refine q4j (fun b=>?_) fun b=>?_|refine q59 (fun b=>?_) fun b=>?_)
  all_goals(refine⟨q0a (vi ?_),eB⟩;(repeat' split) <;>first|rfl|exfalso;omega|omega)
 ·rw[qac f];generalize (qw p).2=r at*
  repeat'((try conv=>whnf);first|refine qO ?_|refine q09 ?_|refine q2H ?_|refine q6x Yu ?_|refine qm g ?_|refine q1w (fun b=>?_) fun b=>?_|refine q4j (fun b=>?_) fun b=>?_)
  all_goals first|exact⟨rfl,eB⟩|exfalso;omega
end
open Go
abbrev qQ(n:Int):Int:=IntKind.u64.wrap n
abbrev okU(x:Int):Prop:=0<=x/\x<=18446744073709551615
structure Rg where
 r0:Int
 r1:Int
 r2:Int
 r3:Int
 r4:Int
 r5:Int
 r6:Int
 r7:Int
abbrev Rg.enc(r:Rg):jf:= [j6 r.r0,j6 r.r1,j6 r.r2,j6 r.r3,j6 r.r4,j6 r.r5,j6 r.r6,j6 r.r7]
def Rg.get(r:Rg):Nat->Int
 |0=>r.r0|1=>r.r1|2=>r.r2|3=>r.r3|4=>r.r4|5=>r.r5|6=>r.r6|7=>r.r7|_=>0
def Rg.set(r:Rg):Nat->Int->Rg
 |0,v=>{r with r0:=v}|1,v=>{r with r1:=v}|2,v=>{r with r2:=v}|3,v=>{r with r3:=v}
 |4,v=>{r with r4:=v}|5,v=>{r with r5:=v}|6,v=>{r with r6:=v}|7,v=>{r with r7:=v}|_,_=>r
theorem lt8{k:Nat}(h:k<8):k=0\/k=1\/k=2\/k=3\/k=4\/k=5\/k=6\/k=7:=Yu
theorem Rg.get_set{r:Rg}{k j:Nat}{v:Int}(h:k<8):(r.set k v).get j=if j=k then v else r.get j:=by
 rcases lt8 h with rfl|rfl|rfl|rfl|rfl|rfl|rfl|rfl
 all_goals
  by_cases b:j<8
  ·rcases lt8 b with rfl|rfl|rfl|rfl|rfl|rfl|rfl|rfl <;>rfl
  ·rw[if_neg Yu];obtain⟨m,rfl⟩:∃m,j=m+8:=⟨j-8,Yu⟩
   rfl
structure Thr where
 pc:Nat
 rg:Rg
 oc:Int
 dn:Bool
abbrev Thr.enc(t:Thr):jf:= [j5 t.pc,j6 t.rg.r0,j6 t.rg.r1,j6 t.rg.r2,j6 t.rg.r3,j6 t.rg.r4,j6 t.rg.r5,j6 t.rg.r6,j6 t.rg.r7,j5 t.oc, .bool t.dn]
theorem Thr.enc_get{t:Thr}{k:Nat}(h:k<8):t.enc[1+k]? =some (j6 (t.rg.get k)):=by
 rcases lt8 h with rfl|rfl|rfl|rfl|rfl|rfl|rfl|rfl <;>rfl
theorem Thr.enc_set{t:Thr}{k:Nat}{v:Int}(h:k<8):t.enc.set (1+k) (j6 v)={t with rg:=t.rg.set k v:Thr}.enc:=by
 rcases lt8 h with rfl|rfl|rfl|rfl|rfl|rfl|rfl|rfl <;>rfl
structure ObM where
 pc:Nat
 k:Int
 v:Int
abbrev ObM.enc(o:ObM):jf:= [j5 o.pc,j5 o.k,j6 o.v]
structure EvM where
 ev:Int
 t:Int
 k:Int
 w:Int
 r:je
 wl:je
def EH.m(e:EH):EvM:=⟨e.ev,e.t,e.k,e.w,e.rl,e.wl⟩
structure ChM where
 t:Int
 f:Int
 ad:je
structure GS where
 d:je
 tk:List Bool
 T:List Thr
 E:List EvM
 O:List (List ObM)
 n:Nat
def isL(x:Ins):Bool:=decide ((0<=x.op/\x.op<=6)\/x.op=17)
def q5h(t:Thr)(x:Ins):Rg:=
 if x.op=1 then t.rg.set x.a.toNat (qQ x.imm) else if x.op=2 then t.rg.set x.a.toNat (t.rg.get x.b.toNat)
 else if x.op=3 then t.rg.set x.a.toNat (Alu.applyW x.imm (t.rg.get x.b.toNat) (t.rg.get x.c.toNat)) else if x.op=17 then t.rg.set x.a.toNat (qQ t.oc) else t.rg
def q1L(t:Thr)(x:Ins):Nat:=
 if x.op=4\/(x.op=5/\t.rg.get x.a.toNat=0)\/(x.op=6/\t.rg.get x.a.toNat≠0) then t.pc+1+x.imm.toNat else t.pc+1
def q1h(t:Thr)(x:Ins):Thr:={t with rg:=q5h t x,pc:=q1L t x}
structure BM where
 d:je
 tk:List Bool
 t:Thr
 r:je
 w:je
 o:List ObM
 ad:je
def adr(r:Rg)(b imm:Int):Int:=qQ (r.get b.toNat+qQ imm)
def q1Y(l:je)(a:Int):je:=if a∈l then l else l++ [a]
def wrM(b:BM)(a:Nat)(v:Int):BM:={b with d:=b.d.set a v,w:=q1Y b.w a}
def wrL(b:BM)(a:Nat):Nat->BM
 |0=>b
 |n+1=>wrM (wrL b a n) (a+n) 0
def BM.put(b:BM)(r:Int)(k v:Int):BM:={b with t:={b.t with rg:=b.t.rg.set r.toNat v,pc:=b.t.pc+1},o:=b.o++ [⟨b.t.pc,k,v⟩]}
def BM.go(b:BM):BM:={b with t:={b.t with pc:=b.t.pc+1}}
def rdM(b:BM)(a:Nat):BM:={b with r:=if(a:Int)∈b.w\/(a:Int)∈b.r then b.r else b.r++ [(a:Int)]}
def alB(c:Cfg)(tk:List Bool)(ad:je)(imm:Int):Option (Nat×Nat):=
 match ad with
 | []=>none
 |a::_=>if a<0\/q5P c a<0\/qoT c (q5P c a)≠imm\/tk.getD (q5P c a).toNat false=true then none else some (a.toNat,(q5P c a).toNat)
def q0M(c:Cfg)(b:BM)(x:Ins):BM×Int:=
 if x.op=10 then(if c.words<=adr b.t.rg x.b x.imm then(b.go,7) else((rdM b (adr b.t.rg x.b x.imm).toNat).put x.a 1 (b.d.getD (adr b.t.rg x.b x.imm).toNat 0),0))
 else if x.op=11 then(if c.words<=adr b.t.rg x.a x.imm then(b.go,7) else((wrM b (adr b.t.rg x.a x.imm).toNat (b.t.rg.get x.b.toNat)).go,0))
 else if x.op=14 then(match alB c b.tk b.ad x.imm with
  |none=>(b, -1)
  |some (a,k)=>((wrL {b with ad:=b.ad.tail,tk:=b.tk.set k true} a (2 ^ x.imm.toNat)).put x.a 2 a,0))
 else if x.op=15 then(if q5P c (b.t.rg.get x.a.toNat)<0\/b.tk.getD (q5P c (b.t.rg.get x.a.toNat)).toNat false=false then(b.go,8) else({b with tk:=b.tk.set (q5P c (b.t.rg.get x.a.toNat)).toNat false}.go,0))
 else if x.op=8 then(b.go,1) else if x.op=9 then(b.go,2) else({b with t:=q1h b.t x},0)
def q2c(c:Cfg)(p:List Ins):Nat->BM->BM×Int
 |0,b=>(b, -1)
 |n+1,b=>match p[b.t.pc]? with
  |none=>(b, -1)
  |some x=>if(q0M c b x).2=0 then q2c c p n (q0M c b x).1 else q0M c b x
def GS.fin(s:GS)(t:Nat)(th:Thr)(l:List ObM):GS:={s with T:=s.T.set t th,O:=s.O.set t (s.O.getD t []++l)}
def GS.ev(s:GS)(l:List EvM):GS:={s with E:=s.E++l}
def GS.mem(s:GS)(d:je)(tk:List Bool):GS:={s with d:=d,tk:=tk}
def txM(c:Cfg)(p:List Ins)(s:GS)(th:Thr)(t:Nat)(f:Int)(ad:je):Option GS:=
 if f≠0 then(if(3<=f/\f<=6)/\ad= [] then some (s.fin t ⟨q0v p th.pc+1,th.rg,f,decide (q0v p th.pc+1=p.length)⟩ [⟨th.pc,3,f⟩]) else none)
 else match q2c c p p.length ⟨s.d,s.tk,{th with pc:=th.pc+1},[],[],[],ad⟩ with
  |(b,o)=>if o= -1\/b.ad≠ [] then none
   else if o=1 then some (((s.mem b.d b.tk).ev [⟨s.n,t,3,0,[],[]⟩,⟨s.n,t,4,0,b.r,b.w⟩]).fin t ⟨q0v p th.pc+1,b.t.rg,1,decide (q0v p th.pc+1=p.length)⟩ (b.o++ [⟨th.pc,3,1⟩]))
   else some ((s.ev [⟨s.n,t,3,0,[],[]⟩,⟨s.n,t,4,0,b.r,[]⟩]).fin t ⟨q0v p th.pc+1,th.rg,o,decide (q0v p th.pc+1=p.length)⟩ [⟨th.pc,3,o⟩])
def plE(c:Cfg)(n t:Nat)(k a:Int):List EvM:=
 if c.strong then [⟨n,t,3,0,[],[]⟩,⟨n,t,4,0,if k=1 then [a] else [],if k=1 then [] else [a]⟩] else [⟨n,t,k,a,[],[]⟩]
def Thr.nxt(th:Thr)(len:Nat)(r:Rg):Thr:=⟨th.pc+1,r,th.oc,decide (th.pc+1=len)⟩
def sgM(c:Cfg)(p:List Ins)(s:GS)(th:Thr)(t:Nat)(f:Int)(x:Ins):Option GS:=
 if x.op=12\/x.op=13 then
  (match adr th.rg (if x.op=12 then x.b else x.a) x.imm with
  |a=>if f≠0 then(if f=6/\c.strong=true/\x.op=13/\a<c.words then some (s.fin t (th.nxt p.length th.rg) [⟨th.pc,7,6⟩]) else none)
   else if c.words<=a then some (s.fin t (th.nxt p.length (if x.op=12 then th.rg.set x.a.toNat 0 else th.rg)) [⟨th.pc,7,7⟩])
   else if x.op=12 then some ((s.ev (plE c s.n t 1 a)).fin t (th.nxt p.length (th.rg.set x.a.toNat (s.d.getD a.toNat 0))) [⟨th.pc,4,s.d.getD a.toNat 0⟩])
   else some (((s.mem (s.d.set a.toNat (th.rg.get x.b.toNat)) s.tk).ev (plE c s.n t 2 a)).fin t (th.nxt p.length th.rg) [⟨th.pc,5,th.rg.get x.b.toNat⟩]))
 else if f≠0 then none
 else some (s.fin t {q1h th x with dn:=decide ((q1h th x).pc=p.length)} (if x.op=16 then [⟨th.pc,6,0⟩] else []))
def chM(c:Cfg)(ps:List (List Ins))(s:GS)(ch:ChM):Option GS:=
 if ch.t<0 then none else match s.T[ch.t.toNat]?,ps[ch.t.toNat]? with
 |some th,some p=>if th.dn then none else match p[th.pc]? with
  |some x=>if x.op=7 then txM c p s th ch.t.toNat ch.f ch.ad else if ch.ad= [] then sgM c p s th ch.t.toNat ch.f x else none
  |none=>none
 |_,_=>none
def doM(c:Cfg)(ps:List (List Ins))(s:GS)(ch:ChM):Int×GS:=
 match chM c ps s ch with
 |some s'=>(0,{s' with n:=s.n+1})
 |none=>(70,s)
def q19(c:Cfg)(b:je)(ps:List (List Ins)):GS:=
 ⟨b,List.replicate (qT c).toNat false,ps.map fun p=>⟨0,⟨0,0,0,0,0,0,0,0⟩,0,decide (p.length=0)⟩,[],ps.map fun _=> [],0⟩
structure MS where
 d:je
 o:je
 ck:Int
 tk:Int
 sv:Int
 sl:je
 hd:je
 nx:je
abbrev MS.L(m:MS):List (je):= [m.d,m.o,[m.ck],[m.tk],[m.sv],m.sl,m.hd,m.nx]
structure AcM where
 k:Int
 c:Int
 i:Int
 got:Int
 put:Int
 dn:Bool
abbrev AcM.enc(a:AcM):jf:= [j5 a.k,j5 a.c,j5 a.i,j6 a.got,j6 a.put, .bool a.dn]
abbrev AcM.v(a:AcM):Value:= .agg #[j5 a.k,j5 a.c,j5 a.i,j6 a.got,j6 a.put, .bool a.dn]
def acz:AcM:=⟨0,0,0,0,0,false⟩
def acL(c i v:Int):AcM:=⟨1,c,i,v,v,true⟩
def acS(c i old v:Int):AcM:=⟨2,c,i,old,v,true⟩
def acW(c i old v:Int)(ok:Bool):AcM:=⟨3,c,i,old,if ok then v else old,ok⟩
def acA(c i old v:Int):AcM:=⟨4,c,i,old,qQ (old+v),true⟩
structure StM where
 t:Int
 ph:Int
 at':Int
 ac:AcM
abbrev StM.enc(s:StM):jf:= j5 s.t:: j5 s.ph:: j5 s.at'::s.ac.enc
def q7B(o:Int):Int:=o/64
def q4R(o:Int):Int:=o % 64-1
inductive Ko
 |en (code:Int)
 |tk (v:Int)
 |wr (a v:Int)
inductive AP
 |idle
 |loc (k:Ko)
 |ent (n:Nat)
 |rd (n:Nat) (bf vl:Int)
 |lk (seen:Int) (ld:Bool)
 |tn (tk:Bool)
 |ck (l:je)
 |dc
 |wr (a v:je)
 |rl (o w:je)
 |sp
 |ps
 |lv
structure AT where
 st:Int
 code:Int
 rv:Int
 set:je
 ad:je
 vl:je
 seen:je
 addr:Int
 val:Int
 oc:je
 old:je
 ck:Int
 dn:Bool
 tk:Int
 ph:AP
def AT.new:AT:=⟨0,0,0,[],[],[],[],0,0,[],[],0,false,0, .idle⟩
def AT.sto(x:AT):Bool:=decide (x.code=1/\x.ad≠ [])
def q9I(l:je):je:=Go.Lib.compact (l.mergeSort fun x y=>decide (x<=y))
def AT.endA(c:Cfg)(x:AT)(code:Int):AT:=
 if code=1/\x.ad≠ [] then{x with code:=code,oc:=q9I (x.ad.map (qB c)),old:= [],ph:= .lk 0 false} else{x with code:=code,ph:= .tn false}
def AT.undo(x:AT)(code:Int):AT:={x with code:=code,ph:= .lv}
def q5Y(cap:Int)(ad vl:je)(a v:Int):Option (je×je):=match ad.idxOf? a with
 |some n=>some (ad,vl.set n v)
 |none=>if(ad.length:Int)=cap then none else some (ad++ [a],vl++ [v])
def q54(ad vl:je)(a:Int):Option Int:=match ad.idxOf? a with
 |some n=>vl[n]?
 |none=>none
def AT.kont(c:Cfg)(x:AT):Ko->AT
 | .en code=>x.endA c code
 | .tk v=>{x with val:=v}
 | .wr a v=>if c.words<=a then x.endA c 7 else match q5Y c.writes x.ad x.vl a v with
  |some (ad,vl)=>{x with ad:=ad,vl:=vl}
  |none=>x.undo 3
def AT.read(c:Cfg)(x:AT)(a:Int):AT:=if c.words<=a then{x with ph:= .loc (.en 7)} else match q54 x.ad x.vl a with
 |some v=>{x with ph:= .loc (.tk v)}
 |none=>{x with ph:= .rd 0 0 0,addr:=a}
def AT.rest(x:AT):AT:=if x.oc= [] then{x with ph:= .ps} else{x with ph:= .rl x.oc x.old}
def q6D(cap:Int)(l:je)(o:Int):Option (je):=if o∈l then some l else if(l.length:Int)>=cap then none else some (l++ [o])
def qh(c:Cfg)(t:Int)(m:MS)(x:AT):MS×AT×AcM×Int:=
 match x.ph with
 | .idle=>(m,x,acz,0)
 | .loc k=>(m,{x with ph:= .idle}.kont c k,acz,0)
 | .ent n=>if n=0 then({m with sl:=m.sl.set t.toNat 1},{x with ph:= .ent 1},acS 6 t (m.sl.getD t.toNat 0) 1,2)
  else if n=1 then(m,{x with rv:=m.ck,ph:= .ent 2},acL 3 0 m.ck,3)
  else({m with sl:=m.sl.set t.toNat (qQ (x.rv+2))},{x with ph:= .idle},acS 6 t (m.sl.getD t.toNat 0) (qQ (x.rv+2)),4)
 | .rd n b v=>if n=0 then(match m.o.getD (qB c x.addr).toNat 0 with
   |w=>(m,if q4R w>=0\/q7B w>x.rv then x.undo 9 else{x with ph:= .rd 1 w 0},acL 2 (qB c x.addr) w,5))
  else if n=1 then(match m.d.getD x.addr.toNat 0 with
   |v=>(m,{x with ph:= .rd 2 b v},acL 1 x.addr v,6))
  else match m.o.getD (qB c x.addr).toNat 0 with
   |w=>(m,if w≠b then x.undo 9 else match q6D c.reads x.set (qB c x.addr) with
    |none=>{x with seen:=q1Y x.seen x.addr}.undo 3
    |some s=>{x with seen:=q1Y x.seen x.addr,set:=s,val:=v,ph:= .idle},acL 2 (qB c x.addr) w,7)
 | .lk s ld=>match x.oc.getD x.old.length 0 with
  |o=>match m.o.getD o.toNat 0 with
   |w=>if ld=false then(m,{x with ph:= .lk w (decide (q4R w<0))},acL 2 o w,11)
    else if w=s then({m with o:=m.o.set o.toNat (qQ (s+t+1))},{x with old:=x.old++ [s],ph:=if x.old.length+1=x.oc.length then .tn false else .lk s false},acW 2 o w (qQ (s+t+1)) true,12)
    else(m,{x with ph:= .lk s false},acW 2 o w (qQ (s+t+1)) false,12)
 | .tn b=>if b=false then({m with tk:=qQ (m.tk+1)},{x with tk:=m.tk,ph:= .tn true},acA 4 0 m.tk 1,13) else(m,if m.sv=x.tk then(if x.set= [] then{x with ph:= .dc} else{x with ph:= .ck x.set}) else x,acL 5 0 m.sv,14)
 | .ck l=>match l.headD 0 with
  |o=>match m.o.getD o.toNat 0 with
   |w=>(m,if q7B w>x.rv then{x with code:=9}.rest else if l.tail= [] then{x with ph:= .dc} else{x with ph:= .ck l.tail},acL 2 o w,15)
 | .dc=>(m,if x.sto/\m.ck>=c.clock then{x with ck:=m.ck,code:=6}.rest else if x.sto then{x with ck:=m.ck,dn:=true,ph:= .wr x.ad x.vl} else{x with ck:=m.ck,dn:=true}.rest,acL 3 0 m.ck,16)
 | .wr a v=>({m with d:=m.d.set (a.headD 0).toNat (v.headD 0)},if a.tail= [] then{x with ph:= .rl x.oc (x.oc.map fun _=>(x.ck+1)*64)} else{x with ph:= .wr a.tail v.tail},acS 1 (a.headD 0) (m.d.getD (a.headD 0).toNat 0) (v.headD 0),17)
 | .rl o w=>({m with o:=m.o.set (o.headD 0).toNat (w.headD 0)},if o.tail= [] then{x with ph:=if x.dn/\x.sto then .sp else .ps} else{x with ph:= .rl o.tail w.tail},acS 2 (o.headD 0) (m.o.getD (o.headD 0).toNat 0) (w.headD 0),18)
 | .sp=>({m with ck:=qQ (x.ck+1)},{x with ph:= .ps},acS 3 0 m.ck (qQ (x.ck+1)),19)
 | .ps=>({m with sv:=qQ (x.tk+1)},{x with ph:= .lv},acS 5 0 m.sv (qQ (x.tk+1)),20)
 | .lv=>({m with sl:=m.sl.set t.toNat 0},{x with ph:= .idle,st:=2},acS 6 t (m.sl.getD t.toNat 0) 0,24)
section
variable{c:Cfg}{t:Int}{m:MS}{x:AT}
theorem qo3{b v:Int}(h:x.ph= .rd 0 b v):qh c t m x=(m,if q4R (m.o.getD (qB c x.addr).toNat 0)>=0\/q7B (m.o.getD (qB c x.addr).toNat 0)>x.rv then x.undo 9 else{x with ph:= .rd 1 (m.o.getD (qB c x.addr).toNat 0) 0},acL 2 (qB c x.addr) (m.o.getD (qB c x.addr).toNat 0),5):=by unfold qh;simp only[h];try rfl
theorem qo4{b v:Int}(h:x.ph= .rd 2 b v):qh c t m x=(m,if m.o.getD (qB c x.addr).toNat 0≠b then x.undo 9 else match q6D c.reads x.set (qB c x.addr) with
   |none=>{x with seen:=q1Y x.seen x.addr}.undo 3
   |some s=>{x with seen:=q1Y x.seen x.addr,set:=s,val:=v,ph:= .idle},acL 2 (qB c x.addr) (m.o.getD (qB c x.addr).toNat 0),7):=by unfold qh;simp only[h];try rfl
theorem q7w{s:Int}{ld:Bool}(h:x.ph= .lk s ld):qh c t m x=(if ld=false then(m,{x with ph:= .lk (m.o.getD (x.oc.getD x.old.length 0).toNat 0) (decide (q4R (m.o.getD (x.oc.getD x.old.length 0).toNat 0)<0))},acL 2 (x.oc.getD x.old.length 0) (m.o.getD (x.oc.getD x.old.length 0).toNat 0),11)
    else if m.o.getD (x.oc.getD x.old.length 0).toNat 0=s then({m with o:=m.o.set (x.oc.getD x.old.length 0).toNat (qQ (s+t+1))},{x with old:=x.old++ [s],ph:=if x.old.length+1=x.oc.length then .tn false else .lk s false},acW 2 (x.oc.getD x.old.length 0) (m.o.getD (x.oc.getD x.old.length 0).toNat 0) (qQ (s+t+1)) true,12)
    else(m,{x with ph:= .lk s false},acW 2 (x.oc.getD x.old.length 0) (m.o.getD (x.oc.getD x.old.length 0).toNat 0) (qQ (s+t+1)) false,12)):=by unfold qh;simp only[h];try rfl
theorem qaU(h:x.ph= .tn false):qh c t m x=({m with tk:=qQ (m.tk+1)},{x with tk:=m.tk,ph:= .tn true},acA 4 0 m.tk 1,13):=by unfold qh;simp only[h];try rfl
theorem q8u(h:x.ph= .tn true):qh c t m x=(m,if m.sv=x.tk then(if x.set= [] then{x with ph:= .dc} else{x with ph:= .ck x.set}) else x,acL 5 0 m.sv,14):=by unfold qh;simp only[h];try rfl
theorem qh3{l:je}(h:x.ph= .ck l):qh c t m x=(m,if q7B (m.o.getD (l.headD 0).toNat 0)>x.rv then{x with code:=9}.rest else if l.tail= [] then{x with ph:= .dc} else{x with ph:= .ck l.tail},acL 2 (l.headD 0) (m.o.getD (l.headD 0).toNat 0),15):=by unfold qh;simp only[h];try rfl
theorem q3u(h:x.ph= .dc):qh c t m x=(m,if x.sto/\m.ck>=c.clock then{x with ck:=m.ck,code:=6}.rest else if x.sto then{x with ck:=m.ck,dn:=true,ph:= .wr x.ad x.vl} else{x with ck:=m.ck,dn:=true}.rest,acL 3 0 m.ck,16):=by unfold qh;simp only[h];try rfl
end
structure FT where
 ld:Bool
 lim:Int
 nx:Nat
structure GT where
 th:Thr
 at':Option AT
 bg:Nat
 sv:Rg
 tr:Nat
 seen:List ObM
 fn:Option FT
 obs:List ObM
 ct:Nat
def GT.to(x:GT)(n pc:Nat):GT:={x with th:={x.th with pc:=pc,dn:=decide (pc=n)}}
def AT.busy(a:AT):Bool:=match a.ph with
 | .idle=>false
 |_=>true
def GT.endG(p:List Ins)(x:GT)(a:AT):GT:=
 let b:GT:=if a.code=1 then{x with at':=none,obs:=x.obs++x.seen} else{x with at':=none,th:={x.th with rg:=x.sv}}
 if a.code=9/\(x.tr:Int)<((p[x.bg]?).map (·.imm)).getD 0 then b.to p.length x.bg
 else({b with tr:=0,th:={b.th with oc:=if a.code=9 then 5 else a.code},obs:=b.obs++ [⟨x.bg,3,if a.code=9 then 5 else a.code⟩]}:GT).to p.length (q0v p x.bg+1)
def GT.ans(p:List Ins)(x:GT)(a:AT)(i:Ins):GT:=
 if a.st=2 then x.endG p a
 else if i.op=10 then({x with at':=some a,th:={x.th with rg:=x.th.rg.set i.a.toNat a.val},seen:=x.seen++ [⟨x.th.pc,1,a.val⟩]}:GT).to p.length (x.th.pc+1)
 else({x with at':=some a}:GT).to p.length (x.th.pc+1)
section
variable{p:List Ins}{x:GT}{a:AT}{i:Ins}
theorem qlv(h:a.st=2):x.ans p a i=x.endG p a:=if_pos h
theorem qlw(h:a.st≠2)(b:i.op≠10):x.ans p a i=({x with at':=some a}:GT).to p.length (x.th.pc+1):=by unfold GT.ans;rw[if_neg h,if_neg b]
theorem qlx(h:a.st≠2)(b:i.op=10):x.ans p a i=({x with at':=some a,th:={x.th with rg:=x.th.rg.set i.a.toNat a.val},seen:=x.seen++ [⟨x.th.pc,1,a.val⟩]}:GT).to p.length (x.th.pc+1):=by unfold GT.ans;rw[if_neg h,if_pos b]
end
section
variable{p:List Ins}{x:GT}{a:AT}
theorem qlT(h:a.code=1):x.endG p a=({x with at':=none,obs:=x.obs++x.seen++ [⟨x.bg,3,1⟩],tr:=0,th:={x.th with oc:=1}}:GT).to p.length (q0v p x.bg+1):=by
 unfold GT.endG;rw[if_pos h,if_neg (fun b=>absurd (h.symm.trans b.1) Yv),if_neg (fun b=>absurd (h.symm.trans b) Yv),h]
theorem qi5(h:a.code=9)(d:(x.tr:Int)<((p[x.bg]?).map (·.imm)).getD 0):x.endG p a=({x with at':=none,th:={x.th with rg:=x.sv}}:GT).to p.length x.bg:=by
 unfold GT.endG;rw[if_neg (fun b=>absurd (h.symm.trans b) Yv),if_pos ⟨h,d⟩]
theorem qp2(h:a.code=9)(d:¬(x.tr:Int)<((p[x.bg]?).map (·.imm)).getD 0):x.endG p a=({x with at':=none,th:={x.th with rg:=x.sv,oc:=5},tr:=0,obs:=x.obs++ [⟨x.bg,3,5⟩]}:GT).to p.length (q0v p x.bg+1):=by
 unfold GT.endG;rw[if_neg (fun b=>absurd (h.symm.trans b) Yv),if_neg (fun b=>d b.2),if_pos h]
end
def evA(c:Cfg)(t:Int)(a:AT)(ph:Int):List EvM:=
 if ph=3 then [⟨0,t,3,0,[],[]⟩] else if ph=16/\a.dn=true then [⟨0,t,4,0,a.seen,if a.code=1 then a.ad.filter fun x=>decide (x<c.words) else []⟩] else []
def q0H(c:Cfg)(p:List Ins)(t:Int)(m:MS)(x:GT)(a:AT)(i:Ins):MS×GT×StM×List EvM:=
 match qh c t m a with
 |(m',b,ac,ph)=>(m',if b.busy then{x with at':=some b} else x.ans p b i,⟨t,ph,x.ct,ac⟩,evA c t b ph)
def q1D(c:Cfg)(r:Rg)(a:AT)(i:Ins):AT:=
 if i.op=10 then a.read c (adr r i.b i.imm) else if i.op=11 then{a with ph:= .loc (.wr (adr r i.a i.imm) (r.get i.b.toNat))}
 else if i.op=8 then{a with ph:= .loc (.en 1)} else{a with ph:= .loc (.en 2)}
def q1f(c:Cfg)(p:List Ins)(t:Int)(m:MS)(x:GT)(i:Ins):MS×GT×StM×List EvM:=
 if i.op=7 then q0H c p t m {x with bg:=x.th.pc,sv:=x.th.rg,tr:=x.tr+1,seen:= [],ct:=x.ct+1} {AT.new with st:=1,ph:= .ent 0} i
 else if 8<=i.op/\i.op<=11 then(match x.at' with
  |some a=>q0H c p t m x (q1D c x.th.rg a i) i
  |none=>(m,x,⟨t,0,0,acz⟩,[]))
 else(m,{x with th:={q1h x.th i with dn:=decide ((q1h x.th i).pc=p.length)}},⟨t,0,if x.at'.isSome then x.ct else 0,acz⟩,[])
open Go Go.RowKit
section
variable{W0:World}{own:Own}{a:j9}{cap:Nat}{p:List Ins}
theorem qnI(f:RdE Ins.enc 5 W0 own a p)(hl:p.length<=1099511627776)(t:Nat):
  jo W0 134 [.slice a p.length cap,j5 t] own (.tuple #[j5 (qgZ p t).1,j5 (qgZ p t).2]):=by
 refine qg (sH [] ?_);unfold qgZ;generalize h:q1u p.length t p 0 (-1)=res;refine q1o (σ:=Nat×Int) (fun s=> [(7,j5 s.1),(6,j5 s.2)]) (fun s=>s.1<=p.length/\(s.2= -1\/(0<=s.2/\s.2<s.1))/\q1u p.length t (p.drop s.1) s.1 s.2=res) (fun s=>p.length-s.1) (0, -1) ⟨Yw,Yw,h⟩ (eF) rfl ?_;rintro⟨k,b⟩ junk ⟨v,hb,d⟩;simp only[] at v hb d
 by_cases n:k<p.length
 ·obtain⟨x,e⟩:∃x,p[k]? =some x:=⟨_,z6 n⟩
  rw[q0A e,q1u] at d
  by_cases q:b<0/\x.op=7
  ·rw[if_pos q] at d
   repeat'((try conv=>whnf);first|refine fH ?_|refine fF ?_|refine fJ ?_|apply gLd;refine q0l f e rfl ?_|(apply qF;first|refine ixE f e ?_ ?_;(first|rfl|omega))|refine fB ?_)
   all_goals exact⟨(k+1,(k:Int)),⟨by simp;omega,by simp;omega,d⟩,by simp;omega,(eF),(eC)⟩
  ·rw[if_neg q] at d
   by_cases r:0<=b/\x.op=8
   ·rw[if_pos r] at d
    by_cases g:b<=t/\t<=k
    ·rw[if_pos g] at d
     repeat'((try conv=>whnf);first|refine fH ?_|refine fI ?_|refine fD ?_|refine fF ?_|refine fJ ?_|refine fK ?_|apply gLd;refine q0l f e rfl ?_|(apply qF;first|refine ixE f e ?_ ?_;(first|rfl|omega)))
     all_goals(rw[<-d];exact⟨rfl,(eC)⟩)
    ·rw[if_neg g] at d
     repeat'((try conv=>whnf);first|refine fH ?_|refine fI ?_|refine fD ?_|refine fF ?_|refine fG ?_|refine fJ ?_|refine fK ?_|apply gLd;refine q0l f e rfl ?_|(apply qF;first|refine ixE f e ?_ ?_;(first|rfl|omega))|refine fB ?_|apply q0p;exact rfl;exact rfl;all_goals intro u)
     all_goals exact⟨(k+1, -1),⟨by simp;omega,Yw,d⟩,by simp;omega,(eF),(eC)⟩
   ·rw[if_neg r] at d
    repeat'((try conv=>whnf);first|refine fH ?_|refine fI ?_|refine fD ?_|refine fF ?_|refine fG ?_|refine fJ ?_|refine fK ?_|apply gLd;refine q0l f e rfl ?_|(apply qF;first|refine ixE f e ?_ ?_;(first|rfl|omega))|refine fB ?_|apply q0p;exact rfl;exact rfl;all_goals intro u)
    all_goals exact⟨(k+1,b),⟨by simp;omega,by simp;omega,d⟩,by simp;omega,(eF),(eC)⟩
 ·have j:k=p.length:=Yu;subst j;rw[ZC,q1u] at d
  by_cases o:0<=b/\b<=t/\t<p.length
  ·rw[if_pos o] at d
   repeat'((try conv=>whnf);first|refine fH ?_|refine fF ?_|refine fG ?_|refine fJ ?_)
   all_goals(rw[<-d];exact⟨rfl,(eC)⟩)
  ·rw[if_neg o] at d
   repeat'((try conv=>whnf);first|refine fH ?_|refine fI ?_|refine fD ?_|refine fG ?_|apply q0p;exact rfl;exact rfl;all_goals intro u)
   all_goals(rw[<-d];exact⟨rfl,(eC)⟩)
theorem qdA(g:RdE Ins.enc 5 W0 own a p)(j:p.length<=1099511627776)(k t:Nat):
  jo W0 101 [.slice a p.length cap,j5 k,j5 t] own (.bool (q1j p k t)):=by
 refine qg (sH [] ?_);have b:=fun t=>qnI (cap:=cap) g j t
 unfold q1j
 by_cases d:p.length<t
 ·rw[if_pos d]
  repeat'((try conv=>whnf);first|refine fF ?_)
  all_goals exact⟨rfl,(eC)⟩
 ·rw[if_neg d]
  by_cases e:0<=(qgZ p k).1
  ·rw[if_pos e]
   repeat'((try conv=>whnf);first|refine fF ?_|refine fG ?_|apply qe;refine qd (b k) ?_|refine fO ?_)
   all_goals exact⟨rfl,(eC)⟩
  ·rw[if_neg e]
   by_cases f:(qgZ p t).1<0
   ·repeat'((try conv=>whnf);first|refine fI ?_|refine fG ?_|refine fJ ?_|(apply qe;first|refine qd (b k) ?_|refine qd (b t) ?_)|refine fO ?_)
    all_goals exact⟨q0a (vb (by symm;rw[decide_eq_true_eq];exact .inl f)),(eC)⟩
   ·repeat'((try conv=>whnf);first|refine fH ?_|refine fG ?_|refine fK ?_|(apply qe;first|refine qd (b k) ?_|refine qd (b t) ?_)|refine fO ?_)
    all_goals(refine⟨q0a (vb ?_),(eC)⟩;exact dd ⟨fun h=> .inr h,fun h=>h.elim (fun h=>absurd h f) id⟩)
theorem qdB(f:RdE Ins.enc 5 W0 own a p):
  jo W0 66 [.slice a p.length cap] own (.tuple #[j5 (q0F p).1,j5 (q0F p).2]):=by
 refine qg (sH [] ?_);unfold q0F
 by_cases C:64<p.length
 ·rw[if_pos C]
  repeat'((try conv=>whnf);first|refine fF ?_)
  all_goals first|exact⟨rfl,(eC)⟩|exfalso;omega
 ·rw[if_neg C];generalize E:qV (fun k _ x=>q1W p k x) p 0 (-1)=res
  repeat'((try conv=>whnf);first|refine fG ?_)
  refine q1o (σ:=Nat×Int) (fun s=> [(5,j5 s.1),(4,j5 s.2)]) (fun s=>s.1<=p.length/\(s.2= -1\/(0<=s.2/\s.2<s.1))/\qV (fun k _ x=>q1W p k x) (p.drop s.1) s.1 s.2=res) (fun s=>p.length-s.1) (0, -1) ⟨Yw,Yw,E⟩ (eF) rfl ?_;rintro⟨k,b⟩ junk ⟨Q,hb,d⟩;simp only[] at Q hb d
  by_cases J:k<p.length
  ·obtain⟨x,j⟩:∃x,p[k]? =some x:=⟨_,z6 J⟩
   rw[q0A j,qV] at d;have n:=fun own=>q6k W0 own x
   have y:=fun own=>qgI W0 own x
   have v:=fun own=>qgJ W0 own x
   have K:=fun(t:Nat) (own':Own) (h:Ent W0 own' own)=>qdA (cap:=cap) (f.ent h) Yu k t
   have e:q0w x k b= -1\/(0<=q0w x k b/\q0w x k b<(k+1:Nat)):=by unfold q0w;(repeat' split) <;>omega
   have M:=fun h=>q3e (x:=x) h
   have L:q18 x=true->q6I x=x.imm:=fun h=>by unfold q6I;rw[h];rfl
   unfold q9a q1W at d;generalize qJ x=z at*;generalize q1x x=q at*
   by_cases G:z=0
   ·subst G;simp only[ne_eq,not_true_eq_false,if_false] at d
    by_cases A:(x.op=7/\0<=b)\/(x.op=8/\b<0)
    ·rw[if_pos A] at d
     repeat'((try conv=>whnf);first|refine fH ?_|refine fI ?_|refine fE ?_|refine fD ?_|refine fF ?_|refine fJ ?_|(apply qF;first|refine ixE f j ?_ ?_;(first|rfl|omega))|apply q24;refine q0C f j rfl ?_|apply qe;refine qd (n _) ?_|refine fA ?_|refine fL ?_|refine fM ?_|refine qf fun u o=>?_|apply q0p;exact rfl;exact rfl;all_goals intro n)
     all_goals(rw[<-d];exact⟨rfl,(eC)⟩)
    ·rw[if_neg A] at d
     by_cases B:(q=1/\b<0)\/(q=2/\0<=b)
     ·rw[if_pos B] at d
      repeat'((try conv=>whnf);first|refine fH ?_|refine fI ?_|refine fE ?_|refine fD ?_|refine fF ?_|refine fG ?_|refine fJ ?_|refine fK ?_|(apply qF;first|refine ixE f j ?_ ?_;(first|rfl|omega))|apply q24;refine q0C f j rfl ?_|(apply qe;first|refine qd (n _) ?_|refine qd (y _) ?_)|refine fA ?_|refine fL ?_|refine fM ?_|refine qf fun u o=>?_|apply q0p;exact rfl;exact rfl;all_goals intro n)
      all_goals(rw[<-d];exact⟨rfl,(eC)⟩)
     ·rw[if_neg B] at d;cases r:q18 x
      ·rw[r] at v d;simp only[zL,if_false,not_true_eq_false] at d;unfold q0w at d e
       by_cases D:x.op=7
       ·rw[if_pos D] at d e
        repeat'((try conv=>whnf);first|refine fH ?_|refine fI ?_|refine fD ?_|refine fF ?_|refine fG ?_|refine fJ ?_|refine fK ?_|(apply qF;first|refine ixE f j ?_ ?_;(first|rfl|omega))|apply q24;refine q0C f j rfl ?_|(apply qe;first|refine qd (n _) ?_|refine qd (y _) ?_|refine qd (v _) ?_)|refine fB ?_|refine fO ?_|refine fA ?_|refine fL ?_|refine fM ?_|refine qf fun u o=>?_|apply q0p;exact rfl;exact rfl;all_goals intro n)
        all_goals exact⟨(k+1,(k:Int)),⟨by simp;omega,e,d⟩,by simp;omega,(eF),(eC)⟩
       ·by_cases F:x.op=8
        ·rw[if_neg D,if_pos F] at d e
         repeat'((try conv=>whnf);first|refine fH ?_|refine fI ?_|refine fD ?_|refine fF ?_|refine fG ?_|refine fJ ?_|refine fK ?_|(apply qF;first|refine ixE f j ?_ ?_;(first|rfl|omega))|apply q24;refine q0C f j rfl ?_|(apply qe;first|refine qd (n _) ?_|refine qd (y _) ?_|refine qd (v _) ?_)|refine fB ?_|refine fO ?_|refine fA ?_|refine fL ?_|refine fM ?_|refine qf fun u o=>?_|apply q0p;exact rfl;exact rfl;all_goals intro n)
         all_goals exact⟨(k+1, -1),⟨by simp;omega,e,d⟩,by simp;omega,(eF),(eC)⟩
        ·rw[if_neg D,if_neg F] at d e
         repeat'((try conv=>whnf);first|refine fH ?_|refine fI ?_|refine fD ?_|refine fF ?_|refine fG ?_|refine fK ?_|(apply qF;first|refine ixE f j ?_ ?_;(first|rfl|omega))|apply q24;refine q0C f j rfl ?_|(apply qe;first|refine qd (n _) ?_|refine qd (y _) ?_|refine qd (v _) ?_)|refine fB ?_|refine fO ?_|refine fA ?_|refine fL ?_|refine fM ?_|refine qf fun u o=>?_|apply q0p;exact rfl;exact rfl;all_goals intro n)
         all_goals exact⟨(k+1,b),⟨by simp;omega,e,d⟩,by simp;omega,(eF),(eC)⟩
      ·obtain⟨hop,hi0,hi1⟩:=M r;rw[r,L r] at v;rw[r] at d;simp only[if_true] at d;obtain⟨t,R⟩:∃t:Nat,(t:Int)=k+1+x.imm:=⟨k+1+x.imm.toNat,Yu⟩
       have N:k+1+x.imm.toNat=t:=Yu;rw[N] at d;have g:=K t;rw[R] at g;have D:¬x.op=7:=Yu;have F:¬x.op=8:=Yu;cases O:q1j p k t
       ·rw[O] at d g;simp only[zL,if_false,Int.reduceEq,not_false_eq_true,if_true] at d
        repeat'((try conv=>whnf);first|refine fH ?_|refine fI ?_|refine fE ?_|refine fD ?_|refine fF ?_|refine fG ?_|refine fK ?_|(apply qF;first|refine ixE f j ?_ ?_;(first|rfl|omega))|apply q24;refine q0C f j rfl ?_|(apply qe;first|refine qd (n _) ?_|refine qd (y _) ?_|refine qd (v _) ?_|refine qd (g _ qm7) ?_)|refine fB ?_|refine fO ?_|refine fA ?_|refine fL ?_|refine fM ?_|refine qf fun u o=>?_|apply q0p;exact rfl;exact rfl;all_goals intro n)
        all_goals(rw[<-d];exact⟨rfl,(eC)⟩)
       ·rw[O] at d g;simp only[if_true,not_true_eq_false,if_false] at d;unfold q0w at d e;rw[if_neg D,if_neg F] at d e
        repeat'((try conv=>whnf);first|refine fH ?_|refine fI ?_|refine fD ?_|refine fF ?_|refine fG ?_|refine fK ?_|(apply qF;first|refine ixE f j ?_ ?_;(first|rfl|omega))|apply q24;refine q0C f j rfl ?_|(apply qe;first|refine qd (n _) ?_|refine qd (y _) ?_|refine qd (v _) ?_|refine qd (g _ qm7) ?_)|refine fB ?_|refine fO ?_|refine fA ?_|refine fL ?_|refine fM ?_|refine qf fun u o=>?_|apply q0p;exact rfl;exact rfl;all_goals intro n)
        all_goals exact⟨(k+1,b),⟨by simp;omega,e,d⟩,by simp;omega,(eF),(eC)⟩
   ·rw[if_pos (by rw[if_pos G];exact G),if_pos G] at d
    repeat'((try conv=>whnf);first|refine fF ?_|(apply qF;first|refine ixE f j ?_ ?_;(first|rfl|omega))|apply q24;refine q0C f j rfl ?_|apply qe;refine qd (n _) ?_|refine fL ?_|refine fM ?_|refine qf fun u o=>?_)
    all_goals(rw[<-d];exact⟨rfl,(eC)⟩)
  ·have I:k=p.length:=Yu;subst I;rw[ZC,qV] at d;rw[<-d]
   repeat'((try conv=>whnf);first|refine fG ?_|apply q8M;exact rfl;all_goals intro n)
   all_goals(refine⟨qhA (vi ?_) (vi ?_),(eC)⟩ <;>split <;>first|rfl|exfalso;omega)
end
open Go Go.RowKit
inductive qhq (K:Value->Prop):jf->Prop
 |nil:qhq K []
 |cons {x:Value} {l:jf} (h:K x) (hl:qhq K l):qhq K (x::l)
theorem qhq.mem{K:Value->Prop}{l:jf}(h:qhq K l):∀v∈l,K v:=by
 induction h with
 |nil=>intro v b;cases b
 |cons h _ d=>
  intro v b
  rcases zN.1 b with rfl|b
  ·exact h
  ·exact d v b
theorem qkC{W0:World}{own:Own}{b off:Nat}{cs:jh}{T:TypeId}{fz:Nat×Nat}{K:Value->Prop}(hm:(b,j8 cs T fz)∈own)(d:off<cs.toList.length)(h:qhq K cs.toList):
  Ld W0 own ⟨b,off,none⟩ K:=qS cs.toList[off] hm (z6 d) (h.mem _ (ZO d))
def mkP(op:Int)(x:Ins):Prop:=x.op=op/\qJ x=0/\(op=4\/op=5\/op=6->x.imm=0)/\0<=x.imm/\x.imm<=64
theorem qn6{op a b c imm:Int}(h:0<=op/\op<18)(d:q1t (qhB op) a)(hb:q1t (qlc op) b)(e:q1t (qld op) c)(f:q4u op imm):qJ ⟨op,a,b,c,imm⟩=0:=by
 unfold qJ;rw[if_neg (by simp only;omega),if_pos ⟨d,hb,e⟩,if_pos f]
theorem qqt(W0:World)(own:Own)(op n:Int)(h:0<=op/\op<18)(hn:0<=n/\n<=18446744073709551615):
  jn W0 65 [j5 op,j6 n] own fun v own'=>∃x:Ins,v=x.v/\mkP op x/\Ent W0 own' own:=by
 refine sH [] ?_
 repeat'((try conv=>whnf);first|refine fF ?_|refine qiN ?_ ?_;omega|apply qkC;exact eN;simp;omega|exact qhq.nil|refine qhq.cons ?_ ?_|refine fB ?_|refine qmE ?_ ?_;omega|refine fL ?_|refine fM ?_|refine qf fun bk hbk=>?_|apply q8M;exact rfl;all_goals intro hc|refine q3Z ?_ ?_;omega)
 all_goals refine⟨⟨_,_,_,_,_⟩,rfl,?_,(eC)⟩
 all_goals(try subst op)
 all_goals refine⟨rfl,?_,fun h=>?_,?_,?_⟩
 all_goals first
  |(dsimp only;omega)
  |rfl
  |(exfalso;omega)
  |(refine qn6 h ?_ ?_ ?_ ?_ <;>simp[q1t,qhB,qlc,qld,q4u] <;>omega)
  |exact rest_ok Yu
def qiS:List Ins->Nat->Int->Option Int
 | [],_,b=>some b
 |x::l,k,b=>if q9a 0 b x=0 then qiS l (k+1) (q0w x k b) else none
theorem q9f(x:Ins):∀(l:List Ins) (k:Nat) (b:Int),qiS (l++ [x]) k b=(qiS l k b).bind fun d=>if q9a 0 d x=0 then some (q0w x (k+l.length) d) else none
 | [],k,b=>by simp[qiS]
 |y::l,k,b=>by
  simp only[zp,qiS,zm]
  split
  ·rw[q9f x l,yu,yU 1]
  ·rfl
theorem q8Q(p:List Ins)(r:∀x∈p,q18 x=true->x.imm=0){g:Int}(f:g<0):∀(n k:Nat) (b:Int),n+k=p.length->qb4 p k b->qiS (p.drop k) k b=some g->qV (q0o p) (p.drop k) k b=(0,0)
 |0,k,b,u,_,d=>by
  have:p.drop k= []:=List.drop_eq_nil_iff.2 Yu;rw[this,qiS,Option.some.injEq] at d;rw[this,qV,if_neg Yu]
 |n+1,k,b,u,h,d=>by
  obtain⟨x,e⟩:∃x,p[k]? =some x:=⟨_,z6 Yu⟩
  rw[q0A e,qiS] at d
  split at d
  ·rename_i j;have o:=q8f j;have v:q0o p k b x=0:=by
    unfold q0o
    split
    ·rename_i q;have s:=r x (zg e) q;have h8:=q3e q;rw[s,if_neg Yu]
     split
     ·rename_i hb
      rcases h.bb with hb1|⟨_,_,he⟩
      ·omega
      ·have:=q3A (p.drop (k+1)) (k+1);rw[he,q0A e,q1S]
       (repeat' split) <;>omega
     ·rw[q5f _ _ _ _ Yw];rfl
    ·rfl
   rw[q0A e,qV,v,if_neg (by simpa using j)];exact q8Q p r f n (k+1) _ Yu (h.step e o.1 o.2.1) d
  ·cases d
structure Mk(p:List Ins)(b:Int):Prop where
 run:qiS p 0 (-1)=some b
 zer:∀x∈p,q18 x=true->x.imm=0
theorem Mk.nil:Mk [] (-1):=⟨rfl,fun _ h=>by cases h⟩
theorem Mk.snoc{p:List Ins}{b:Int}{x:Ins}(h:Mk p b)(g:q9a 0 b x=0)(f:q18 x=true->x.imm=0):Mk (p++ [x]) (q0w x p.length b):=by
 refine⟨by rw[q9f,h.run];simp[g],fun y d e=>?_⟩
 rcases zy.1 d with d|d
 ·exact h.zer y d e
 ·obtain rfl:=zf.1 d;exact f e
theorem Mk.ok{p:List Ins}{b:Int}(h:Mk p b)(hb:b<0)(hl:p.length<=64):q0F p=(0,0):=by
 rw[<-qbi];unfold qw;rw[if_neg Yu];exact q8Q p h.zer hb p.length 0 (-1) Yu (qb4.start p) h.run
def qmo(o:Bool)(op:Int):Prop:=
 (1<=op/\op<=6)\/(o=false/\(op=7\/op=12\/op=13\/op=16\/op=17))\/(o=true/\(op=8\/op=9\/op=10\/op=11\/op=14\/op=15))
theorem qbz{o:Bool}{b:Int}{x:Ins}(g:qmo o x.op)(f:qJ x=0)(hb:o=decide (0<=b)):q9a 0 b x=0:=by
 unfold q9a;have j:q1x x=if x.op=8\/x.op=9\/x.op=10\/x.op=11\/x.op=14\/x.op=15 then 1 else if x.op=7\/x.op=12\/x.op=13\/x.op=16\/x.op=17 then 2 else 0:=by unfold q1x;rw[if_pos f]
 rw[if_neg Yu,j]
 rcases g with h|⟨d,h⟩|⟨d,h⟩
 ·(repeat' split) <;>omega
 ·subst d;have e:¬0<=b:=of_decide_eq_false hb.symm
  (repeat' split) <;>omega
 ·subst d;have e:0<=b:=of_decide_eq_true hb.symm
  (repeat' split) <;>omega
theorem arx{e:Int}{K:Int->Prop}(h:∀m,0<=m/\m<=18446744073709551615->K m):q5r .u64 e K:=by
 refine⟨h _ ?_⟩;have:IntKind.u64.wrap e=e % 18446744073709551616:=by
  simp[IntKind.wrap,IntKind.signed,IntKind.bits]
 rw[this];omega
theorem qlB{α:Type}{en:α->Value}{Φ:α->Prop}{P:Program}{W0:World}{own:Own}{k:FuncId}{args:jf}{K:Value->Own->Prop}(h:qq P W0 k args own fun v own'=>∃x,v=en x/\Φ x/\Ent W0 own' own)(d:∀x,Φ x->K (en x) own):q0k P W0 own k args K:=
 ⟨fun w hw=>(h w hw).mono fun _ _ ⟨_,_,he,e,x,f,g,b⟩=>⟨_,own,by rw[he,f],b _ e,d x g⟩⟩
abbrev qrf(n:Nat):jf:= [j5 n]
structure PS where
 i:Nat
 o:Bool
 b:Int
 p:List Ins
 a:j9
 cap:Nat
 D:Own
 js:jj
 a2:j9
 cap2:Nat
 D2:Own
abbrev qiP(heap:Bool)(x:Ins):Prop:=(0<=x.imm/\x.imm<=64)/\(x.op=14\/x.op=15->heap=true)
structure PI(heap:Bool)(n:Nat)(most:Int)(s:PS):Prop where
 le:s.i<=n
 ob:s.o=decide (0<=s.b)
 mkd:Mk s.p s.b
 bp:qo Ins.enc 64 5 s.a s.cap s.p s.D
 bj:qo qrf 3 1 s.a2 s.cap2 s.js s.D2
 lp:s.p.length+1<=most
 lj:s.js.length<=s.p.length
 asc:s.js.Pairwise (· < ·)
 zer:∀j∈s.js,∃x,s.p[j]? =some x/\x.imm=0
 rng:∀x∈s.p,qiP heap x
theorem qiq{y:Ins}(h:qJ y=0)(d:y.op=5\/y.op=6){m:Int}(hm:0<=m/\m<8):qJ ⟨y.op,m,y.b,y.c,y.imm⟩=0:=by
 unfold qJ at*;rw[if_neg Yu] at h;rw[if_neg (by simp only;omega)]
 split at h
 ·rename_i f;have b:q1t (qhB y.op) m:=by rcases d with e|e <;>rw[e] <;>simpa [q1t,qhB] using hm
  rw[if_pos ⟨b,f.2⟩];exact h
 ·cases h
theorem PI.next{heap:Bool}{n:Nat}{b:Int}{s:PS}(h:PI heap n b s)(hi:s.i<n)(hl:(s.p.length:Int)+1<b){y:Ins}(g:qmo s.o y.op)(f:qJ y=0)(v:y.op=4\/y.op=5\/y.op=6->y.imm=0)(r:qiP heap y)
  {a:j9} {cap:Nat} {D:Own} (hb:qo Ins.enc 64 5 a cap (s.p++ [y]) D) {o:Bool} (q:o=if y.op=7 then true else if y.op=8 then false else s.o):
  PI heap n b ⟨s.i+1,o,q0w y s.p.length s.b,s.p++ [y],a,cap,D,s.js,s.a2,s.cap2,s.D2⟩:=by
 refine⟨by simp only;omega,?_,h.mkd.snoc (qbz g f h.ob) (fun u=>v (q3e u).1),hb,h.bj,by simp;omega,?_,h.asc,fun j k=>?_,fun x d=>by
  rcases zy.1 d with d|d
  ·exact h.rng x d
  ·rw[zf.1 d];exact r⟩
 ·simp only;rw[q];unfold q0w
  split
  ·exact(decide_eq_true Yu).symm
  ·split
   ·exact(decide_eq_false Yu).symm
   ·exact h.ob
 ·have:=h.lj;simp;omega
 ·obtain⟨x,d,e⟩:=h.zer j k;exact⟨x,by rw[zG (z7.1 d).1];exact d,e⟩
theorem PI.jump{heap:Bool}{n:Nat}{b:Int}{s:PS}(h:PI heap n b s)(A:s.i<n)(C:(s.p.length:Int)+1<b){y:Ins}(z:qmo s.o y.op)(v:qJ y=0)(d:y.op=4\/y.op=5\/y.op=6)(r:y.imm=0)
  {a:j9} {cap:Nat} {D:Own} (hb:qo Ins.enc 64 5 a cap (s.p++ [y]) D) {a2:j9} {e:Nat} {u:Own} (g:qo qrf 3 1 a2 e (s.js++ [s.p.length]) u):
  PI heap n b ⟨s.i+1,s.o,s.b,s.p++ [y],a,cap,D,s.js++ [s.p.length],a2,e,u⟩:=by
 have f:=h.next A C z v (fun _=>r) ⟨by rw[r];exact⟨Yv,Yv⟩,fun h=>by omega⟩ hb (o:=s.o) (by rw[if_neg Yu,if_neg Yu]);have E:q0w y s.p.length s.b=s.b:=by unfold q0w;rw[if_neg Yu,if_neg Yu]
 have q:∀j∈s.js,j<s.p.length:=fun j d=>by
  obtain⟨x,F,_⟩:=h.zer j d;exact(z7.1 F).1
 refine⟨f.le,h.ob,by have:=f.mkd;simp only[E] at this;exact this,hb,g,f.lp,?_,?_,fun j d=>?_,f.rng⟩
 ·have:=h.lj;simp;omega
 ·rw[yE];exact⟨h.asc,yl _ _,fun j d k B=>by rw[zf.1 B];exact q j d⟩
 ·rcases zy.1 d with d|d
  ·exact f.zer j d
  ·rw[zf.1 d];exact⟨y,Yw,r⟩
theorem PI.commit{heap:Bool}{n:Nat}{b:Int}{s:PS}(h:PI heap n b s)(g:s.o=true):Mk (s.p++ [⟨8,0,0,0,0⟩]) (q0w ⟨8,0,0,0,0⟩ s.p.length s.b)/\q0w ⟨8,0,0,0,0⟩ s.p.length s.b<0/\∀j∈s.js,∃x,(s.p++ [⟨8,0,0,0,0⟩])[j]? =some x/\x.imm=0:=by
 refine⟨h.mkd.snoc (qbz (o:=s.o) (by rw[g];simp[qmo]) rfl h.ob) (fun _=>rfl),by simp[q0w],fun j f=>?_⟩;obtain⟨x,d,e⟩:=h.zer j f;exact⟨x,by rw[zG (z7.1 d).1];exact d,e⟩
theorem qpL{α:Type}{enc:α->jf}{sz:Nat}{W0:World}{own:Own}{a:j9}{l:List α}{i:Int}{n:Nat}{K:Addr->Prop}{j:Nat}{x:α}(h:RdE enc sz W0 own a l)(f:l[j]? =some x)(e:n=l.length)(b:i=j)(d:K ⟨ab a,ao a+j*sz,none⟩):IxS a sz i n K:=by
 subst e;exact ixE h f b d
theorem qiX{l:List Ins}{j:Nat}{x y:Ins}(d:l[j]? =some x)(b:x.imm=0):(l.set j y).set j ⟨x.op,x.a,x.b,x.c,0⟩=l:=by
 obtain⟨hj,he⟩:=z7.1 d;rw[yc];have:(⟨x.op,x.a,x.b,x.c,0⟩:Ins)=l[j]:=by rw[he,<-b]
 rw[this,yw]
theorem qoM{l:jj}(h:l.Pairwise (· < ·)){a b i j:Nat}(g:l[a]? =some i)(k:l[b]? =some j)(d:a<b):i≠j:=by
 obtain⟨e,e1⟩:=z7.1 g;obtain⟨f,e2⟩:=z7.1 k;have:=(Zr.1 h) a b e f d;omega
theorem q5x(d:Nat->Int->Ins->Int):∀(l:List Ins) (k:Nat) (b:Int),(qV d l k b).2=0->qV d l k b=(0,0)
 | [],k,b,h=>by
  unfold qV at*
  split at h
  ·cases h
  ·rename_i hb;rw[if_neg hb]
 |x::l,k,b,h=>by
  unfold qV at*
  split at h
  ·rename_i e;exact absurd h e
  ·rename_i e;rw[if_neg e];exact q5x d l (k+1) _ h
theorem qa6{p:List Ins}(h:(q0F p).2=0):q0F p=(0,0):=by
 unfold q0F at*
 split at h
 ·cases h
 ·rename_i b;rw[if_neg b];exact q5x _ _ _ _ h
section
variable{W0:World}{own:Own}{la:j9}{lc:Nat}{l:je}
theorem q7r(b:Int)(heap plain:Bool)(hL:RdE (fun n=> [j5 n]) 1 W0 own la l)(hl:l.length<=1000000)(hm:1<=b/\b<=64):
  jn W0 36 [.slice la l.length lc,j5 b, .bool heap, .bool plain] own fun v own'=>
   ∃a cap D p,v= .slice a (List.length p) cap/\qo Ins.enc 64 5 a cap p D/\Ent W0 own' (D++own)/\q0F p=(0,0)/\(p.length:Int)<=b/\∀x∈p,qiP heap x:=by
 refine sC [17,744,804,948] [] ?_
 (try conv=>whnf)
 refine qK (σ:=PS) (fun s=> [(9, .slice s.a s.p.length s.cap),(10, .bool s.o),(11, .slice s.a2 s.js.length s.cap2),(12,j5 s.i)]) (fun s=>s.D++(s.D2++own)) (PI heap l.length b) (fun s=>l.length-s.i) ⟨0,false, -1,[],none,0,[],[],none,0,[]⟩
  ⟨Yw,rfl,Mk.nil,qo.nil,qo.nil,by simp;omega,Yw,List.Pairwise.nil,fun _ h=>(by cases h),fun _ h=>(by cases h)⟩ (eF) Ent.refl rfl ?_
 ·rintro s junk z;have ae:=z;obtain⟨hi,az,ay,g,I,hlp,aG,O,S,R⟩:=ae
  by_cases e:s.i<l.length/\(s.p.length:Int)+1<b
  ·obtain⟨x,u⟩:∃x,l[s.i]? =some x:=⟨_,z6 e.1⟩
   have hh1:(s.i:Int)<l.length:=Yu;have hh2:(s.p.length:Int)<b-1:=Yu
   repeat'((try conv=>whnf);first|refine q0i ?_ ?_;exact rfl|apply q2A;exact rfl;omega|apply q1l;exact rfl;omega|refine arx fun m hm=>?_|refine qiN ?_ ?_;omega|apply gLd;refine q0l hL u rfl ?_|(apply qF;first|refine ixE hL u ?_ ?_;(first|rfl|omega))|refine ari ?_ ?_;omega|refine q3Z ?_ ?_;omega)
   refine q3S (σ:=Int×Int) 2658455991569831745807605324467707904 (fun r=> [(13,j6 r.2),(15,j5 r.1)]) (fun _=>s.D++(s.D2++own)) (fun r=>(0<=r.2/\r.2<=18446744073709551615)/\qmo s.o r.1/\(r.1=14\/r.1=15->heap=true)) rfl ?_ ?_
   ·clear g I O S ay aG hi;obtain⟨o,ho⟩:∃o,s.o=o:=⟨_,rfl⟩
    rw[ho];cases o <;>cases heap <;>cases plain
    all_goals as_aux_lemma=>
     repeat'((try conv=>whnf);first|refine q0i ?_ ?_;exact rfl|refine fI ?_|refine q3k ?_ ?_;exact rfl|refine fD ?_|apply q2A;exact rfl;omega|apply q25;exact rfl;omega|apply q1l;exact rfl;omega|apply q1E;exact rfl;omega|refine qiN ?_ ?_;omega|apply qkC;exact eN;simp;omega|exact qhq.nil|refine qhq.cons ?_ ?_|refine qmE ?_ ?_;omega|refine qf fun Z A=>?_|apply q0p;exact rfl;exact rfl;all_goals intro hc|apply q8M;exact rfl;all_goals intro hc|refine q3Z ?_ ?_;omega)
     all_goals refine⟨(_,_),⟨?_,?_,?_⟩,(eF),(eC)⟩
     all_goals first|simp only[];omega|simp[qmo]
   ·rintro⟨op,m2⟩ junk2 ⟨ax,V,K⟩;simp only at ax V K;have aC:0<=op/\op<18:=by unfold qmo at V;omega
    have aq:=fun ex=>qqt W0 ex op m2 aC ax
    as_aux_lemma=>
     refine qlB (aq _) fun y hy=>?_;obtain⟨aM,F,G,Y⟩:=hy;subst aM;have aE:(y.op=5\/y.op=6)\/y.op=4\/(y.op≠4/\y.op≠5/\y.op≠6):=Yu
     rcases aE with h6|h6|h6
     ·rcases h6 with h6|h6
      all_goals
       repeat'((try conv=>whnf);first|refine q0i ?_ ?_;exact rfl|refine fI ?_|refine q3k ?_ ?_;exact rfl|apply q2A;exact rfl;omega|apply q25;exact rfl;omega|apply q1l;exact rfl;omega|apply q1E;exact rfl;omega|refine q4p (enc:=qrf) s.p.length I (by(repeat(first|exact At.head|apply At.tail|apply At.skip))) (eN) rfl rfl Yu rfl rfl Yu fun a1 c1 D1 f=>?_|refine q4p (enc:=Ins.enc) ⟨y.op,m2 % 4,y.b,y.c,y.imm⟩ g (by(repeat(first|exact At.head|apply At.tail|apply At.skip))) (eN) rfl rfl Yu rfl rfl Yu fun a3 C B d=>?_|refine ari ?_ ?_;omega|refine fL ?_|refine fN ?_|refine fM ?_|refine qf fun Z A=>?_|refine q3Z ?_ ?_;omega|refine qey ?_)
      all_goals refine⟨⟨s.i+1,s.o,s.b,s.p++ [⟨y.op,m2 % 4,y.b,y.c,y.imm⟩],a3,C,B,s.js++ [s.p.length],a1,c1,D1⟩,z.jump (y:=⟨y.op,m2 % 4,y.b,y.c,y.imm⟩) e.1 e.2 V (qiq (y:=y) F Yu Yu) (by first|omega|simp only;omega) (G Yu) d f,by simp only;omega,?_,(eC)⟩
      all_goals(simp only[z8,zm,zE,zA];exact(eF))
     ·repeat'((try conv=>whnf);first|refine q0i ?_ ?_;exact rfl|apply q2A;exact rfl;omega|apply q25;exact rfl;omega|apply q1E;exact rfl;omega|refine q4p (enc:=qrf) s.p.length I (by(repeat(first|exact At.head|apply At.tail|apply At.skip))) (eN) rfl rfl Yu rfl rfl Yu fun a1 c1 D1 f=>?_|refine q4p (enc:=Ins.enc) y g (by(repeat(first|exact At.head|apply At.tail|apply At.skip))) (eN) rfl rfl Yu rfl rfl Yu fun a3 C B d=>?_|refine ari ?_ ?_;omega|refine fL ?_|refine fM ?_|refine qf fun Z A=>?_|refine qey ?_)
      refine⟨⟨s.i+1,s.o,s.b,s.p++ [y],a3,C,B,s.js++ [s.p.length],a1,c1,D1⟩,z.jump e.1 e.2 V F Yu (G Yu) d f,by simp only;omega,?_,(eC)⟩
      (simp only[z8,zm,zE,zA];exact(eF))
     ·have N:y.op=7\/y.op=8\/(y.op≠7/\y.op≠8):=Yu
      rcases N with N|N|N
      ·repeat'((try conv=>whnf);first|refine q0i ?_ ?_;exact rfl|apply q2A;exact rfl;omega|apply q25;exact rfl;omega|apply q1E;exact rfl;omega|refine q4p (enc:=Ins.enc) y g (by(repeat(first|exact At.head|apply At.tail|apply At.skip))) (eN) rfl rfl Yu rfl rfl Yu fun a3 C B d=>?_|refine ari ?_ ?_;omega|refine fL ?_|refine fM ?_|refine qf fun Z A=>?_|refine qey ?_)
       refine⟨⟨s.i+1,true,q0w y s.p.length s.b,s.p++ [y],a3,C,B,s.js,s.a2,s.cap2,s.D2⟩,z.next e.1 e.2 V F G ⟨Y,K⟩ d (by rw[if_pos N]),by simp only;omega,?_,(eC)⟩
       (simp only[z8,zm,zE,zA];exact(eF))
      ·repeat'((try conv=>whnf);first|refine q0i ?_ ?_;exact rfl|apply q2A;exact rfl;omega|apply q25;exact rfl;omega|apply q1E;exact rfl;omega|refine q4p (enc:=Ins.enc) y g (by(repeat(first|exact At.head|apply At.tail|apply At.skip))) (eN) rfl rfl Yu rfl rfl Yu fun a3 C B d=>?_|refine ari ?_ ?_;omega|refine fL ?_|refine fM ?_|refine qf fun Z A=>?_|refine qey ?_)
       refine⟨⟨s.i+1,false,q0w y s.p.length s.b,s.p++ [y],a3,C,B,s.js,s.a2,s.cap2,s.D2⟩,z.next e.1 e.2 V F G ⟨Y,K⟩ d (by rw[if_neg Yu,if_pos N]),by simp only;omega,?_,(eC)⟩
       (simp only[z8,zm,zE,zA];exact(eF))
      ·repeat'((try conv=>whnf);first|refine q0i ?_ ?_;exact rfl|apply q25;exact rfl;omega|apply q1E;exact rfl;omega|refine q4p (enc:=Ins.enc) y g (by(repeat(first|exact At.head|apply At.tail|apply At.skip))) (eN) rfl rfl Yu rfl rfl Yu fun a3 C B d=>?_|refine ari ?_ ?_;omega|refine fL ?_|refine fM ?_|refine qf fun Z A=>?_|refine qey ?_)
       refine⟨⟨s.i+1,s.o,q0w y s.p.length s.b,s.p++ [y],a3,C,B,s.js,s.a2,s.cap2,s.D2⟩,z.next e.1 e.2 V F G ⟨Y,K⟩ d (by rw[if_neg N.1,if_neg N.2]),by simp only;omega,?_,(eC)⟩
       (simp only[z8,zm,zE,zA];exact(eF))
  ·have E:¬(s.i:Int)<l.length\/((s.i:Int)<l.length/\¬(s.p.length:Int)<b-1):=Yu
   rcases E with E|⟨aB,E⟩
   all_goals
    repeat'((try conv=>whnf);first|refine q0i ?_ ?_;exact rfl|refine fI ?_|refine fD ?_|apply q25;exact rfl;omega|apply q1l;exact rfl;omega|apply q1E;exact rfl;omega|refine ari ?_ ?_;omega)
    refine q3S (σ:=List Ins×j9×Nat×Own) 11326637689314497616078557453551193402333477208576 (fun q=> [(9, .slice q.2.1 q.1.length q.2.2.1)]) (fun q=>q.2.2.2++(s.D2++own)) (fun q=>qo Ins.enc 64 5 q.2.1 q.2.2.1 q.1 q.2.2.2/\q0F q.1=(0,0)/\(q.1.length:Int)<=b/\(∀j∈s.js,∃x,q.1[j]? =some x/\x.imm=0)/\∀x∈q.1,qiP heap x) rfl ?_ ?_
    ·repeat'((try conv=>whnf);first|refine qsR (fun hs=>?_) fun hs=>?_|refine q4p (enc:=Ins.enc) ⟨8,0,0,0,0⟩ g (by(repeat(first|exact At.head|apply At.tail|apply At.skip))) (eN) rfl rfl Yu rfl rfl Yu fun a3 C B d=>?_|refine qf fun Z A=>?_)
     ·have U:=z.commit hs;refine⟨(s.p++ [⟨8,0,0,0,0⟩],a3,C,B),⟨d,U.1.ok U.2.1 (by simp;omega),by simp;omega,U.2.2,fun x u=>by
       rcases zy.1 u with u|u
       ·exact R x u
       ·rw[zf.1 u];exact⟨⟨Yv,Yv⟩,fun h=>by simp at h⟩⟩,?_,(eC)⟩
      (simp only[z8,zm,zE,zA];exact(eF))
     ·rw[hs] at az;exact⟨(s.p,s.a,s.cap,s.D),⟨g,ay.ok (by simpa using az.symm) Yu,by simp only;omega,S,R⟩,(eF),(eC)⟩
    ·rintro q junk3 ⟨aI,aJ,hq3,aK,aL⟩
     (try conv=>whnf)
     refine qK (σ:=Nat×List Ins×Own) (fun r=> [(17,j5 r.1)]) (fun r=>r.2.2++(s.D2++own)) (fun r=>(r.1<=s.js.length/\r.2.1.length=q.1.length)/\qo Ins.enc 64 5 q.2.1 q.2.2.1 r.2.1 r.2.2/\q0F r.2.1=(0,0)/\(∀m j,r.1<=m->s.js[m]? =some j->∃x,r.2.1[j]? =some x/\x.imm=0)/\∀x∈r.2.1,qiP heap x)
      (fun r=>s.js.length-r.1) (0,q.1,q.2.2.2) ⟨⟨Yw,rfl⟩,aI,aJ,fun m j _ Q=>aK j (zg Q),aL⟩ (eF) Ent.refl rfl ?_
     rintro r junk4 ⟨⟨hr1,W⟩,L,aA,X,M⟩
     by_cases aw:r.1<s.js.length
     ·obtain⟨j,Q⟩:∃j,s.js[r.1]? =some j:=⟨_,z6 aw⟩
      obtain⟨x,u,aB⟩:=X r.1 j (zq _) Q;have hJ:=I.rd (W0:=W0);have hP:=L.rd (W0:=W0);have hh:(r.1:Int)<s.js.length:=Yu;have aF:j<r.2.1.length:=(z7.1 u).1;have E:(r.2.1.set j ⟨x.op,x.a,x.b,x.c,1⟩)[j]? =some ⟨x.op,x.a,x.b,x.c,1⟩:=Z0 aF;have au:(r.2.1.set j ⟨x.op,x.a,x.b,x.c,1⟩).length=q.1.length:=by rw[zn,W]
      have T:(r.2.1.set j ⟨x.op,x.a,x.b,x.c,1⟩).set j ⟨x.op,x.a,x.b,x.c,0⟩=r.2.1:=qiX u aB;have aj:∀D1,qo Ins.enc 64 5 q.2.1 q.2.2.1 (r.2.1.set j ⟨x.op,x.a,x.b,x.c,1⟩) D1->∀own',Ent W0 own' D1->jo W0 66 [.slice q.2.1 q.1.length q.2.2.1] own' (.tuple #[j5 (q0F (r.2.1.set j ⟨x.op,x.a,x.b,x.c,1⟩)).1,j5 (q0F (r.2.1.set j ⟨x.op,x.a,x.b,x.c,1⟩)).2]):=fun D1 h own' he=>by
       have:=qdB (cap:=q.2.2.1) ((h.rd (W0:=W0)).ent he)
       rwa[au] at this
      have aH:∀m j',r.1+1<=m->s.js[m]? =some j'->∃x',(r.2.1.set j ⟨x.op,x.a,x.b,x.c,1⟩)[j']? =some x'/\x'.imm=0:=fun m j' hm J=>by
       obtain⟨x',h1,h2⟩:=X m j' Yu J;exact⟨x',by rw[Zz (qoM O Q J Yu)];exact h1,h2⟩
      by_cases he:(q0F (r.2.1.set j ⟨x.op,x.a,x.b,x.c,1⟩)).2=0
      ·have hz:=qa6 he
       repeat'((try conv=>whnf);first|apply q2A;exact rfl;omega|apply q25;exact rfl;omega|refine qpL (hP.ent (eB)) u Yu rfl ?_|refine stE (k:=4) ⟨x.op,x.a,x.b,x.c,1⟩ L (by(repeat(first|exact At.head|apply At.tail|apply At.skip))) u rfl Yu rfl rfl fun D1 f=>?_|refine qm (aj _ f _ (eB)) ?_|apply gLd;refine q0l hJ Q rfl ?_|(apply qF;first|refine ixE hJ Q ?_ ?_;(first|rfl|omega))|refine ari ?_ ?_;omega|refine fO ?_)
       exact⟨(r.1+1,_,D1),⟨⟨by simp only;omega,au⟩,f,hz,aH,fun y hy=>by
        rcases Zk hy with hy|rfl
        ·exact M y hy
        ·exact⟨⟨(by decide:(0:Int)<=1),(by decide:(1:Int)<=64)⟩,(M x (zg u)).2⟩⟩,by simp only;omega,(eF),(eC)⟩
      ·repeat'((try conv=>whnf);first|apply q2A;exact rfl;omega|refine qpL (hP.ent (eB)) u Yu rfl ?_|refine stE (k:=4) ⟨x.op,x.a,x.b,x.c,0⟩ f (by(repeat(first|exact At.head|apply At.tail|apply At.skip))) E rfl Yu rfl rfl fun D2 af=>?_|refine stE (k:=4) ⟨x.op,x.a,x.b,x.c,1⟩ L (by(repeat(first|exact At.head|apply At.tail|apply At.skip))) u rfl Yu rfl rfl fun D1 f=>?_|refine qm (aj _ f _ (eB)) ?_|apply gLd;refine q0l hJ Q rfl ?_|(apply qF;first|refine ixE hJ Q ?_ ?_;(first|rfl|omega))|refine ari ?_ ?_;omega|refine fO ?_)
       rw[T] at af;exact⟨(r.1+1,r.2.1,D2),⟨⟨by simp only;omega,W⟩,af,aA,fun m j' hm J=>X m j' (by simp only at hm;omega) J,M⟩,by simp only;omega,(eF),(eC)⟩
     ·repeat'((try conv=>whnf);first|apply q25;exact rfl;omega)
      exact⟨q.2.1,q.2.2.1,r.2.2,r.2.1,by rw[W];rfl,L,Ent.of_sub ((ZF s.D2 own).append_left r.2.2),aA,Yu,M⟩
end
open Go
def qc7(a n:Int):Int:=IntKind.u64.wrap a % n
theorem qk5(a:Int):0<=IntKind.u64.wrap a/\IntKind.u64.wrap a<=18446744073709551615:=by
 unfold IntKind.wrap;have b:((2:Int) ^ IntKind.u64.bits)=18446744073709551616:=rfl;simp only[b,IntKind.signed,yV,zL,if_false];omega
theorem qc8(a:Int){n:Int}(h:0<n):0<=qc7 a n/\qc7 a n<n:=⟨Yf _ Yu,yR _ h⟩
theorem qf8(W0:World)(own:Own)(a n:Int)(b:0<n/\n<=9223372036854775807):jo W0 28 [j5 a,j5 n] own (j5 (qc7 a n)):=by
 refine qg (sH [] ?_);have hw:=qk5 a;have d:=qc8 a b.1;unfold qc7 at d
 repeat'((try conv=>whnf);first|refine arw (k:= .u64) (e:=a) ?_|refine fB ?_|refine fC ?_|refine q3Z ?_ ?_;omega|exact Ent.refl|refine And.intro rfl ?_)
 all_goals exact⟨q0a rfl,eB⟩
theorem qa2{W0:World}{own:Own}{a n:Int}{K:Value->Prop}(b:0<n/\n<=9223372036854775807)(h:∀p,0<=p/\p<n->K (j5 p)):
  q50 Tryz.prog W0 own 28 [j5 a,j5 n] K:=q2M (fun _=>qf8 _ _ _ _ b) (h _ (qc8 a b.1))
theorem qfz:∀(n:Nat) (l:je),l.Nodup->(∀x∈l,0<=x/\x<n)->l.length<=n
 |0,[],_,_=>zq _
 |0,x::l,_,h=>by have:=h x zj;omega
 |n+1,l,b,h=>by
  have h1:(l.erase (n:Int)).length<=n:=qfz n _ (b.erase _) fun x e=>by
   have:=(List.Nodup.mem_erase_iff b).1 e;have h2:=h x this.2;have h3:x≠(n:Int):=this.1;omega
  have d:=List.length_erase (a:=(n:Int)) (l:=l)
  split at d <;>omega
def hmP(P:Nat)(a:Int):Nat:=a.toNat % P*5 % P
structure LI(P:Nat)(ix ad:je):Prop where
 p0:0<P
 len:ix.length=P
 rng:∀(k:Nat) (v:Int),ix[k]? =some v->v= -1\/(0<=v/\v<ad.length)
 hit:∀(n:Nat) (a:Int),ad[n]? =some a->∃d:Nat,ix[(hmP P a+d) % P]? =some (n:Int)/\∀e,e<d->∀v:Int,ix[(hmP P a+e) % P]? =some v->0<=v
 inj:∀(j k:Nat) (v:Int),ix[j]? =some v->ix[k]? =some v->0<=v->j=k
 nd:ad.Nodup
 room:ad.length<P
def qdS(P:Nat)(ix ad:je)(a:Int)(d:Nat):Prop:=∀v,ix[(hmP P a+d) % P]? =some v->v<0\/ad[v.toNat]? =some a
section
variable{P:Nat}{ix ad:je}
theorem LI.at(h:LI P ix ad)(k:Nat):∃v,ix[k % P]? =some v:=
 ⟨_,z6 (by rw[h.len];exact ye _ h.p0)⟩
theorem LI.empty(h:LI P ix ad):∃k,k<P/\ix[k]? =some (-1):=by
 by_cases f:∃k,k<P/\ix[k]? =some (-1)
 ·exact f
 ·exfalso;have n:ix.Nodup:=by
   rw[List.Nodup,Zr];intro i j d o hij he;have b:ix[i]? =some ix[i]:=z6 d;have g:ix[j]? =some ix[i]:=by rw[he];exact z6 o
   rcases h.rng i _ b with e|⟨e, -⟩
   ·rw[e] at b;exact f ⟨i,by rw[<-h.len];exact d,b⟩
   ·have:=h.inj i j _ b g e;omega
  have h2:=qfz ad.length ix n fun x q=>by
   obtain⟨i,d,rfl⟩:=ZZ q;have b:ix[i]? =some ix[i]:=z6 d
   rcases h.rng i _ b with e|e
   ·rw[e] at b;exact absurd ⟨i,by rw[<-h.len];exact d,b⟩ f
   ·exact e
  have:=h.room;have:=h.len;omega
theorem LI.find(h:LI P ix ad)(a:Int):∃D,qdS P ix ad a D/\∀e,e<D->∃v,ix[(hmP P a+e) % P]? =some v/\0<=v/\ad[v.toNat]? ≠some a:=by
 obtain⟨k,r,g⟩:=h.empty;have hh:hmP P a<P:=ye _ h.p0;have n:qdS P ix ad a (k+P-hmP P a):=by
  intro v d;rw[show hmP P a+(k+P-hmP P a)=k+P by omega,Nat.add_mod_right,Nat.mod_eq_of_lt r,g] at d;left;have:=Option.some.inj d;omega
 obtain⟨D,o,q⟩:=qbQ (p:=qdS P ix ad a) _ n;refine⟨D,o,fun e he=>?_⟩;obtain⟨v,d⟩:=h.at (hmP P a+e);refine⟨v,d,?_⟩
 by_cases j:0<=v/\ad[v.toNat]? ≠some a
 ·exact j
 ·exfalso;have:qdS P ix ad a e:=by
   intro v' f;rw[d] at f;obtain rfl:=Option.some.inj f
   by_cases s:v<0
   ·exact .inl s
   ·right
    by_cases b:ad[v.toNat]? =some a
    ·exact b
    ·exact absurd ⟨Yu,b⟩ j
  have:=q e this;omega
theorem LI.found(h:LI P ix ad){a:Int}{D:Nat}(C:qdS P ix ad a D)(G:∀e,e<D->∃v,ix[(hmP P a+e) % P]? =some v/\0<=v/\ad[v.toNat]? ≠some a):
  ∃v,ix[(hmP P a+D) % P]? =some v/\match ad.idxOf? a with
   |some n=>v=n
   |none=>v= -1:=by
 obtain⟨v,f⟩:=h.at (hmP P a+D);refine⟨v,f,?_⟩;cases E:ad.idxOf? a with
 |some n=>
  show v=n;have u:ad[n]? =some a:=by
   have:=Z6.1 E;obtain⟨b,hb, -⟩:=this;rw[z6 b]
   simpa using hb
  obtain⟨d,hd,k⟩:=h.hit n a u
  rcases Nat.lt_trichotomy d D with b|rfl|o
  ·obtain⟨v',j,hp,y⟩:=G d b;rw[hd] at j;obtain rfl:=Option.some.inj j;exact absurd u (by simpa using y)
  ·rw[f] at hd;exact Option.some.inj hd
  ·have h0:=k D o v f
   rcases C v f with g|g
   ·omega
   · --z entry found has z same address
    have hvn:v.toNat=n:=by
     have r:=(z7.1 g)
     have s:=(z7.1 u)
     obtain⟨F,A⟩:=r;obtain⟨l2,B⟩:=s;have:=Zr.1 h.nd
     rcases Nat.lt_trichotomy v.toNat n with q|q|q
     ·exact absurd (A.trans B.symm) (this _ _ F l2 q)
     ·exact q
     ·exact absurd (B.trans A.symm) (this _ _ l2 F q)
    omega
 |none=>
  show v= -1
  rcases h.rng _ v f with e|⟨e, -⟩
  ·exact e
  ·exfalso
   rcases C v f with g|g
   ·omega
   ·have:a∈ad:=zg g;have I:=Zl.1 E a this;simp at I
theorem LI.put(h:LI P ix ad){a:Int}{D:Nat}(G:ix[(hmP P a+D) % P]? =some (-1))(I:∀e,e<D->∃v,ix[(hmP P a+e) % P]? =some v/\0<=v/\ad[v.toNat]? ≠some a)(L:a∉ad)(O:ad.length+1<P):
  LI P (ix.set ((hmP P a+D) % P) ad.length) (ad++ [a]):=by
 have N:(hmP P a+D) % P<ix.length:=by rw[h.len];exact ye _ h.p0
 generalize J:(hmP P a+D) % P=K at*;have f:∀(j:Nat) (v:Int),(ix.set K (ad.length:Int))[j]? =some v->(j=K/\v=ad.length)\/(j≠K/\ix[j]? =some v):=fun j v g=>by
  rw[zx] at g
  split at g
  ·rename_i he;left;exact⟨he.symm,(Option.some.inj g).symm⟩
  ·rename_i he;exact .inr ⟨fun e=>he e.symm,g⟩
 have q:∀(j:Nat) (v:Int),j≠K->ix[j]? =some v->(ix.set K (ad.length:Int))[j]? =some v:=fun j v s g=>by
  rw[zx,if_neg (fun e=>s e.symm)];exact g
 refine⟨h.p0,by rw[zn];exact h.len,fun k v g=>?_,fun n b r=>?_,fun i j v M s C=>?_,?_,by rw[z8,zH];exact O⟩
 ·rcases f k v g with ⟨-,e⟩|⟨-,e⟩
  ·right;rw[z8,zH];omega
  ·rcases h.rng k v e with e|e
   ·exact .inl e
   ·right;rw[z8,zH];omega
 ·by_cases z:n<ad.length
  ·rw[zG z] at r;obtain⟨d,hd,u⟩:=h.hit n b r;refine⟨d,q _ _ (fun e=>?_) hd,fun e he v g=>?_⟩
   ·rw[e,G] at hd;have:=Option.some.inj hd;omega
   ·rcases f _ v g with ⟨-,o⟩|⟨-,o⟩
    ·omega
    ·exact u e he v o
  ·have A:n=ad.length:=by
    have:=(z7.1 r).1;rw[z8,zH] at this;omega
   subst A;rw[zT (zq _),yd] at r;obtain rfl:a=b:=Option.some.inj r;refine⟨D,by rw[J,zx,if_pos rfl,if_pos N],fun e he v g=>?_⟩;obtain⟨v',B,C, -⟩:=I e he
   rcases f _ v g with ⟨-,o⟩|⟨-,o⟩
   ·omega
   ·rw[B] at o;have:=Option.some.inj o;omega
 ·rcases f i v M with ⟨F,o⟩|⟨F,o⟩
  ·rcases f j v s with ⟨f1,f2⟩|⟨f1,f2⟩
   ·omega
   ·rcases h.rng j v f2 with e|e <;>omega
  ·rcases f j v s with ⟨f1,f2⟩|⟨f1,f2⟩
   ·rcases h.rng i v o with e|e <;>omega
   ·exact h.inj i j v o f2 C
 ·rw[List.nodup_append];refine⟨h.nd,Yw,fun x Q y E=>?_⟩;rw[zf] at E;subst E;exact fun e=>L (e ▸ Q)
end
theorem LI.new{P:Nat}(e:0<P):LI P (List.replicate P (-1)) []:=
 ⟨e,zO,fun k v d=> .inl (by rw[Zy] at d;split at d;exact(Option.some.inj d).symm;cases d),fun n a f=>(by simp at f),fun j k v b _ h0=>(by
  rw[Zy] at b;split at b
  ·have:=Option.some.inj b;omega
  ·cases b),Y0,e⟩
open Go Go.ChangeShapes Go.WideShapes Go.ChangeAt Go.RowKit
theorem qfn{α:Type}{Q:Nat->α->Prop}:∀n,(∀i,i<n->∃y,Q i y)->∃l:List α,l.length=n/\∀i y,l[i]? =some y->Q i y
 |0,_=>⟨[],rfl,fun i y h=>by simp at h⟩
 |n+1,h=>by
  obtain⟨l,f,g⟩:=qfn n (fun i d=>h i Yu);obtain⟨y,j⟩:=h n Yu;refine⟨l++ [y],by simp[f],fun i z b=>?_⟩
  by_cases d:i<l.length
  ·rw[zG d] at b;exact g i z b
  ·rw[zT Yu] at b;have:i-l.length=0:=by
    by_cases e:i-l.length=0
    ·exact e
    ·rw[zV (by simp;omega)] at b;cases b
   rw[this] at b;simp only[Zo,Option.some.injEq] at b;subst b;have:i=n:=Yu;subst this;exact j
section
variable{H:Type}{enc:TypeId×Value->H}{P:Program}{w:World}{spare:Nat->Bool}{held:Bool}
theorem qlI{own:Own}{a:Addr}{v:Value}(h:w.cell? a=some v):Kn w own (fun b=>b.cell? a=some v):=fun b hw=>by
 have hb:a.block<w.heap.size:=by
  unfold World.cell? at h
  split at h
  ·rename_i hb;exact(Zg.1 hb).1
  ·cases h
 exact(World.cell?_of_block (w:=w) (hw.base a.block hb)).trans h
theorem qk2{fuel:Nat}{t:TypeId}{cs:jf}{x:DataW H×List MemPlace}{k:IntKind}(b:P.underlying t=some (.int k))(h:DataW.trod enc P w 0 spare held fuel t cs=some x):∃n,cs= [.int k n]/\inK k n:=by
 obtain⟨n,rfl,_,hw⟩:=DataW.trod_int b h;refine⟨n,rfl,qff ?_⟩;simp only[Lit.wf,zu,decide_eq_true_eq] at hw;exact hw
end
end Go.Proofs.YtikpjajangpdjaaGreatDoor
