/- What the laws share, part 5. No condition. -/
import Derived.KernelRfl
import Derived.Test.YtikpjajangpdjaaGreatDoorQ4
namespace Go.Proofs.YtikpjajangpdjaaGreatDoor
open Go
section
variable(P:Program)(ops:Array Oper)
def qbN:Nat->TypeId->jj
 |0,_=> []
 |n+1,t=>match P.underlying t with
  |some (.int _)=> [0]
  |some .bool=> [1]
  |some .string=> [2]
  |some (.array k e)=>(List.replicate k (qbN n e)).flatten
  |some (.struct a)=>(a.toList.map fun f=>qbN n f.type).flatten
  |_=> []
def qpW:Op->IOp
 | .binOp op t x y u=>match P.underlying t with
  |some (.struct _)|some (.array _ _)=>match op with
   | .eql=> .ageq false (qbN P 6 t) x y
   |_=> .ageq true (qbN P 6 t) x y
  |_=>q1M P (.binOp op t x y u)
 | .build t parts=>match q8D P t,P.underlying t with
  |some (.agg z),some (.struct a)=>match q1i P (q5X P a) z.toList.length parts.toList with|some l=> .bld z.toList l|none=> .bad
  |some (.agg z),some (.array _ e)=>match szT P e with
   |some n=>(match q1i P (fun i=>some (i*n,n)) z.toList.length parts.toList with|some l=> .bld z.toList l|none=> .bad)
   |none=> .bad
  |_,_=> .bad
 | .buildSlice t len parts=>match P.underlying t with
  |some (.slice e)=>match szT P e,q8D P e with
   |some n,some z=>match len with
    |0=> .blds e 0 [] []
    |_=>match q1i P (fun i=>some (i*n,n)) (len*n) parts.toList with|some l=> .blds e len (List.replicate len (match z with| .agg z=>z.toList|z=> [z])).flatten l|none=> .bad
   |_,_=> .bad
  |_=> .bad
 | .call ⟨.value (.func k),args,b⟩=>match P.funcs[k]? with
  |some fn=>match fn.body with
   |some _=> .call k args.toList
   |none=>q5S P ⟨.value (.func k),args,b⟩
  |none=> .bad
 |op=>q1M P op
def qav(o:Oper):q51:=
 ⟨o.dst,qpW P o.op,match o.guard with
  |none=>none
  |some (j,b)=>match ops[j]? with
   |some o=>match o.dst with
    |some d=>some (d,b)
    |none=>none
   |none=>none⟩
def opH(i:Nat):q51:=match ops[i]? with
 |some o=>qav P ops o
 |none=>⟨none, .bad,none⟩
def dtH{α:Type}:Nat->jj->(DT->jj->α)->α
 |g+1,x::l,k=>match x with
  |0=>k .done l
  |1=>dtH g l fun a l=>dtH g l fun b l=>k (.both a b) l
  |y+2=>dtH g l fun a l=>match Nat.beq (y % 2) 1 with
   |true=>k (.f (opH P ops (y/2)) a) l
   |false=>k (.m (opH P ops (y/2-1)) a) l
 |_,l,k=>k .bad l
end
def qau(P:Program){α:Type}:Code->jj->(IC->jj->α)->α
 | .skip,l,k=>k .skip l
 | .region _ ops false,l,k=>k (.region (ops.toList.map (qav P ops))) l
 | .region _ ops true,l,k=>match l with
  |2::l=>k (.par (ops.toList.map fun o=>(qav P ops o,q8T o))) l
  |l=>dtH P ops 1000 l fun t l=>k (.draw t) l
 | .seq a b,l,k=>qau P a l fun x l=>qau P b l fun y l=>k (.seq x y) l
 | .cond c a b,l,k=>qau P a l fun x l=>qau P b l fun y l=>k (.cond c x y) l
 | .block i a,l,k=>qau P a l fun x l=>k (.block i x) l
 | .loop a,l,k=>qau P a l fun x l=>k (.loop (asg x 0) x) l
 | .exit i,l,k=>k (.exit i) l
 | .ret,l,k=>k .ret l
 |_,l,k=>k .bad l
def qmv:IC->Nat
 | .region (⟨some t,_,_⟩::_)=>3*t
 | .draw (.f ⟨some t,_,_⟩ _)=>3*t+1
 | .block i _=>3*i+2
 | .seq a _=>qmv a
 |_=>0
def qsX:IC->Bool
 | .seq _ _=>false
 |_=>true
def qi1(l:jj):IC->IC
 | .seq a b=>match l.any fun x=>Nat.beq (x/2) (qmv a)&&(Nat.beq (x % 2) 0||qsX a) with
  |true=> .cut (qi1 (l.filter fun x=> !(Nat.beq (x/2) (qmv a))) a) (qi1 l b)
  |false=> .seq (qi1 l a) (qi1 l b)
 | .cond c a b=> .cond c (qi1 l a) (qi1 l b)
 | .block i a=> .block i (qi1 l a)
 | .loop m a=> .loop m (qi1 l a)
 |c=>c
def qbS(P:Program)(k:FuncId)(a:jj):Option IFn:=match P.funcs[k]? with
 |some fn=>match fn.body with
  |some c=>qau P c a fun x _=>some ⟨fn.ntmps,x,fn.results.toList.map (q4U P)⟩
  |none=>none
 |none=>none
end Go.Proofs.YtikpjajangpdjaaGreatDoor
