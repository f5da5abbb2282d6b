/- What the laws share, part 5. No condition. -/
import Derived.KernelRfl
import Derived.Test.YtfnghamklcdgnaaGreatDoorQ4
namespace Go.Proofs.YtfnghamklcdgnaaGreatDoor
open Go
section
variable(P:Program)(ops:Array Oper)
def qab:Nat->TypeId->jh
 |0,_=> []
 |n+1,t=>match P.underlying t with
  |some (.int _)=> [0]
  |some .bool=> [1]
  |some .string=> [2]
  |some (.array k e)=>(List.replicate k (qab n e)).flatten
  |some (.struct a)=>(a.toList.map fun f=>qab n f.type).flatten
  |_=> []
def qm9:Op->IOp
 | .binOp op t x y u=>match P.underlying t with
  |some (.struct _)|some (.array _ _)=>match op with
   | .eql=> .ageq false (qab P 6 t) x y
   |_=> .ageq true (qab P 6 t) x y
  |_=>q1I P (.binOp op t x y u)
 | .build t parts=>match q7h P t,P.underlying t with
  |some (.agg z),some (.struct a)=>match q1d P (q5g P a) z.toList.length parts.toList with|some l=> .bld z.toList l|none=> .bad
  |some (.agg z),some (.array _ e)=>match szT P e with
   |some n=>(match q1d P (fun i=>some (i*n,n)) z.toList.length parts.toList with|some l=> .bld z.toList l|none=> .bad)
   |none=> .bad
  |_,_=> .bad
 | .buildSlice t len parts=>match P.underlying t with
  |some (.slice e)=>match szT P e,q7h P e with
   |some n,some z=>match len with
    |0=> .blds e 0 [] []
    |_=>match q1d P (fun i=>some (i*n,n)) (len*n) parts.toList with|some l=> .blds e len (List.replicate len (match z with| .agg z=>z.toList|z=> [z])).flatten l|none=> .bad
   |_,_=> .bad
  |_=> .bad
 | .call ⟨.value (.func k),args,ts⟩=>match P.funcs[k]? with
  |some fn=>match fn.body with
   |some _=> .call k args.toList
   |none=>q5a P ⟨.value (.func k),args,ts⟩
  |none=> .bad
 |op=>q1I P op
def q93(o:Oper):q4r:=
 ⟨o.dst,qm9 P o.op,match o.guard with
  |none=>none
  |some (j,b)=>match ops[j]? with
   |some o=>match o.dst with
    |some d=>some (d,b)
    |none=>none
   |none=>none⟩
def opH(i:Nat):q4r:=match ops[i]? with
 |some o=>q93 P ops o
 |none=>⟨none, .bad,none⟩
def dtH{α:Type}:Nat->jh->(DT->jh->α)->α
 |g+1,x::l,k=>match x with
  |0=>k .done l
  |1=>dtH g l fun a l=>dtH g l fun b l=>k (.both a b) l
  |y+2=>dtH g l fun a l=>match Nat.beq (y % 2) 1 with
   |true=>k (.f (opH P ops (y/2)) a) l
   |false=>k (.m (opH P ops (y/2-1)) a) l
 |_,l,k=>k .bad l
end
def q92(P:Program){α:Type}:Code->jh->(IC->jh->α)->α
 | .skip,l,k=>k .skip l
 | .region _ ops false,l,k=>k (.region (ops.toList.map (q93 P ops))) l
 | .region _ ops true,l,k=>match l with
  |2::l=>k (.par (ops.toList.map fun o=>(q93 P ops o,q7u o))) l
  |l=>dtH P ops 1000 l fun t l=>k (.draw t) l
 | .seq a b,l,k=>q92 P a l fun x l=>q92 P b l fun y l=>k (.seq x y) l
 | .cond c a b,l,k=>q92 P a l fun x l=>q92 P b l fun y l=>k (.cond c x y) l
 | .block i a,l,k=>q92 P a l fun x l=>k (.block i x) l
 | .loop a,l,k=>q92 P a l fun x l=>k (.loop (asg x 0) x) l
 | .exit i,l,k=>k (.exit i) l
 | .ret,l,k=>k .ret l
 |_,l,k=>k .bad l
def qj7:IC->Nat
 | .region (⟨some t,_,_⟩::_)=>3*t
 | .draw (.f ⟨some t,_,_⟩ _)=>3*t+1
 | .block i _=>3*i+2
 | .seq a _=>qj7 a
 |_=>0
def qoL:IC->Bool
 | .seq _ _=>false
 |_=>true
def qfu(l:jh):IC->IC
 | .seq a b=>match l.any fun x=>Nat.beq (x/2) (qj7 a)&&(Nat.beq (x % 2) 0||qoL a) with
  |true=> .cut (qfu (l.filter fun x=> !(Nat.beq (x/2) (qj7 a))) a) (qfu l b)
  |false=> .seq (qfu l a) (qfu l b)
 | .cond c a b=> .cond c (qfu l a) (qfu l b)
 | .block i a=> .block i (qfu l a)
 | .loop m a=> .loop m (qfu l a)
 |c=>c
def qaj(P:Program)(k:FuncId)(a:jh):Option IFn:=match P.funcs[k]? with
 |some fn=>match fn.body with
  |some c=>q92 P c a fun x _=>some ⟨fn.ntmps,x,fn.results.toList.map (q4i P)⟩
  |none=>none
 |none=>none
end Go.Proofs.YtfnghamklcdgnaaGreatDoor
