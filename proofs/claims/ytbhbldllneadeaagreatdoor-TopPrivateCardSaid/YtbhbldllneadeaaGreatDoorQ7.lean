/- What the laws share, part 7. No condition. -/
import Derived.KernelRfl
import Derived.Test.YtbhbldllneadeaaGreatDoorQ6
namespace Go.Proofs.YtbhbldllneadeaaGreatDoor
open Go
section
variable(P:Program)(ops:Array Oper)
def q9A:Nat→TypeId→List Nat
 |0,_=> []
 |n+1,t=>match P.underlying t with
  |some (.int _)=> [0]
  |some .bool=> [1]
  |some .string=> [2]
  |some (.array k e)=>(List.replicate k (q9A n e)).flatten
  |some (.struct fs)=>(fs.toList.map fun f=>q9A n f.type).flatten
  |_=> []
def ql4:Op→IOp
 | .binOp op t x y u=>match P.underlying t with
  |some (.struct _)|some (.array _ _)=>match op with
   | .eql=> .ageq false (q9A P 6 t) x y
   |_=> .ageq true (q9A P 6 t) x y
  |_=>q1t P (.binOp op t x y u)
 | .build t parts=>match q6N P t,P.underlying t with
  |some (.agg z),some (.struct fs)=>match q0Z P (q4C P fs) z.toList.length parts.toList with|some l=> .bld z.toList l|none=> .bad
  |some (.agg z),some (.array _ e)=>match szT P e with
   |some n=>(match q0Z P (fun i=>some (i*n,n)) z.toList.length parts.toList with|some l=> .bld z.toList l|none=> .bad)
   |none=> .bad
  |_,_=> .bad
 | .buildSlice t len parts=>match P.underlying t with
  |some (.slice e)=>match szT P e,q6N P e with
   |some n,some z=>match len with
    |0=> .blds e 0 [] []
    |_=>match q0Z P (fun i=>some (i*n,n)) (len*n) parts.toList with|some l=> .blds e len (List.replicate len (match z with| .agg z=>z.toList|z=> [z])).flatten l|none=> .bad
   |_,_=> .bad
  |_=> .bad
 | .call ⟨.value (.func k),args,ts⟩=>match P.funcs[k]? with
  |some fn=>match fn.body with
   |some _=> .call k args.toList
   |none=>q4y P ⟨.value (.func k),args,ts⟩
  |none=> .bad
 |op=>q1t P op
def q8r(o:Oper):q3Z:=
 ⟨o.dst,ql4 P o.op,match o.guard with
  |none=>none
  |some (j,b)=>match ops[j]? with
   |some o=>match o.dst with
    |some d=>some (d,b)
    |none=>none
   |none=>none⟩
def opH(i:Nat):q3Z:=match ops[i]? with
 |some o=>q8r P ops o
 |none=>⟨none, .bad,none⟩
def dtH{α:Type}:Nat→List Nat→(DT→List Nat→α)→α
 |g+1,x::l,k=>match x with
  |0=>k .done l
  |1=>dtH g l fun a l=>dtH g l fun b l=>k (.both a b) l
  |y+2=>dtH g l fun a l=>match Nat.beq (y % 2) 1 with
   |true=>k (.f (opH P ops (y/2)) a) l
   |false=>k (.m (opH P ops (y/2-1)) a) l
 |_,l,k=>k .bad l
end
def q8q(P:Program){α:Type}:Code→List Nat→(IC→List Nat→α)→α
 | .skip,l,k=>k .skip l
 | .region _ ops false,l,k=>k (.region (ops.toList.map (q8r P ops))) l
 | .region _ ops true,l,k=>match l with
  |2::l=>k (.par (ops.toList.map fun o=>(q8r P ops o,q72 o))) l
  |l=>dtH P ops 1000 l fun t l=>k (.draw t) l
 | .seq a b,l,k=>q8q P a l fun x l=>q8q P b l fun y l=>k (.seq x y) l
 | .cond c a b,l,k=>q8q P a l fun x l=>q8q P b l fun y l=>k (.cond c x y) l
 | .block i a,l,k=>q8q P a l fun x l=>k (.block i x) l
 | .loop a,l,k=>q8q P a l fun x l=>k (.loop (asg x 0) x) l
 | .exit i,l,k=>k (.exit i) l
 | .ret,l,k=>k .ret l
 |_,l,k=>k .bad l
def qi1:IC→Nat
 | .region (⟨some t,_,_⟩::_)=>3*t
 | .draw (.f ⟨some t,_,_⟩ _)=>3*t+1
 | .block i _=>3*i+2
 | .seq a _=>qi1 a
 |_=>0
def qnJ:IC→Bool
 | .seq _ _=>false
 |_=>true
def qeo(l:List Nat):IC→IC
 | .seq a b=>match l.any fun x=>Nat.beq (x/2) (qi1 a)&&(Nat.beq (x % 2) 0||qnJ a) with
  |true=> .cut (qeo (l.filter fun x=> !(Nat.beq (x/2) (qi1 a))) a) (qeo l b)
  |false=> .seq (qeo l a) (qeo l b)
 | .cond c a b=> .cond c (qeo l a) (qeo l b)
 | .block i a=> .block i (qeo l a)
 | .loop m a=> .loop m (qeo l a)
 |c=>c
def q9D(P:Program)(k:FuncId)(hs:List Nat):Option IFn:=match P.funcs[k]? with
 |some fn=>match fn.body with
  |some c=>q8q P c hs fun x _=>some ⟨fn.ntmps,x,fn.results.toList.map (q3T P)⟩
  |none=>none
 |none=>none
end Go.Proofs.YtbhbldllneadeaaGreatDoor
