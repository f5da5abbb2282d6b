/- What the laws share, part 3. No condition. -/
import Derived.Laws.FloatArith
import Derived.Great.BuildSlice
import Derived.Laws.Append
import Derived.Laws.StructEq
import Derived.Laws.MakeOwn
import Derived.ChangeKeysEq
import Derived.OrdersIn
import Derived.Test.YtbhbldllneadeaaGreatDoorQ2
namespace Go.Proofs.YtbhbldllneadeaaGreatDoor
open Go
inductive IOp
 |mov (x:Operand)
 |pick (c a b:Operand)
 |bin (op:BinOp) (x y:Operand)
 |beq (neg:Bool) (x y:Operand)
 |ageq (neg:Bool) (ks:List Nat) (x y:Operand)
 |nilq (neg:Bool) (k:Nat) (x y:Operand)
 |not (x:Operand)
 |neg (x:Operand)
 |conv(k:IntKind) (x:Operand)
 |fad (off:Nat) (x:Operand)
 |fld (off:Nat) (x:Operand)
 |fldN (off n:Nat) (x:Operand)
 |ixs (sz:Nat) (x i:Operand)
 |ixa (len sz:Nat) (x i:Operand)
 |idx (len:Nat) (x i:Operand)
 |idxN (len sz:Nat) (x i:Operand)
 |ld (x:Operand)
 |ldN (n:Nat) (x:Operand)
 |st (x v:Operand)
 |stN (n:Nat) (x v:Operand)
 |box (t:TypeId) (x:Operand)
 |new (t:TypeId) (zero:Value)
 |bld (zero:List Value) (parts:List (Nat×Nat×Operand))
 |blds (t:TypeId) (len:Nat) (zero:List Value) (parts:List (Nat×Nat×Operand))
 |mk (t:TypeId) (sz bytes:Nat) (zero:List Value) (l c:Operand)
 |sls (sz:Nat) (x:Operand) (lo hi mx:Option Operand)
 |capb (x:Operand)
 |sidx (x i:Operand)
 |sslc (x:Operand) (lo hi:Option Operand)
 |scat (x y:Operand)
 |ibs (x c:Operand)
 |ext (x:Operand) (i:Nat)
 |len (x:Operand)
 |lens (x:Operand)
 |nilc (x:Operand)
 |mm (max:Bool) (x y:Operand)
 |app (t:TypeId) (sz bytes:Nat) (zero:List Value) (s x:Operand)
 |appz (t:TypeId) (bytes:Nat) (zero:List Value) (s n:Operand)
 |clr (zero:List Value) (x:Operand)
 |call (k:FuncId) (args:List Operand)
 |callv (x:Operand) (args:List Operand)
 |mkf (k:FuncId) (cap:List Operand)
 |sbin (op:BinOp) (x y:Operand)
 |fbin (op:BinOp) (x y:Operand)
 |flt (op:BinOp) (x y:Operand)
 |i2f (x:Operand)
 |f2i (k:IntKind) (x:Operand)
 |fbits (x:Operand)
 |ffrom (x:Operand)
 |fpk (neg:Bool) (x y:Operand)
 |nifc (neg:Bool) (x:Operand)
 |iter (x:Operand)
 |next (x:Operand)
 |mkm
 |mlk (kk:Nat) (z:Value) (ok:Bool) (x i:Operand)
 |mup (kk:Nat) (x i v:Operand)
 |bad
structure q3Z where
 dst:Option Nat
 op:IOp
 guard:Option (Nat×Bool)
def q3P(P:Program)(t:TypeId):Option Bool:=
 match P.underlying t with
 |some (.struct _)|some (.array _ _)=>some true
 |some _=>some false
 |none=>none
def szT(P:Program)(t:TypeId):Option Nat:=(P.info? t).map (·.size)
def q6N(P:Program)(t:TypeId):Option Value:=(P.info? t).bind (·.zero)
def q7c(P:Program)(f:TypeId→Option (List Nat)):List Field→Nat→Option (List Nat)
 | [],_=>some []
 |x::r,off=>match f x.type with
  |some ks=>if x.offset=off∧x.name≠ "_" ∧szT P x.type=some ks.length then(match q7c P f r (off+ks.length) with|some kr=>some (ks++kr)|none=>none) else none
  |none=>none
def q2j(P:Program):Nat→TypeId→Option (List Nat)
 |0,_=>none
 |n+1,t=>match P.underlying t with
  |some (.int _)=>some [0]
  |some .bool=>some [1]
  |some .string=>some [2]
  |some (.array k e)=>match q2j P n e with
   |some ks=>if szT P e=some ks.length then some (List.replicate k ks).flatten else none
   |none=>none
  |some (.struct fs)=>if P.stoodInHeld t then none else q7c P (q2j P n) fs.toList 0
  |_=>none
def qcb(P:Program)(op:BinOp)(t:TypeId)(x y:Operand):IOp:=
 match P.underlying t with
 |some (.int _)=> .bin op x y
 |some .string=>match op with
  | .eql| .neq=> .sbin op x y
  | .add=> .scat x y
  |_=> .bad
 |some (.slice _)=>match op with
  | .eql=> .nilq false 0 x y
  | .neq=> .nilq true 0 x y
  |_=> .bad
 |some (.pointer _)=>match op with
  | .eql=> .nilq false 1 x y
  | .neq=> .nilq true 1 x y
  |_=> .bad
 |some (.func _ _ _)=>match op with
  | .eql=> .nilq false 2 x y
  | .neq=> .nilq true 2 x y
  |_=> .bad
 |some (.map _ _)=>match op with
  | .eql=> .nilq false 3 x y
  | .neq=> .nilq true 3 x y
  |_=> .bad
 |some (.struct _)|some (.array _ _)=>match q2j P 6 t with
  |some ks=>if P.eqGuardType P.depth t then .bad else(match op with
   | .eql=> .ageq false ks x y
   | .neq=> .ageq true ks x y
   |_=> .bad)
  |none=> .bad
 |some (.float .f64)=>match op with
  | .add| .sub| .mul| .quo=> .flt op x y
  | .eql| .neq| .lss| .leq| .gtr| .geq=> .fbin op x y
  |_=> .bad
 |some .bool=>match op with
  | .eql=> .beq false x y
  | .neq=> .beq true x y
  |_=> .bad
 |some (.interface _)=>match op,y with
  | .eql, .const .nilIface=> .nifc false x
  | .neq, .const .nilIface=> .nifc true x
  |_,_=> .bad
 |_=> .bad
def q0Z(P:Program)(place:Nat→Option (Nat×Nat))(tot:Nat):List (Nat×Operand)→Option (List (Nat×Nat×Operand))
 | []=>some []
 |(i,x)::r=>match place i with
  |some (off,sz)=>if off+sz≤tot then(match q0Z P place tot r with|some l=>some ((off,sz,x)::l)|none=>none) else none
  |none=>none
def q4C(P:Program)(fs:Array Field)(i:Nat):Option (Nat×Nat):=match fs[i]? with
 |some f=>(szT P f.type).map fun n=>(f.offset,n)
 |none=>none
def q6d(P:Program)(fs:Array Field):Bool:=fs.all fun f=>(szT P f.type).isSome
def q6o(P:Program)(t:TypeId)(parts:List (Nat×Operand)):IOp:=
 match q6N P t,P.underlying t with
 |some z,some (.struct fs)=>if q6d P fs then(match q0Z P (q4C P fs) z.cells.size parts with|some l=> .bld z.cells.toList l|none=> .bad) else .bad
 |some z,some (.array _ e)=>match szT P e with
  |some n=>(match q0Z P (fun i=>some (i*n,n)) z.cells.size parts with|some l=> .bld z.cells.toList l|none=> .bad)
  |none=> .bad
 |_,_=> .bad
def q6O(z:Value)(n:Nat):List Value:=((Array.range n).map (z.cells[· % z.cells.size]!)).toList
def q4x(P:Program)(t:TypeId)(len:Nat)(parts:List (Nat×Operand)):IOp:=
 match P.underlying t with
 |some (.slice e)=>match szT P e,q6N P e with
  |some n,some z=>if 0<len*n∧len*n≤16777216 then(match q0Z P (fun i=>some (i*n,n)) (len*n) parts with|some l=> .blds e len (q6O z (len*n)) l|none=> .bad) else(if len*n=0∧parts= [] then .blds e len [] [] else .bad)
  |_,_=> .bad
 |_=> .bad
def q4y(P:Program)(c:Call):IOp:=
 match c.callee with
 | .value (.func k)=>match P.funcs[k]? with
  |some fn=>if fn.name== "runtime.NumGoroutine" ||fn.body.isNone then
    (if fn.body.isNone&&(Extern.findNext fn).isNone&&decide (fn.name= "math.Float64bits") then(match c.args.toList with| [x]=> .fbits x|_=> .bad)
    else if fn.body.isNone&&(Extern.findNext fn).isNone&&decide (fn.name= "math.Float64frombits") then(match c.args.toList with| [x]=> .ffrom x|_=> .bad)
    else if fn.body.isNone&&(Extern.findNext fn).isNone&&decide (fn.name= "math.archMin") then(match c.args.toList with| [x,y]=> .fpk true x y|_=> .bad)
    else if fn.body.isNone&&(Extern.findNext fn).isNone&&decide (fn.name= "math.archMax") then(match c.args.toList with| [x,y]=> .fpk false x y|_=> .bad)
    else if fn.body.isNone&&(Extern.findNext fn).isNone&&decide (fn.name= "internal/bytealg.IndexByteString") then(match c.args.toList with| [x,y]=> .ibs x y|_=> .bad) else .bad)
   else .call k c.args.toList
  |none=> .bad
 | .builtin .len=>match c.args.toList,c.argTypes.toList with
  | [x],[t]=>match P.underlying t with
   |some (.slice _)=> .len x
   |some .string=> .lens x
   |_=> .bad
  |_,_=> .bad
 | .builtin .cap=>match c.args.toList,c.argTypes.toList with
  | [x],[t]=>match P.underlying t with
   |some (.slice _)=> .capb x
   |_=> .bad
  |_,_=> .bad
 | .builtin .append=>match c.args.toList,c.argTypes.toList with
  | [s,x],[t,tx]=>match P.underlying t,P.underlying tx with
   |some (.slice e),some (.slice _)=>match P.info? e with
    |some ie=>match ie.zero with
     |some z=>if z.cells.size=ie.size∧0<ie.size∧0<ie.bytes then .app e ie.size ie.bytes z.cells.toList s x else .bad
     |none=> .bad
    |none=> .bad
   |some (.slice e),some (.int _)=>match P.info? e with
    |some ie=>match ie.zero with
     |some z=>if z.cells.size=ie.size∧0<ie.size∧0<ie.bytes then .appz e ie.bytes z.cells.toList s x else .bad
     |none=> .bad
    |none=> .bad
   |_,_=> .bad
  |_,_=> .bad
 | .builtin .clear=>match c.args.toList,c.argTypes.toList with
  | [x],[t]=>match P.underlying t with
   |some (.slice e)=>match P.info? e with
    |some ie=>match ie.zero with
     |some z=> .clr z.cells.toList x
     |none=> .bad
    |none=> .bad
   |_=> .bad
  |_,_=> .bad
 | .value (.tmp f)=> .callv (.tmp f) c.args.toList
 | .builtin .min=>match c.args.toList with| [x,y]=> .mm false x y|_=> .bad
 | .builtin .max=>match c.args.toList with| [x,y]=> .mm true x y|_=> .bad
 |_=> .bad
def qeI(P:Program)(k:TypeId):Option Nat:=match P.underlying k with
 |some (.int _)=>some 0
 |some .string=>some 2
 |_=>none
def q1t(P:Program):Op→IOp
 | .move x| .assign x=> .mov x
 | .pick c a b=> .pick c a b
 | .binOp op t x y _=>qcb P op t x y
 | .unOp .not _ x=> .not x
 | .unOp .neg t x=>match P.underlying t with|some (.int _)=> .neg x|_=> .bad
 | .convert s d x=>match P.underlying s,P.underlying d with
  |some (.int _),some (.int k)=> .conv k x
  |some (.int _),some (.float .f64)=> .i2f x
  |some (.float .f64),some (.int k)=> .f2i k x
  |_,_=> .bad
 | .fieldAddr t x i=>match P.underlying t with
  |some (.struct fs)=>match fs[i]? with
   |some f=>match szT P f.type with|some (_+1)=> .fad f.offset x|_=> .bad
   |none=> .bad
  |_=> .bad
 | .field t x i=>match P.underlying t with
  |some (.struct fs)=>match fs[i]? with
   |some f=>match q3P P f.type,szT P f.type with
    |some true,some n=> .fldN f.offset n x
    |some false,some _=> .fld f.offset x
    |_,_=> .bad
   |none=> .bad
  |_=> .bad
 | .indexAddr t x i=>match P.underlying t with
  |some (.slice e)=>match szT P e with|some n=> .ixs n x i|none=> .bad
  |some (.array len e)=>match szT P e with|some n=> .ixa len n x i|none=> .bad
  |_=> .bad
 | .makeSlice t l c=>match P.underlying t with
  |some (.slice e)=>match P.info? e with
   |some ie=>match ie.zero with
    |some z=>if z.cells.size=ie.size∧0<ie.size∧0<ie.bytes then .mk e ie.size ie.bytes z.cells.toList l c else .bad
    |none=> .bad
   |none=> .bad
  |_=> .bad
 | .makeFunc (.func k) first cap=>if first.isEmpty then .mkf k cap.toList else .bad
 | .slice t x lo hi mx=>match P.underlying t with
  |some (.slice e)=>match szT P e with
   |some n=> .sls n x lo hi mx
   |none=> .bad
  |some .string=>match mx with
   |none=> .sslc x lo hi
   |some _=> .bad
  |_=> .bad
 | .index t x i=>match P.underlying t with
  |some .string=> .sidx x i
  |some (.array len e)=>match q3P P e,szT P e with
    |some true,some n=> .idxN len n x i
    |some false,some 1=> .idx len x i
    |_,_=> .bad
  |_=> .bad
 | .load t x=>match q3P P t,szT P t with
  |some true,some n=> .ldN n x
  |some false,some _=> .ld x
  |_,_=> .bad
 | .store t x v=>match q3P P t,szT P t with
  |some true,some n=> .stN n x v
  |some false,some 1=> .st x v
  |_,_=> .bad
 | .box t x=> .box t x
 | .alloc t=>match q6N P t with|some z=> .new t z|none=> .bad
 | .extract x i=> .ext x i
 | .build t parts=>q6o P t parts.toList
 | .buildSlice t len parts=>q4x P t len parts.toList
 | .nilCheck x=> .nilc x
 | .range t x=>match P.underlying t with|some .string=> .iter x|_=> .bad
 | .next x isS=>match isS with|true=> .next x|false=> .bad
 | .call c=>q4y P c
 | .makeMap _ none=> .mkm
 | .lookup t x i ok=>match P.underlying t with
  |some (.map k e)=>match qeI P k,q6N P e with
   |some kk,some z=> .mlk kk z ok x i
   |_,_=> .bad
  |_=> .bad
 | .mapUpdate t x i v| .insert t x i v=>match P.underlying t with
  |some (.map k _)=>match qeI P k with
   |some kk=> .mup kk x i v
   |none=> .bad
  |_=> .bad
 |_=> .bad
def q0y(P:Program)(ops:Array Oper)(o:Oper):q3Z:=
 {dst:=o.dst,op:=q1t P o.op,guard:=match o.guard with
  |none=>none
  |some (j,b)=>match (ops[j]?).bind (·.dst) with
   |some d=>some (d,b)
   |none=>none}
structure q58(k:IntKind)(e:Int)(K:Int→Prop):Prop where
 h:K (k.wrap e)
structure MM(mx:Bool)(a b:Int)(K:Int→Prop):Prop where
 h:K (bif mx then max a b else min a b)
def q56(op:BinOp)(c:Option Ordering):Bool:=
 match op with
 | .eql=>c==some .eq
 | .neq=>c !=some .eq
 | .lss=>c==some .lt
 | .leq=>c==some .lt||c==some .eq
 | .gtr=>c==some .gt
 | .geq=>c==some .gt||c==some .eq
 |_=>false
structure qmk(op:BinOp)(a b:Nat)(K:Bool→Prop):Prop where
 h:K (q56 op (FloatKind.f64.format.order a b))
def qmh(r:Nat):Prop:=∃s t:Nat,s<2∧t<2 ^ 52-1∧r=s*2 ^ 63+0x7ff0000000000000+1+t
structure qml(op:BinOp)(a b:Nat)(K:Nat→Prop):Prop where
 h:(∀r,floatBits op .f64 a b=some r→K r)∧(floatBits op .f64 a b=none→∀r,qmh r→K r)
structure F2I(k:IntKind)(b:Nat)(K:Int→Prop):Prop where
 h:∃n,floatToIntVal .f64 b k=some n∧K n
def q4B(neg:Bool)(x y:Nat):Nat:=
 if FloatKind.f64.decode x== .infinity neg||FloatKind.f64.decode y== .infinity neg then FloatKind.f64.encode (.infinity neg)
 else if(FloatKind.f64.decode x).isNaN||(FloatKind.f64.decode y).isNaN then 0x7FF8000000000001
 else if(FloatKind.f64.decode x).isZero&&(FloatKind.f64.decode y).isZero then(if(FloatKind.f64.decode x).neg==neg then x else y)
 else if(FloatKind.f64.decode x).order (FloatKind.f64.decode y)==some (bif neg then .lt else .gt) then x else y
def qbp(op:BinOp)(a b:ByteArray)(K:Value→Prop):Prop:=
 match op with
 | .eql=>K (.bool (decide (a.toList=b.toList)))
 | .neq=>K (.bool (!decide (a.toList=b.toList)))
 |_=>False
structure Quo(k:IntKind)(m n:Int)(K:Int→Prop):Prop where
 h:n≠0∧K (k.wrap (m.tdiv n))
structure Rem(m n:Int)(K:Int→Prop):Prop where
 h:n≠0∧K (m.tmod n)
structure Shl(k:IntKind)(m n:Int)(K:Int→Prop):Prop where
 h:0≤n∧K (k.wrap (m*2 ^ (min n.toNat k.bits)))
structure Shr(k:IntKind)(m n:Int)(K:Int→Prop):Prop where
 h:0≤n∧K (m.fdiv (2 ^ (min n.toNat k.bits)))
structure Idx(i:Int)(n:Nat)(K:Nat→Prop):Prop where
 h:∃j:Nat,i=j∧j<n∧K j
def kn:IntKind→Nat
 | .i8=>0| .i16=>1| .i32=>2| .i64=>3| .u8=>4| .u16=>5| .u32=>6| .u64=>7
theorem qc7{k k':IntKind}(h:Nat.beq (kn k) (kn k')=true):k=k':=by cases k <;>cases k' <;>first|rfl|cases h
structure IxS(a:Option Addr)(sz:Nat)(i:Int)(len:Nat)(K:Addr→Prop):Prop where
 h:∃j b o:Nat,i=j∧j<len∧a=some ⟨b,o,none⟩∧K ⟨b,o+j*sz,none⟩
theorem qJ{a b c d e}(h:IxS a b c d e):IxS a b c d e:=h
def slA(a:Option Addr)(m l sz:Nat):Option Addr:=if m=l then a else a.map (·.add (l*sz))
structure qjH(a:Option Addr)(n c sz:Nat)(lo hi mx:Option Int)(K:Value→Prop):Prop where
 h:∃l r m:Nat,lo.getD 0=l∧hi.getD n=r∧mx.getD c=m∧l≤r∧(hi.isSome=true→r≤m)∧(mx.isSome=true→m≤c)∧(mx.isSome=true→hi.isSome=true)∧K (.slice (slA a m l sz) (r-l) (m-l))
structure qnj(s:ByteArray)(lo hi:Option Int)(K:Value→Prop):Prop where
 h:∃l r:Nat,lo.getD 0=l∧hi.getD s.size=r∧l≤r∧r≤s.size∧K (.string (s.extract l r))
structure qni(s:ByteArray)(i:Int)(K:Value→Prop):Prop where
 h:∃(j:Nat) (b:UInt8),i=j∧s.data.toList[j]? =some b∧K (.int .u8 b.toNat)
structure qnB(a b:ByteArray)(K:Value→Prop):Prop where
 h:a.size+b.size≤9223372036854775807∧K (.string (a++b))
def qe1(s:ByteArray)(c:Int):Int:=match (List.range s.size).find? fun i=>s[i]! ==c.toNat.toUInt8 with
 |some i=>i
 |none=> -1
def evI(f:Fr):Option Operand→Option (Option Int)
 |none=>some none
 |some x=>match ev f x with
  | .int _ i=>some (some i)
  |_=>none
def qip:Nat→Value→Value→Option Bool
 |0, .slice a _ _, .slice none _ _=>some a.isNone
 |1, .pointer a, .pointer none=>some a.isNone
 |2, .func _ _ _, .nilFunc=>some false
 |2, .nilFunc, .nilFunc=>some true
 |3, .map a, .map none=>some a.isNone
 |_,_,_=>none
def q0I:Nat→Value→Value→Option Bool
 |0, .int k a, .int k' b=>match Nat.beq (kn k) (kn k') with
  |true=>some (decide (a=b))
  |false=>none
 |1, .bool a, .bool b=>some (decide (a=b))
 |2, .string a, .string b=>some (decide (a.data.toList=b.data.toList))
 |_,_,_=>none
def eqC:List Nat→List Value→List Value→Option Bool
 | [],[],[]=>some true
 |k::ks,x::xs,y::ys=>match q0I k x y with
  |some a=>(match eqC ks xs ys with
   |some b=>some (a&&b)
   |none=>none)
  |none=>none
 |_,_,_=>none
def q2C(l:List (Value×Value)):Obj→Prop:=fun o=>∃es c,o=Obj.map es c∧es.toList.map (fun e=>(e.key,e.val))=l
def q1J(kk:Nat)(key:Value):List (Value×Value)→Option (Option Value)
 | []=>some none
 |e::r=>match q0I kk key e.1 with
  |some true=>some (some e.2)
  |some false=>q1J kk key r
  |none=>none
def q52(kk:Nat)(key v:Value):List (Value×Value)→List (Value×Value)
 | []=> [(key,v)]
 |e::r=>match q0I kk key e.1 with
  |some true=>(key,v)::r
  |_=>e::q52 kk key v r
def qjL(z:Value)(ok:Bool)(r:Option Value):Value:=match ok,r with
 |true,some v=> .tuple #[v, .bool true]
 |true,none=> .tuple #[z, .bool false]
 |false,some v=>v
 |false,none=>z
structure EqT(ks:List Nat)(xs ys:List Value)(K:Bool→Prop):Prop where
 h:∃r,eqC ks xs ys=some r∧K r
structure Sel(v:Option Value)(K:Value→Prop):Prop where
 h:∃x,v=some x∧K x
structure qnh(cs:List Value)(off n:Nat)(K:Value→Prop):Prop where
 h:K (.agg ((cs.drop off).take n).toArray)
structure q2f(c b:Bool)(Ky Kn:Prop):Prop where
 y:c=b→Ky
 n:c=(!b)→Kn
structure Br(c:Bool)(Ky Kn:Prop):Prop where
 y:c=true→Ky
 n:c=false→Kn
def Mv(v:Value)(K:Value→Prop):Prop:=
 match v with
 | .int k n=>K (.int k n)
 | .bool b=>K (.bool b)
 | .pointer a=>K (.pointer a)
 | .slice a n c=>K (.slice a n c)
 | .agg cs=>K (.agg cs)
 | .tuple cs=>K (.tuple cs)
 | .string s=>K (.string s)
 | .float k b=>K (.float k b)
 | .func a b c=>K (.func a b c)
 |v=>K v
theorem qgp{v:Value}{K:Value→Prop}:Mv v K↔K v:=by cases v <;>rfl
theorem Mv.h{v:Value}{K:Value→Prop}(h:Mv v K):K v:=qgp.1 h
theorem Mv.mk{v:Value}{K:Value→Prop}(h:K v):Mv v K:=qgp.2 h
def qjS(c:Bool)(a b:Value)(K:Value→Prop):Prop:=match c with|true=>Mv a K|false=>Mv b K
theorem qjS.h{c:Bool}{a b:Value}{K:Value→Prop}(h:qjS c a b K):K (if c then a else b):=by cases c <;>exact Mv.h h
theorem qjS.mk{c:Bool}{a b:Value}{K:Value→Prop}(h:K (if c then a else b)):qjS c a b K:=by cases c <;>exact Mv.mk h
def q5b(k k':IntKind)(p:Prop):Prop:=match Nat.beq (kn k) (kn k') with|true=>p|false=>False
theorem q5b.h{k k':IntKind}{p:Prop}(h:q5b k k' p):k=k'∧p:=by
 unfold q5b at h
 split at h
 ·exact⟨qc7 (by assumption),h⟩
 ·exact h.elim
theorem q5b.mk{k:IntKind}{p:Prop}(h:p):q5b k k p:=by unfold q5b;cases k <;>exact h
structure Ld(W0:World)(own:Own)(a:Addr)(K:Value→Prop):Prop where
 h:∃v,Kn W0 own (fun w=>w.cell? a=some v)∧K v
theorem gLd{a b c d}(h:Ld a b c d):Ld a b c d:=h
structure LdN(W0:World)(own:Own)(a:Addr)(n:Nat)(K:Array Value→Prop):Prop where
 h:∃vs:Array Value,vs.toList.length=n∧Kn W0 own (fun w=>∀j,j<n→w.cell? (a.add j)=vs.toList[j]?)∧K vs
theorem q2H{a b c d e}(h:LdN a b c d e):LdN a b c d e:=h
def q2D:Value→Bool
 | .agg _| .tuple _=>false
 |_=>true
structure StT(W0:World)(own:Own)(a:Addr)(v:Value)(K:Own→Prop):Prop where
 h:q2D v=true∧∃own',(∀w,St W0 own w→(w.cell? a).isSome=true∧w.frozen? a=false∧St W0 own' (w.setCell a v))∧K own'
def q4J(w:World)(a:Addr):Nat→List Value→World
 |_,[]=>w
 |j,v::vs=>q4J (w.setCell (a.add j) v) a (j+1) vs
structure StN(W0:World)(own:Own)(a:Addr)(vs:List Value)(K:Own→Prop):Prop where
 h:(∀v∈vs,q2D v=true)∧∃own',(∀w,St W0 own w→(∀j,j<vs.length→(w.cell? (a.add j)).isSome=true∧w.frozen? (a.add j)=false)∧St W0 own' (q4J w a 0 vs))∧K own'
structure New(W0:World)(own:Own)(o:Obj)(K:Nat→Own→Prop):Prop where
 h:∀b,W0.heap.size≤b→(∀e∈own,e.1<b)→K b ((b,(· =o))::own)
structure MkT(W0:World)(own:Own)(T:TypeId)(bytes:Nat)(zs:List Value)(l c:Int)(K:Value→Own→Prop):Prop where
 h:∃l' c':Nat,l=l'∧c=c'∧l'≤c'∧c'*bytes≤281474976710656∧∀b,W0.heap.size≤b→K (.slice (some ⟨b,0,none⟩) l' c') ((b,fun o=>o=Obj.cells (List.replicate c' zs).flatten.toArray T)::own)
def Holds(a:Option Addr)(cs:List Value)(w:World):Prop:=∀ad,a=some ad→∀j v,cs[j]? =some v→w.cell? (ad.add j)=some v
structure qb9(W0:World)(own:Own)(T:TypeId)(sz bytes:Nat)(zs:List Value)(a:Option Addr)(n c:Nat)(a2:Option Addr)(m:Nat)(K:Value→Own→Prop):Prop where
 h:∃cs ys:List Value,cs.length=n*sz∧ys.length=m*sz∧(a=none→cs= [])∧(a2=none→ys= [])∧(∀v∈ys,q2D v=true)∧Kn W0 own (Holds a cs)∧Kn W0 own (Holds a2 ys)∧
  (n+m≤c→∃own',(∀w,St W0 own w→(∀ad,a=some ad→(∀j,j<ys.length→(w.cell? ((ad.add (n*sz)).add j)).isSome=true∧w.frozen? ((ad.add (n*sz)).add j)=false)∧St W0 own' (q4J w (ad.add (n*sz)) 0 ys))∧(a=none→St W0 own' w))∧K (.slice a (n+m) c) own')∧
  (c<n+m→(n+m)*bytes≤140737488355328∧∀b c',W0.heap.size≤b→n+m≤c'→∃own',Ent W0 ((b,fun o=>o=Obj.cells (cs++ys++(List.replicate (c'-(n+m)) zs).flatten).toArray T)::own) own'∧K (.slice (some ⟨b,0,none⟩) (n+m) c') own')
structure qnb(W0:World)(own:Own)(T:TypeId)(bytes:Nat)(zs:List Value)(a:Option Addr)(l c:Nat)(m:Int)(K:Value→Own→Prop):Prop where
 h:(m=0∧l≤c∧K (.slice a l c) own)∨l=0∧c=0∧∃m':Nat,m=m'∧0<m'∧m'*bytes≤281474976710656∧∀b c',W0.heap.size≤b→m'≤c'→K (.slice (some ⟨b,0,none⟩) m' c') ((b,fun o=>o=Obj.cells (List.replicate c' zs).flatten.toArray T)::own)
def okF(P:Program)(k:FuncId):Bool:=match P.funcs[k]? with
 |some fn=> !(fn.name== "runtime.NumGoroutine")&&fn.body.isSome
 |none=>false
structure q0w(P:Program)(W0:World)(own:Own)(k:FuncId)(args:List Value)(K:Value→Own→Prop):Prop where
 h:∀w,St W0 own w→Calls P k args.toArray w fun e w'=>∃v own',e= .returned v∧St W0 own' w'∧K v own'
theorem qe{a b c d e f}(h:q0w a b c d e f):q0w a b c d e f:=h
structure q2X(P:Program)(W0:World)(own:Own)(k:FuncId)(args:List Value)(K:Value→Own→Prop):Prop where
 h:okF P k=true∧q0w P W0 own k args K
structure q92(P:Program)(W0:World)(own:Own)(l:Nat)(args:List Value)(K:Value→Own→Prop):Prop where
 h:∀w,St W0 own w→∃k tmps assign body,(Instr.yield l args.toArray).run P w= .ok (.round l k tmps assign body) w∧RoundIn Fence.wide 0 P l k tmps assign body w fun e w'=>∃v own',e= .returned v∧St W0 own' w'∧K v own'
structure qmn(W0:World)(own:Own)(b:Nat)(K:Value→Own→Prop):Prop where
 h:∃(s:ByteArray) (pos:Nat),(b,fun o=>o=Obj.stringIter s pos)∈own∧(pos<s.size→∃own',Up b (fun o=>o=Obj.stringIter s pos) (fun o=>o=Obj.stringIter s (pos+(Utf8.decode s pos).2)) own own'∧K (.tuple #[.bool true, .int .i64 pos, .int .i32 (Utf8.decode s pos).1]) own')∧(¬pos<s.size→K (.tuple #[.bool false]) own)
structure qnf(W0:World)(own:Own)(K:Nat→Own→Prop):Prop where
 h:∀b,W0.heap.size≤b→K b ((b,q2C [])::own)
structure qmm(own:Own)(kk b:Nat)(key:Value)(K:Option Value→Prop):Prop where
 h:∃l r,(b,q2C l)∈own∧q1J kk key l=some r∧K r
structure qne(own:Own)(kk b:Nat)(key v:Value)(K:Own→Prop):Prop where
 h:∃l own',Up b (q2C l) (q2C (q52 kk key v l)) own own'∧(q1J kk key l).isSome=true∧K own'
noncomputable def Bld(f:Fr)(parts:List (Nat×Nat×Operand)):List Value→(List Value→Prop)→Prop:=
 List.rec (motive:=fun _=>List Value→(List Value→Prop)→Prop) (fun cs K=>K cs) (fun p _ ih cs K=>match ev f p.2.2 with
  | .agg vs=>(match Nat.beq vs.toList.length p.2.1 with|true=>ih (cs.take p.1++vs.toList++cs.drop (p.1+p.2.1)) K|false=>False)
  |v=>Mv v fun v=>(match Nat.beq p.2.1 1 with|true=>ih (cs.set p.1 v) K|false=>False)) parts
theorem qba{f:Fr}{cs:List Value}{K:List Value→Prop}:Bld f [] cs K=K cs:=rfl
theorem q1T{f:Fr}{off sz:Nat}{x:Operand}{r:List (Nat×Nat×Operand)}{cs:List Value}{K:List Value→Prop}:Bld f ((off,sz,x)::r) cs K=match ev f x with
  | .agg vs=>(match Nat.beq vs.toList.length sz with|true=>Bld f r (cs.take off++vs.toList++cs.drop (off+sz)) K|false=>False)
  |v=>Mv v fun v=>(match Nat.beq sz 1 with|true=>Bld f r (cs.set off v) K|false=>False):=rfl
def qed(op:BinOp)(k:IntKind)(m n:Int):Int:=
 match op with
 | .and=>k.wrap (BitVec.ofInt k.bits m&&&BitVec.ofInt k.bits n).toNat
 | .or=>k.wrap (BitVec.ofInt k.bits m|||BitVec.ofInt k.bits n).toNat
 | .xor=>k.wrap (BitVec.ofInt k.bits m ^^^ BitVec.ofInt k.bits n).toNat
 |_=>k.wrap (BitVec.ofInt k.bits m&&& ~~~ BitVec.ofInt k.bits n).toNat
structure qjQ(op:BinOp)(k:IntKind)(m n:Int)(K:Int→Prop):Prop where
 h:K (qed op k m n)
def q33(op:BinOp)(k:IntKind)(m:Int)(k':IntKind)(n:Int)(K:Value→Prop):Prop:=
 match op with
 | .add=>q5b k k'<| q58 k (m+n) fun z=>K (.int k z)
 | .sub=>q5b k k'<| q58 k (m-n) fun z=>K (.int k z)
 | .mul=>q5b k k'<| q58 k (m*n) fun z=>K (.int k z)
 | .quo=>q5b k k'<| Quo k m n fun z=>K (.int k z)
 | .rem=>q5b k k'<| Rem m n fun z=>K (.int k z)
 | .and=>q5b k k'<| qjQ .and k m n fun z=>K (.int k z)
 | .or=>q5b k k'<| qjQ .or k m n fun z=>K (.int k z)
 | .xor=>q5b k k'<| qjQ .xor k m n fun z=>K (.int k z)
 | .andNot=>q5b k k'<| qjQ .andNot k m n fun z=>K (.int k z)
 | .shl=>Shl k m n fun z=>K (.int k z)
 | .shr=>Shr k m n fun z=>K (.int k z)
 | .eql=>q5b k k'<| K (.bool (decide (m=n)))
 | .neq=>q5b k k'<| K (.bool (decide (m≠n)))
 | .lss=>q5b k k'<| K (.bool (decide (m<n)))
 | .leq=>q5b k k'<| K (.bool (decide (m≤n)))
 | .gtr=>q5b k k'<| K (.bool (decide (n<m)))
 | .geq=>q5b k k'<| K (.bool (decide (n≤m)))
def XO(P:Program)(W0:World)(f:Fr)(own:Own)(op:IOp)(K:Value→Own→Prop):Prop:=
 match op with
 | .mov x=>Mv (ev f x) fun v=>K v own
 | .pick c a b=>match ev f c with
  | .bool c=>qjS c (ev f a) (ev f b) fun v=>K v own
  |_=>False
 | .bin op x y=>match ev f x,ev f y with
  | .int k m, .int k' n=>q33 op k m k' n fun v=>K v own
  |_,_=>False
 | .sbin op x y=>match ev f x,ev f y with
  | .string a, .string b=>qbp op a b fun v=>K v own
  |_,_=>False
 | .fbin op x y=>match ev f x,ev f y with
  | .float .f64 a, .float .f64 b=>qmk op a b fun r=>K (.bool r) own
  |_,_=>False
 | .flt op x y=>match ev f x,ev f y with
  | .float .f64 a, .float .f64 b=>qml op a b fun r=>K (.float .f64 r) own
  |_,_=>False
 | .i2f x=>match ev f x with
  | .int _ n=>K (.float .f64 (FloatKind.f64.nearest n)) own
  |_=>False
 | .f2i k x=>match ev f x with
  | .float .f64 b=>F2I k b fun n=>K (.int k n) own
  |_=>False
 | .fbits x=>match ev f x with
  | .float .f64 b=>K (.int .u64 b) own
  |_=>False
 | .fpk neg x y=>match ev f x,ev f y with
  | .float .f64 a, .float .f64 b=>K (.float .f64 (q4B neg a b)) own
  |_,_=>False
 | .ffrom x=>match ev f x with
  | .int .u64 n=>K (.float .f64 n.toNat) own
  |_=>False
 | .beq neg x y=>match ev f x,ev f y with
  | .bool a, .bool b=>K (.bool (bif neg then decide (a≠b) else decide (a=b))) own
  |_,_=>False
 | .not x=>match ev f x with
  | .bool a=>K (.bool (!a)) own
  |_=>False
 | .neg x=>match ev f x with
  | .int k a=>q58 k (0-a) fun z=>K (.int k z) own
  |_=>False
 | .conv k x=>match ev f x with
  | .int _ a=>q58 k a fun z=>K (.int k z) own
  |_=>False
 | .fad off x=>match ev f x with
  | .pointer (some ⟨b,o,none⟩)=>K (.pointer (some ⟨b,o+off,none⟩)) own
  |_=>False
 | .fld off x=>match ev f x with
  | .agg cs=>Sel cs.toList[off]? fun v=>K v own
  |_=>False
 | .fldN off n x=>match ev f x with
  | .agg cs=>qnh cs.toList off n fun v=>K v own
  |_=>False
 | .ixs sz x i=>match ev f x,ev f i with
  | .slice a len _, .int _ i=>IxS a sz i len fun ad=>K (.pointer (some ad)) own
  |_,_=>False
 | .sls sz x lo hi mx=>match ev f x,evI f lo,evI f hi,evI f mx with
  | .slice a n c,some lo,some hi,some mx=>qjH a n c sz lo hi mx fun v=>K v own
  |_,_,_,_=>False
 | .sslc x lo hi=>match ev f x,evI f lo,evI f hi with
  | .string s,some lo,some hi=>qnj s lo hi fun v=>K v own
  |_,_,_=>False
 | .sidx x i=>match ev f x,ev f i with
  | .string s, .int _ i=>qni s i fun v=>K v own
  |_,_=>False
 | .scat x y=>match ev f x,ev f y with
  | .string a, .string b=>qnB a b fun v=>K v own
  |_,_=>False
 | .ibs x c=>match ev f x,ev f c with
  | .string s, .int .u8 c=>K (.int .i64 (qe1 s c)) own
  |_,_=>False
 | .capb x=>match ev f x with
  | .slice _ _ c=>K (.int .i64 c) own
  |_=>False
 | .nilq neg k x y=>match qip k (ev f x) (ev f y) with
  |some b=>K (.bool (bif neg then !b else b)) own
  |none=>False
 | .ageq neg ks x y=>match ev f x,ev f y with
  | .agg xs, .agg ys=>EqT ks xs.toList ys.toList fun r=>K (.bool (bif neg then !r else r)) own
  |_,_=>False
 | .mkf k cap=>K (.func (.func k) #[] (cap.map (ev f)).toArray) own
 | .mk t _ bytes zs l c=>match ev f l,ev f c with
  | .int _ l, .int _ c=>MkT W0 own t bytes zs l c K
  |_,_=>False
 | .app t sz bytes zs s x=>match ev f s,ev f x with
  | .slice a n c, .slice a2 m _=>qb9 W0 own t sz bytes zs a n c a2 m K
  |_,_=>False
 | .appz t bytes zs s n=>match ev f s,ev f n with
  | .slice a l c, .int .i64 m=>qnb W0 own t bytes zs a l c m K
  |_,_=>False
 | .clr zs x=>match ev f x with
  | .slice (some a) n _=>StN W0 own a (List.replicate n zs).flatten fun own'=>K (.tuple #[]) own'
  | .slice none _ _=>K (.tuple #[]) own
  |_=>False
 | .callv x args=>match ev f x with
  | .func (.func k) first cap=>q2X P W0 own k (first.toList++args.map (ev f)++cap.toList) K
  | .func (.yield l) first _=>q92 P W0 own l (first.toList++args.map (ev f)) K
  |_=>False
 | .ixa len sz x i=>match ev f x,ev f i with
  | .pointer (some ⟨b,o,none⟩), .int _ i=>Idx i len fun j=>K (.pointer (some ⟨b,o+j*sz,none⟩)) own
  |_,_=>False
 | .idx len x i=>match ev f x,ev f i with
  | .agg cs, .int _ i=>Idx i len fun j=>Sel cs.toList[j]? fun v=>K v own
  |_,_=>False
 | .idxN len sz x i=>match ev f x,ev f i with
  | .agg cs, .int _ i=>Idx i len fun j=>qnh cs.toList (j*sz) sz fun v=>K v own
  |_,_=>False
 | .ld x=>match ev f x with
  | .pointer (some a)=>Ld W0 own a fun v=>K v own
  |_=>False
 | .ldN n x=>match ev f x with
  | .pointer (some a)=>LdN W0 own a n fun vs=>K (.agg vs) own
  |_=>False
 | .st x v=>match ev f x with
  | .pointer (some a)=>Mv (ev f v) fun v=>StT W0 own a v fun own'=>K undef own'
  |_=>False
 | .stN n x v=>match ev f x,ev f v with
  | .pointer (some a), .agg cs=>cs.toList.length=n∧StN W0 own a cs.toList fun own'=>K undef own'
  |_,_=>False
 | .box t x=>match ev f x with
  | .agg cs=>New W0 own (.cells cs t) fun b own'=>K (.pointer (some ⟨b,0,none⟩)) own'
  |v=>Mv v fun v=>New W0 own (.cells #[v] t) fun b own'=>K (.pointer (some ⟨b,0,none⟩)) own'
 | .new t z=>match z with
  | .agg cs=>New W0 own (.cells cs t) fun b own'=>K (.pointer (some ⟨b,0,none⟩)) own'
  |z=>New W0 own (.cells #[z] t) fun b own'=>K (.pointer (some ⟨b,0,none⟩)) own'
 | .ext x i=>match ev f x with
  | .tuple vs=>Sel vs.toList[i]? fun v=>K v own
  |_=>False
 | .len x=>match ev f x with
  | .slice _ n _=>K (.int .i64 n) own
  |_=>False
 | .lens x=>match ev f x with
  | .string s=>K (.int .i64 s.size) own
  |_=>False
 | .nilc x=>match ev f x with
  | .pointer (some a)=>K (.pointer (some a)) own
  |_=>False
 | .mm mx x y=>match ev f x,ev f y with
  | .int k a, .int _ b=>MM mx a b fun z=>K (.int k z) own
  |_,_=>False
 | .bld zero parts=>Bld f parts zero fun cs=>K (.agg cs.toArray) own
 | .blds t len zero parts=>Bld f parts zero fun cs=>New W0 own (.cells cs.toArray t) fun b own'=>K (.slice (some ⟨b,0,none⟩) len len) own'
 | .call k args=>q0w P W0 own k (args.map (ev f)) K
 | .nifc neg x=>match ev f x with
  | .nilIface=>K (.bool (!neg)) own
  | .iface _ _=>K (.bool neg) own
  |_=>False
 | .iter x=>match ev f x with
  | .string s=>New W0 own (.stringIter s 0) fun b own'=>K (.pointer (some ⟨b,0,none⟩)) own'
  |_=>False
 | .next x=>match ev f x with
  | .pointer (some ⟨b,0,none⟩)=>qmn W0 own b K
  |_=>False
 | .mkm=>qnf W0 own fun b own'=>K (.map (some b)) own'
 | .mlk kk z ok x i=>match ev f x with
  | .map none=>K (qjL z ok none) own
  | .map (some b)=>qmm own kk b (ev f i) fun r=>K (qjL z ok r) own
  |_=>False
 | .mup kk x i v=>match ev f x with
  | .map (some b)=>qne own kk b (ev f i) (ev f v) fun own'=>K undef own'
  |_=>False
 |_=>False
theorem qO(b o n:Nat):(Addr.mk b o none).add n=⟨b,o+n,none⟩:=by
 unfold Addr.add
 split
 ·simp_all
 ·rfl
def qcC:IOp→Bool
 | .st _ _| .stN _ _ _| .box _ _| .new _ _| .call _ _| .callv _ _| .blds _ _ _ _| .mk _ _ _ _ _ _| .app _ _ _ _ _ _| .appz _ _ _ _ _| .clr _ _| .flt _ _ _| .iter _| .next _| .mkm| .mup _ _ _ _| .bad=>false
 |_=>true
def q5a(P:Program)(f:Fr)(o:Oper)(w:World)(own:Own)(W0:World)(K:Value→Own→Prop)(ro:Bool):Prop:=
 (∃v,(execOp (ev f) o).run P w= .ok (.value v) w∧K v own)∨
 (ro=false∧((∃v w' own',(execOp (ev f) o).run P w= .ok (.value v) w'∧St W0 own' w'∧K v own')∨
 (∃w' own',(execOp (ev f) o).run P w= .ok .skip w'∧St W0 own' w'∧K undef own')∨
 (∃k args,(execOp (ev f) o).run P w= .ok (.enter k args) w∧q0w P W0 own k args.toList K)∨
 (∃l k tmps assign body,(execOp (ev f) o).run P w= .ok (.round l k tmps assign body) w∧RoundIn Fence.wide 0 P l k tmps assign body w fun e w'=>∃v own',e= .returned v∧St W0 own' w'∧K v own')))
theorem qbJ{a:Act}{f:Fr}(hf:∀t,a.tmps.getD t undef=f t):a.eval=ev f:=by
 funext x
 cases x <;>simp only[Act.eval,ev,hf]
section
variable{P:Program}{o:Oper}{w:World}{own:Own}{W0:World}{K:Value→Own→Prop}{f:Fr}
theorem qn{v:Value}{ro:Bool}(_hS:St W0 own w)(hr:(execOp (ev f) o).run P w= .ok (.value v) w)(hk:K v own):q5a P f o w own W0 K ro:=
 .inl ⟨v,hr,hk⟩
theorem qhJ{s:Sem Value}{v:Value}{ro:Bool}(he:execOp (ev f) o=(do pure (.value (←s))))(hS:St W0 own w)(hr:s.run P w= .ok v w)(hk:K v own):q5a P f o w own W0 K ro:=
 qn hS (by rw[he];simp[hr]) hk
theorem q8a{ro:Bool}{op:BinOp}{t t':TypeId}{x y:Operand}{k k':IntKind}{m n:Int}(ho:o.op= .binOp op t x y t')(hx:ev f x= .int k m)(hy:ev f y= .int k' n)(hS:St W0 own w)
  (h:q33 op k m k' n fun v=>K v own):q5a P f o w own W0 K ro:=by
 have he:execOp (ev f) o=(do pure (.value (←(do eqGuard op t x y (ev f x) (ev f y);binOp op t (ev f x) (ev f y))))):=by unfold execOp;rw[ho]
 have hg:∀w,(eqGuard op t x y (ev f x) (ev f y)).run P w= .ok () w:=by
  intro w;unfold eqGuard;rw[hx,hy];cases op <;>simp
 refine(?_:∃v,(binOp op t (ev f x) (ev f y)).run P w= .ok v w∧K v own).elim fun v hv=>qhJ he hS (by simp[hg,hv.1]) hv.2
 rw[hx,hy];cases op <;>simp only[q33] at h
 case add=>obtain⟨rfl,⟨g⟩⟩:=h.h;exact⟨_,by simp[binOp,Op.intArith],g⟩
 case sub=>obtain⟨rfl,⟨g⟩⟩:=h.h;exact⟨_,by simp[binOp,Op.intArith],g⟩
 case mul=>obtain⟨rfl,⟨g⟩⟩:=h.h;exact⟨_,by simp[binOp,Op.intArith],g⟩
 case quo=>obtain⟨rfl,⟨h0,g⟩⟩:=h.h;exact⟨_,by simp[binOp,Op.intDiv,h0],g⟩
 case rem=>obtain⟨rfl,⟨h0,g⟩⟩:=h.h;exact⟨_,by simp[binOp,Op.intDiv,h0],g⟩
 case and=>obtain⟨rfl,⟨g⟩⟩:=h.h;exact⟨_,by simp[binOp,Op.intBits,qed],g⟩
 case or=>obtain⟨rfl,⟨g⟩⟩:=h.h;exact⟨_,by simp[binOp,Op.intBits,qed],g⟩
 case xor=>obtain⟨rfl,⟨g⟩⟩:=h.h;exact⟨_,by simp[binOp,Op.intBits,qed],g⟩
 case andNot=>obtain⟨rfl,⟨g⟩⟩:=h.h;exact⟨_,by simp[binOp,Op.intBits,qed],g⟩
 case shl=>obtain⟨h0,h⟩:=h;exact⟨_,by simp[binOp,Op.shift,Int.not_lt.2 h0],h⟩
 case shr=>obtain⟨h0,h⟩:=h;exact⟨_,by simp[binOp,Op.shift,Int.not_lt.2 h0],h⟩
 case eql=>obtain⟨rfl,g⟩:=h.h;exact⟨_,by simp[binOp,Op.intCmp];rfl,g⟩
 case neq=>obtain⟨rfl,g⟩:=h.h;exact⟨_,by simp[binOp,Op.intCmp,bne];rfl,g⟩
 case lss=>obtain⟨rfl,g⟩:=h.h;exact⟨_,by simp[binOp,Op.intCmp],g⟩
 case leq=>obtain⟨rfl,g⟩:=h.h;exact⟨_,by simp[binOp,Op.intCmp],g⟩
 case gtr=>obtain⟨rfl,g⟩:=h.h;exact⟨_,by simp[binOp,Op.intCmp],g⟩
 case geq=>obtain⟨rfl,g⟩:=h.h;exact⟨_,by simp[binOp,Op.intCmp],g⟩
theorem q6x{a:Addr}{v:Value}(h:w.cell? a=some v):(load a).run P w= .ok v w:=by
 simp[load,Sem.run,h]
theorem q3V{a:Addr}:∀(n i:Nat) (acc vs:List Value),vs.length=n→(∀j,j<n→w.cell? (a.add (i+j))=vs[j]?)→
  (loadCellsFrom a i n acc.toArray).run P w= .ok (acc++vs).toArray w
 |0,i,acc,vs,hl,_=>by
  have:vs= []:=zA.1 hl;subst this;simp[loadCellsFrom]
 |n+1,i,acc,vs,hl,h=>by
  match vs,hl with
  |v::vs,hl=>
   have h0:=h 0 Y6;simp only[Zy,Zw] at h0;have ih:=q3V n (i+1) (acc++ [v]) vs (by simpa using hl) (fun j hj=>by
    have:=h (j+1) Y6
    simpa [Nat.add_assoc,Nat.add_comm 1 j] using this)
   simp only[loadCellsFrom,Sem.run_bind,q6x h0,Result.andThen_ok,List.push_toArray];rw[ih];simp
theorem q3f{a:Addr}{n:Nat}{vs:List Value}(hl:vs.length=n)(h:∀j,j<n→w.cell? (a.add j)=vs[j]?):
  (loadCells a n).run P w= .ok vs.toArray w:=by
 have:=q3V (P:=P) n 0 [] vs hl (fun j hj=>by simpa using h j hj)
 simpa [loadCells] using this
theorem q05{a:Addr}{v:Value}(k:Nat):(w.setCell a v).heap[k]? =if a.block=k then(w.heap[k]?).map (fun
   | .cells c elem qkQ=> .cells (if a.spot.isSome then c else c.setIfInBounds a.off v) elem qkQ
   |o=>o) else w.heap[k]? :=by
 simp only[World.setCell,ZG];rfl
theorem cell?_setCell_isSome{a b:Addr}{v:Value}(h:(w.cell? b).isSome=true):((w.setCell a v).cell? b).isSome=true:=by
 unfold World.cell? at*;rw[q05]
 by_cases e:a.block=b.block
 ·rw[if_pos e]
  rcases hx:w.heap[b.block]? with _|x
  ·simp[hx] at h
  ·rw[hx] at h;cases x <;>simp_all
   split <;>simp_all
   split <;>simp_all
 ·rw[if_neg e];exact h
theorem frozen?_setCell'{a b:Addr}{v:Value}:(w.setCell a v).frozen? b=w.frozen? b:=by
 unfold World.frozen?;rw[q05]
 by_cases e:a.block=b.block
 ·rw[if_pos e]
  rcases hx:w.heap[b.block]? with _|x
  ·simp
  ·cases x <;>simp
 ·rw[if_neg e]
theorem q3W{a:Addr}{v:Value}(h1:q2D v=true)(h:(w.cell? a).isSome=true)(hf:w.frozen? a=false):(store a v).run P w= .ok () (w.setCell a v):=by
 obtain⟨u,hu⟩:=Zk.1 h;cases v <;>simp_all [store,Sem.run,q2D]
theorem q11{a:Addr}:∀(vs:List Value) (i:Nat) (w:World),(∀v∈vs,q2D v=true)→
  (∀j,j<vs.length→(w.cell? (a.add (i+j))).isSome=true∧w.frozen? (a.add (i+j))=false)→(storeCells a vs i).run P w= .ok () (q4J w a i vs)
 | [],i,w,_,_=>by simp[storeCells,q4J]
 |v::vs,i,w,h1,h=>by
  have h0:=h 0 Y8;simp only[Zy] at h0;simp only[storeCells,Sem.run_bind,q3W (h1 v zm) h0.1 h0.2,Result.andThen_ok,q4J];refine q11 vs (i+1) _ (fun x hx=>h1 x (zp _ hx)) fun j hj=> ?_
  have:=h (j+1) (by simpa using hj);have e:i+1+j=i+(j+1):=Y6;rw[e];exact⟨cell?_setCell_isSome this.1,by rw[frozen?_setCell'];exact this.2⟩
theorem q0z{t:TypeId}{b:Bool}(h:q3P P t=some b):(isAgg t).run P w= .ok b w:=by
 unfold q3P at h;unfold isAgg;cases hu:P.underlying t with
 |none=>simp[hu] at h
 |some d=>
  simp only[underlying,Sem.run_bind,run_program,Result.andThen_ok,hu];cases d <;>simp_all
theorem q0G{t:TypeId}{n:Nat}(h:szT P t=some n):(sizeOf t).run P w= .ok n w:=by
 unfold szT at h;unfold sizeOf typeInfo;cases hu:P.info? t with
 |none=>simp[hu] at h
 |some d=>simp_all
theorem ql{t:TypeId}{d:TypeDesc}(h:P.underlying t=some d):(underlying t).run P w= .ok d w:=by
 simp[underlying,h]
theorem q3s{t:TypeId}{z:Value}(h:q6N P t=some z):(zeroValue t).run P w= .ok z w:=by
 unfold q6N at h;unfold zeroValue typeInfo;cases hu:P.info? t with
 |none=>simp[hu] at h
 |some d=>simp_all
theorem qiG{vs:List Value}:∀(off:Nat) (cs:List Value),off+vs.length≤cs.length→
  (vs.toArray.zipIdx.foldl (fun(cs:Array Value) (c,j)=>cs.setIfInBounds (off+j) c) cs.toArray)=(cs.take off++vs++cs.drop (off+vs.length)).toArray:=by
 intro off cs hl;have key:∀(vs:List Value) (k:Nat) (cs:List Value),off+k+vs.length≤cs.length→
   ((vs.zipIdx k).foldl (fun(cs:Array Value) (c,j)=>cs.setIfInBounds (off+j) c) cs.toArray)=(cs.take (off+k)++vs++cs.drop (off+k+vs.length)).toArray:=by
  intro vs
  induction vs with
  |nil=>intro k cs _;simp
  |cons v vs ih=>
   intro k cs hl;simp only[zG] at hl;simp only[List.zipIdx_cons,List.foldl_cons];have e0:cs.toArray.setIfInBounds (off+k) v=(cs.set (off+k) v).toArray:=Y8;rw[e0,ih (k+1) _ (by simp;omega)]
   congr 1
   have e1:off+(k+1)=off+k+1:=Y6;rw[e1,List.take_set,yT Y6,List.take_succ_eq_append_getElem Y6];have e2:(List.take (off+k) cs++ [cs[off+k]]).set (off+k) v=List.take (off+k) cs++ [v]:=by
    rw[ZH _ _ (by simp;omega)];have:off+k-(List.take (off+k) cs).length=0:=by simp;omega
    rw[this];rfl
   rw[e2];simp[Nat.add_assoc,Nat.add_comm 1]
 have:=key vs 0 cs (by simpa using hl);rw[←Array.foldl_toList]
 simpa using this
theorem qbP{place:Nat→Option (Nat×Nat)}{i off sz:Nat}{v:Value}{vs cs:List Value}{rest:List (Nat×Value)}(hp:place i=some (off,sz))(hc:v.cells=vs.toArray)(hs:vs.length=sz)
  (hle:off+sz≤cs.length):Instr.fill place cs.toArray ((i,v)::rest)=Instr.fill place (cs.take off++vs++cs.drop (off+sz)).toArray rest:=by
 subst hs;have hm:=qiG (vs:=vs) off cs hle;rw[←hm];simp only[Instr.fill,hp,hc];rw[if_neg (by simp;omega)]
theorem q7n(cs:List Value)(off:Nat)(v:Value)(h:off+1≤cs.length):cs.set off v=cs.take off++ [v]++cs.drop (off+1):=by
 rw[Za,if_pos Y6];simp
theorem q5W{place:Nat→Option (Nat×Nat)}:∀(parts:List (Nat×Operand)) (l:List (Nat×Nat×Operand)) (cs:List Value) (K':List Value→Prop),q0Z P place cs.length parts=some l→Bld f l cs K'→
  ∃cs',Instr.fill place cs.toArray (parts.map fun p=>(p.1,ev f p.2))=some cs'.toArray∧K' cs'∧cs'.length=cs.length
 | [],l,cs,K',hl,h=>by
  simp only[q0Z,Option.some.injEq] at hl;subst hl;exact⟨cs,rfl,h,rfl⟩
 |(i,x)::parts,l,cs,K',hl,h=>by
  simp only[q0Z] at hl
  split at hl
  ·rename_i off sz hp
   split at hl
   ·rename_i hle
    split at hl
    ·rename_i l' hl';simp only[Option.some.injEq] at hl;subst hl;rw[q1T] at h;have key:∀vs:List Value,(ev f x).cells=vs.toArray→vs.length=sz→Bld f l' (cs.take off++vs++cs.drop (off+sz)) K'→
       ∃cs',Instr.fill place cs.toArray (((i,x)::parts).map fun p=>(p.1,ev f p.2))=some cs'.toArray∧K' cs'∧cs'.length=cs.length:=by
      intro vs hc hs h;have hlen:(cs.take off++vs++cs.drop (off+sz)).length=cs.length:=by simp;omega
      obtain⟨cs',h1,h2,h3⟩:=q5W parts l' _ K' (by rw[hlen];exact hl') h;exact⟨cs',by rw[zF,qbP hp hc hs hle];exact h1,h2,h3.trans hlen⟩
     split at h
     ·rename_i vs hx
      split at h
      ·rename_i hb;exact key vs.toList (by rw[hx];simp[Value.cells]) (Zt hb) h
      ·exact h.elim
     ·rename_i v hne;have h':=Mv.h (K:=fun v=>(match Nat.beq sz 1 with|true=>Bld f l' (cs.set off v) K'|false=>False)) h
      split at h'
      ·rename_i hb;have hsz:sz=1:=Zt hb;have hc:(ev f x).cells= #[ev f x]:=by
        unfold Value.cells
        split
        ·rename_i cs hx;exact(hne cs hx).elim
        ·rfl
       rw[q7n cs off _ Y6] at h';exact key [ev f x] hc (by simp[hsz]) (by rw[hsz];exact h')
      ·exact h'.elim
    ·cases hl
   ·cases hl
  ·cases hl
theorem qiv{fs:Array Field}(hok:q6d P fs=true):(fs.mapM fun f=>(Prod.mk f.offset<$>sizeOf f.type:Sem (Nat×Nat))).run P w= .ok (fs.map fun f=>(f.offset,(szT P f.type).getD 0)) w:=by
 obtain⟨fs⟩:=fs;rw[List.mapM_toArray];simp only[q6d,List.all_toArray] at hok;have key:∀l:List Field,(l.all fun f=>(szT P f.type).isSome)=true→(l.mapM fun f=>(Prod.mk f.offset<$>sizeOf f.type:Sem (Nat×Nat))).run P w= .ok (l.map fun f=>(f.offset,(szT P f.type).getD 0)) w:=by
  intro l
  induction l with
  |nil=>intro _;simp
  |cons f l ih=>
   intro h;simp only[List.all_cons,zx] at h;obtain⟨n,hn⟩:=Zk.1 h.1;simp[List.mapM_cons,q0G hn,ih h.2,hn]
 simp[key fs hok]
theorem q6c{k:Nat}{ks:List Nat}{xs ys:List Value}{r:Bool}(h:eqC (k::ks) xs ys=some r):∃x xs' y ys' a b,xs=x::xs'∧ys=y::ys'∧q0I k x y=some a∧eqC ks xs' ys'=some b∧r=(a&&b):=by
 match xs,ys,h with
 |x::xs',y::ys',h=>
  simp only[eqC] at h;cases ha:q0I k x y with
  |none=>rw[ha] at h;cases h
  |some a=>
   rw[ha] at h;cases hb:eqC ks xs' ys' with
   |none=>rw[hb] at h;cases h
   |some b=>
    rw[hb] at h;exact⟨x,xs',y,ys',a,b,rfl,rfl,ha,hb,(Option.some.inj h).symm⟩
 | [],[],h=>simp[eqC] at h
 | [],_::_,h=>simp[eqC] at h
 |_::_,[],h=>simp[eqC] at h
theorem q4r:∀(ks1 ks2:List Nat) (xs ys:List Value) (r:Bool),eqC (ks1++ks2) xs ys=some r→
  ∃r1 r2,eqC ks1 (xs.take ks1.length) (ys.take ks1.length)=some r1∧eqC ks2 (xs.drop ks1.length) (ys.drop ks1.length)=some r2∧r=(r1&&r2)
 | [],ks2,xs,ys,r,h=>⟨true,r,by simp[eqC],by simpa using h,Y8⟩
 |k::ks1,ks2,xs,ys,r,h=>by
  obtain⟨x,xs',y,ys',a,b,rfl,rfl,ha,hb,rfl⟩:=q6c h;obtain⟨r1,r2,h1,h2,rfl⟩:=q4r ks1 ks2 xs' ys' b hb;exact⟨a&&r1,r2,by simp[eqC,ha,h1],by simpa using h2,by simp[Bool.and_assoc]⟩
def q9X(P:Program)(t:TypeId)(x:Value):Prop:=(q3P P t=some true→∃cs,x= .agg cs)∧(q3P P t=some false→x.cells= #[x])
theorem qc6{n:Nat}{t:TypeId}{ks:List Nat}(h:q2j P n t=some ks):(q3P P t=some true)∨(q3P P t=some false∧∃k,ks= [k]):=by
 cases n with
 |zero=>simp[q2j] at h
 |succ n=>
  unfold q2j at h
  split at h
  ·rename_i hu;exact .inr ⟨by simp[q3P,hu],_,(Option.some.inj h).symm⟩
  ·rename_i hu;exact .inr ⟨by simp[q3P,hu],_,(Option.some.inj h).symm⟩
  ·rename_i hu;exact .inr ⟨by simp[q3P,hu],_,(Option.some.inj h).symm⟩
  ·rename_i hu;exact .inl (by simp[q3P,hu])
  ·rename_i hu;exact .inl (by simp[q3P,hu])
  ·cases h
theorem q8c{k:Nat}{x y:Value}{r:Bool}(h:q0I k x y=some r):x.cells= #[x]∧y.cells= #[y]:=by
 unfold q0I at h
 split at h <;>first|exact⟨rfl,rfl⟩|cases h
theorem q9P{t:TypeId}{n:Nat}{ks:List Nat}{xs ys:Array Value}{off:Nat}{r:Bool}(hk:q2j P n t=some ks)(hsz:szT P t=some ks.length)
  (h:eqC ks ((xs.toList.drop off).take ks.length) ((ys.toList.drop off).take ks.length)=some r) (w:World):
  ∃a b,(part t xs off).run P w= .ok a w∧(part t ys off).run P w= .ok b w∧q9X P t a∧q9X P t b∧a.cells.toList=(xs.toList.drop off).take ks.length∧b.cells.toList=(ys.toList.drop off).take ks.length:=by
 rcases qc6 hk with ha|⟨ha,k,rfl⟩
 ·refine⟨.agg (xs.extract off (off+ks.length)), .agg (ys.extract off (off+ks.length)),by simp[part,q0z ha,q0G hsz],by simp[part,q0z ha,q0G hsz],⟨fun _=>⟨_,rfl⟩,fun h=>by rw[ha] at h;cases h⟩,⟨fun _=>⟨_,rfl⟩,fun h=>by rw[ha] at h;cases h⟩,?_,?_⟩
  ·simp[Value.cells,Array.toList_extract,List.extract_eq_take_drop]
  ·simp[Value.cells,Array.toList_extract,List.extract_eq_take_drop]
 ·obtain⟨x,xs',y,ys',a,b,hx,hy,ho,hb,rfl⟩:=q6c h;have hx0:xs[off]? =some x:=by
   have:=congrArg (·[0]?) hx
   simpa using this
  have hy0:ys[off]? =some y:=by
   have:=congrArg (·[0]?) hy
   simpa using this
  obtain⟨cx,cy⟩:=q8c ho;have lx:xs'= []:=by
   have:=congrArg List.length hx;simp at this;exact zA.1 Y6
  have ly:ys'= []:=by
   have:=congrArg List.length hy;simp at this;exact zA.1 Y6
  refine⟨x,y,by simp[part,q0z ha,hx0],by simp[part,q0z ha,hy0],⟨fun h=>(by rw[ha] at h;cases h),fun _=>cx⟩,⟨fun h=>(by rw[ha] at h;cases h),fun _=>cy⟩,?_,?_⟩
  ·rw[hx,lx,cx]
  ·rw[hy,ly,cy]
theorem q8l{t:TypeId}{n:Nat}(h:szT P t=some n):∃i,P.info? t=some i∧P.cellsOf t=n:=by
 unfold szT at h;obtain⟨i,hi,hn⟩:=Zc.1 h;exact⟨i,hi,by simp[Program.cellsOf,hi,hn]⟩
theorem q3A:∀(n:Nat) (t:TypeId) (ks:List Nat) (d:Nat) (x y:Value) (r:Bool),q2j P n t=some ks→n≤d→q9X P t x→q9X P t y→eqC ks x.cells.toList y.cells.toList=some r→∀w,(Op.equalIn d t x y).run P w= .ok r w
 |0,_,_,_,_,_,_,h,_,_,_,_,_=>by simp[q2j] at h
 |n+1,t,ks,0,x,y,r,_,hd,_,_,_,_=>by omega
 |n+1,t,ks,d+1,x,y,r,h,hd,hx,hy,he,w=>by
  have one:∀k,ks= [k]→q3P P t=some false→q0I k x y=some r:=by
   rintro k rfl ha;rw[hx.2 ha,hy.2 ha] at he;obtain⟨x',xs',y',ys',a,b,e1,e2,ho,hb,rfl⟩:=q6c he;simp only[List.cons.injEq] at e1 e2;obtain⟨rfl,rfl⟩:=e1;obtain⟨rfl,rfl⟩:=e2;simp only[eqC,Option.some.injEq] at hb;subst hb
   simpa using ho
  unfold q2j at h
  split at h
  ·rename_i k hu;have ho:=one 0 (Option.some.inj h).symm (by simp[q3P,hu])
   match x,y,ho with
   | .int k1 a, .int k2 b,ho=>
    simp only[q0I] at ho
    split at ho
    ·rename_i hk;obtain rfl:=qc7 hk;rw[run_equalIn_int w d t k1 k a b hu];simp only[Option.some.injEq] at ho;rw[←ho];congr 1
    ·cases ho
  ·rename_i hu;have ho:=one 1 (Option.some.inj h).symm (by simp[q3P,hu])
   match x,y,ho with
   | .bool a, .bool b,ho=>
    simp only[q0I,Option.some.injEq] at ho;rw[run_equalIn_bool w d t a b hu,←ho];simp[Bool.beq_eq_decide_eq]
  ·rename_i hu;have ho:=one 2 (Option.some.inj h).symm (by simp[q3P,hu])
   match x,y,ho with
   | .string a, .string b,ho=>
    simp only[q0I,Option.some.injEq] at ho;rw[run_equalIn_string w d t a b hu,ByteArray.toList_eq,ByteArray.toList_eq,←ho]
    congr 1
    by_cases h:a.data.toList=b.data.toList
    ·rw[decide_eq_true h];exact beq_iff_eq.2 h
    ·rw[decide_eq_false h];exact beq_eq_false_iff_ne.2 h
  ·rename_i k e hu
   split at h
   ·rename_i ke hke
    split at h
    ·rename_i hsz;have hks:=Option.some.inj h;obtain⟨ie,hie,hce⟩:=q8l hsz;obtain⟨xs,rfl⟩:=hx.1 (by simp[q3P,hu]);obtain⟨ys,rfl⟩:=hy.1 (by simp[q3P,hu]);rw[run_equalIn_array w d xs ys hu hie,hce];simp only[Value.cells] at he;rw[←hks] at he;have key:∀(m i:Nat) (r:Bool),eqC (List.replicate m ke).flatten (xs.toList.drop (i*ke.length)) (ys.toList.drop (i*ke.length))=some r→(Op.eqItems d e ke.length xs ys (List.range' i m)).run P w= .ok r w:=by
      intro m
      induction m with
      |zero=>
       intro i r h;simp only[yq,yJ] at h;have hr:r=true:=by
        cases hx0:xs.toList.drop (i*ke.length) <;>cases hy0:ys.toList.drop (i*ke.length) <;>rw[hx0,hy0] at h <;>simp[eqC] at h <;>first|exact h|exact h.symm
       subst hr;simp[Op.eqItems]
      |succ m ih=>
       intro i r h;rw[yr,Z2] at h;obtain⟨r1,r2,h1,h2,rfl⟩:=q4r _ _ _ _ _ h;obtain⟨a,b,pa,pb,sa,sb,ca,cb⟩:=q9P hke hsz h1 w;have hr1:=q3A n e ke d a b r1 hke Y6 sa sb (by rw[ca,cb];exact h1) w;rw[yD,yD,←Zz] at h2;have h2':=ih (i+1) r2 h2;rw[List.range'_succ];simp only[Op.eqItems,Sem.run_bind,pa,pb,hr1,Result.andThen_ok];cases r1
       ·simp
       ·simpa using h2'
     rw[List.range_eq_range'];exact key k 0 r (by simpa using he)
    ·cases h
   ·cases h
  ·rename_i fs hu
   split at h
   ·cases h
   ·rename_i hst;obtain⟨xs,rfl⟩:=hx.1 (by simp[q3P,hu]);obtain⟨ys,rfl⟩:=hy.1 (by simp[q3P,hu]);have hfo:P.fieldsOf t=fs:=by simp[Program.fieldsOf,hu]
    rw[run_equalIn_struct w d t xs ys (by rw[hfo];exact hu) (by simpa using hst),hfo];simp only[Value.cells] at he;have key:∀(l:List Field) (off:Nat) (ks:List Nat) (r:Bool),q7c P (q2j P n) l off=some ks→eqC ks (xs.toList.drop off) (ys.toList.drop off)=some r→(Op.eqFields d xs ys l).run P w= .ok r w:=by
     intro l
     induction l with
     |nil=>
      intro off ks r hk h;simp only[q7c,Option.some.injEq] at hk;subst hk;have hr:r=true:=by
       cases hx0:xs.toList.drop off <;>cases hy0:ys.toList.drop off <;>rw[hx0,hy0] at h <;>simp[eqC] at h <;>first|exact h|exact h.symm
      subst hr;simp[Op.eqFields]
     |cons f l ih=>
      intro off ks r hk h;unfold q7c at hk
      split at hk
      ·rename_i kf hkf
       split at hk
       ·rename_i hc
        split at hk
        ·rename_i kr hkr;have:=Option.some.inj hk;subst this;obtain⟨r1,r2,h1,h2,rfl⟩:=q4r _ _ _ _ _ h;obtain⟨a,b,pa,pb,sa,sb,ca,cb⟩:=q9P hkf hc.2.2 h1 w;have hr1:=q3A n f.type kf d a b r1 hkf Y6 sa sb (by rw[ca,cb];exact h1) w;rw[yD,yD] at h2;have h2':=ih _ _ r2 hkr h2;simp only[Op.eqFields,hc.2.1,ne_eq,not_false_eq_true,if_true,hc.1,Sem.run_bind,pa,pb,hr1,Result.andThen_ok];cases r1
         ·simp
         ·simpa using h2'
        ·cases hk
       ·cases hk
      ·cases hk
    exact key fs.toList 0 ks r h (by simpa using he)
  ·cases h
theorem qjE(n:Nat)(h:n≤281474976710656):IntKind.i64.wrap (n:Int)=n:=by
 unfold IntKind.wrap;have h3:((2:Int) ^ IntKind.i64.bits)=18446744073709551616:=rfl;have h4:((2:Int) ^ (IntKind.i64.bits-1))=9223372036854775808:=rfl;simp only[h3,h4,IntKind.signed,yM,decide_eq_true_eq]
 split <;>omega
def OV(v:Option Value)(i:Option Int):Prop:=(i=none∧v=none)∨(∃k n,i=some n∧v=some (.int k n))
theorem q75{f:Fr}{p:Option Operand}{q:Option Int}(hp:evI f p=some q):OV (p.map (ev f)) q:=by
 cases p with
 |none=>simp only[evI,Option.some.injEq] at hp;exact .inl ⟨hp.symm,rfl⟩
 |some x=>
  simp only[evI] at hp
  split at hp
  ·rename_i k i hx;exact .inr ⟨k,i,(Option.some.inj hp).symm,by simp[hx]⟩
  ·cases hp
theorem q5t{isS:Bool}{len cap l r m:Nat}{lo hi mx:Option Value}{lo' hi' mx':Option Int}(h1:OV lo lo')(h2:OV hi hi')(h3:OV mx mx')(e1:lo'.getD 0=l)(e2:hi'.getD len=r)(e3:mx'.getD cap=m)
  (hlr:l≤r) (hrm:hi'.isSome=true→r≤m) (hmc:mx'.isSome=true→m≤cap) (hmh:mx'.isSome=true→hi'.isSome=true) (w:World):(Instr.sliceBounds isS len cap lo hi mx).run P w= .ok (l,r,m) w:=by
 rcases h3 with ⟨rfl,rfl⟩|⟨k3,i3,rfl,rfl⟩ <;>rcases h2 with ⟨rfl,rfl⟩|⟨k2,i2,rfl,rfl⟩ <;>rcases h1 with ⟨rfl,rfl⟩|⟨k1,i1,rfl,rfl⟩
 all_goals simp only[Z3,y4] at e1 e2 e3
 all_goals simp only[ZI,Zv,forall_const,zO,false_implies,implies_true] at hrm hmc hmh
 all_goals(try(replace e1:=Int.natCast_eq_zero.1 e1.symm))
 all_goals(try(replace e2:=Int.natCast_inj.1 e2))
 all_goals(try(replace e3:=Int.natCast_inj.1 e3))
 all_goals(subst e1;subst e2;subst e3)
 all_goals simp[Instr.sliceBounds,Instr.sliceBound,asIntOf,hlr,hrm,hmc]
theorem q3r{zs:Array Value}(c:Nat):((Array.range (c*zs.size)).map (zs[· % zs.size]!))=(List.replicate c zs.toList).flatten.toArray:=by
 rw[←Zx];simp only[Array.toList_map,Array.toList_range]
 induction c with
 |zero=>simp
 |succ c ih=>
  rw[Zz,List.range_add,zH,ih,yO,zY]
  congr 1
  rw[yE];refine List.ext_getElem Y8 fun i h1 h2=> ?_
  simp only[zk,List.length_range] at h1;have e:(c*zs.size+i) % zs.size=i:=by rw[Nat.mul_comm,Nat.mul_add_mod,Nat.mod_eq_of_lt h1]
  simp[e,h1]
theorem qr(h:XO P W0 f own .bad K):False:=by simp only[XO] at h
theorem q4t{k:FuncId}:ev f (.func k)= .func (.func k) #[] #[]:=rfl
theorem qhu(b:Nat):Extern.MathFloatBits.float64bits #[.float .f64 b]=pure (.int .u64 b):=rfl
theorem qhV(n:Int):Extern.MathFloatBits.float64frombits #[.int .u64 n]=pure (.float .f64 n.toNat):=rfl
theorem qf1(a b:Nat):Extern.MathDim.pick "math.archMin" true .lt #[.float .f64 a, .float .f64 b]=pure (.float .f64 (q4B true a b)):=rfl
theorem qf0(a b:Nat):Extern.MathDim.pick "math.archMax" false .gt #[.float .f64 a, .float .f64 b]=pure (.float .f64 (q4B false a b)):=rfl
theorem qew{fn:Func}(h:fn.name= "math.archMin"):Extern.find fn=some (Extern.MathDim.pick "math.archMin" true .lt):=by
 unfold Extern.find;rw[h];rfl
theorem qev{fn:Func}(h:fn.name= "math.archMax"):Extern.find fn=some (Extern.MathDim.pick "math.archMax" false .gt):=by
 unfold Extern.find;rw[h];rfl
theorem qbQ{fn:Func}(h:fn.name= "math.Float64bits"):Extern.find fn=some Extern.MathFloatBits.float64bits:=by
 unfold Extern.find;rw[h];rfl
theorem qeu{fn:Func}(h:fn.name= "internal/bytealg.IndexByteString"):Extern.find fn=some Extern.BytealgIndexByte.indexByte:=by
 unfold Extern.find;rw[h];rfl
theorem qi7(s:ByteArray)(c:Int)(w:World):(Extern.BytealgIndexByte.indexByte #[.string s, .int .u8 c]).run P w= .ok (.int .i64 (qe1 s c)) w:=by
 have he:Extern.BytealgIndexByte.indexByte #[.string s, .int .u8 c]=(match (List.range s.size).find? fun i=>s[i]! ==c.toNat.toUInt8 with
  |some i=>pure (goInt i)
  |none=>pure (goInt (-1))):=rfl
 rw[he];unfold qe1
 split <;>simp[goInt]
theorem qbR{fn:Func}(h:fn.name= "math.Float64frombits"):Extern.find fn=some Extern.MathFloatBits.float64frombits:=by
 unfold Extern.find;rw[h];rfl
theorem q3e{sz n:Nat}{a:Option Addr}{cap:Nat}{cs:List Value}{w:World}(hl:cs.length=n*sz)(h0:a=none→cs= [])(hh:Holds a cs w):(Builtin.firstCells sz n (.slice a n cap)).run P w= .ok cs.toArray w:=by
 cases a with
 |none=>rw[h0 rfl];exact run_firstCells_none w sz n n cap
 |some ad=>exact run_firstCells_some w sz n ad n cap cs hl (fun j v hv=>hh ad rfl j v hv)
theorem q89{s x:Operand}{t tx:TypeId}{e e2:TypeId}{ie:TypeInfo}{z:Value}{a a2:Option Addr}{n c m c2:Nat}(ho:o.op= .call ⟨.builtin .append,#[s,x],#[t,tx]⟩)(hs:ev f s= .slice a n c)(hx:ev f x= .slice a2 m c2)
  (hu:P.underlying t=some (.slice e)) (hu2:P.underlying tx=some (.slice e2)) (hie:P.info? e=some ie) (hz:ie.zero=some z) (hc:z.cells.size=ie.size∧0<ie.size∧0<ie.bytes) (hS:St W0 own w)
  (h:qb9 W0 own e ie.size ie.bytes z.cells.toList a n c a2 m K):q5a P f o w own W0 K false:=by
 obtain⟨cs,ys,hcl,hyl,ha,ha2,hone,hk,hk2,hin,hgr⟩:=h.h;have hrun:execOp (ev f) o=(do pure (.value (←Builtin.append_ #[t,tx] o.type #[.slice a n c, .slice a2 m c2]))):=by
  simp[execOp,ho,resolve,invoke,builtin,hs,hx]
 by_cases hfit:n+m≤c
 ·obtain⟨own',hst,hK⟩:=hin hfit;have hf:=q3e (P:=P) (cap:=c2) hyl ha2 (hk2 w hS);cases a with
  |none=>
   refine .inr ⟨rfl, .inl ⟨.slice none (n+m) c,w,own',?_,(hst w hS).2 rfl,hK⟩⟩;rw[hrun];simp[Builtin.append_,ql hu,ql hu2,sizeOf,typeInfo,hie,Builtin.lenOf,hfit,hf]
  |some ad=>
   obtain⟨h1,h2⟩:=(hst w hS).1 ad rfl;refine .inr ⟨rfl, .inl ⟨.slice (some ad) (n+m) c,_,own',?_,h2,hK⟩⟩;rw[hrun];simp[Builtin.append_,ql hu,ql hu2,sizeOf,typeInfo,hie,Builtin.lenOf,hfit,hf,q11 ys 0 w hone (fun j hj=>by simpa using h1 j hj)]
 ·obtain⟨hb,hK⟩:=hgr Y6;have hd:St W0 own w.drew:=hS.drawn _;have hf:=q3e (P:=P) (cap:=c2) hyl ha2 (hk2 w.drew hd);have hf0:=q3e (P:=P) (cap:=c) hcl ha (hk w.drew hd);have h48:¬(281474976710656<Builtin.nextslicecap (n+m) c*ie.bytes):=by have:=growslice_fits (bytes:=ie.bytes) (show c<n+m by omega) hb;omega
  have hb0:ie.bytes≠0:=Y6;have hcap:n+m≤(Question.appendCap (n+m) c e).cut (w.tape w.drawn (.appendCap (n+m) c e)):=y5 _ _;obtain⟨o2,hE,hK'⟩:=hK w.heap.size _ hS.size hcap;refine .inr ⟨rfl, .inl ⟨_,_,_,?_,hE _ (hd.push (.cells (cs++ys++(List.replicate ((Question.appendCap (n+m) c e).cut (w.tape w.drawn (.appendCap (n+m) c e))-(n+m)) z.cells.toList).flatten).toArray e) (p:=fun o=>o=Obj.cells (cs++ys++(List.replicate ((Question.appendCap (n+m) c e).cut (w.tape w.drawn (.appendCap (n+m) c e))-(n+m)) z.cells.toList).flatten).toArray e) rfl),hK'⟩⟩;rw[hrun];have hz0:=q3r (zs:=z.cells) ((Question.appendCap (n+m) c e).cut (w.tape w.drawn (.appendCap (n+m) c e))-(n+m));simp[Builtin.append_,ql hu,ql hu2,sizeOf,typeInfo,zeroValue,hie,hz,Builtin.lenOf,hfit,h48,hb0,Question.forced,hf,hf0,newRow];simp only[Builtin.zeroCells,hz0];generalize hX:(List.replicate ((Question.appendCap (n+m) c e).cut (w.tape w.drawn (.appendCap (n+m) c e))-(n+m)) z.cells.toList).flatten=X;have hx:cs.toArray++(ys.toArray++X.toArray)=(cs++(ys++X)).toArray:=Y8;rw[hx];rfl
theorem qbD{s x:Operand}{t tx:TypeId}{e:TypeId}{ie:TypeInfo}{z:Value}{a:Option Addr}{n c:Nat}{m:Int}{k:IntKind}(ho:o.op= .call ⟨.builtin .append,#[s,x],#[t,tx]⟩)(hs:ev f s= .slice a n c)(hx:ev f x= .int .i64 m)
  (hu:P.underlying t=some (.slice e)) (hu2:P.underlying tx=some (.int k)) (hie:P.info? e=some ie) (hz:ie.zero=some z) (hc:z.cells.size=ie.size∧0<ie.size∧0<ie.bytes) (hS:St W0 own w)
  (h:qnb W0 own e ie.bytes z.cells.toList a n c m K):q5a P f o w own W0 K false:=by
 rcases h.h with ⟨rfl,hle,hK⟩|⟨rfl,rfl,m',rfl,hpos,hb,hK⟩
 ·have hrun:execOp (ev f) o=(do pure (.value (←Builtin.append_ #[t,tx] o.type #[.slice a n c, .int .i64 0]))):=by
   simp[execOp,ho,resolve,invoke,builtin,hs,hx]
  refine .inr ⟨rfl, .inl ⟨.slice a n c,w,own,?_,hS,hK⟩⟩;rw[hrun];have hw0:IntKind.i64.wrap 0=0:=Y7;cases a <;>simp[Builtin.append_,ql hu,ql hu2,sizeOf,typeInfo,hie,asInt,asIntOf,hw0,hle,storeCells]
 have hrun:execOp (ev f) o=(do pure (.value (←Builtin.append_ #[t,tx] o.type #[.slice a 0 0, .int .i64 m']))):=by
  simp[execOp,ho,resolve,invoke,builtin,hs,hx]
 have hm':m'≤m'*ie.bytes:=Nat.le_mul_of_pos_right _ hc.2.2;have hw:=qjE m' Y6;have hd:St W0 own w.drew:=hS.drawn _;have hf0:=q3e (P:=P) (sz:=ie.size) (n:=0) (a:=a) (cap:=0) (cs:= []) (w:=w.drew) Y8 (fun _=>rfl) (fun ad _ j v hj=>by simp at hj);have h48:¬(281474976710656<Builtin.nextslicecap m' 0*ie.bytes):=by rw[nextslicecap_zero hpos];omega
 have h49:¬((281474976710656:Int)<(m':Int)*(ie.bytes:Int)):=by rw[←yR];omega
 have hb0:ie.bytes≠0:=Y6;have hms:m'*ie.size≠0:=Nat.ne_of_gt (Nat.mul_pos hpos hc.2.1);have hmx:¬(9223372036854775807<(m':Int)):=Y6;have hcap:m'≤(Question.appendCap m' 0 e).cut (w.tape w.drawn (.appendCap m' 0 e)):=y5 _ _;refine .inr ⟨rfl, .inl ⟨_,_,_,?_,hd.push (.cells (List.replicate ((Question.appendCap m' 0 e).cut (w.tape w.drawn (.appendCap m' 0 e))) z.cells.toList).flatten.toArray e) (p:=fun o=>o=Obj.cells (List.replicate ((Question.appendCap m' 0 e).cut (w.tape w.drawn (.appendCap m' 0 e))) z.cells.toList).flatten.toArray e) rfl,hK w.heap.size _ hS.size hcap⟩⟩;rw[hrun];have hz0:=q3r (zs:=z.cells) m';have hz1:=q3r (zs:=z.cells) ((Question.appendCap m' 0 e).cut (w.tape w.drawn (.appendCap m' 0 e))-m');have hnz:m'≠0:=Y6;have h0:¬((m':Int)<0):=Y6;simp[Builtin.append_,ql hu,ql hu2,sizeOf,typeInfo,zeroValue,hie,hz,asInt,asIntOf,hw,h49,h48,hb0,hnz,h0,hmx,Question.forced,hf0,newRow];rw[if_neg hms];simp only[Builtin.zeroCells,hz0,hz1];generalize (Question.appendCap m' 0 e).cut (w.tape w.drawn (.appendCap m' 0 e))=q at*;have hx:(List.replicate m' z.cells.toList).flatten.toArray++(List.replicate (q-m') z.cells.toList).flatten.toArray=(List.replicate q z.cells.toList).flatten.toArray:=by
  have e:q=m'+(q-m'):=Y6
  conv=>rhs;rw[e]
  rw[←List.replicate_append_replicate,zY];simp
 rw[hx];rfl
theorem qar{x:Operand}{t:TypeId}{e:TypeId}{ie:TypeInfo}{z:Value}(ho:o.op= .call ⟨.builtin .clear,#[x],#[t]⟩)(hu:P.underlying t=some (.slice e))(hie:P.info? e=some ie)(hz:ie.zero=some z)(hS:St W0 own w)
  (h:XO P W0 f own (.clr z.cells.toList x) K):q5a P f o w own W0 K false:=by
 simp only[XO] at h
 split at h
 ·rename_i a n c hx;obtain⟨h1,own',hs,hk⟩:=h.h;have hrun:execOp (ev f) o=(do pure (.value (←Builtin.clear_ #[t] o.type #[.slice (some a) n c]))):=by
   simp[execOp,ho,resolve,invoke,builtin,hx]
  refine .inr ⟨rfl, .inl ⟨.tuple #[],q4J w a 0 (List.replicate n z.cells.toList).flatten,own',?_,(hs w hS).2,hk⟩⟩;rw[hrun];have hz0:=q3r (zs:=z.cells) n;cases n with
  |zero=>simp[Builtin.clear_,ql hu,q4J]
  |succ n=>
   have hst:=q11 (P:=P) (a:=a) (List.replicate (n+1) z.cells.toList).flatten 0 w h1 (fun j hj=>by simpa using (hs w hS).1 j hj);have hzc:(Builtin.zeroCells z.cells (n+1)).toList=(List.replicate (n+1) z.cells.toList).flatten:=by unfold Builtin.zeroCells;rw[hz0]
   simp[Builtin.clear_,ql hu,zeroValue,typeInfo,hie,hz,hzc,hst]
 ·rename_i n c hx;have hrun:execOp (ev f) o=(do pure (.value (←Builtin.clear_ #[t] o.type #[.slice none n c]))):=by
   simp[execOp,ho,resolve,invoke,builtin,hx]
  refine .inr ⟨rfl, .inl ⟨.tuple #[],w,own,?_,hS,h⟩⟩;rw[hrun];simp[Builtin.clear_,ql hu]
 ·exact h.elim
theorem q6p{c:Call}{io:IOp}(ho:o.op= .call c)(hl:q4y P c=io)(hS:St W0 own w)(h:XO P W0 f own io K):q5a P f o w own W0 K (qcC io):=by
 obtain⟨cal,args,ats⟩:=c;obtain⟨args⟩:=args;obtain⟨ats⟩:=ats;unfold q4y at hl;simp only at hl
 split at hl
 ·rename_i k
  split at hl
  ·rename_i fn hfn
   split at hl
   ·split at hl
    ·rename_i hc;simp only[zx,decide_eq_true_eq,Zq] at hc
     split at hl
     ·rename_i x;subst hl;simp only[XO] at h
      split at h
      ·rename_i b hx;refine qn hS (v:= .int .u64 b) ?_ h;simp[execOp,ho,resolve,q4t,Deferred.ofValue,invoke,callFunc,hfn,hc.1.1,hc.1.2,hc.2,qbQ hc.2,hx,qhu]
      ·exact h.elim
     ·subst hl;exact(qr h).elim
    ·split at hl
     ·rename_i hc;simp only[zx,decide_eq_true_eq,Zq] at hc
      split at hl
      ·rename_i x;subst hl;simp only[XO] at h
       split at h
       ·rename_i n hx;refine qn hS (v:= .float .f64 n.toNat) ?_ h;simp[execOp,ho,resolve,q4t,Deferred.ofValue,invoke,callFunc,hfn,hc.1.1,hc.1.2,hc.2,qbR hc.2,hx,qhV]
       ·exact h.elim
      ·subst hl;exact(qr h).elim
     ·split at hl
      ·rename_i hc;simp only[zx,decide_eq_true_eq,Zq] at hc
       split at hl
       ·rename_i x y;subst hl;simp only[XO] at h
        split at h
        ·rename_i a b hx hy;refine qn hS (v:= .float .f64 (q4B true a b)) ?_ h;simp[execOp,ho,resolve,q4t,Deferred.ofValue,invoke,callFunc,hfn,hc.1.1,hc.1.2,hc.2,qew hc.2,hx,hy,qf1]
        ·exact h.elim
       ·subst hl;exact(qr h).elim
      ·split at hl
       ·rename_i hc;simp only[zx,decide_eq_true_eq,Zq] at hc
        split at hl
        ·rename_i x y;subst hl;simp only[XO] at h
         split at h
         ·rename_i a b hx hy;refine qn hS (v:= .float .f64 (q4B false a b)) ?_ h;simp[execOp,ho,resolve,q4t,Deferred.ofValue,invoke,callFunc,hfn,hc.1.1,hc.1.2,hc.2,qev hc.2,hx,hy,qf0]
         ·exact h.elim
        ·subst hl;exact(qr h).elim
       ·split at hl
        ·rename_i hc;simp only[zx,decide_eq_true_eq,Zq] at hc
         split at hl
         ·rename_i x y;subst hl;simp only[XO] at h
          split at h
          ·rename_i s c hx hy;refine qn hS (v:= .int .i64 (qe1 s c)) ?_ h;simp[execOp,ho,resolve,q4t,Deferred.ofValue,invoke,callFunc,hfn,hc.1.1,hc.1.2,hc.2,qeu hc.2,hx,hy,qi7]
          ·exact h.elim
         ·subst hl;exact(qr h).elim
        ·subst hl;exact(qr h).elim
   ·rename_i hc;subst hl;simp only[XO] at h;simp only[ZB,not_or,y6,beq_eq_false_iff_ne,Option.isNone_eq_false_iff] at hc;have h2:fn.body≠none:=by intro e;simp[e] at hc
    refine .inr ⟨rfl, .inr (.inr (.inl ⟨k,(args.map (ev f)).toArray,?_,by simpa using h⟩))⟩;simp[execOp,ho,resolve,ev,Deferred.ofValue,invoke,callFunc,hfn,hc.1,h2]
  ·subst hl;exact(qr h).elim
 ·split at hl
  ·rename_i x t
   split at hl
   ·rename_i e hu;subst hl;simp only[XO] at h
    split at h
    ·rename_i b n c hx;refine qn hS (v:= .int .i64 n) ?_ h;simp[execOp,ho,resolve,invoke,builtin,Builtin.len_,ql hu,goInt,hx]
    ·exact h.elim
   ·rename_i hu;subst hl;simp only[XO] at h
    split at h
    ·rename_i s hx;refine qn hS (v:= .int .i64 s.size) ?_ h;simp[execOp,ho,resolve,invoke,builtin,Builtin.len_,ql hu,goInt,hx]
    ·exact h.elim
   ·subst hl;exact(qr h).elim
  ·subst hl;exact(qr h).elim
 ·split at hl
  ·rename_i x t
   split at hl
   ·rename_i e hu;subst hl;simp only[XO] at h
    split at h
    ·rename_i a n c hx;refine qn hS (v:= .int .i64 c) ?_ h;simp[execOp,ho,resolve,invoke,builtin,Builtin.cap_,ql hu,goInt,hx]
    ·exact h.elim
   ·subst hl;exact(qr h).elim
  ·subst hl;exact(qr h).elim
 ·split at hl
  ·rename_i s x t tx
   split at hl
   ·rename_i e e2 hu hu2
    split at hl
    ·rename_i ie hie
     split at hl
     ·rename_i z hz
      split at hl
      ·rename_i hc;subst hl;simp only[XO] at h
       split at h
       ·rename_i a n c a2 m c2 hs hx;exact q89 ho hs hx hu hu2 hie hz hc hS h
       ·exact h.elim
      ·subst hl;exact(qr h).elim
     ·subst hl;exact(qr h).elim
    ·subst hl;exact(qr h).elim
   ·rename_i e k hu hu2
    split at hl
    ·rename_i ie hie
     split at hl
     ·rename_i z hz
      split at hl
      ·rename_i hc;subst hl;simp only[XO] at h
       split at h
       ·rename_i a n c m hs hx;exact qbD ho hs hx hu hu2 hie hz hc hS h
       ·exact h.elim
      ·subst hl;exact(qr h).elim
     ·subst hl;exact(qr h).elim
    ·subst hl;exact(qr h).elim
   ·subst hl;exact(qr h).elim
  ·subst hl;exact(qr h).elim
 ·split at hl
  ·rename_i x t
   split at hl
   ·rename_i e hu
    split at hl
    ·rename_i ie hie
     split at hl
     ·rename_i z hz;subst hl;exact qar ho hu hie hz hS h
     ·subst hl;exact(qr h).elim
    ·subst hl;exact(qr h).elim
   ·subst hl;exact(qr h).elim
  ·subst hl;exact(qr h).elim
 ·rename_i g;subst hl;simp only[XO] at h
  split at h
  ·rename_i k first cap hx;obtain⟨hok,hc⟩:=h.h;unfold okF at hok
   split at hok
   ·rename_i fn hfn;simp only[zx,yg,beq_eq_false_iff_ne,Zk] at hok;obtain⟨hn,bd,hb⟩:=hok;refine .inr ⟨rfl, .inr (.inr (.inl ⟨k,(first.toList++args.map (ev f)++cap.toList).toArray,?_,by simpa using hc⟩))⟩;simp[execOp,ho,resolve,hx,Deferred.ofValue,invoke,callFunc,hfn,hn,hb]
   ·cases hok
  ·rename_i l first cap hx;obtain⟨k,tmps,assign,body,hy,hR⟩:=h.h w hS;refine .inr ⟨rfl, .inr (.inr (.inr ⟨l,k,tmps,assign,body,?_,hR⟩))⟩;have e:(first.toList++args.map (ev f)).toArray=first++(args.map (ev f)).toArray:=Y8;rw[e] at hy;simp[execOp,ho,resolve,hx,Deferred.ofValue,invoke]
   simpa using hy
  ·exact h.elim
 ·split at hl
  ·rename_i x y;subst hl;simp only[XO] at h
   split at h
   ·rename_i k m k' n hx hy;refine qn hS ?_ h.h;simp[execOp,ho,resolve,invoke,builtin,Builtin.min_,hx,hy,Builtin.min2];omega
   ·exact h.elim
  ·subst hl;exact(qr h).elim
 ·split at hl
  ·rename_i x y;subst hl;simp only[XO] at h
   split at h
   ·rename_i k m k' n hx hy;refine qn hS ?_ h.h;simp[execOp,ho,resolve,invoke,builtin,Builtin.max_,hx,hy,Builtin.max2];omega
   ·exact h.elim
  ·subst hl;exact(qr h).elim
 ·subst hl;exact(qr h).elim
theorem q5y{t:TypeId}{a b:Bool}(hu:P.underlying t=some .bool):(Op.equal t (.bool a) (.bool b)).run P w= .ok (decide (a=b)) w:=by
 show(Op.equalIn (9999+1) t (.bool a) (.bool b)).run P w=_;rw[Op.equalIn];simp only[Sem.run_bind,ql hu,Result.andThen_ok];simp only[Sem.run_pure,Bool.beq_eq_decide_eq]
theorem q5d{t:TypeId}{a b:Bool}:binOp .eql t (.bool a) (.bool b)=(do pure (.bool (←Op.equal t (.bool a) (.bool b)))):=rfl
theorem q5e{t:TypeId}{a b:Bool}:binOp .neq t (.bool a) (.bool b)=(do pure (.bool (!(←Op.equal t (.bool a) (.bool b))))):=rfl
theorem q4G{b pos:Nat}{s:ByteArray}{t:TypeId}(hg:w.heap[b]? =some (.stringIter s pos)):(pos<s.size→(Instr.next (.pointer (some ⟨b,0,none⟩)) true t).run P w= .ok (.tuple #[.bool true, .int .i64 pos, .int .i32 (Utf8.decode s pos).1]) {w with heap:=w.heap.setIfInBounds b (.stringIter s (pos+(Utf8.decode s pos).2))})∧
  (¬pos<s.size→(Instr.next (.pointer (some ⟨b,0,none⟩)) true t).run P w= .ok (.tuple #[.bool false]) w):=by
 refine⟨fun h=> ?_,fun h=> ?_⟩ <;>simp[Instr.next,getObj,setObj,Sem.run,hg,h,goInt]
theorem q8d{t:TypeId}{ms:Array (String×TypeId)}(hu:P.underlying t=some (.interface ms)):(Op.equal t .nilIface .nilIface).run P w= .ok true w∧∀tt v,(Op.equal t (.iface tt v) .nilIface).run P w= .ok false w:=by
 refine⟨?_,fun tt v=> ?_⟩
 ·show(Op.equalIn (9999+1) t _ _).run P w=_;rw[Op.equalIn];simp only[Sem.run_bind,ql hu,Result.andThen_ok];rfl
 ·show(Op.equalIn (9999+1) t _ _).run P w=_;rw[Op.equalIn];simp only[Sem.run_bind,ql hu,Result.andThen_ok];rfl
theorem q0N{t:TypeId}{v:Value}(h:v= .nilIface∨∃tt x,v= .iface tt x):binOp .eql t v .nilIface=(do pure (.bool (←Op.equal t v .nilIface)))∧binOp .neq t v .nilIface=(do pure (.bool (!(←Op.equal t v .nilIface)))):=by
 rcases h with rfl|⟨_,_,rfl⟩ <;>exact⟨rfl,rfl⟩
theorem qbm{l l':List UInt8}:(l==l')=decide (l=l'):=by by_cases h:l=l' <;>simp[h]
def qch(P:Program)(k:Nat)(t:TypeId):Prop:=
 match k,P.underlying t with
 |0,some (.slice _)|1,some (.pointer _)|2,some (.func _ _ _)|3,some (.map _ _)=>True
 |_,_=>False
theorem qiq{k:Nat}{t:TypeId}{v1 v2:Value}{b:Bool}(hb:qip k v1 v2=some b)(hk:qch P k t):(Op.equal t v1 v2).run P w= .ok b w∧(∀op x y,(eqGuard op t x y v1 v2).run P w= .ok () w)∧
  binOp .eql t v1 v2=(do pure (.bool (←Op.equal t v1 v2)))∧binOp .neq t v1 v2=(do pure (.bool (!(←Op.equal t v1 v2)))):=by
 have hE:∀d,P.underlying t=some d→(Op.equal t v1 v2).run P w=(do
   match d,v1,v2 with
   | .slice _, .slice none _ _, .slice b _ _=>pure b.isNone
   | .slice _, .slice _ _ _, .slice none _ _=>pure false
   | .pointer _, .pointer none, .pointer b=>pure b.isNone
   | .pointer _, .pointer _, .pointer none=>pure false
   | .map _ _, .map none, .map b=>pure b.isNone
   | .map _ _, .map _, .map none=>pure false
   | .func _ _ _, .nilFunc, .nilFunc=>pure true
   | .func _ _ _, .func _ _ _, .nilFunc=>pure false
   |_,_,_=>Op.equal t v1 v2:Sem Bool).run P w:=by
  intro d hd
  split
  all_goals first|rfl|(show(Op.equalIn (9999+1) t _ _).run P w=_;rw[Op.equalIn];simp only[Sem.run_bind,ql hd,Result.andThen_ok])
 unfold qch at hk
 split at hk
 ·rename_i e hu
  match v1,v2,hb with
  | .slice a _ _, .slice none _ _,hb=>
   simp only[qip,Option.some.injEq] at hb;refine⟨?_,fun op x y=>by cases op <;>simp[eqGuard],rfl,rfl⟩;rw[hE _ hu,←hb];cases a <;>simp
 ·rename_i e hu
  match v1,v2,hb with
  | .pointer a, .pointer none,hb=>
   simp only[qip,Option.some.injEq] at hb;refine⟨?_,fun op x y=>by cases op <;>simp[eqGuard],rfl,rfl⟩;rw[hE _ hu,←hb];cases a <;>simp
 ·rename_i e1 e2 e3 hu
  match v1,v2,hb with
  | .func _ _ _, .nilFunc,hb=>
   simp only[qip,Option.some.injEq] at hb;refine⟨?_,fun op x y=>by cases op <;>simp[eqGuard],rfl,rfl⟩;rw[hE _ hu,←hb];simp
  | .nilFunc, .nilFunc,hb=>
   simp only[qip,Option.some.injEq] at hb;refine⟨?_,fun op x y=>by cases op <;>simp[eqGuard],rfl,rfl⟩;rw[hE _ hu,←hb];simp
 ·rename_i e1 e2 hu
  match v1,v2,hb with
  | .map a, .map none,hb=>
   simp only[qip,Option.some.injEq] at hb;refine⟨?_,fun op x y=>by cases op <;>simp[eqGuard],rfl,rfl⟩;rw[hE _ hu,←hb];cases a <;>simp
 ·exact hk.elim
theorem q1N{k:TypeId}{kk:Nat}(h:qeI P k=some kk):(kk=0∧∃j,P.underlying k=some (.int j))∨(kk=2∧P.underlying k=some .string):=by
 unfold qeI at h
 split at h
 ·rename_i j hu;exact .inl ⟨(Option.some.inj h).symm,_,hu⟩
 ·rename_i hu;exact .inr ⟨(Option.some.inj h).symm,hu⟩
 ·cases h
theorem q2F{k:TypeId}{kk n:Nat}{e:Bool}{v:Value}(h:qeI P k=some kk):(Instr.checkKey e (n+1) k v).run P w= .ok () w:=by
 rcases q1N h with ⟨_,j,hu⟩|⟨_,hu⟩ <;>simp[Instr.checkKey,ql hu]
theorem qgw{a b:ByteArray}:(a==b)=decide (a.data.toList=b.data.toList):=by
 obtain⟨x⟩:=a;obtain⟨y⟩:=b;show(x==y)=_
 by_cases h:x=y
 ·subst h;simp
 ·rw[decide_eq_false (fun e=>h (Zx.1 e))];simp[h]
theorem q73{a b:Value}{r:Bool}(h:q0I 0 a b=some r):∃j x y,a= .int j x∧b= .int j y∧r=decide (x=y):=by
 cases a <;>cases b <;>simp only[q0I] at h <;>try cases h
 rename_i j x j' y
 split at h
 ·rename_i hk;have:=qc7 hk;subst this;exact⟨_,_,_,rfl,rfl,(Option.some.inj h).symm⟩
 ·cases h
theorem q74{a b:Value}{r:Bool}(h:q0I 2 a b=some r):∃x y,a= .string x∧b= .string y∧r=decide (x.data.toList=y.data.toList):=by
 cases a <;>cases b <;>simp only[q0I] at h <;>try cases h
 exact⟨_,_,rfl,rfl,rfl⟩
theorem q3E{T:TypeDesc}{kk:Nat}{a b:Value}{r:Bool}(hT:(kk=0∧∃j,T= .int j)∨(kk=2∧T= .string))(h:q0I kk a b=some r):Instr.sameNow T a b=some r:=by
 rcases hT with ⟨rfl,j,rfl⟩|⟨rfl,rfl⟩
 ·obtain⟨j',x,y,rfl,rfl,rfl⟩:=q73 h;simp only[Instr.sameNow,if_true]
  congr 1
 ·obtain⟨x,y,rfl,rfl,rfl⟩:=q74 h;simp only[Instr.sameNow,qgw]
theorem q4H{kk n:Nat}{a b:Value}(hk:kk=0∨kk=2)(h:q0I kk a b=some true):Instr.sameBits (n+1) b a=true∧b=a:=by
 rcases hk with rfl|rfl
 ·obtain⟨j',x,y,rfl,rfl,e⟩:=q73 h;have e:=of_decide_eq_true e.symm;subst e;exact⟨by simp[Instr.sameBits],rfl⟩
 ·obtain⟨x,y,rfl,rfl,e⟩:=q74 h;have e:=of_decide_eq_true e.symm;have e2:x=y:=by
   cases x;cases y;simp only[ByteArray.mk.injEq];exact Zx.1 e
  subst e2;exact⟨by simp[Instr.sameBits,qgw],rfl⟩
theorem q8E{j j':IntKind}{a b:Value}:Instr.sameNow (.int j) a b=Instr.sameNow (.int j') a b:=by
 cases a <;>cases b <;>rfl
theorem q1y{T:TypeDesc}{kk:Nat}{key:Value}(hT:(kk=0∧∃j,T= .int j)∨(kk=2∧T= .string))(v:Value):∀(es:List MapEntry) (j:Nat) (r:Option Value),q1J kk key (es.map fun e=>(e.key,e.val))=some r→
  (r=none∧Instr.findNow T key es j=some none∧q52 kk key v (es.map fun e=>(e.key,e.val))=(es.map fun e=>(e.key,e.val))++ [(key,v)])∨
  (∃i x e,r=some x∧Instr.findNow T key es j=some (some (j+i,x))∧es[i]? =some e∧q0I kk key e.key=some true∧q52 kk key v (es.map fun e=>(e.key,e.val))=(es.map fun e=>(e.key,e.val)).set i (key,v))
 | [],j,r,h=> .inl ⟨(Option.some.inj h).symm,rfl,rfl⟩
 |e::es,j,r,h=>by
  simp only[zF] at h ⊢;unfold q1J at h;unfold q52
  split at h
  ·rename_i he;refine .inr ⟨0,e.val,e,(Option.some.inj h).symm,?_,rfl,he,?_⟩
   ·unfold Instr.findNow;rw[q3E hT he];rfl
   ·rw[he];rfl
  ·rename_i he;rw[he]
   rcases q1y hT v es (j+1) r h with ⟨h1,h2,h3⟩|⟨i,x,e',h1,h2,h3,h4,h5⟩
   ·refine .inl ⟨h1,?_,by simp only[h3,zl]⟩;unfold Instr.findNow;rw[q3E hT he];exact h2
   ·refine .inr ⟨i+1,x,e',h1,?_,by simpa using h3,h4,by simp only[h5,List.set_cons_succ]⟩;unfold Instr.findNow;rw[q3E hT he,←show j+1+i=j+(i+1) by omega];exact h2
  ·cases h
theorem q4u{k:TypeId}{kk:Nat}{key:Value}{es:List MapEntry}{q:Option (Nat×Value)}(hk:qeI P k=some kk)(h:∀T,((kk=0∧∃j,T=TypeDesc.int j)∨(kk=2∧T= .string))→Instr.findNow T key es 0=some q):(Instr.findKey k key es).run P w= .ok q w:=by
 rcases q1N hk with ⟨h0,j,hu⟩|⟨h0,hu⟩
 ·have:=h _ (.inl ⟨h0,j,rfl⟩);simp[Instr.findKey,ql hu,this]
 ·have:=h _ (.inr ⟨h0,rfl⟩);simp[Instr.findKey,ql hu,this]
theorem q9m{k:TypeId}{kk:Nat}{key:Value}{es:Array MapEntry}{r:Option Value}(hk:qeI P k=some kk)(h:q1J kk key (es.toList.map fun e=>(e.key,e.val))=some r)(v:Value):
  (r=none∧(Instr.findKey k key es.toList).run P w= .ok none w∧q52 kk key v (es.toList.map fun e=>(e.key,e.val))=(es.toList.map fun e=>(e.key,e.val))++ [(key,v)])∨
  (∃i x e,r=some x∧(Instr.findKey k key es.toList).run P w= .ok (some (i,x)) w∧es[i]? =some e∧e.key=key∧(∀n,Instr.sameBits (n+1) e.key key=true)∧q52 kk key v (es.toList.map fun e=>(e.key,e.val))=(es.toList.map fun e=>(e.key,e.val)).set i (key,v)):=by
 have hkk:kk=0∨kk=2:=by rcases q1N hk with ⟨h,_⟩|⟨h,_⟩ <;>simp[h]
 have hT0:∃T,(kk=0∧∃j,T=TypeDesc.int j)∨(kk=2∧T= .string):=by
  rcases q1N hk with ⟨h,j,_⟩|⟨h,_⟩
  ·exact⟨.int j, .inl ⟨h,j,rfl⟩⟩
  ·exact⟨.string, .inr ⟨h,rfl⟩⟩
 obtain⟨T0,hT0⟩:=hT0
 rcases q1y hT0 v es.toList 0 r h with ⟨h1,_,h3⟩|⟨i,x,e,h1,h2,h3,h4,h5⟩
 ·refine .inl ⟨h1,q4u hk (fun T hT=> ?_),h3⟩
  rcases q1y hT v es.toList 0 r h with ⟨_,h2,_⟩|⟨i,x,e,h4,_⟩
  ·exact h2
  ·rw[h1] at h4;cases h4
 ·refine .inr ⟨i,x,e,h1,q4u hk (fun T hT=> ?_),by rw[←Z1];exact h3,(q4H (n:=0) hkk h4).2,fun n=>(q4H hkk h4).1,h5⟩
  rcases q1N hk with ⟨k0,j0,_⟩|⟨k0,_⟩
  ·rcases hT with ⟨_,j,rfl⟩|⟨k2,_⟩
   ·rcases hT0 with ⟨_,j',rfl⟩|⟨k2,_⟩
    ·rcases q1y (T:= .int j) (.inl ⟨k0,j,rfl⟩) v es.toList 0 r h with ⟨h6,_,_⟩|⟨i',x',e',h6,h7,h8,h9,h10⟩
     ·rw[h1] at h6;cases h6
     ·have e1:∀(l:List MapEntry) (n:Nat),Instr.findNow (.int j) key l n=Instr.findNow (.int j') key l n:=by
       intro l
       induction l with
       |nil=>intro n;rfl
       |cons a l ih=>intro n;unfold Instr.findNow;rw[ih,q8E (j:=j) (j':=j')]
      rw[e1,h2];simp
    ·omega
   ·omega
  ·rcases hT with ⟨k2,_⟩|⟨_,rfl⟩
   ·omega
   ·rcases hT0 with ⟨k2,_⟩|⟨_,rfl⟩
    ·omega
    ·rw[h2];simp
theorem q5G{t k e:TypeId}{kk:Nat}{z key:Value}{ok:Bool}{x:Option Nat}{es:Array MapEntry}{r:Option Value}(hu:P.underlying t=some (.map k e))(hk:qeI P k=some kk)(hz:q6N P e=some z)
  (hx:(x=none∧es= #[])∨∃b c,x=some b∧w.heap[b]? =some (.map es c)) (h:q1J kk key (es.toList.map fun e=>(e.key,e.val))=some r):(Instr.lookup t (.map x) key ok).run P w= .ok (qjL z ok r) w:=by
 have hr:(r=none∧(Instr.findKey k key es.toList).run P w= .ok none w)∨∃i x,r=some x∧(Instr.findKey k key es.toList).run P w= .ok (some (i,x)) w:=by
  rcases q9m (w:=w) hk h .nilIface with ⟨h1,h2,_⟩|⟨i,x,_,h1,h2,_⟩
  ·exact .inl ⟨h1,h2⟩
  ·exact .inr ⟨i,x,h1,h2⟩
 have hc:∀e,(Instr.checkKey e 10000 k key).run P w= .ok () w:=fun e=>q2F (n:=9999) hk
 have hz':=q3s (w:=w) hz;have hu':=ql (w:=w) hu
 rcases hx with ⟨rfl,rfl⟩|⟨b,c,rfl,hb⟩
 ·have h0:r=none:=(Option.some.inj h).symm;subst h0;have hr:(Instr.findKey k key []).run P w= .ok none w:=by
   rcases hr with ⟨_,hr⟩|⟨i,x,h,_⟩
   ·exact hr
   ·cases h
  cases ok <;>simp[Instr.lookup,hu',hc,hr,hz',qjL]
 ·rcases hr with ⟨rfl,hr⟩|⟨i,x,rfl,hr⟩
  ·cases ok <;>simp[Instr.lookup,hu',getObj,Sem.run,hb,hc,hr,hz',qjL]
  ·cases ok <;>simp[Instr.lookup,hu',getObj,Sem.run,hb,hc,hr,qjL]
theorem q3g{t k e:TypeId}{kk:Nat}{key v:Value}{b c:Nat}{es:Array MapEntry}{r:Option Value}(hu:P.underlying t=some (.map k e))(hk:qeI P k=some kk)
  (hb:w.heap[b]? =some (.map es c)) (h:q1J kk key (es.toList.map fun e=>(e.key,e.val))=some r):
  ∃es' c',(Instr.mapUpdate t (.map (some b)) key v).run P w= .ok () {w with heap:=w.heap.setIfInBounds b (.map es' c')}∧es'.toList.map (fun e=>(e.key,e.val))=q52 kk key v (es.toList.map fun e=>(e.key,e.val)):=by
 have hc:=q2F (w:=w) (n:=9999) (e:=false) (v:=key) hk
 rcases q9m (w:=w) hk h v with ⟨_,h2,h3⟩|⟨i,x,e,_,h2,h4,h5,h6,h7⟩
 ·refine⟨es.push {key,val:=v,born:=c},c+1,?_,by simp[h3]⟩;simp[Instr.mapUpdate,ql hu,getObj,setObj,Sem.run,hb,hc,h2]
 ·refine⟨es.modify i fun e=>{e with key:=key,val:=v},c,?_,?_⟩
  ·simp[Instr.mapUpdate,ql hu,getObj,setObj,Sem.run,hb,hc,h2,h4,Instr.keyThatStays,h6 9999]
  ·rw[h7];refine Zf fun n=> ?_
   rw[zI,zv,Z1,ZG,zk,Array.length_toList,zI,Z1]
   by_cases hn:i=n
   ·subst hn;have hlt:=(Zo.1 h4).1;simp[hlt]
   ·simp[hn]
theorem q1W{io:IOp}(hl:q1t P o.op=io)(hS:St W0 own w)(h:XO P W0 f own io K):q5a P f o w own W0 K (qcC io):=by
 cases ho:o.op <;>rw[ho] at hl <;>(try simp only[q1t] at hl)
 case move x=>subst hl;exact qn hS (v:=ev f x) (by simp[execOp,ho]) (Mv.h (K:=fun v=>K v own) h)
 case assign x=>subst hl;exact qn hS (v:=ev f x) (by simp[execOp,ho]) (Mv.h (K:=fun v=>K v own) h)
 case pick c x y=>
  subst hl;simp only[XO] at h
  split at h
  ·rename_i b hc;exact qn hS (v:=if b then ev f x else ev f y) (by cases b <;>simp[execOp,ho,hc,asBool]) h.h
  ·exact h.elim
 case binOp op t x y t'=>
  unfold qcb at hl
  split at hl
  ·subst hl;simp only[XO] at h
   split at h
   ·rename_i hx hy;exact q8a ho hx hy hS h
   ·exact h.elim
  ·split at hl <;>subst hl
   ·simp only[XO] at h
    split at h
    ·rename_i a b hx hy;exact qn hS (v:= .bool (decide (a.toList=b.toList))) (by simp[execOp,ho,eqGuard,hx,hy,binOp,Op.stringOp,qbm]) h
    ·exact h.elim
   ·simp only[XO] at h
    split at h
    ·rename_i a b hx hy;exact qn hS (v:= .bool (!decide (a.toList=b.toList))) (by simp[execOp,ho,eqGuard,hx,hy,binOp,Op.stringOp,qbm]) h
    ·exact h.elim
   ·simp only[XO] at h
    split at h
    ·rename_i a b hx hy;obtain⟨hl,hk⟩:=h.h;have hl':¬(9223372036854775807<(a.size:Int)+(b.size:Int)):=Y6;exact qn hS (v:= .string (a++b)) (by simp[execOp,ho,eqGuard,hx,hy,binOp,Op.stringOp,hl']) hk
    ·exact h.elim
   ·exact(qr h).elim
  iterate 4
   ·rename_i hu;have hnil:∀neg k,qch P k t→XO P W0 f own (.nilq neg k x y) K→(op=(bif neg then .neq else .eql))→q5a P f o w own W0 K true:=by
     intro neg k hk h hop;simp only[XO] at h
     split at h
     ·rename_i b hb;obtain⟨hE,hg,h1,h2⟩:=qiq (w:=w) hb hk;refine qn hS (v:= .bool (bif neg then !b else b)) ?_ h;cases neg <;>simp only[cond_true,cond_false] at hop <;>subst hop <;>simp[execOp,ho,hg,h1,h2,hE]
     ·exact h.elim
    split at hl <;>subst hl
    ·exact hnil false _ (by simp[qch,hu]) h rfl
    ·exact hnil true _ (by simp[qch,hu]) h rfl
    ·exact(qr h).elim
  iterate 2
   ·split at hl
    ·rename_i ks hks
     split at hl
     ·subst hl;exact(qr h).elim
     ·rename_i hgt;have hst:∀neg,XO P W0 f own (.ageq neg ks x y) K→(op=(bif neg then .neq else .eql))→q5a P f o w own W0 K true:=by
       intro neg h hop;simp only[XO] at h
       split at h
       ·rename_i xs ys hx hy;obtain⟨r,hr,hK⟩:=h.h;have hag:q3P P t=some true:=by unfold q3P;simp_all
        have hE:=q3A 6 t ks 10000 (.agg xs) (.agg ys) r hks Y6 ⟨fun _=>⟨_,rfl⟩,fun h=>by rw[hag] at h;cases h⟩ ⟨fun _=>⟨_,rfl⟩,fun h=>by rw[hag] at h;cases h⟩ hr w;have hg:=run_eqGuard_agg (P:=P) w op t x y xs ys (by simpa using hgt);refine qn hS (v:= .bool (bif neg then !r else r)) ?_ hK;have e1:(binOp .eql t (.agg xs) (.agg ys)).run P w= .ok (.bool r) w:=by rw[run_eql_struct,hE];rfl
        have e2:(binOp .neq t (.agg xs) (.agg ys)).run P w= .ok (.bool (!r)) w:=by rw[run_neq_struct,hE];rfl
        cases neg <;>simp only[cond_true,cond_false] at hop <;>subst hop <;>simp[execOp,ho,hx,hy,hg,e1,e2]
       ·exact h.elim
      split at hl <;>subst hl
      ·exact hst false h rfl
      ·exact hst true h rfl
      ·exact(qr h).elim
    ·subst hl;exact(qr h).elim
  ·have hcmp:(∀a b:Nat,binOp op t (.float .f64 a) (.float .f64 b)=pure (.bool (q56 op (FloatKind.f64.format.order a b))))→XO P W0 f own (.fbin op x y) K→q5a P f o w own W0 K true:=by
    intro he h;simp only[XO] at h
    split at h
    ·rename_i a b hx hy;refine qn hS (v:= .bool (q56 op (FloatKind.f64.format.order a b))) ?_ h.h;have hg:(eqGuard op t x y (ev f x) (ev f y)).run P w= .ok () w:=by
      unfold eqGuard;rw[hx,hy];cases op <;>simp
     rw[hx,hy] at hg;simp[execOp,ho,hx,hy,hg,he]
    ·exact h.elim
   have hflt:(∀a b:Nat,binOp op t (.float .f64 a) (.float .f64 b)=(match floatBits op .f64 a b with|some r=>pure (.float .f64 r)|none=>(do pure (.float .f64 (←choose (.nanBits .f64 a b))))))→
     XO P W0 f own (.flt op x y) K→q5a P f o w own W0 K false:=by
    intro he h;simp only[XO] at h
    split at h
    ·rename_i a b hx hy;have hg:(eqGuard op t x y (ev f x) (ev f y)).run P w= .ok () w:=by
      unfold eqGuard;rw[hx,hy];cases op <;>simp
     rw[hx,hy] at hg;cases hfb:floatBits op .f64 a b with
     |some r=>exact qn hS (v:= .float .f64 r) (by simp[execOp,ho,hx,hy,hg,he,hfb]) (h.h.1 r hfb)
     |none=>
      refine .inr ⟨rfl, .inl ⟨.float .f64 (Question.cut (.nanBits .f64 a b) (w.tape w.drawn (.nanBits .f64 a b))),{w with drawn:=w.drawn+1},own,by simp[execOp,ho,hx,hy,hg,he,hfb,Question.forced],hS.drawn _,h.h.2 hfb _ ?_⟩⟩;exact⟨_,_,ya _ Y7,ya _ Y7,rfl⟩
    ·exact h.elim
   split at hl <;>subst hl
   ·exact hflt (fun a b=>by simp only[binOp,Op.floatArith,floatBits];cases FloatKind.f64.format.add a b <;>simp) h
   ·exact hflt (fun a b=>by simp only[binOp,Op.floatArith,floatBits];cases FloatKind.f64.format.sub a b <;>simp) h
   ·exact hflt (fun a b=>by simp only[binOp,Op.floatArith,floatBits];cases FloatKind.f64.format.mul a b <;>simp) h
   ·exact hflt (fun a b=>by simp only[binOp,Op.floatArith,floatBits];cases FloatKind.f64.format.div a b <;>simp) h
   ·exact hcmp (fun a b=>by simp[binOp,Op.floatCmp,q56]) h
   ·exact hcmp (fun a b=>by simp[binOp,Op.floatCmp,q56]) h
   ·exact hcmp (fun a b=>by simp[binOp,Op.floatCmp,q56]) h
   ·exact hcmp (fun a b=>by simp[binOp,Op.floatCmp,q56]) h
   ·exact hcmp (fun a b=>by simp[binOp,Op.floatCmp,q56]) h
   ·exact hcmp (fun a b=>by simp[binOp,Op.floatCmp,q56]) h
   ·exact(qr h).elim
  ·rename_i hu
   split at hl <;>subst hl
   ·simp only[XO] at h
    split at h
    ·rename_i a b hx hy;exact qn hS (v:= .bool (decide (a=b))) (by simp[execOp,ho,eqGuard,hx,hy,q5d,q5y hu]) h
    ·exact h.elim
   ·simp only[XO] at h
    split at h
    ·rename_i a b hx hy;refine qn hS (v:= .bool (decide (a≠b))) ?_ h;simp[execOp,ho,eqGuard,hx,hy,q5e,q5y hu]
    ·exact h.elim
   ·exact(qr h).elim
  ·rename_i ms hu;obtain⟨e1,e2⟩:=q8d (w:=w) hu;have hev:ev f (.const .nilIface)= .nilIface:=rfl
   split at hl <;>subst hl
   ·simp only[XO] at h
    split at h
    ·rename_i hx;exact qn hS (v:= .bool (!false)) (by simp[execOp,ho,eqGuard,hx,(q0N (t:=t) (.inl rfl)).1,e1,hev]) h
    ·rename_i tt v hx;exact qn hS (v:= .bool false) (by simp[execOp,ho,eqGuard,hx,(q0N (t:=t) (.inr ⟨tt,v,rfl⟩)).1,e2,hev]) h
    ·exact h.elim
   ·simp only[XO] at h
    split at h
    ·rename_i hx;exact qn hS (v:= .bool (!true)) (by simp[execOp,ho,eqGuard,hx,(q0N (t:=t) (.inl rfl)).2,e1,hev]) h
    ·rename_i tt v hx;exact qn hS (v:= .bool true) (by simp[execOp,ho,eqGuard,hx,(q0N (t:=t) (.inr ⟨tt,v,rfl⟩)).2,e2,hev]) h
    ·exact h.elim
   ·exact(qr h).elim
  ·subst hl;exact(qr h).elim
 case unOp op t x=>
  cases op <;>simp only at hl
  case not=>
   subst hl;simp only[XO] at h
   split at h
   ·rename_i b hx;exact qn hS (v:= .bool (!b)) (by simp[execOp,ho,hx,Op.unary]) h
   ·exact h.elim
  case neg=>
   split at hl
   ·subst hl;simp only[XO] at h
    split at h
    ·rename_i k m hx;exact qn hS (v:= .int k (k.wrap (0-m))) (by simp[execOp,ho,hx,Op.unary,Op.intArith]) h.h
    ·exact h.elim
   ·subst hl;exact(qr h).elim
  all_goals(subst hl;exact(qr h).elim)
 case convert s d x=>
  split at hl
  ·rename_i k' k hs hd;subst hl;simp only[XO] at h
   split at h
   ·rename_i k2 m hx;exact qn hS (v:= .int k (k.wrap m)) (by simp[execOp,ho,hx,convert,ql hs,ql hd,Conv.intToInt]) h.h
   ·exact h.elim
  ·rename_i k' hs hd;subst hl;simp only[XO] at h
   split at h
   ·rename_i k2 m hx;exact qn hS (v:= .float .f64 (FloatKind.f64.nearest m)) (by simp[execOp,ho,hx,convert,ql hs,ql hd,Conv.intToFloat]) h
   ·exact h.elim
  ·rename_i k hs hd;subst hl;simp only[XO] at h
   split at h
   ·rename_i b hx;obtain⟨n,hn,hk⟩:=h.h;refine qn hS (v:= .int k n) ?_ hk;have hc:=run_convert_float_int (P:=P) w s d .f64 k b n (by simp[hs]) hd hn;simp[execOp,ho,hx,hc]
   ·exact h.elim
  ·subst hl;exact(qr h).elim
 case fieldAddr t x i=>
  split at hl
  ·rename_i fs hu
   split at hl
   ·rename_i fd hfd
    split at hl
    ·rename_i n hn;subst hl;simp only[XO] at h
     split at h
     ·rename_i b off hx;refine qn hS (v:= .pointer (some ⟨b,off+fd.offset,none⟩)) ?_ h;simp[execOp,ho,hx,Instr.fieldAt,ql hu,hfd,Instr.sureAddr,fieldPlace,q0G hn,qO]
     ·exact h.elim
    ·subst hl;exact(qr h).elim
   ·subst hl;exact(qr h).elim
  ·subst hl;exact(qr h).elim
 case field t x i=>
  split at hl
  ·rename_i fs hu
   split at hl
   ·rename_i fd hfd
    split at hl
    ·rename_i n ha hn;subst hl;simp only[XO] at h
     split at h
     ·rename_i cs hx;refine qn hS ?_ h.h;simp[execOp,ho,hx,Instr.field,ql hu,hfd,asAgg,part,q0z ha,q0G hn];rw[←Zx];simp[Array.toList_extract,List.extract_eq_take_drop]
     ·exact h.elim
    ·rename_i n ha hn;subst hl;simp only[XO] at h
     split at h
     ·rename_i cs hx;obtain⟨v,hv,hk⟩:=h.h;refine qn hS ?_ hk;rw[Z1] at hv;simp[execOp,ho,hx,Instr.field,ql hu,hfd,asAgg,part,q0z ha,hv]
     ·exact h.elim
    ·subst hl;exact(qr h).elim
   ·subst hl;exact(qr h).elim
  ·subst hl;exact(qr h).elim
 case indexAddr t x i=>
  split at hl
  ·rename_i e hu
   split at hl
   ·rename_i n hn;subst hl;simp only[XO] at h
    split at h
    ·rename_i a len cap k m hx hi;obtain⟨j,b,off,rfl,hj,rfl,hk⟩:=h.h;refine qn hS ?_ hk;simp[execOp,ho,hx,hi,Instr.indexAt,ql hu,asIntOf,q0G hn,qO,hj]
    ·exact h.elim
   ·subst hl;exact(qr h).elim
  ·rename_i len e hu
   split at hl
   ·rename_i n hn;subst hl;simp only[XO] at h
    split at h
    ·rename_i b off k m hx hi;obtain⟨j,rfl,hj,hk⟩:=h.h;refine qn hS ?_ hk;simp[execOp,ho,hx,hi,Instr.indexAt,ql hu,asIntOf,q0G hn,qO,hj,Instr.sureAddr]
    ·exact h.elim
   ·subst hl;exact(qr h).elim
  ·subst hl;exact(qr h).elim
 case makeSlice t l c=>
  split at hl
  ·rename_i e hu
   split at hl
   ·rename_i ie hie
    split at hl
    ·rename_i z hz
     split at hl
     ·rename_i hc;subst hl;simp only[XO] at h
      split at h
      ·rename_i k l0 k' c0 hl0 hc0;obtain⟨l',c',rfl,rfl,hlc,hb,hK⟩:=h.h;refine .inr ⟨rfl, .inl ⟨_,_,_,?_,hS.push (.cells (List.replicate c' z.cells.toList).flatten.toArray e) (p:=fun o=>o=Obj.cells (List.replicate c' z.cells.toList).flatten.toArray e) rfl,hK w.heap.size hS.size⟩⟩;have hcb:c'≤c'*ie.bytes:=Nat.le_mul_of_pos_right _ hc.2.2;have hz0:=q3r (zs:=z.cells) c';rw[hc.1] at hz0;have h1:(ie.bytes:Int)*(c':Int)≤281474976710656:=by rw[←yR,Nat.mul_comm];omega
       have hr:=run_make (P:=P) w t e ie z hu hie hz k k' l' c' Y6 Y6 h1 Y6;simp only[zB] at hr;have hm:madeCells z.cells (c'*ie.size)=(List.replicate c' z.cells.toList).flatten.toArray:=by rw[←hz0];simp[madeCells,hc.1]
       rw[hm] at hr;simp only[execOp,ho,hl0,hc0,Sem.run_bind,hr,Result.andThen_ok,Sem.run_pure];rfl
      ·exact h.elim
     ·subst hl;exact(qr h).elim
    ·subst hl;exact(qr h).elim
   ·subst hl;exact(qr h).elim
  ·subst hl;exact(qr h).elim
 case makeFunc fn first cap=>
  cases fn <;>simp only at hl
  case func k=>
   split at hl
   ·rename_i hf;subst hl;simp only[XO] at h;have hf':first= #[]:=by simpa using hf
    refine qn hS ?_ h;subst hf';obtain⟨cap⟩:=cap;simp[execOp,ho,Instr.makeFunc]
   ·subst hl;exact(qr h).elim
  all_goals(subst hl;exact(qr h).elim)
 case slice t x lo hi mx=>
  split at hl
  ·rename_i e hu
   split at hl
   ·rename_i n hn;subst hl;simp only[XO] at h
    split at h
    ·rename_i a len cap lo' hi' mx' hx h1 h2 h3;obtain⟨l,r,m,e1,e2,e3,hlr,hrm,hmc,hmh,hK⟩:=h.h;refine qn hS ?_ hK;have hb:=q5t (P:=P) (isS:=true) (q75 h1) (q75 h2) (q75 h3) e1 e2 e3 hlr hrm hmc hmh w;unfold slA;simp[execOp,ho,Instr.sliceAt,Instr.slice,hx,ql hu,hb,q0G hn]
    ·exact h.elim
   ·subst hl;exact(qr h).elim
  ·rename_i hu
   split at hl
   ·subst hl;simp only[XO] at h
    split at h
    ·rename_i s lo' hi' hx h1 h2;obtain⟨l,r,e1,e2,hlr,hrs,hK⟩:=h.h;refine qn hS ?_ hK;have hb:=q5t (P:=P) (isS:=false) (len:=s.size) (cap:=s.size) (m:=s.size) (mx:=none) (mx':=none) (q75 h1) (q75 h2) (.inl ⟨rfl,rfl⟩) e1 e2 rfl hlr (fun _=>hrs) (fun h=>by cases h) (fun h=>by cases h) w;simp[execOp,ho,Instr.sliceAt,Instr.slice,hx,ql hu,hb]
    ·exact h.elim
   ·subst hl;exact(qr h).elim
  ·subst hl;exact(qr h).elim
 case index t x i=>
  split at hl
  ·rename_i hu;subst hl;simp only[XO] at h
   split at h
   ·rename_i s k m hx hi;obtain⟨j,b,rfl,hb,hk⟩:=h.h;refine qn hS ?_ hk;have hb':s[j]? =some b:=by
     rw[z7] at hb;obtain⟨hj,hb⟩:=hb;have hj':j<s.size:=by simpa using hj
     rw[getElem?_pos s j hj']
     congr 1
    simp[execOp,ho,hx,hi,Instr.index,ql hu,asIntOf,hb']
   ·exact h.elim
  ·rename_i len e hu
   split at hl
   ·rename_i n ha hn;subst hl;simp only[XO] at h
    split at h
    ·rename_i cs k m hx hi;obtain⟨j,rfl,hj,hk⟩:=h.h;refine qn hS ?_ hk.h;simp[execOp,ho,hx,hi,Instr.index,ql hu,asIntOf,q0G hn,hj,part,q0z ha];rw[←Zx];simp[Array.toList_extract,List.extract_eq_take_drop]
    ·exact h.elim
   ·rename_i ha hn;subst hl;simp only[XO] at h
    split at h
    ·rename_i cs k m hx hi;obtain⟨j,rfl,hj,hk⟩:=h.h;obtain⟨v,hv,hk⟩:=hk.h;refine qn hS ?_ hk;rw[Z1] at hv;simp[execOp,ho,hx,hi,Instr.index,ql hu,asIntOf,q0G hn,hj,part,q0z ha,hv]
    ·exact h.elim
   ·subst hl;exact(qr h).elim
  ·subst hl;exact(qr h).elim
 case load t x=>
  split at hl
  ·rename_i n ha hn;subst hl;simp only[XO] at h
   split at h
   ·rename_i ad hx;obtain⟨vs,hlen,hv,hk⟩:=h.h;refine qn hS ?_ hk;simp[execOp,ho,hx,Instr.loadAt,Instr.sureAddr,loadVar,q0z ha,q0G hn,q3f (vs:=vs.toList) hlen (hv w hS)]
   ·exact h.elim
  ·rename_i n ha hn;subst hl;simp only[XO] at h
   split at h
   ·rename_i ad hx;obtain⟨v,hv,hk⟩:=h.h;refine qn hS ?_ hk;have hv':=hv w hS;simp[execOp,ho,hx,Instr.loadAt,Instr.sureAddr,loadVar,q0z ha,hv']
   ·exact h.elim
  ·subst hl;exact(qr h).elim
 case store t x v=>
  split at hl
  ·rename_i n ha hn;subst hl;simp only[XO] at h
   split at h
   ·rename_i ad cs hx hv;obtain⟨hlen,⟨h1,own',hs,hk⟩⟩:=h;refine .inr ⟨rfl, .inr (.inl ⟨q4J w ad 0 cs.toList,own',?_,(hs w hS).2,hk⟩)⟩;have hlen':cs.size=n:=by simpa using hlen
    simp[execOp,ho,hx,hv,Instr.storeAt,Instr.sureAddr,storeVar,Value.cells,q0G hn,hlen',q11 _ 0 w h1 (fun j hj=>by simpa using (hs w hS).1 j hj)]
   ·exact h.elim
  ·rename_i ha hn;subst hl;simp only[XO] at h
   split at h
   ·rename_i ad hx;obtain⟨⟨h1,own',hs,hk⟩⟩:=h.h;obtain⟨g1,g2,g3⟩:=hs w hS;refine .inr ⟨rfl, .inr (.inl ⟨w.setCell ad (ev f v),own',?_,g3,hk⟩)⟩;have hc:(ev f v).cells= #[ev f v]:=by revert h1;cases ev f v <;>simp[q2D,Value.cells]
    simp[execOp,ho,hx,Instr.storeAt,Instr.sureAddr,storeVar,hc,q0G hn,storeCells,q3W h1 (a:=ad.add 0) (w:=w) (by simpa [Addr.add] using g1) (by simpa [Addr.add] using g2)];simp[Addr.add]
   ·exact h.elim
  ·subst hl;exact(qr h).elim
 case box t x=>
  subst hl;simp only[XO] at h;have key:∀cs:Array Value,(ev f x).cells=cs→New W0 own (.cells cs t) (fun b own'=>K (.pointer (some ⟨b,0,none⟩)) own')→q5a P f o w own W0 K (qcC (.box t x)):=by
   intro cs hc h;refine .inr ⟨rfl, .inl ⟨_,_,_,?_,hS.push (.cells cs t) (p:=fun o=>o= .cells cs t) rfl,h.h w.heap.size hS.size (fun _ he=>hS.mem_size he)⟩⟩;simp[execOp,ho,Instr.box,newVar,newRow,hc]
  split at h
  ·rename_i cs hx;exact key cs (by rw[hx];rfl) h
  ·rename_i v hne;refine key _ ?_ h.h;unfold Value.cells
   split
   ·rename_i cs hx;exact(hne cs hx).elim
   ·rfl
 case alloc t=>
  split at hl
  ·rename_i z hz;subst hl;simp only[XO] at h;have key:∀cs:Array Value,z.cells=cs→New W0 own (.cells cs t) (fun b own'=>K (.pointer (some ⟨b,0,none⟩)) own')→q5a P f o w own W0 K (qcC (.new t z)):=by
    intro cs hc h;refine .inr ⟨rfl, .inl ⟨_,_,_,?_,hS.push (.cells cs t) (p:=fun o=>o= .cells cs t) rfl,h.h w.heap.size hS.size (fun _ he=>hS.mem_size he)⟩⟩;simp[execOp,ho,Instr.alloc,newVar,newRow,q3s hz,hc]
   split at h
   ·exact key _ rfl h
   ·rename_i v hne;refine key _ ?_ h;unfold Value.cells
    split
    ·exact(hne _ rfl).elim
    ·rfl
  ·subst hl;exact(qr h).elim
 case build t parts=>
  unfold q6o at hl
  split at hl
  ·rename_i z fs hz hu
   split at hl
   ·rename_i hok
    split at hl
    ·rename_i l hl';subst hl;simp only[XO] at h;obtain⟨cs',h1,h2,_⟩:=q5W parts.toList l z.cells.toList _ (by simpa using hl') h;refine qn hS ?_ h2;have hpl:(fun i=>Option.map (fun f=>(f.offset,(szT P f.type).getD 0)) fs[i]?)=q4C P fs:=by
      funext i
      unfold q4C;cases hfi:fs[i]? with
      |none=>rfl
      |some fd=>
       have hmem:fd∈fs:=Array.mem_of_getElem? hfi;have:=Array.all_eq_true'.1 hok fd hmem;obtain⟨n,hn⟩:=Zk.1 this;simp[hn]
     have h1':Instr.fill (q4C P fs) z.cells (parts.toList.map fun p=>(p.1,ev f p.2))=some cs'.toArray:=by simpa using h1
     simp[execOp,ho,Instr.build,q3s hz,ql hu,qiv hok,hpl,h1']
    ·subst hl;exact(qr h).elim
   ·subst hl;exact(qr h).elim
  ·rename_i z len e hz hu
   split at hl
   ·rename_i n hn
    split at hl
    ·rename_i l hl';subst hl;simp only[XO] at h;obtain⟨cs',h1,h2,_⟩:=q5W parts.toList l z.cells.toList _ (by simpa using hl') h;refine qn hS ?_ h2;have h1':Instr.fill (fun i=>some (i*n,n)) z.cells (parts.toList.map fun p=>(p.1,ev f p.2))=some cs'.toArray:=by simpa using h1
     simp[execOp,ho,Instr.build,q3s hz,ql hu,q0G hn,h1']
    ·subst hl;exact(qr h).elim
   ·subst hl;exact(qr h).elim
  ·subst hl;exact(qr h).elim
 case buildSlice t len parts=>
  unfold q4x at hl
  split at hl
  ·rename_i e hu
   split at hl
   ·rename_i n z hn hz
    split at hl
    ·rename_i hb
     split at hl
     ·rename_i l hl';subst hl;simp only[XO] at h;obtain⟨ie,hie,hien⟩:=Zc.1 (show(P.info? e).map (·.size)=some n from hn);obtain⟨ie',hie',hiz⟩:=Option.bind_eq_some_iff.1 (show(P.info? e).bind (·.zero)=some z from hz);have hee:ie'=ie:=Option.some.inj (hie'.symm.trans hie);subst hee;subst hien;obtain⟨cs',h1,h2,_⟩:=q5W parts.toList l (q6O z (len*ie'.size)) _ (by simpa [q6O] using hl') h;have h2':=h2.h w.heap.size hS.size (fun _ he=>hS.mem_size he);refine .inr ⟨rfl, .inl ⟨_,_,_,?_,hS.push (.cells cs'.toArray e) (p:=(· = .cells cs'.toArray e)) rfl,h2'⟩⟩;have hr:=run_buildSlice (P:=P) w t e len (parts.map fun p=>(p.1,ev f p.2)) cs'.toArray ie' z hu hie hiz Y6 Y6 (by unfold q6O at h1;rw[yi] at h1;simpa only[Array.toList_map] using h1);unfold execOp;rw[ho];simp only[Sem.run_map,bind_pure_comp,hr,Result.andThen_ok];rfl
     ·subst hl;exact(qr h).elim
    ·split at hl
     ·rename_i hb0;subst hl;simp only[XO] at h;obtain⟨ie,hie,hien⟩:=Zc.1 (show(P.info? e).map (·.size)=some n from hn);subst hien;have h2':K (.slice (some ⟨w.heap.size,0,none⟩) len len) ((w.heap.size,(· = .cells #[] e))::own):=h.h w.heap.size hS.size (fun _ he=>hS.mem_size he);have hp:parts= #[]:=by rw[←Zx];exact hb0.2
      subst hp;refine .inr ⟨rfl, .inl ⟨_,_,_,?_,hS.push (.cells #[] e) (p:=(· = .cells #[] e)) rfl,h2'⟩⟩;simp[execOp,ho,Instr.buildSlice,ql hu,sizeOf,typeInfo,hie,hb0.1,Instr.fill,newRow];rw[show(Array.range 0)= #[] from rfl];simp
     ·subst hl;exact(qr h).elim
   ·subst hl;exact(qr h).elim
  ·subst hl;exact(qr h).elim
 case extract x i=>
  subst hl;simp only[XO] at h
  split at h
  ·rename_i vs hx;obtain⟨v,hv,hk⟩:=h.h;refine qn hS ?_ hk;rw[Z1] at hv;simp[execOp,ho,hx,Instr.extract,hv]
  ·exact h.elim
 case nilCheck x=>
  subst hl;simp only[XO] at h
  split at h
  ·rename_i ad hx;exact qn hS (v:= .pointer (some ad)) (by simp[execOp,ho,hx]) h
  ·exact h.elim
 case call c=>exact q6p ho hl hS h
 case range t x=>
  split at hl
  ·rename_i hu;subst hl;simp only[XO] at h
   split at h
   ·rename_i s hx;refine .inr ⟨rfl, .inl ⟨_,_,_,?_,hS.push (.stringIter s 0) (p:=fun o=>o= .stringIter s 0) rfl,h.h w.heap.size hS.size (fun _ he=>hS.mem_size he)⟩⟩;simp[execOp,ho,Instr.range,ql hu,hx]
   ·exact h.elim
  ·subst hl;exact(qr h).elim
 case next x isS=>
  split at hl
  ·subst hl;simp only[XO] at h
   split at h
   ·rename_i b hx;obtain⟨s,pos,hm,h1,h2⟩:=h.h;obtain⟨o',ho',hp'⟩:=hS.owns _ hm;have hg:w.heap[b]? =some (.stringIter s pos):=by rw[←show o'=_ from hp'];exact ho'
    by_cases hlt:pos<s.size
    ·obtain⟨own',hu,hk⟩:=h1 hlt;refine .inr ⟨rfl, .inl ⟨_,{w with heap:=w.heap.setIfInBounds b (.stringIter s (pos+(Utf8.decode s pos).2))},own',?_,?_,hk⟩⟩
     ·have hr:=(q4G (P:=P) (t:=o.type) hg).1 hlt;simp[execOp,ho,hx,hr]
     ·have hb:=(Zo.1 hg).1;refine hS.up hu rfl rfl rfl Y8 (fun k _ hne=> ?_) ⟨_,?_,rfl⟩
      ·simp[Ne.symm hne]
      ·simp[hb]
    ·refine .inr ⟨rfl, .inl ⟨_,w,own,?_,hS,h2 hlt⟩⟩;have hr:=(q4G (P:=P) (t:=o.type) hg).2 hlt;simp[execOp,ho,hx,hr]
   ·exact h.elim
  ·subst hl;exact(qr h).elim
 case makeMap t r=>
  cases r with
  |some x=>subst hl;exact(qr h).elim
  |none=>
   subst hl;simp only[XO] at h;refine .inr ⟨rfl, .inl ⟨_,_,_,?_,hS.push (.map #[] 0) (p:=q2C []) ⟨#[],0,rfl,rfl⟩,h.h w.heap.size hS.size⟩⟩;simp[execOp,ho,Instr.makeMap,newObj,Sem.run]
 case lookup t x i ok=>
  split at hl
  ·rename_i k e hu
   split at hl
   ·rename_i kk z hk hz;subst hl;simp only[XO] at h
    split at h
    ·rename_i hx;exact qn hS (by simp[execOp,ho,hx,q5G (r:=none) (key:=ev f i) (ok:=ok) hu hk hz (.inl ⟨rfl,rfl⟩) rfl]) h
    ·rename_i b hx;obtain⟨l,r,hm,hfd,hK⟩:=h.h;obtain⟨o',ho',es,c,rfl,hl⟩:=hS.owns _ hm;rw[←hl] at hfd;exact qn hS (by simp[execOp,ho,hx,q5G (r:=r) (ok:=ok) hu hk hz (.inr ⟨b,c,rfl,ho'⟩) hfd]) hK
    ·exact h.elim
   ·subst hl;exact(qr h).elim
  ·subst hl;exact(qr h).elim
 case mapUpdate t x i v=>
  split at hl
  ·rename_i k e hu
   split at hl
   ·rename_i kk hk;subst hl;simp only[XO] at h
    split at h
    ·rename_i b hx;obtain⟨l,own',hup,hsm,hK⟩:=h.h;obtain⟨r,hfd⟩:=Zk.1 hsm;obtain⟨o',ho',es,c,rfl,hl⟩:=hS.owns _ hup.mem;rw[←hl] at hfd;obtain⟨es',c',hrun,he⟩:=q3g (v:=ev f v) hu hk ho' hfd;have hlt:=(Zo.1 ho').1;refine .inr ⟨rfl, .inr (.inl ⟨{w with heap:=w.heap.setIfInBounds b (.map es' c')},own',?_,?_,hK⟩)⟩
     ·simp[execOp,ho,hx,hrun]
     ·refine hS.up hup rfl rfl rfl Y8 (fun k _ hne=>by simp[Ne.symm hne]) ⟨.map es' c',by simp[hlt],es',c',rfl,by rw[he,hl]⟩
    ·exact h.elim
   ·subst hl;exact(qr h).elim
  ·subst hl;exact(qr h).elim
 case insert t x i v=>
  split at hl
  ·rename_i k e hu
   split at hl
   ·rename_i kk hk;subst hl;simp only[XO] at h
    split at h
    ·rename_i b hx;obtain⟨l,own',hup,hsm,hK⟩:=h.h;obtain⟨r,hfd⟩:=Zk.1 hsm;obtain⟨o',ho',es,c,rfl,hl⟩:=hS.owns _ hup.mem;rw[←hl] at hfd;obtain⟨es',c',hrun,he⟩:=q3g (v:=ev f v) hu hk ho' hfd;have hlt:=(Zo.1 ho').1;refine .inr ⟨rfl, .inr (.inl ⟨{w with heap:=w.heap.setIfInBounds b (.map es' c')},own',?_,?_,hK⟩)⟩
     ·simp[execOp,ho,hx,hrun]
     ·refine hS.up hup rfl rfl rfl Y8 (fun k _ hne=>by simp[Ne.symm hne]) ⟨.map es' c',by simp[hlt],es',c',rfl,by rw[he,hl]⟩
    ·exact h.elim
   ·subst hl;exact(qr h).elim
  ·subst hl;exact(qr h).elim
 all_goals(subst hl;exact(qr h).elim)
theorem q5i{k:FuncId}{args:List Operand}(hl:q1t P o.op= .call k args):(execOp (ev f) o).run P w= .ok (.enter k (args.map (ev f)).toArray) w:=by
 cases ho:o.op <;>rw[ho] at hl <;>(try simp only[q1t] at hl) <;>(try exact IOp.noConfusion hl)
 case binOp op t x y t'=>unfold qcb at hl;repeat'(first|exact IOp.noConfusion hl|split at hl)
 case buildSlice=>unfold q4x at hl;repeat'(first|exact IOp.noConfusion hl|split at hl)
 case unOp op t x=>cases op <;>simp only at hl <;>repeat'(first|exact IOp.noConfusion hl|split at hl)
 case build=>unfold q6o at hl;repeat'(first|exact IOp.noConfusion hl|split at hl)
 case makeFunc fn _ _=>cases fn <;>simp only at hl <;>repeat'(first|exact IOp.noConfusion hl|split at hl)
 case makeMap t r=>
  cases r with
  |none=>have h:IOp.mkm= .call k args:=hl;cases h
  |some x=>have h:IOp.bad= .call k args:=hl;cases h
 case call c=>
  obtain⟨cal,as,ats⟩:=c;obtain⟨as⟩:=as;obtain⟨ats⟩:=ats;unfold q4y at hl;simp only at hl
  split at hl
  ·split at hl
   ·rename_i fn hfn
    split at hl
    ·repeat'(first|exact IOp.noConfusion hl|split at hl)
    ·rename_i hc;injection hl with h1 h2
     subst h1;subst h2;simp only[ZB,not_or,y6,beq_eq_false_iff_ne,Option.isNone_eq_false_iff] at hc;have h2:fn.body≠none:=by intro e;simp[e] at hc
     simp[execOp,ho,resolve,ev,Deferred.ofValue,invoke,callFunc,hfn,hc.1,h2]
   ·exact IOp.noConfusion hl
  all_goals repeat'(first|exact IOp.noConfusion hl|split at hl)
 all_goals repeat'(first|exact IOp.noConfusion hl|split at hl)
end
end Go.Proofs.YtbhbldllneadeaaGreatDoor
