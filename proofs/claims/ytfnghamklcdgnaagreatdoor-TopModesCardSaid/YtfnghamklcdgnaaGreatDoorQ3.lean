/- What the laws share, part 3. No condition. -/
import Derived.Laws.FloatArith
import Derived.Great.BuildSlice
import Derived.Laws.Append
import Derived.Laws.StructEq
import Derived.Laws.MakeOwn
import Derived.ChangeKeysEq
import Derived.OrdersIn
import Derived.Test.YtfnghamklcdgnaaGreatDoorQ2
namespace Go.Proofs.YtfnghamklcdgnaaGreatDoor
open Go
abbrev j8:=Option Addr
abbrev je:=List Value
abbrev jh:=List Nat
inductive IOp
 |mov (x:Operand)
 |pick (c a b:Operand)
 |bin (op:BinOp) (x y:Operand)
 |beq (neg:Bool) (x y:Operand)
 |ageq (neg:Bool) (ks:jh) (x y:Operand)
 |nilq (neg:Bool) (k:Nat) (x y:Operand)
 |not (x:Operand)
 |neg (x:Operand)
 |conv(k:IntKind) (x:Operand)
 |fad (off:Nat) (x:Operand)
 |fld (off:Nat) (x:Operand)
 |fldN (off n:Nat) (x:Operand)
 |ixs (sz:Nat) (x i:Operand)
 |ixa (len sz:Nat) (x i:Operand)
 |idx (len:Nat) (x i:Operand)
 |idxN (len sz:Nat) (x i:Operand)
 |ld (x:Operand)
 |ldN (n:Nat) (x:Operand)
 |st (x v:Operand)
 |stN (n:Nat) (x v:Operand)
 |box (t:TypeId) (x:Operand)
 |new (t:TypeId) (zero:Value)
 |bld (zero:je) (parts:List (Nat×Nat×Operand))
 |blds (t:TypeId) (len:Nat) (zero:je) (parts:List (Nat×Nat×Operand))
 |mk (t:TypeId) (sz bytes:Nat) (zero:je) (l c:Operand)
 |sls (sz:Nat) (x:Operand) (lo hi mx:Option Operand)
 |capb (x:Operand)
 |sidx (x i:Operand)
 |sslc (x:Operand) (lo hi:Option Operand)
 |scat (x y:Operand)
 |ibs (x c:Operand)
 |ext (x:Operand) (i:Nat)
 |len (x:Operand)
 |lens (x:Operand)
 |nilc (x:Operand)
 |mm (max:Bool) (x y:Operand)
 |app (t:TypeId) (sz bytes:Nat) (zero:je) (s x:Operand)
 |appz (t:TypeId) (bytes:Nat) (zero:je) (s n:Operand)
 |clr (zero:je) (x:Operand)
 |call (k:FuncId) (args:List Operand)
 |callv (x:Operand) (args:List Operand)
 |mkf (k:FuncId) (cap:List Operand)
 |sbin (op:BinOp) (x y:Operand)
 |fbin (op:BinOp) (x y:Operand)
 |flt (op:BinOp) (x y:Operand)
 |i2f (x:Operand)
 |f2i (k:IntKind) (x:Operand)
 |fbits (x:Operand)
 |ffrom (x:Operand)
 |fpk (neg:Bool) (x y:Operand)
 |nifc (neg:Bool) (x:Operand)
 |iter (x:Operand)
 |next (x:Operand)
 |mkm
 |mlk (kk:Nat) (z:Value) (ok:Bool) (x i:Operand)
 |mup (kk:Nat) (x i v:Operand)
 |bad
structure q4r where
 dst:Option Nat
 op:IOp
 guard:Option (Nat×Bool)
def q4g(P:Program)(t:TypeId):Option Bool:=
 match P.underlying t with
 |some (.struct _)|some (.array _ _)=>some true
 |some _=>some false
 |none=>none
def szT(P:Program)(t:TypeId):Option Nat:=(P.info? t).map (·.size)
def q7h(P:Program)(t:TypeId):Option Value:=(P.info? t).bind (·.zero)
def q7G(P:Program)(f:TypeId->Option (jh)):List Field->Nat->Option (jh)
 | [],_=>some []
 |x::r,off=>match f x.type with
  |some ks=>if x.offset=off/\x.name≠ "_" /\szT P x.type=some ks.length then(match q7G P f r (off+ks.length) with|some a=>some (ks++a)|none=>none) else none
  |none=>none
def q2q(P:Program):Nat->TypeId->Option (jh)
 |0,_=>none
 |n+1,t=>match P.underlying t with
  |some (.int _)=>some [0]
  |some .bool=>some [1]
  |some .string=>some [2]
  |some (.array k e)=>match q2q P n e with
   |some ks=>if szT P e=some ks.length then some (List.replicate k ks).flatten else none
   |none=>none
  |some (.struct a)=>if P.stoodInHeld t then none else q7G P (q2q P n) a.toList 0
  |_=>none
def qdi(P:Program)(op:BinOp)(t:TypeId)(x y:Operand):IOp:=
 match P.underlying t with
 |some (.int _)=> .bin op x y
 |some .string=>match op with
  | .eql| .neq=> .sbin op x y
  | .add=> .scat x y
  |_=> .bad
 |some (.slice _)=>match op with
  | .eql=> .nilq false 0 x y
  | .neq=> .nilq true 0 x y
  |_=> .bad
 |some (.pointer _)=>match op with
  | .eql=> .nilq false 1 x y
  | .neq=> .nilq true 1 x y
  |_=> .bad
 |some (.func _ _ _)=>match op with
  | .eql=> .nilq false 2 x y
  | .neq=> .nilq true 2 x y
  |_=> .bad
 |some (.map _ _)=>match op with
  | .eql=> .nilq false 3 x y
  | .neq=> .nilq true 3 x y
  |_=> .bad
 |some (.struct _)|some (.array _ _)=>match q2q P 6 t with
  |some ks=>if P.eqGuardType P.depth t then .bad else(match op with
   | .eql=> .ageq false ks x y
   | .neq=> .ageq true ks x y
   |_=> .bad)
  |none=> .bad
 |some (.float .f64)=>match op with
  | .add| .sub| .mul| .quo=> .flt op x y
  | .eql| .neq| .lss| .leq| .gtr| .geq=> .fbin op x y
  |_=> .bad
 |some .bool=>match op with
  | .eql=> .beq false x y
  | .neq=> .beq true x y
  |_=> .bad
 |some (.interface _)=>match op,y with
  | .eql, .const .nilIface=> .nifc false x
  | .neq, .const .nilIface=> .nifc true x
  |_,_=> .bad
 |_=> .bad
def q1d(P:Program)(place:Nat->Option (Nat×Nat))(a:Nat):List (Nat×Operand)->Option (List (Nat×Nat×Operand))
 | []=>some []
 |(i,x)::r=>match place i with
  |some (off,sz)=>if off+sz<=a then(match q1d P place a r with|some l=>some ((off,sz,x)::l)|none=>none) else none
  |none=>none
def q5g(P:Program)(a:Array Field)(i:Nat):Option (Nat×Nat):=match a[i]? with
 |some f=>(szT P f.type).map fun n=>(f.offset,n)
 |none=>none
def q6J(P:Program)(a:Array Field):Bool:=a.all fun f=>(szT P f.type).isSome
def q6R(P:Program)(t:TypeId)(parts:List (Nat×Operand)):IOp:=
 match q7h P t,P.underlying t with
 |some z,some (.struct a)=>if q6J P a then(match q1d P (q5g P a) z.cells.size parts with|some l=> .bld z.cells.toList l|none=> .bad) else .bad
 |some z,some (.array _ e)=>match szT P e with
  |some n=>(match q1d P (fun i=>some (i*n,n)) z.cells.size parts with|some l=> .bld z.cells.toList l|none=> .bad)
  |none=> .bad
 |_,_=> .bad
def q7i(z:Value)(n:Nat):je:=((Array.range n).map (z.cells[· % z.cells.size]!)).toList
def q59(P:Program)(t:TypeId)(len:Nat)(parts:List (Nat×Operand)):IOp:=
 match P.underlying t with
 |some (.slice e)=>match szT P e,q7h P e with
  |some n,some z=>if 0<len*n/\len*n<=16777216 then(match q1d P (fun i=>some (i*n,n)) (len*n) parts with|some l=> .blds e len (q7i z (len*n)) l|none=> .bad) else(if len*n=0/\parts= [] then .blds e len [] [] else .bad)
  |_,_=> .bad
 |_=> .bad
def q5a(P:Program)(c:Call):IOp:=
 match c.callee with
 | .value (.func k)=>match P.funcs[k]? with
  |some fn=>if fn.name== "runtime.NumGoroutine" ||fn.body.isNone then
    (if fn.body.isNone&&(Extern.findNext fn).isNone&&decide (fn.name= "math.Float64bits") then(match c.args.toList with| [x]=> .fbits x|_=> .bad)
    else if fn.body.isNone&&(Extern.findNext fn).isNone&&decide (fn.name= "math.Float64frombits") then(match c.args.toList with| [x]=> .ffrom x|_=> .bad)
    else if fn.body.isNone&&(Extern.findNext fn).isNone&&decide (fn.name= "math.archMin") then(match c.args.toList with| [x,y]=> .fpk true x y|_=> .bad)
    else if fn.body.isNone&&(Extern.findNext fn).isNone&&decide (fn.name= "math.archMax") then(match c.args.toList with| [x,y]=> .fpk false x y|_=> .bad)
    else if fn.body.isNone&&(Extern.findNext fn).isNone&&decide (fn.name= "internal/bytealg.IndexByteString") then(match c.args.toList with| [x,y]=> .ibs x y|_=> .bad) else .bad)
   else .call k c.args.toList
  |none=> .bad
 | .builtin .len=>match c.args.toList,c.argTypes.toList with
  | [x],[t]=>match P.underlying t with
   |some (.slice _)=> .len x
   |some .string=> .lens x
   |_=> .bad
  |_,_=> .bad
 | .builtin .cap=>match c.args.toList,c.argTypes.toList with
  | [x],[t]=>match P.underlying t with
   |some (.slice _)=> .capb x
   |_=> .bad
  |_,_=> .bad
 | .builtin .append=>match c.args.toList,c.argTypes.toList with
  | [s,x],[t,b]=>match P.underlying t,P.underlying b with
   |some (.slice e),some (.slice _)=>match P.info? e with
    |some a=>match a.zero with
     |some z=>if z.cells.size=a.size/\0<a.size/\0<a.bytes then .app e a.size a.bytes z.cells.toList s x else .bad
     |none=> .bad
    |none=> .bad
   |some (.slice e),some (.int _)=>match P.info? e with
    |some a=>match a.zero with
     |some z=>if z.cells.size=a.size/\0<a.size/\0<a.bytes then .appz e a.bytes z.cells.toList s x else .bad
     |none=> .bad
    |none=> .bad
   |_,_=> .bad
  |_,_=> .bad
 | .builtin .clear=>match c.args.toList,c.argTypes.toList with
  | [x],[t]=>match P.underlying t with
   |some (.slice e)=>match P.info? e with
    |some a=>match a.zero with
     |some z=> .clr z.cells.toList x
     |none=> .bad
    |none=> .bad
   |_=> .bad
  |_,_=> .bad
 | .value (.tmp f)=> .callv (.tmp f) c.args.toList
 | .builtin .min=>match c.args.toList with| [x,y]=> .mm false x y|_=> .bad
 | .builtin .max=>match c.args.toList with| [x,y]=> .mm true x y|_=> .bad
 |_=> .bad
def qfI(P:Program)(k:TypeId):Option Nat:=match P.underlying k with
 |some (.int _)=>some 0
 |some .string=>some 2
 |_=>none
def q1I(P:Program):Op->IOp
 | .move x| .assign x=> .mov x
 | .pick c a b=> .pick c a b
 | .binOp op t x y _=>qdi P op t x y
 | .unOp .not _ x=> .not x
 | .unOp .neg t x=>match P.underlying t with|some (.int _)=> .neg x|_=> .bad
 | .convert s d x=>match P.underlying s,P.underlying d with
  |some (.int _),some (.int k)=> .conv k x
  |some (.int _),some (.float .f64)=> .i2f x
  |some (.float .f64),some (.int k)=> .f2i k x
  |_,_=> .bad
 | .fieldAddr t x i=>match P.underlying t with
  |some (.struct h)=>match h[i]? with
   |some f=>match szT P f.type with|some (_+1)=> .fad f.offset x|_=> .bad
   |none=> .bad
  |_=> .bad
 | .field t x i=>match P.underlying t with
  |some (.struct h)=>match h[i]? with
   |some f=>match q4g P f.type,szT P f.type with
    |some true,some n=> .fldN f.offset n x
    |some false,some _=> .fld f.offset x
    |_,_=> .bad
   |none=> .bad
  |_=> .bad
 | .indexAddr t x i=>match P.underlying t with
  |some (.slice e)=>match szT P e with|some n=> .ixs n x i|none=> .bad
  |some (.array len e)=>match szT P e with|some n=> .ixa len n x i|none=> .bad
  |_=> .bad
 | .makeSlice t l c=>match P.underlying t with
  |some (.slice e)=>match P.info? e with
   |some g=>match g.zero with
    |some z=>if z.cells.size=g.size/\0<g.size/\0<g.bytes then .mk e g.size g.bytes z.cells.toList l c else .bad
    |none=> .bad
   |none=> .bad
  |_=> .bad
 | .makeFunc (.func k) first cap=>if first.isEmpty then .mkf k cap.toList else .bad
 | .slice t x lo hi mx=>match P.underlying t with
  |some (.slice e)=>match szT P e with
   |some n=> .sls n x lo hi mx
   |none=> .bad
  |some .string=>match mx with
   |none=> .sslc x lo hi
   |some _=> .bad
  |_=> .bad
 | .index t x i=>match P.underlying t with
  |some .string=> .sidx x i
  |some (.array len e)=>match q4g P e,szT P e with
    |some true,some n=> .idxN len n x i
    |some false,some 1=> .idx len x i
    |_,_=> .bad
  |_=> .bad
 | .load t x=>match q4g P t,szT P t with
  |some true,some n=> .ldN n x
  |some false,some _=> .ld x
  |_,_=> .bad
 | .store t x v=>match q4g P t,szT P t with
  |some true,some n=> .stN n x v
  |some false,some 1=> .st x v
  |_,_=> .bad
 | .box t x=> .box t x
 | .alloc t=>match q7h P t with|some z=> .new t z|none=> .bad
 | .extract x i=> .ext x i
 | .build t parts=>q6R P t parts.toList
 | .buildSlice t len parts=>q59 P t len parts.toList
 | .nilCheck x=> .nilc x
 | .range t x=>match P.underlying t with|some .string=> .iter x|_=> .bad
 | .next x isS=>match isS with|true=> .next x|false=> .bad
 | .call c=>q5a P c
 | .makeMap _ none=> .mkm
 | .lookup t x i ok=>match P.underlying t with
  |some (.map k e)=>match qfI P k,q7h P e with
   |some kk,some z=> .mlk kk z ok x i
   |_,_=> .bad
  |_=> .bad
 | .mapUpdate t x i v| .insert t x i v=>match P.underlying t with
  |some (.map k _)=>match qfI P k with
   |some kk=> .mup kk x i v
   |none=> .bad
  |_=> .bad
 |_=> .bad
def q0F(P:Program)(ops:Array Oper)(o:Oper):q4r:=
 {dst:=o.dst,op:=q1I P o.op,guard:=match o.guard with
  |none=>none
  |some (j,b)=>match (ops[j]?).bind (·.dst) with
   |some d=>some (d,b)
   |none=>none}
structure q4N(k:IntKind)(e:Int)(K:Int->Prop):Prop where
 h:K (k.wrap e)
structure MM(mx:Bool)(a b:Int)(K:Int->Prop):Prop where
 h:K (bif mx then max a b else min a b)
def q5I(op:BinOp)(c:Option Ordering):Bool:=
 match op with
 | .eql=>c==some .eq
 | .neq=>c !=some .eq
 | .lss=>c==some .lt
 | .leq=>c==some .lt||c==some .eq
 | .gtr=>c==some .gt
 | .geq=>c==some .gt||c==some .eq
 |_=>false
structure qnq(op:BinOp)(a b:Nat)(K:Bool->Prop):Prop where
 h:K (q5I op (FloatKind.f64.format.order a b))
def qnj(r:Nat):Prop:=∃s t:Nat,s<2/\t<2 ^ 52-1/\r=s*2 ^ 63+0x7ff0000000000000+1+t
structure qnr(op:BinOp)(a b:Nat)(K:Nat->Prop):Prop where
 h:(∀r,floatBits op .f64 a b=some r->K r)/\(floatBits op .f64 a b=none->∀r,qnj r->K r)
structure F2I(k:IntKind)(b:Nat)(K:Int->Prop):Prop where
 h:∃n,floatToIntVal .f64 b k=some n/\K n
def q5f(neg:Bool)(x y:Nat):Nat:=
 if FloatKind.f64.decode x== .infinity neg||FloatKind.f64.decode y== .infinity neg then FloatKind.f64.encode (.infinity neg)
 else if(FloatKind.f64.decode x).isNaN||(FloatKind.f64.decode y).isNaN then 0x7FF8000000000001
 else if(FloatKind.f64.decode x).isZero&&(FloatKind.f64.decode y).isZero then(if(FloatKind.f64.decode x).neg==neg then x else y)
 else if(FloatKind.f64.decode x).order (FloatKind.f64.decode y)==some (bif neg then .lt else .gt) then x else y
def qcp(op:BinOp)(a b:ByteArray)(K:Value->Prop):Prop:=
 match op with
 | .eql=>K (.bool (decide (a.toList=b.toList)))
 | .neq=>K (.bool (!decide (a.toList=b.toList)))
 |_=>False
structure Quo(k:IntKind)(m n:Int)(K:Int->Prop):Prop where
 h:n≠0/\K (k.wrap (m.tdiv n))
structure Rem(m n:Int)(K:Int->Prop):Prop where
 h:n≠0/\K (m.tmod n)
structure Shl(k:IntKind)(m n:Int)(K:Int->Prop):Prop where
 h:0<=n/\K (k.wrap (m*2 ^ (min n.toNat k.bits)))
structure Shr(k:IntKind)(m n:Int)(K:Int->Prop):Prop where
 h:0<=n/\K (m.fdiv (2 ^ (min n.toNat k.bits)))
structure Idx(i:Int)(n:Nat)(K:Nat->Prop):Prop where
 h:∃j:Nat,i=j/\j<n/\K j
def kn:IntKind->Nat
 | .i8=>0| .i16=>1| .i32=>2| .i64=>3| .u8=>4| .u16=>5| .u32=>6| .u64=>7
theorem qdb{k a:IntKind}(h:Nat.beq (kn k) (kn a)=true):k=a:=by cases k <;>cases a <;>first|rfl|cases h
structure IxS(a:j8)(sz:Nat)(i:Int)(len:Nat)(K:Addr->Prop):Prop where
 h:∃j b o:Nat,i=j/\j<len/\a=some ⟨b,o,none⟩/\K ⟨b,o+j*sz,none⟩
theorem qL{a b c d e}(h:IxS a b c d e):IxS a b c d e:=h
def slA(a:j8)(m l sz:Nat):j8:=if m=l then a else a.map (·.add (l*sz))
structure qkO(a:j8)(n c sz:Nat)(lo hi mx:Option Int)(K:Value->Prop):Prop where
 h:∃l r m:Nat,lo.getD 0=l/\hi.getD n=r/\mx.getD c=m/\l<=r/\(hi.isSome=true->r<=m)/\(mx.isSome=true->m<=c)/\(mx.isSome=true->hi.isSome=true)/\K (.slice (slA a m l sz) (r-l) (m-l))
structure qov(s:ByteArray)(lo hi:Option Int)(K:Value->Prop):Prop where
 h:∃l r:Nat,lo.getD 0=l/\hi.getD s.size=r/\l<=r/\r<=s.size/\K (.string (s.extract l r))
structure qou(s:ByteArray)(i:Int)(K:Value->Prop):Prop where
 h:∃(j:Nat) (b:UInt8),i=j/\s.data.toList[j]? =some b/\K (.int .u8 b.toNat)
structure qoF(a b:ByteArray)(K:Value->Prop):Prop where
 h:a.size+b.size<=9223372036854775807/\K (.string (a++b))
def qfb(s:ByteArray)(c:Int):Int:=match (List.range s.size).find? fun i=>s[i]! ==c.toNat.toUInt8 with
 |some i=>i
 |none=> -1
def evI(f:Fr):Option Operand->Option (Option Int)
 |none=>some none
 |some x=>match ev f x with
  | .int _ i=>some (some i)
  |_=>none
def qjp:Nat->Value->Value->Option Bool
 |0, .slice a _ _, .slice none _ _=>some a.isNone
 |1, .pointer a, .pointer none=>some a.isNone
 |2, .func _ _ _, .nilFunc=>some false
 |2, .nilFunc, .nilFunc=>some true
 |3, .map a, .map none=>some a.isNone
 |_,_,_=>none
def q1u:Nat->Value->Value->Option Bool
 |0, .int k a, .int c b=>match Nat.beq (kn k) (kn c) with
  |true=>some (decide (a=b))
  |false=>none
 |1, .bool a, .bool b=>some (decide (a=b))
 |2, .string a, .string b=>some (decide (a.data.toList=b.data.toList))
 |_,_,_=>none
def eqC:jh->je->je->Option Bool
 | [],[],[]=>some true
 |k::ks,x::xs,y::ys=>match q1u k x y with
  |some a=>(match eqC ks xs ys with
   |some b=>some (a&&b)
   |none=>none)
  |none=>none
 |_,_,_=>none
def q2H(l:List (Value×Value)):Obj->Prop:=fun o=>∃es c,o=Obj.map es c/\es.toList.map (fun e=>(e.key,e.val))=l
def q1Y(kk:Nat)(key:Value):List (Value×Value)->Option (Option Value)
 | []=>some none
 |e::r=>match q1u kk key e.1 with
  |some true=>some (some e.2)
  |some false=>q1Y kk key r
  |none=>none
def q5F(kk:Nat)(key v:Value):List (Value×Value)->List (Value×Value)
 | []=> [(key,v)]
 |e::r=>match q1u kk key e.1 with
  |some true=>(key,v)::r
  |_=>e::q5F kk key v r
def qkT(z:Value)(ok:Bool)(r:Option Value):Value:=match ok,r with
 |true,some v=> .tuple #[v, .bool true]
 |true,none=> .tuple #[z, .bool false]
 |false,some v=>v
 |false,none=>z
structure EqT(ks:jh)(xs ys:je)(K:Bool->Prop):Prop where
 h:∃r,eqC ks xs ys=some r/\K r
structure Sel(v:Option Value)(K:Value->Prop):Prop where
 h:∃x,v=some x/\K x
structure qot(cs:je)(off n:Nat)(K:Value->Prop):Prop where
 h:K (.agg ((cs.drop off).take n).toArray)
structure q2m(c b:Bool)(Ky Kn:Prop):Prop where
 y:c=b->Ky
 n:c=(!b)->Kn
structure Br(c:Bool)(Ky Kn:Prop):Prop where
 y:c=true->Ky
 n:c=false->Kn
def Mv(v:Value)(K:Value->Prop):Prop:=
 match v with
 | .int k n=>K (.int k n)
 | .bool b=>K (.bool b)
 | .pointer a=>K (.pointer a)
 | .slice a n c=>K (.slice a n c)
 | .agg cs=>K (.agg cs)
 | .tuple cs=>K (.tuple cs)
 | .string s=>K (.string s)
 | .float k b=>K (.float k b)
 | .func a b c=>K (.func a b c)
 |v=>K v
theorem qhr{v:Value}{K:Value->Prop}:Mv v K↔K v:=by cases v <;>rfl
theorem Mv.h{v:Value}{K:Value->Prop}(h:Mv v K):K v:=qhr.1 h
theorem Mv.mk{v:Value}{K:Value->Prop}(h:K v):Mv v K:=qhr.2 h
def qkY(c:Bool)(a b:Value)(K:Value->Prop):Prop:=match c with|true=>Mv a K|false=>Mv b K
theorem qkY.h{c:Bool}{a b:Value}{K:Value->Prop}(h:qkY c a b K):K (if c then a else b):=by cases c <;>exact Mv.h h
theorem qkY.mk{c:Bool}{a b:Value}{K:Value->Prop}(h:K (if c then a else b)):qkY c a b K:=by cases c <;>exact Mv.mk h
def q5M(k a:IntKind)(p:Prop):Prop:=match Nat.beq (kn k) (kn a) with|true=>p|false=>False
theorem q5M.h{k a:IntKind}{p:Prop}(h:q5M k a p):k=a/\p:=by
 unfold q5M at h
 split at h
 ·exact⟨qdb (by assumption),h⟩
 ·exact h.elim
theorem q5M.mk{k:IntKind}{p:Prop}(h:p):q5M k k p:=by unfold q5M;cases k <;>exact h
structure Ld(W0:World)(own:Own)(a:Addr)(K:Value->Prop):Prop where
 h:∃v,Kn W0 own (fun w=>w.cell? a=some v)/\K v
theorem gLd{a b c d}(h:Ld a b c d):Ld a b c d:=h
structure LdN(W0:World)(own:Own)(a:Addr)(n:Nat)(K:jg->Prop):Prop where
 h:∃vs:jg,vs.toList.length=n/\Kn W0 own (fun w=>∀j,j<n->w.cell? (a.add j)=vs.toList[j]?)/\K vs
theorem q27{a b c d e}(h:LdN a b c d e):LdN a b c d e:=h
def q2r:Value->Bool
 | .agg _| .tuple _=>false
 |_=>true
structure StT(W0:World)(own:Own)(a:Addr)(v:Value)(K:Own->Prop):Prop where
 h:q2r v=true/\∃own',(∀w,St W0 own w->(w.cell? a).isSome=true/\w.frozen? a=false/\St W0 own' (w.setCell a v))/\K own'
def q4J(w:World)(a:Addr):Nat->je->World
 |_,[]=>w
 |j,v::vs=>q4J (w.setCell (a.add j) v) a (j+1) vs
structure StN(W0:World)(own:Own)(a:Addr)(vs:je)(K:Own->Prop):Prop where
 h:(∀v∈vs,q2r v=true)/\∃own',(∀w,St W0 own w->(∀j,j<vs.length->(w.cell? (a.add j)).isSome=true/\w.frozen? (a.add j)=false)/\St W0 own' (q4J w a 0 vs))/\K own'
structure New(W0:World)(own:Own)(o:Obj)(K:Nat->Own->Prop):Prop where
 h:∀b,W0.heap.size<=b->(∀e∈own,e.1<b)->K b ((b,(· =o))::own)
structure MkT(W0:World)(own:Own)(T:TypeId)(bytes:Nat)(zs:je)(l c:Int)(K:Value->Own->Prop):Prop where
 h:∃l' c':Nat,l=l'/\c=c'/\l'<=c'/\c'*bytes<=281474976710656/\∀b,W0.heap.size<=b->K (.slice (some ⟨b,0,none⟩) l' c') ((b,fun o=>o=Obj.cells (List.replicate c' zs).flatten.toArray T)::own)
def Holds(a:j8)(cs:je)(w:World):Prop:=∀ad,a=some ad->∀j v,cs[j]? =some v->w.cell? (ad.add j)=some v
structure qc6(W0:World)(own:Own)(T:TypeId)(sz bytes:Nat)(zs:je)(a:j8)(n c:Nat)(a2:j8)(m:Nat)(K:Value->Own->Prop):Prop where
 h:∃cs ys:je,cs.length=n*sz/\ys.length=m*sz/\(a=none->cs= [])/\(a2=none->ys= [])/\(∀v∈ys,q2r v=true)/\Kn W0 own (Holds a cs)/\Kn W0 own (Holds a2 ys)/\
  (n+m<=c->∃own',(∀w,St W0 own w->(∀ad,a=some ad->(∀j,j<ys.length->(w.cell? ((ad.add (n*sz)).add j)).isSome=true/\w.frozen? ((ad.add (n*sz)).add j)=false)/\St W0 own' (q4J w (ad.add (n*sz)) 0 ys))/\(a=none->St W0 own' w))/\K (.slice a (n+m) c) own')/\
  (c<n+m->(n+m)*bytes<=140737488355328/\∀b c',W0.heap.size<=b->n+m<=c'->∃own',Ent W0 ((b,fun o=>o=Obj.cells (cs++ys++(List.replicate (c'-(n+m)) zs).flatten).toArray T)::own) own'/\K (.slice (some ⟨b,0,none⟩) (n+m) c') own')
structure qn5(W0:World)(own:Own)(T:TypeId)(bytes:Nat)(zs:je)(a:j8)(n c m:Nat)(K:Value->Own->Prop):Prop where
 h:∃cs:je,cs.length=n*zs.length/\(a=none->cs= [])/\(∀v∈zs,q2r v=true)/\Kn W0 own (Holds a cs)/\
  (n+m<=c->∃own' ad,a=some ad/\(∀w,St W0 own w->(∀j,j<m*zs.length->(w.cell? ((ad.add (n*zs.length)).add j)).isSome=true/\w.frozen? ((ad.add (n*zs.length)).add j)=false)/\St W0 own' (q4J w (ad.add (n*zs.length)) 0 (List.replicate m zs).flatten))/\K (.slice a (n+m) c) own')/\
  (c<n+m->(n+m)*bytes<=140737488355328/\∀b c',W0.heap.size<=b->n+m<=c'->∃own',Ent W0 ((b,fun o=>o=Obj.cells (cs++(List.replicate (c'-n) zs).flatten).toArray T)::own) own'/\K (.slice (some ⟨b,0,none⟩) (n+m) c') own')
structure qon(W0:World)(own:Own)(T:TypeId)(bytes:Nat)(zs:je)(a:j8)(l c:Nat)(m:Int)(K:Value->Own->Prop):Prop where
 h:((m=0/\l<=c/\K (.slice a l c) own)\/∃m':Nat,m=m'/\0<m'/\m'*bytes<=281474976710656/\qn5 W0 own T bytes zs a l c m' K)\/l=0/\c=0/\∃m':Nat,m=m'/\0<m'/\m'*bytes<=281474976710656/\∀b c',W0.heap.size<=b->m'<=c'->K (.slice (some ⟨b,0,none⟩) m' c') ((b,fun o=>o=Obj.cells (List.replicate c' zs).flatten.toArray T)::own)
def okF(P:Program)(k:FuncId):Bool:=match P.funcs[k]? with
 |some fn=> !(fn.name== "runtime.NumGoroutine")&&fn.body.isSome
 |none=>false
structure q0g(P:Program)(W0:World)(own:Own)(k:FuncId)(args:je)(K:Value->Own->Prop):Prop where
 h:∀w,St W0 own w->Calls P k args.toArray w fun e w'=>∃v own',e= .returned v/\St W0 own' w'/\K v own'
theorem qe{a b c d e f}(h:q0g a b c d e f):q0g a b c d e f:=h
structure q3S(P:Program)(W0:World)(own:Own)(k:FuncId)(args:je)(K:Value->Own->Prop):Prop where
 h:okF P k=true/\q0g P W0 own k args K
structure ql4(P:Program)(W0:World)(own:Own)(l:Nat)(args:je)(K:Value->Own->Prop):Prop where
 h:∀w,St W0 own w->∃k tmps assign body,(Instr.yield l args.toArray).run P w= .ok (.round l k tmps assign body) w/\RoundIn Fence.wide 0 P l k tmps assign body w fun e w'=>∃v own',e= .returned v/\St W0 own' w'/\K v own'
structure qnt(W0:World)(own:Own)(b:Nat)(K:Value->Own->Prop):Prop where
 h:∃(s:ByteArray) (pos:Nat),(b,fun o=>o=Obj.stringIter s pos)∈own/\(pos<s.size->∃own',Up b (fun o=>o=Obj.stringIter s pos) (fun o=>o=Obj.stringIter s (pos+(Utf8.decode s pos).2)) own own'/\K (.tuple #[.bool true, .int .i64 pos, .int .i32 (Utf8.decode s pos).1]) own')/\(¬pos<s.size->K (.tuple #[.bool false]) own)
structure qoq(W0:World)(own:Own)(K:Nat->Own->Prop):Prop where
 h:∀b,W0.heap.size<=b->K b ((b,q2H [])::own)
structure qns(own:Own)(kk b:Nat)(key:Value)(K:Option Value->Prop):Prop where
 h:∃l r,(b,q2H l)∈own/\q1Y kk key l=some r/\K r
structure qop(own:Own)(kk b:Nat)(key v:Value)(K:Own->Prop):Prop where
 h:∃l own',Up b (q2H l) (q2H (q5F kk key v l)) own own'/\(q1Y kk key l).isSome=true/\K own'
noncomputable def Bld(f:Fr)(parts:List (Nat×Nat×Operand)):je->(je->Prop)->Prop:=
 List.rec (motive:=fun _=>je->(je->Prop)->Prop) (fun cs K=>K cs) (fun p _ a cs K=>match ev f p.2.2 with
  | .agg vs=>(match Nat.beq vs.toList.length p.2.1 with|true=>a (cs.take p.1++vs.toList++cs.drop (p.1+p.2.1)) K|false=>False)
  |v=>Mv v fun v=>(match Nat.beq p.2.1 1 with|true=>a (cs.set p.1 v) K|false=>False)) parts
theorem qc7{f:Fr}{cs:je}{K:je->Prop}:Bld f [] cs K=K cs:=rfl
theorem q22{f:Fr}{off sz:Nat}{x:Operand}{r:List (Nat×Nat×Operand)}{cs:je}{K:je->Prop}:Bld f ((off,sz,x)::r) cs K=match ev f x with
  | .agg vs=>(match Nat.beq vs.toList.length sz with|true=>Bld f r (cs.take off++vs.toList++cs.drop (off+sz)) K|false=>False)
  |v=>Mv v fun v=>(match Nat.beq sz 1 with|true=>Bld f r (cs.set off v) K|false=>False):=rfl
def qfo(op:BinOp)(k:IntKind)(m n:Int):Int:=
 match op with
 | .and=>k.wrap (BitVec.ofInt k.bits m&&&BitVec.ofInt k.bits n).toNat
 | .or=>k.wrap (BitVec.ofInt k.bits m|||BitVec.ofInt k.bits n).toNat
 | .xor=>k.wrap (BitVec.ofInt k.bits m ^^^ BitVec.ofInt k.bits n).toNat
 |_=>k.wrap (BitVec.ofInt k.bits m&&& ~~~ BitVec.ofInt k.bits n).toNat
structure qkW(op:BinOp)(k:IntKind)(m n:Int)(K:Int->Prop):Prop where
 h:K (qfo op k m n)
def q3o(op:BinOp)(k:IntKind)(m:Int)(a:IntKind)(n:Int)(K:Value->Prop):Prop:=
 match op with
 | .add=>q5M k a<| q4N k (m+n) fun z=>K (.int k z)
 | .sub=>q5M k a<| q4N k (m-n) fun z=>K (.int k z)
 | .mul=>q5M k a<| q4N k (m*n) fun z=>K (.int k z)
 | .quo=>q5M k a<| Quo k m n fun z=>K (.int k z)
 | .rem=>q5M k a<| Rem m n fun z=>K (.int k z)
 | .and=>q5M k a<| qkW .and k m n fun z=>K (.int k z)
 | .or=>q5M k a<| qkW .or k m n fun z=>K (.int k z)
 | .xor=>q5M k a<| qkW .xor k m n fun z=>K (.int k z)
 | .andNot=>q5M k a<| qkW .andNot k m n fun z=>K (.int k z)
 | .shl=>Shl k m n fun z=>K (.int k z)
 | .shr=>Shr k m n fun z=>K (.int k z)
 | .eql=>q5M k a<| K (.bool (decide (m=n)))
 | .neq=>q5M k a<| K (.bool (decide (m≠n)))
 | .lss=>q5M k a<| K (.bool (decide (m<n)))
 | .leq=>q5M k a<| K (.bool (decide (m<=n)))
 | .gtr=>q5M k a<| K (.bool (decide (n<m)))
 | .geq=>q5M k a<| K (.bool (decide (n<=m)))
def XO(P:Program)(W0:World)(f:Fr)(own:Own)(op:IOp)(K:Value->Own->Prop):Prop:=
 match op with
 | .mov x=>Mv (ev f x) fun v=>K v own
 | .pick c a b=>match ev f c with
  | .bool c=>qkY c (ev f a) (ev f b) fun v=>K v own
  |_=>False
 | .bin op x y=>match ev f x,ev f y with
  | .int k m, .int d n=>q3o op k m d n fun v=>K v own
  |_,_=>False
 | .sbin op x y=>match ev f x,ev f y with
  | .string a, .string b=>qcp op a b fun v=>K v own
  |_,_=>False
 | .fbin op x y=>match ev f x,ev f y with
  | .float .f64 a, .float .f64 b=>qnq op a b fun r=>K (.bool r) own
  |_,_=>False
 | .flt op x y=>match ev f x,ev f y with
  | .float .f64 a, .float .f64 b=>qnr op a b fun r=>K (.float .f64 r) own
  |_,_=>False
 | .i2f x=>match ev f x with
  | .int _ n=>K (.float .f64 (FloatKind.f64.nearest n)) own
  |_=>False
 | .f2i k x=>match ev f x with
  | .float .f64 b=>F2I k b fun n=>K (.int k n) own
  |_=>False
 | .fbits x=>match ev f x with
  | .float .f64 b=>K (.int .u64 b) own
  |_=>False
 | .fpk neg x y=>match ev f x,ev f y with
  | .float .f64 a, .float .f64 b=>K (.float .f64 (q5f neg a b)) own
  |_,_=>False
 | .ffrom x=>match ev f x with
  | .int .u64 n=>K (.float .f64 n.toNat) own
  |_=>False
 | .beq neg x y=>match ev f x,ev f y with
  | .bool a, .bool b=>K (.bool (bif neg then decide (a≠b) else decide (a=b))) own
  |_,_=>False
 | .not x=>match ev f x with
  | .bool a=>K (.bool (!a)) own
  |_=>False
 | .neg x=>match ev f x with
  | .int k a=>q4N k (0-a) fun z=>K (.int k z) own
  |_=>False
 | .conv k x=>match ev f x with
  | .int _ a=>q4N k a fun z=>K (.int k z) own
  |_=>False
 | .fad off x=>match ev f x with
  | .pointer (some ⟨b,o,none⟩)=>K (.pointer (some ⟨b,o+off,none⟩)) own
  |_=>False
 | .fld off x=>match ev f x with
  | .agg cs=>Sel cs.toList[off]? fun v=>K v own
  |_=>False
 | .fldN off n x=>match ev f x with
  | .agg cs=>qot cs.toList off n fun v=>K v own
  |_=>False
 | .ixs sz x i=>match ev f x,ev f i with
  | .slice a len _, .int _ i=>IxS a sz i len fun ad=>K (.pointer (some ad)) own
  |_,_=>False
 | .sls sz x lo hi mx=>match ev f x,evI f lo,evI f hi,evI f mx with
  | .slice a n c,some lo,some hi,some mx=>qkO a n c sz lo hi mx fun v=>K v own
  |_,_,_,_=>False
 | .sslc x lo hi=>match ev f x,evI f lo,evI f hi with
  | .string s,some lo,some hi=>qov s lo hi fun v=>K v own
  |_,_,_=>False
 | .sidx x i=>match ev f x,ev f i with
  | .string s, .int _ i=>qou s i fun v=>K v own
  |_,_=>False
 | .scat x y=>match ev f x,ev f y with
  | .string a, .string b=>qoF a b fun v=>K v own
  |_,_=>False
 | .ibs x c=>match ev f x,ev f c with
  | .string s, .int .u8 c=>K (.int .i64 (qfb s c)) own
  |_,_=>False
 | .capb x=>match ev f x with
  | .slice _ _ c=>K (.int .i64 c) own
  |_=>False
 | .nilq neg k x y=>match qjp k (ev f x) (ev f y) with
  |some b=>K (.bool (bif neg then !b else b)) own
  |none=>False
 | .ageq neg ks x y=>match ev f x,ev f y with
  | .agg xs, .agg ys=>EqT ks xs.toList ys.toList fun r=>K (.bool (bif neg then !r else r)) own
  |_,_=>False
 | .mkf k cap=>K (.func (.func k) #[] (cap.map (ev f)).toArray) own
 | .mk t _ bytes zs l c=>match ev f l,ev f c with
  | .int _ l, .int _ c=>MkT W0 own t bytes zs l c K
  |_,_=>False
 | .app t sz bytes zs s x=>match ev f s,ev f x with
  | .slice a n c, .slice a2 m _=>qc6 W0 own t sz bytes zs a n c a2 m K
  |_,_=>False
 | .appz t bytes zs s n=>match ev f s,ev f n with
  | .slice a l c, .int .i64 m=>qon W0 own t bytes zs a l c m K
  |_,_=>False
 | .clr zs x=>match ev f x with
  | .slice (some a) n _=>StN W0 own a (List.replicate n zs).flatten fun own'=>K (.tuple #[]) own'
  | .slice none _ _=>K (.tuple #[]) own
  |_=>False
 | .callv x args=>match ev f x with
  | .func (.func k) first cap=>q3S P W0 own k (first.toList++args.map (ev f)++cap.toList) K
  | .func (.yield l) first _=>ql4 P W0 own l (first.toList++args.map (ev f)) K
  |_=>False
 | .ixa len sz x i=>match ev f x,ev f i with
  | .pointer (some ⟨b,o,none⟩), .int _ i=>Idx i len fun j=>K (.pointer (some ⟨b,o+j*sz,none⟩)) own
  |_,_=>False
 | .idx len x i=>match ev f x,ev f i with
  | .agg cs, .int _ i=>Idx i len fun j=>Sel cs.toList[j]? fun v=>K v own
  |_,_=>False
 | .idxN len sz x i=>match ev f x,ev f i with
  | .agg cs, .int _ i=>Idx i len fun j=>qot cs.toList (j*sz) sz fun v=>K v own
  |_,_=>False
 | .ld x=>match ev f x with
  | .pointer (some a)=>Ld W0 own a fun v=>K v own
  |_=>False
 | .ldN n x=>match ev f x with
  | .pointer (some a)=>LdN W0 own a n fun vs=>K (.agg vs) own
  |_=>False
 | .st x v=>match ev f x with
  | .pointer (some a)=>Mv (ev f v) fun v=>StT W0 own a v fun own'=>K undef own'
  |_=>False
 | .stN n x v=>match ev f x,ev f v with
  | .pointer (some a), .agg cs=>cs.toList.length=n/\StN W0 own a cs.toList fun own'=>K undef own'
  |_,_=>False
 | .box t x=>match ev f x with
  | .agg cs=>New W0 own (.cells cs t) fun b own'=>K (.pointer (some ⟨b,0,none⟩)) own'
  |v=>Mv v fun v=>New W0 own (.cells #[v] t) fun b own'=>K (.pointer (some ⟨b,0,none⟩)) own'
 | .new t z=>match z with
  | .agg cs=>New W0 own (.cells cs t) fun b own'=>K (.pointer (some ⟨b,0,none⟩)) own'
  |z=>New W0 own (.cells #[z] t) fun b own'=>K (.pointer (some ⟨b,0,none⟩)) own'
 | .ext x i=>match ev f x with
  | .tuple vs=>Sel vs.toList[i]? fun v=>K v own
  |_=>False
 | .len x=>match ev f x with
  | .slice _ n _=>K (.int .i64 n) own
  |_=>False
 | .lens x=>match ev f x with
  | .string s=>K (.int .i64 s.size) own
  |_=>False
 | .nilc x=>match ev f x with
  | .pointer (some a)=>K (.pointer (some a)) own
  |_=>False
 | .mm mx x y=>match ev f x,ev f y with
  | .int k a, .int _ b=>MM mx a b fun z=>K (.int k z) own
  |_,_=>False
 | .bld zero parts=>Bld f parts zero fun cs=>K (.agg cs.toArray) own
 | .blds t len zero parts=>Bld f parts zero fun cs=>New W0 own (.cells cs.toArray t) fun b own'=>K (.slice (some ⟨b,0,none⟩) len len) own'
 | .call k args=>q0g P W0 own k (args.map (ev f)) K
 | .nifc neg x=>match ev f x with
  | .nilIface=>K (.bool (!neg)) own
  | .iface _ _=>K (.bool neg) own
  |_=>False
 | .iter x=>match ev f x with
  | .string s=>New W0 own (.stringIter s 0) fun b own'=>K (.pointer (some ⟨b,0,none⟩)) own'
  |_=>False
 | .next x=>match ev f x with
  | .pointer (some ⟨b,0,none⟩)=>qnt W0 own b K
  |_=>False
 | .mkm=>qoq W0 own fun b own'=>K (.map (some b)) own'
 | .mlk kk z ok x i=>match ev f x with
  | .map none=>K (qkT z ok none) own
  | .map (some b)=>qns own kk b (ev f i) fun r=>K (qkT z ok r) own
  |_=>False
 | .mup kk x i v=>match ev f x with
  | .map (some b)=>qop own kk b (ev f i) (ev f v) fun own'=>K undef own'
  |_=>False
 |_=>False
theorem qN(b o n:Nat):(Addr.mk b o none).add n=⟨b,o+n,none⟩:=by
 unfold Addr.add
 split
 ·simp_all
 ·rfl
def qdI:IOp->Bool
 | .st _ _| .stN _ _ _| .box _ _| .new _ _| .call _ _| .callv _ _| .blds _ _ _ _| .mk _ _ _ _ _ _| .app _ _ _ _ _ _| .appz _ _ _ _ _| .clr _ _| .flt _ _ _| .iter _| .next _| .mkm| .mup _ _ _ _| .bad=>false
 |_=>true
def q5K(P:Program)(f:Fr)(o:Oper)(w:World)(own:Own)(W0:World)(K:Value->Own->Prop)(ro:Bool):Prop:=
 (∃v,(execOp (ev f) o).run P w= .ok (.value v) w/\K v own)\/
 (ro=false/\((∃v a own',(execOp (ev f) o).run P w= .ok (.value v) a/\St W0 own' a/\K v own')\/
 (∃a own',(execOp (ev f) o).run P w= .ok .skip a/\St W0 own' a/\K undef own')\/
 (∃k args,(execOp (ev f) o).run P w= .ok (.enter k args) w/\q0g P W0 own k args.toList K)\/
 (∃l k tmps assign body,(execOp (ev f) o).run P w= .ok (.round l k tmps assign body) w/\RoundIn Fence.wide 0 P l k tmps assign body w fun e a=>∃v own',e= .returned v/\St W0 own' a/\K v own')))
theorem qcK{a:Act}{f:Fr}(b:∀t,a.tmps.getD t undef=f t):a.eval=ev f:=by
 funext x
 cases x <;>simp only[Act.eval,ev,b]
section
variable{P:Program}{o:Oper}{w:World}{own:Own}{W0:World}{K:Value->Own->Prop}{f:Fr}
theorem qt{v:Value}{ro:Bool}(_hS:St W0 own w)(b:(execOp (ev f) o).run P w= .ok (.value v) w)(a:K v own):q5K P f o w own W0 K ro:=
 .inl ⟨v,b,a⟩
theorem qiP{s:Sem Value}{v:Value}{ro:Bool}(he:execOp (ev f) o=(do pure (.value (<-s))))(a:St W0 own w)(c:s.run P w= .ok v w)(b:K v own):q5K P f o w own W0 K ro:=
 qt a (by rw[he];simp[c]) b
theorem q8P{ro:Bool}{op:BinOp}{t p:TypeId}{x y:Operand}{k e:IntKind}{m n:Int}(l:o.op= .binOp op t x y p)(c:ev f x= .int k m)(d:ev f y= .int e n)(i:St W0 own w)
  (h:q3o op k m e n fun v=>K v own):q5K P f o w own W0 K ro:=by
 have he:execOp (ev f) o=(do pure (.value (<-(do eqGuard op t x y (ev f x) (ev f y);binOp op t (ev f x) (ev f y))))):=by unfold execOp;rw[l]
 have j:∀w,(eqGuard op t x y (ev f x) (ev f y)).run P w= .ok () w:=by
  intro w;unfold eqGuard;rw[c,d];cases op <;>simp
 refine(?_:∃v,(binOp op t (ev f x) (ev f y)).run P w= .ok v w/\K v own).elim fun v b=>qiP he i (by simp[j,b.1]) b.2
 rw[c,d];cases op <;>simp only[q3o] at h
 case add=>obtain⟨rfl,⟨g⟩⟩:=h.h;exact⟨_,by simp[binOp,Op.intArith],g⟩
 case sub=>obtain⟨rfl,⟨g⟩⟩:=h.h;exact⟨_,by simp[binOp,Op.intArith],g⟩
 case mul=>obtain⟨rfl,⟨g⟩⟩:=h.h;exact⟨_,by simp[binOp,Op.intArith],g⟩
 case quo=>obtain⟨rfl,⟨a,g⟩⟩:=h.h;exact⟨_,by simp[binOp,Op.intDiv,a],g⟩
 case rem=>obtain⟨rfl,⟨a,g⟩⟩:=h.h;exact⟨_,by simp[binOp,Op.intDiv,a],g⟩
 case and=>obtain⟨rfl,⟨g⟩⟩:=h.h;exact⟨_,by simp[binOp,Op.intBits,qfo],g⟩
 case or=>obtain⟨rfl,⟨g⟩⟩:=h.h;exact⟨_,by simp[binOp,Op.intBits,qfo],g⟩
 case xor=>obtain⟨rfl,⟨g⟩⟩:=h.h;exact⟨_,by simp[binOp,Op.intBits,qfo],g⟩
 case andNot=>obtain⟨rfl,⟨g⟩⟩:=h.h;exact⟨_,by simp[binOp,Op.intBits,qfo],g⟩
 case shl=>obtain⟨a,h⟩:=h;exact⟨_,by simp[binOp,Op.shift,Int.not_lt.2 a],h⟩
 case shr=>obtain⟨a,h⟩:=h;exact⟨_,by simp[binOp,Op.shift,Int.not_lt.2 a],h⟩
 case eql=>obtain⟨rfl,g⟩:=h.h;exact⟨_,by simp[binOp,Op.intCmp];rfl,g⟩
 case neq=>obtain⟨rfl,g⟩:=h.h;exact⟨_,by simp[binOp,Op.intCmp,bne];rfl,g⟩
 case lss=>obtain⟨rfl,g⟩:=h.h;exact⟨_,by simp[binOp,Op.intCmp],g⟩
 case leq=>obtain⟨rfl,g⟩:=h.h;exact⟨_,by simp[binOp,Op.intCmp],g⟩
 case gtr=>obtain⟨rfl,g⟩:=h.h;exact⟨_,by simp[binOp,Op.intCmp],g⟩
 case geq=>obtain⟨rfl,g⟩:=h.h;exact⟨_,by simp[binOp,Op.intCmp],g⟩
theorem q71{a:Addr}{v:Value}(h:w.cell? a=some v):(load a).run P w= .ok v w:=by
 simp[load,Sem.run,h]
theorem q4l{a:Addr}:∀(n i:Nat) (acc vs:je),vs.length=n->(∀j,j<n->w.cell? (a.add (i+j))=vs[j]?)->
  (loadCellsFrom a i n acc.toArray).run P w= .ok (acc++vs).toArray w
 |0,i,acc,vs,b,_=>by
  have:vs= []:=zL.1 b;subst this;simp[loadCellsFrom]
 |n+1,i,acc,vs,b,h=>by
  match vs,b with
  |v::vs,b=>
   have c:=h 0 Yb;simp only[ZI,Zr] at c;have d:=q4l n (i+1) (acc++ [v]) vs (by simpa using b) (fun j hj=>by
    have:=h (j+1) Yb
    simpa [Nat.add_assoc,Nat.add_comm 1 j] using this)
   simp only[loadCellsFrom,Sem.run_bind,q71 c,Result.andThen_ok,List.push_toArray];rw[d];simp
theorem q3B{a:Addr}{n:Nat}{vs:je}(c:vs.length=n)(h:∀j,j<n->w.cell? (a.add j)=vs[j]?):
  (loadCells a n).run P w= .ok vs.toArray w:=by
 have:=q4l (P:=P) n 0 [] vs c (fun j b=>by simpa using h j b)
 simpa [loadCells] using this
theorem q0i{a:Addr}{v:Value}(k:Nat):(w.setCell a v).heap[k]? =if a.block=k then(w.heap[k]?).map (fun
   | .cells c elem b=> .cells (if a.spot.isSome then c else c.setIfInBounds a.off v) elem b
   |o=>o) else w.heap[k]? :=by
 simp only[World.setCell,ZR];rfl
theorem cell?_setCell_isSome{a b:Addr}{v:Value}(h:(w.cell? b).isSome=true):((w.setCell a v).cell? b).isSome=true:=by
 unfold World.cell? at*;rw[q0i]
 by_cases e:a.block=b.block
 ·rw[if_pos e]
  rcases c:w.heap[b.block]? with _|x
  ·simp[c] at h
  ·rw[c] at h;cases x <;>simp_all
   split <;>simp_all
   split <;>simp_all
 ·rw[if_neg e];exact h
theorem frozen?_setCell'{a b:Addr}{v:Value}:(w.setCell a v).frozen? b=w.frozen? b:=by
 unfold World.frozen?;rw[q0i]
 by_cases e:a.block=b.block
 ·rw[if_pos e]
  rcases hx:w.heap[b.block]? with _|x
  ·simp
  ·cases x <;>simp
 ·rw[if_neg e]
theorem q4m{a:Addr}{v:Value}(h1:q2r v=true)(h:(w.cell? a).isSome=true)(hf:w.frozen? a=false):(store a v).run P w= .ok () (w.setCell a v):=by
 obtain⟨u,hu⟩:=Zo.1 h;cases v <;>simp_all [store,Sem.run,q2r]
theorem q0G{a:Addr}:∀(vs:je) (i:Nat) (w:World),(∀v∈vs,q2r v=true)->
  (∀j,j<vs.length->(w.cell? (a.add (i+j))).isSome=true/\w.frozen? (a.add (i+j))=false)->(storeCells a vs i).run P w= .ok () (q4J w a i vs)
 | [],i,w,_,_=>by simp[storeCells,q4J]
 |v::vs,i,w,c,h=>by
  have b:=h 0 Yd;simp only[ZI] at b;simp only[storeCells,Sem.run_bind,q4m (c v zp) b.1 b.2,Result.andThen_ok,q4J];refine q0G vs (i+1) _ (fun x g=>c x (zr _ g)) fun j d=>?_
  have:=h (j+1) (by simpa using d);have e:i+1+j=i+(j+1):=Yb;rw[e];exact⟨cell?_setCell_isSome this.1,by rw[frozen?_setCell'];exact this.2⟩
theorem q0I{t:TypeId}{b:Bool}(h:q4g P t=some b):(isAgg t).run P w= .ok b w:=by
 unfold q4g at h;unfold isAgg;cases hu:P.underlying t with
 |none=>simp[hu] at h
 |some d=>
  simp only[underlying,Sem.run_bind,run_program,Result.andThen_ok,hu];cases d <;>simp_all
theorem q0P{t:TypeId}{n:Nat}(h:szT P t=some n):(sizeOf t).run P w= .ok n w:=by
 unfold szT at h;unfold sizeOf typeInfo;cases hu:P.info? t with
 |none=>simp[hu] at h
 |some d=>simp_all
theorem qo{t:TypeId}{d:TypeDesc}(h:P.underlying t=some d):(underlying t).run P w= .ok d w:=by
 simp[underlying,h]
theorem q3Q{t:TypeId}{z:Value}(h:q7h P t=some z):(zeroValue t).run P w= .ok z w:=by
 unfold q7h at h;unfold zeroValue typeInfo;cases hu:P.info? t with
 |none=>simp[hu] at h
 |some d=>simp_all
theorem qjH{vs:je}:∀(off:Nat) (cs:je),off+vs.length<=cs.length->
  (vs.toArray.zipIdx.foldl (fun(cs:jg) (c,j)=>cs.setIfInBounds (off+j) c) cs.toArray)=(cs.take off++vs++cs.drop (off+vs.length)).toArray:=by
 intro off cs a;have key:∀(vs:je) (k:Nat) (cs:je),off+k+vs.length<=cs.length->
   ((vs.zipIdx k).foldl (fun(cs:jg) (c,j)=>cs.setIfInBounds (off+j) c) cs.toArray)=(cs.take (off+k)++vs++cs.drop (off+k+vs.length)).toArray:=by
  intro vs
  induction vs with
  |nil=>intro k cs _;simp
  |cons v vs g=>
   intro k cs a;simp only[zu] at a;simp only[List.zipIdx_cons,List.foldl_cons];have b:cs.toArray.setIfInBounds (off+k) v=(cs.set (off+k) v).toArray:=Yd;rw[b,g (k+1) _ (by simp;omega)]
   congr 1
   have d:off+(k+1)=off+k+1:=Yb;rw[d,List.take_set,Y3 Yb,List.take_succ_eq_append_getElem Yb];have e:(List.take (off+k) cs++ [cs[off+k]]).set (off+k) v=List.take (off+k) cs++ [v]:=by
    rw[ZG _ _ (by simp;omega)];have:off+k-(List.take (off+k) cs).length=0:=by simp;omega
    rw[this];rfl
   rw[e];simp[Nat.add_assoc,Nat.add_comm 1]
 have:=key vs 0 cs (by simpa using a);rw[<-Array.foldl_toList]
 simpa using this
theorem qcP{place:Nat->Option (Nat×Nat)}{i off sz:Nat}{v:Value}{vs cs:je}{rest:List (Nat×Value)}(b:place i=some (off,sz))(a:v.cells=vs.toArray)(c:vs.length=sz)
  (hle:off+sz<=cs.length):Instr.fill place cs.toArray ((i,v)::rest)=Instr.fill place (cs.take off++vs++cs.drop (off+sz)).toArray rest:=by
 subst c;have hm:=qjH (vs:=vs) off cs hle;rw[<-hm];simp only[Instr.fill,b,a];rw[if_neg (by simp;omega)]
theorem q7R(cs:je)(off:Nat)(v:Value)(h:off+1<=cs.length):cs.set off v=cs.take off++ [v]++cs.drop (off+1):=by
 rw[Zk,if_pos Yb];simp
theorem q6y{place:Nat->Option (Nat×Nat)}:∀(parts:List (Nat×Operand)) (l:List (Nat×Nat×Operand)) (cs:je) (b:je->Prop),q1d P place cs.length parts=some l->Bld f l cs b->
  ∃cs',Instr.fill place cs.toArray (parts.map fun p=>(p.1,ev f p.2))=some cs'.toArray/\b cs'/\cs'.length=cs.length
 | [],l,cs,b,a,h=>by
  simp only[q1d,Option.some.injEq] at a;subst a;exact⟨cs,rfl,h,rfl⟩
 |(i,x)::parts,l,cs,b,a,h=>by
  simp only[q1d] at a
  split at a
  ·rename_i off sz r
   split at a
   ·rename_i hle
    split at a
    ·rename_i l' g;simp only[Option.some.injEq] at a;subst a;rw[q22] at h;have key:∀vs:je,(ev f x).cells=vs.toArray->vs.length=sz->Bld f l' (cs.take off++vs++cs.drop (off+sz)) b->
       ∃cs',Instr.fill place cs.toArray (((i,x)::parts).map fun p=>(p.1,ev f p.2))=some cs'.toArray/\b cs'/\cs'.length=cs.length:=by
      intro vs e s h;have hlen:(cs.take off++vs++cs.drop (off+sz)).length=cs.length:=by simp;omega
      obtain⟨cs',m,n,q⟩:=q6y parts l' _ b (by rw[hlen];exact g) h;exact⟨cs',by rw[zG,qcP r e s hle];exact m,n,q.trans hlen⟩
     split at h
     ·rename_i vs k
      split at h
      ·rename_i hb;exact key vs.toList (by rw[k];simp[Value.cells]) (ZH hb) h
      ·exact h.elim
     ·rename_i v j;have d:=Mv.h (K:=fun v=>(match Nat.beq sz 1 with|true=>Bld f l' (cs.set off v) b|false=>False)) h
      split at d
      ·rename_i hb;have c:sz=1:=ZH hb;have e:(ev f x).cells= #[ev f x]:=by
        unfold Value.cells
        split
        ·rename_i cs k;exact(j cs k).elim
        ·rfl
       rw[q7R cs off _ Yb] at d;exact key [ev f x] e (by simp[c]) (by rw[c];exact d)
      ·exact d.elim
    ·cases a
   ·cases a
  ·cases a
theorem qjx{a:Array Field}(b:q6J P a=true):(a.mapM fun f=>(Prod.mk f.offset<$>sizeOf f.type:Sem (Nat×Nat))).run P w= .ok (a.map fun f=>(f.offset,(szT P f.type).getD 0)) w:=by
 obtain⟨a⟩:=a;rw[List.mapM_toArray];simp only[q6J,List.all_toArray] at b;have key:∀l:List Field,(l.all fun f=>(szT P f.type).isSome)=true->(l.mapM fun f=>(Prod.mk f.offset<$>sizeOf f.type:Sem (Nat×Nat))).run P w= .ok (l.map fun f=>(f.offset,(szT P f.type).getD 0)) w:=by
  intro l
  induction l with
  |nil=>intro _;simp
  |cons f l d=>
   intro h;simp only[Y9,zH] at h;obtain⟨n,c⟩:=Zo.1 h.1;simp[List.mapM_cons,q0P c,d h.2,c]
 simp[key a b]
theorem q6I{k:Nat}{ks:jh}{xs ys:je}{r:Bool}(h:eqC (k::ks) xs ys=some r):∃x c y d a b,xs=x::c/\ys=y::d/\q1u k x y=some a/\eqC ks c d=some b/\r=(a&&b):=by
 match xs,ys,h with
 |x::c,y::d,h=>
  simp only[eqC] at h;cases e:q1u k x y with
  |none=>rw[e] at h;cases h
  |some a=>
   rw[e] at h;cases hb:eqC ks c d with
   |none=>rw[hb] at h;cases h
   |some b=>
    rw[hb] at h;exact⟨x,c,y,d,a,b,rfl,rfl,e,hb,(Option.some.inj h).symm⟩
 | [],[],h=>simp[eqC] at h
 | [],_::_,h=>simp[eqC] at h
 |_::_,[],h=>simp[eqC] at h
theorem q4Y:∀(c d:jh) (xs ys:je) (r:Bool),eqC (c++d) xs ys=some r->
  ∃r1 r2,eqC c (xs.take c.length) (ys.take c.length)=some r1/\eqC d (xs.drop c.length) (ys.drop c.length)=some r2/\r=(r1&&r2)
 | [],d,xs,ys,r,h=>⟨true,r,by simp[eqC],by simpa using h,Yd⟩
 |k::c,d,xs,ys,r,h=>by
  obtain⟨x,e,y,g,a,b,rfl,rfl,l,hb,rfl⟩:=q6I h;obtain⟨r1,r2,i,j,rfl⟩:=q4Y c d e g b hb;exact⟨a&&r1,r2,by simp[eqC,l,i],by simpa using j,by simp[Bool.and_assoc]⟩
def qaG(P:Program)(t:TypeId)(x:Value):Prop:=(q4g P t=some true->∃cs,x= .agg cs)/\(q4g P t=some false->x.cells= #[x])
theorem qda{n:Nat}{t:TypeId}{ks:jh}(h:q2q P n t=some ks):(q4g P t=some true)\/(q4g P t=some false/\∃k,ks= [k]):=by
 cases n with
 |zero=>simp[q2q] at h
 |succ n=>
  unfold q2q at h
  split at h
  ·rename_i hu;exact .inr ⟨by simp[q4g,hu],_,(Option.some.inj h).symm⟩
  ·rename_i hu;exact .inr ⟨by simp[q4g,hu],_,(Option.some.inj h).symm⟩
  ·rename_i hu;exact .inr ⟨by simp[q4g,hu],_,(Option.some.inj h).symm⟩
  ·rename_i hu;exact .inl (by simp[q4g,hu])
  ·rename_i hu;exact .inl (by simp[q4g,hu])
  ·cases h
theorem q8T{k:Nat}{x y:Value}{r:Bool}(h:q1u k x y=some r):x.cells= #[x]/\y.cells= #[y]:=by
 unfold q1u at h
 split at h <;>first|exact⟨rfl,rfl⟩|cases h
theorem qar{t:TypeId}{n:Nat}{ks:jh}{xs ys:jg}{off:Nat}{r:Bool}(s:q2q P n t=some ks)(d:szT P t=some ks.length)
  (h:eqC ks ((xs.toList.drop off).take ks.length) ((ys.toList.drop off).take ks.length)=some r) (w:World):
  ∃a b,(part t xs off).run P w= .ok a w/\(part t ys off).run P w= .ok b w/\qaG P t a/\qaG P t b/\a.cells.toList=(xs.toList.drop off).take ks.length/\b.cells.toList=(ys.toList.drop off).take ks.length:=by
 rcases qda s with c|⟨c,k,rfl⟩
 ·refine⟨.agg (xs.extract off (off+ks.length)), .agg (ys.extract off (off+ks.length)),by simp[part,q0I c,q0P d],by simp[part,q0I c,q0P d],⟨fun _=>⟨_,rfl⟩,fun h=>by rw[c] at h;cases h⟩,⟨fun _=>⟨_,rfl⟩,fun h=>by rw[c] at h;cases h⟩,?_,?_⟩
  ·simp[Value.cells,Array.toList_extract,List.extract_eq_take_drop]
  ·simp[Value.cells,Array.toList_extract,List.extract_eq_take_drop]
 ·obtain⟨x,l,y,m,a,b,e,i,u,hb,rfl⟩:=q6I h;have g:xs[off]? =some x:=by
   have:=congrArg (·[0]?) e
   simpa using this
  have j:ys[off]? =some y:=by
   have:=congrArg (·[0]?) i
   simpa using this
  obtain⟨p,q⟩:=q8T u;have v:l= []:=by
   have:=congrArg List.length e;simp at this;exact zL.1 Yb
  have z:m= []:=by
   have:=congrArg List.length i;simp at this;exact zL.1 Yb
  refine⟨x,y,by simp[part,q0I c,g],by simp[part,q0I c,j],⟨fun h=>(by rw[c] at h;cases h),fun _=>p⟩,⟨fun h=>(by rw[c] at h;cases h),fun _=>q⟩,?_,?_⟩
  ·rw[e,v,p]
  ·rw[i,z,q]
theorem q8W{t:TypeId}{n:Nat}(h:szT P t=some n):∃i,P.info? t=some i/\P.cellsOf t=n:=by
 unfold szT at h;obtain⟨i,hi,a⟩:=Zf.1 h;exact⟨i,hi,by simp[Program.cellsOf,hi,a]⟩
theorem q3Z:∀(n:Nat) (t:TypeId) (ks:jh) (d:Nat) (x y:Value) (r:Bool),q2q P n t=some ks->n<=d->qaG P t x->qaG P t y->eqC ks x.cells.toList y.cells.toList=some r->∀w,(Op.equalIn d t x y).run P w= .ok r w
 |0,_,_,_,_,_,_,h,_,_,_,_,_=>by simp[q2q] at h
 |n+1,t,ks,0,x,y,r,_,hd,_,_,_,_=>by omega
 |n+1,t,ks,d+1,x,y,r,h,hd,M,N,he,w=>by
  have one:∀k,ks= [k]->q4g P t=some false->q1u k x y=some r:=by
   rintro k rfl U;rw[M.2 U,N.2 U] at he;obtain⟨x',xs',y',ys',a,b,R,S,c,hb,rfl⟩:=q6I he;simp only[List.cons.injEq] at R S;obtain⟨rfl,rfl⟩:=R;obtain⟨rfl,rfl⟩:=S;simp only[eqC,Option.some.injEq] at hb;subst hb
   simpa using c
  unfold q2q at h
  split at h
  ·rename_i k hu;have c:=one 0 (Option.some.inj h).symm (by simp[q4g,hu])
   match x,y,c with
   | .int V a, .int k2 b,c=>
    simp only[q1u] at c
    split at c
    ·rename_i g;obtain rfl:=qdb g;rw[run_equalIn_int w d t V k a b hu];simp only[Option.some.injEq] at c;rw[<-c];congr 1
    ·cases c
  ·rename_i hu;have c:=one 1 (Option.some.inj h).symm (by simp[q4g,hu])
   match x,y,c with
   | .bool a, .bool b,c=>
    simp only[q1u,Option.some.injEq] at c;rw[run_equalIn_bool w d t a b hu,<-c];simp[Bool.beq_eq_decide_eq]
  ·rename_i hu;have c:=one 2 (Option.some.inj h).symm (by simp[q4g,hu])
   match x,y,c with
   | .string a, .string b,c=>
    simp only[q1u,Option.some.injEq] at c;rw[run_equalIn_string w d t a b hu,ByteArray.toList_eq,ByteArray.toList_eq,<-c]
    congr 1
    by_cases h:a.data.toList=b.data.toList
    ·rw[decide_eq_true h];exact beq_iff_eq.2 h
    ·rw[decide_eq_false h];exact beq_eq_false_iff_ne.2 h
  ·rename_i k e hu
   split at h
   ·rename_i u B
    split at h
    ·rename_i D;have I:=Option.some.inj h;obtain⟨ie,G,F⟩:=q8W D;obtain⟨xs,rfl⟩:=M.1 (by simp[q4g,hu]);obtain⟨ys,rfl⟩:=N.1 (by simp[q4g,hu]);rw[run_equalIn_array w d xs ys hu G,F];simp only[Value.cells] at he;rw[<-I] at he;have key:∀(m i:Nat) (r:Bool),eqC (List.replicate m u).flatten (xs.toList.drop (i*u.length)) (ys.toList.drop (i*u.length))=some r->(Op.eqItems d e u.length xs ys (List.range' i m)).run P w= .ok r w:=by
      intro m
      induction m with
      |zero=>
       intro i r h;simp only[yg,yD] at h;have J:r=true:=by
        cases q:xs.toList.drop (i*u.length) <;>cases s:ys.toList.drop (i*u.length) <;>rw[q,s] at h <;>simp[eqC] at h <;>first|exact h|exact h.symm
       subst J;simp[Op.eqItems]
      |succ m O=>
       intro i r h;rw[yh,Z1] at h;obtain⟨r1,r2,v,z,rfl⟩:=q4Y _ _ _ _ _ h;obtain⟨a,b,pa,Q,sa,sb,ca,cb⟩:=qar B D v w;have p:=q3Z n e u d a b r1 B Yb sa sb (by rw[ca,cb];exact v) w;rw[yx,yx,<-ZJ] at z;have j:=O (i+1) r2 z;rw[List.range'_succ];simp only[Op.eqItems,Sem.run_bind,pa,Q,p,Result.andThen_ok];cases r1
       ·simp
       ·simpa using j
     rw[List.range_eq_range'];exact key k 0 r (by simpa using he)
    ·cases h
   ·cases h
  ·rename_i T hu
   split at h
   ·cases h
   ·rename_i L;obtain⟨xs,rfl⟩:=M.1 (by simp[q4g,hu]);obtain⟨ys,rfl⟩:=N.1 (by simp[q4g,hu]);have A:P.fieldsOf t=T:=by simp[Program.fieldsOf,hu]
    rw[run_equalIn_struct w d t xs ys (by rw[A];exact hu) (by simpa using L),A];simp only[Value.cells] at he;have key:∀(l:List Field) (off:Nat) (ks:jh) (r:Bool),q7G P (q2q P n) l off=some ks->eqC ks (xs.toList.drop off) (ys.toList.drop off)=some r->(Op.eqFields d xs ys l).run P w= .ok r w:=by
     intro l
     induction l with
     |nil=>
      intro off ks r g h;simp only[q7G,Option.some.injEq] at g;subst g;have J:r=true:=by
       cases q:xs.toList.drop off <;>cases s:ys.toList.drop off <;>rw[q,s] at h <;>simp[eqC] at h <;>first|exact h|exact h.symm
      subst J;simp[Op.eqFields]
     |cons f l O=>
      intro off ks r g h;unfold q7G at g
      split at g
      ·rename_i W C
       split at g
       ·rename_i E
        split at g
        ·rename_i kr H;have:=Option.some.inj g;subst this;obtain⟨r1,r2,v,z,rfl⟩:=q4Y _ _ _ _ _ h;obtain⟨a,b,pa,Q,sa,sb,ca,cb⟩:=qar C E.2.2 v w;have p:=q3Z n f.type W d a b r1 C Yb sa sb (by rw[ca,cb];exact v) w;rw[yx,yx] at z;have j:=O _ _ r2 H z;simp only[Op.eqFields,E.2.1,ne_eq,not_false_eq_true,if_true,E.1,Sem.run_bind,pa,Q,p,Result.andThen_ok];cases r1
         ·simp
         ·simpa using j
        ·cases g
       ·cases g
      ·cases g
    exact key T.toList 0 ks r h (by simpa using he)
  ·cases h
theorem qf4(n:Nat)(h:n<=281474976710656):IntKind.i64.wrap (n:Int)=n:=by
 unfold IntKind.wrap;have a:((2:Int) ^ IntKind.i64.bits)=18446744073709551616:=rfl;have b:((2:Int) ^ (IntKind.i64.bits-1))=9223372036854775808:=rfl;simp only[a,b,IntKind.signed,Bool.true_and,decide_eq_true_eq]
 split <;>omega
def OV(v:Option Value)(i:Option Int):Prop:=(i=none/\v=none)\/(∃k n,i=some n/\v=some (.int k n))
theorem q7A{f:Fr}{p:Option Operand}{q:Option Int}(a:evI f p=some q):OV (p.map (ev f)) q:=by
 cases p with
 |none=>simp only[evI,Option.some.injEq] at a;exact .inl ⟨a.symm,rfl⟩
 |some x=>
  simp only[evI] at a
  split at a
  ·rename_i k i b;exact .inr ⟨k,i,(Option.some.inj a).symm,by simp[b]⟩
  ·cases a
theorem q64{isS:Bool}{len cap l r m:Nat}{lo hi mx:Option Value}{d a mx':Option Int}(k:OV lo d)(n:OV hi a)(p:OV mx mx')(e:d.getD 0=l)(g:a.getD len=r)(h:mx'.getD cap=m)
  (i:l<=r) (c:a.isSome=true->r<=m) (b:mx'.isSome=true->m<=cap) (j:mx'.isSome=true->a.isSome=true) (w:World):(Instr.sliceBounds isS len cap lo hi mx).run P w= .ok (l,r,m) w:=by
 rcases p with ⟨rfl,rfl⟩|⟨k3,i3,rfl,rfl⟩ <;>rcases n with ⟨rfl,rfl⟩|⟨k2,i2,rfl,rfl⟩ <;>rcases k with ⟨rfl,rfl⟩|⟨k1,i1,rfl,rfl⟩
 all_goals simp only[Z6,yk] at e g h
 all_goals simp only[Zu,Zp,forall_const,zV,false_implies,implies_true] at c b j
 all_goals(try(replace e:=Int.natCast_eq_zero.1 e.symm))
 all_goals(try(replace g:=Int.natCast_inj.1 g))
 all_goals(try(replace h:=Int.natCast_inj.1 h))
 all_goals(subst e;subst g;subst h)
 all_goals simp[Instr.sliceBounds,Instr.sliceBound,asIntOf,i,c,b]
theorem q2f{zs:jg}(c:Nat):((Array.range (c*zs.size)).map (zs[· % zs.size]!))=(List.replicate c zs.toList).flatten.toArray:=by
 rw[<-ZK];simp only[Array.toList_map,Array.toList_range]
 induction c with
 |zero=>simp
 |succ c b=>
  rw[ZJ,List.range_add,zv,b,yY,zP]
  congr 1
  rw[ZV];refine List.ext_getElem Yd fun i a h2=>?_
  simp only[zi,List.length_range] at a;have e:(c*zs.size+i) % zs.size=i:=by rw[Nat.mul_comm,Nat.mul_add_mod,yV a]
  simp[e,a]
theorem qv(h:XO P W0 f own .bad K):False:=by simp only[XO] at h
theorem q4Z{k:FuncId}:ev f (.func k)= .func (.func k) #[] #[]:=rfl
theorem qiA(b:Nat):Extern.MathFloatBits.float64bits #[.float .f64 b]=pure (.int .u64 b):=rfl
theorem qj2(n:Int):Extern.MathFloatBits.float64frombits #[.int .u64 n]=pure (.float .f64 n.toNat):=rfl
theorem qfZ(a b:Nat):Extern.MathDim.pick "math.archMin" true .lt #[.float .f64 a, .float .f64 b]=pure (.float .f64 (q5f true a b)):=rfl
theorem qfY(a b:Nat):Extern.MathDim.pick "math.archMax" false .gt #[.float .f64 a, .float .f64 b]=pure (.float .f64 (q5f false a b)):=rfl
theorem qfB{fn:Func}(h:fn.name= "math.archMin"):Extern.find fn=some (Extern.MathDim.pick "math.archMin" true .lt):=by
 unfold Extern.find;rw[h];rfl
theorem qfA{fn:Func}(h:fn.name= "math.archMax"):Extern.find fn=some (Extern.MathDim.pick "math.archMax" false .gt):=by
 unfold Extern.find;rw[h];rfl
theorem qcQ{fn:Func}(h:fn.name= "math.Float64bits"):Extern.find fn=some Extern.MathFloatBits.float64bits:=by
 unfold Extern.find;rw[h];rfl
theorem qfz{fn:Func}(h:fn.name= "internal/bytealg.IndexByteString"):Extern.find fn=some Extern.BytealgIndexByte.indexByte:=by
 unfold Extern.find;rw[h];rfl
theorem qja(s:ByteArray)(c:Int)(w:World):(Extern.BytealgIndexByte.indexByte #[.string s, .int .u8 c]).run P w= .ok (.int .i64 (qfb s c)) w:=by
 have he:Extern.BytealgIndexByte.indexByte #[.string s, .int .u8 c]=(match (List.range s.size).find? fun i=>s[i]! ==c.toNat.toUInt8 with
  |some i=>pure (goInt i)
  |none=>pure (goInt (-1))):=rfl
 rw[he];unfold qfb
 split <;>simp[goInt]
theorem qcR{fn:Func}(h:fn.name= "math.Float64frombits"):Extern.find fn=some Extern.MathFloatBits.float64frombits:=by
 unfold Extern.find;rw[h];rfl
theorem q2t{sz n:Nat}{a:j8}{cap:Nat}{cs:je}{w:World}(d:cs.length=n*sz)(b:a=none->cs= [])(c:Holds a cs w):(Builtin.firstCells sz n (.slice a n cap)).run P w= .ok cs.toArray w:=by
 cases a with
 |none=>rw[b rfl];exact run_firstCells_none w sz n n cap
 |some ad=>exact run_firstCells_some w sz n ad n cap cs d (fun j v e=>c ad rfl j v e)
theorem q8O{s x:Operand}{t N:TypeId}{e O:TypeId}{g:TypeInfo}{z:Value}{a a2:j8}{n c m c2:Nat}(W:o.op= .call ⟨.builtin .append,#[s,x],#[t,N]⟩)(Y:ev f s= .slice a n c)(L:ev f x= .slice a2 m c2)
  (hu:P.underlying t=some (.slice e)) (k:P.underlying N=some (.slice O)) (i:P.info? e=some g) (Z:g.zero=some z) (hc:z.cells.size=g.size/\0<g.size/\0<g.bytes) (l:St W0 own w)
  (h:qc6 W0 own e g.size g.bytes z.cells.toList a n c a2 m K):q5K P f o w own W0 K false:=by
 obtain⟨cs,ys,G,A,T,q,v,V,u,J,I⟩:=h.h;have d:execOp (ev f) o=(do pure (.value (<-Builtin.append_ #[t,N] o.type #[.slice a n c, .slice a2 m c2]))):=by
  simp[execOp,W,resolve,invoke,builtin,Y,L]
 by_cases b:n+m<=c
 ·obtain⟨own',y,B⟩:=J b;have C:=q2t (P:=P) (cap:=c2) A q (u w l);cases a with
  |none=>
   refine .inr ⟨rfl, .inl ⟨.slice none (n+m) c,w,own',?_,(y w l).2 rfl,B⟩⟩;rw[d];simp[Builtin.append_,qo hu,qo k,sizeOf,typeInfo,i,Builtin.lenOf,b,C]
  |some ad=>
   obtain⟨Q,R⟩:=(y w l).1 ad rfl;refine .inr ⟨rfl, .inl ⟨.slice (some ad) (n+m) c,_,own',?_,R,B⟩⟩;rw[d];simp[Builtin.append_,qo hu,qo k,sizeOf,typeInfo,i,Builtin.lenOf,b,C,q0G ys 0 w v (fun j U=>by simpa using Q j U)]
 ·obtain⟨hb,B⟩:=I Yb;have hd:St W0 own w.drew:=l.drawn _;have C:=q2t (P:=P) (cap:=c2) A q (u w.drew hd);have H:=q2t (P:=P) (cap:=c) G T (V w.drew hd);have D:¬(281474976710656<Builtin.nextslicecap (n+m) c*g.bytes):=by have:=growslice_fits (bytes:=g.bytes) (show c<n+m by omega) hb;omega
  have F:g.bytes≠0:=Yb;have r:n+m<=(Question.appendCap (n+m) c e).cut (w.tape w.drawn (.appendCap (n+m) c e)):=ZL _ _;obtain⟨o2,S,E⟩:=B w.heap.size _ l.size r;refine .inr ⟨rfl, .inl ⟨_,_,_,?_,S _ (hd.push (.cells (cs++ys++(List.replicate ((Question.appendCap (n+m) c e).cut (w.tape w.drawn (.appendCap (n+m) c e))-(n+m)) z.cells.toList).flatten).toArray e) (p:=fun o=>o=Obj.cells (cs++ys++(List.replicate ((Question.appendCap (n+m) c e).cut (w.tape w.drawn (.appendCap (n+m) c e))-(n+m)) z.cells.toList).flatten).toArray e) rfl),E⟩⟩;rw[d];have M:=q2f (zs:=z.cells) ((Question.appendCap (n+m) c e).cut (w.tape w.drawn (.appendCap (n+m) c e))-(n+m));simp[Builtin.append_,qo hu,qo k,sizeOf,typeInfo,zeroValue,i,Z,Builtin.lenOf,b,D,F,Question.forced,C,H,newRow];simp only[Builtin.zeroCells,M];generalize hX:(List.replicate ((Question.appendCap (n+m) c e).cut (w.tape w.drawn (.appendCap (n+m) c e))-(n+m)) z.cells.toList).flatten=X;have L:cs.toArray++(ys.toArray++X.toArray)=(cs++(ys++X)).toArray:=Yd;rw[L];rfl
theorem qcG{s x:Operand}{t R:TypeId}{e:TypeId}{b:TypeInfo}{z:Value}{a:j8}{n c:Nat}{m:Int}{k:IntKind}(Z:o.op= .call ⟨.builtin .append,#[s,x],#[t,R]⟩)(hs:ev f s= .slice a n c)(Q:ev f x= .int .i64 m)
  (hu:P.underlying t=some (.slice e)) (B:P.underlying R=some (.int k)) (y:P.info? e=some b) (hz:b.zero=some z) (G:z.cells.size=b.size/\0<b.size/\0<b.bytes) (L:St W0 own w)
  (h:qon W0 own e b.bytes z.cells.toList a n c m K):q5K P f o w own W0 K false:=by
 rcases h.h with (⟨rfl,hle,E⟩|⟨m',rfl,g,hmb,hC⟩)|⟨rfl,rfl,m',rfl,g,hb,E⟩
 ·have d:execOp (ev f) o=(do pure (.value (<-Builtin.append_ #[t,R] o.type #[.slice a n c, .int .i64 0]))):=by
   simp[execOp,Z,resolve,invoke,builtin,hs,Q]
  refine .inr ⟨rfl, .inl ⟨.slice a n c,w,own,?_,L,E⟩⟩;rw[d];have aj:IntKind.i64.wrap 0=0:=Yc;cases a <;>simp[Builtin.append_,qo hu,qo B,sizeOf,typeInfo,y,asInt,asIntOf,aj,hle,storeCells]
 ·obtain⟨cs,M,ha,O,hk,N,W⟩:=hC.h;have av:z.cells.toList.length=b.size:=by rw[Array.length_toList];exact G.1
  rw[av] at M N;have d:execOp (ev f) o=(do pure (.value (<-Builtin.append_ #[t,R] o.type #[.slice a n c, .int .i64 m']))):=by
   simp[execOp,Z,resolve,invoke,builtin,hs,Q]
  have X:m'<=m'*b.bytes:=yl _ G.2.2;have hw:=qf4 m' Yb;have u:¬((281474976710656:Int)<(m':Int)*(b.bytes:Int)):=by rw[<-yG];omega
  have F:b.bytes≠0:=Yb;have A:m'*b.size≠0:=Nat.ne_of_gt (Nat.mul_pos g G.2.1);have S:¬((m':Int)<0):=Yb;have C:=q2f (zs:=z.cells) m'
  by_cases r:n+m'<=c
  ·obtain⟨own',ad,rfl,af,E⟩:=N r;obtain⟨h1,h2⟩:=af w L;refine .inr ⟨rfl, .inl ⟨.slice (some ad) (n+m') c,_,own',?_,h2,E⟩⟩;rw[d];have au:(Builtin.zeroCells z.cells m').toList=(List.replicate m' z.cells.toList).flatten:=by unfold Builtin.zeroCells;rw[C]
   have aw:∀v∈(List.replicate m' z.cells.toList).flatten,q2r v=true:=fun v U=>by
    obtain⟨l,hl,U⟩:=List.mem_flatten.1 U;rw[(yI.1 hl).2] at U;exact O v U
   have ae:(List.replicate m' z.cells.toList).flatten.length=m'*b.size:=by simp[G.1]
   simp[Builtin.append_,qo hu,qo B,sizeOf,typeInfo,zeroValue,y,hz,asInt,asIntOf,hw,u,S,r];rw[if_neg A];simp only[Result.andThen_ok,au,q0G (List.replicate m' z.cells.toList).flatten 0 w aw (fun j T=>by rw[zy];exact h1 j (by rw[ae] at T;exact T))]
  ·obtain⟨hb,E⟩:=W Yb;have hd:St W0 own w.drew:=L.drawn _;have H:=q2t (P:=P) (cap:=c) M ha (hk w.drew hd);have D:¬(281474976710656<Builtin.nextslicecap (n+m') c*b.bytes):=by have:=growslice_fits (bytes:=b.bytes) (show c<n+m' by omega) hb;omega
   have hnm:n+m'<=(n+m')*b.bytes:=yl _ G.2.2;have I:¬(9223372036854775807<((n:Int)+(m':Int))):=Yb;have i:n+m'<=(Question.appendCap (n+m') c e).cut (w.tape w.drawn (.appendCap (n+m') c e)):=ZL _ _;obtain⟨o2,hE,V⟩:=E w.heap.size _ L.size i;refine .inr ⟨rfl, .inl ⟨_,_,_,?_,hE _ (hd.push (.cells (cs++(List.replicate ((Question.appendCap (n+m') c e).cut (w.tape w.drawn (.appendCap (n+m') c e))-n) z.cells.toList).flatten).toArray e) (p:=fun o=>o=Obj.cells (cs++(List.replicate ((Question.appendCap (n+m') c e).cut (w.tape w.drawn (.appendCap (n+m') c e))-n) z.cells.toList).flatten).toArray e) rfl),V⟩⟩;rw[d];have J:=q2f (zs:=z.cells) ((Question.appendCap (n+m') c e).cut (w.tape w.drawn (.appendCap (n+m') c e))-(n+m'));simp[Builtin.append_,qo hu,qo B,sizeOf,typeInfo,zeroValue,y,hz,asInt,asIntOf,hw,u,D,F,S,I,r,Question.forced,H,newRow];rw[if_neg A];simp only[Builtin.zeroCells,C,J];generalize (Question.appendCap (n+m') c e).cut (w.tape w.drawn (.appendCap (n+m') c e))=q at*;have aq:cs.toArray++((List.replicate m' z.cells.toList).flatten.toArray++(List.replicate (q-(n+m')) z.cells.toList).flatten.toArray)=(cs++(List.replicate (q-n) z.cells.toList).flatten).toArray:=by
    have e:q-n=m'+(q-(n+m')):=Yb;rw[e,<-ZP,zP];simp
   rw[aq];rfl
 have d:execOp (ev f) o=(do pure (.value (<-Builtin.append_ #[t,R] o.type #[.slice a 0 0, .int .i64 m']))):=by
  simp[execOp,Z,resolve,invoke,builtin,hs,Q]
 have X:m'<=m'*b.bytes:=yl _ G.2.2;have hw:=qf4 m' Yb;have hd:St W0 own w.drew:=L.drawn _;have H:=q2t (P:=P) (sz:=b.size) (n:=0) (a:=a) (cap:=0) (cs:= []) (w:=w.drew) Yd (fun _=>rfl) (fun ad _ j v T=>by simp at T);have D:¬(281474976710656<Builtin.nextslicecap m' 0*b.bytes):=by rw[nextslicecap_zero g];omega
 have u:¬((281474976710656:Int)<(m':Int)*(b.bytes:Int)):=by rw[<-yG];omega
 have F:b.bytes≠0:=Yb;have A:m'*b.size≠0:=Nat.ne_of_gt (Nat.mul_pos g G.2.1);have I:¬(9223372036854775807<(m':Int)):=Yb;have i:m'<=(Question.appendCap m' 0 e).cut (w.tape w.drawn (.appendCap m' 0 e)):=ZL _ _;refine .inr ⟨rfl, .inl ⟨_,_,_,?_,hd.push (.cells (List.replicate ((Question.appendCap m' 0 e).cut (w.tape w.drawn (.appendCap m' 0 e))) z.cells.toList).flatten.toArray e) (p:=fun o=>o=Obj.cells (List.replicate ((Question.appendCap m' 0 e).cut (w.tape w.drawn (.appendCap m' 0 e))) z.cells.toList).flatten.toArray e) rfl,E w.heap.size _ L.size i⟩⟩;rw[d];have C:=q2f (zs:=z.cells) m';have J:=q2f (zs:=z.cells) ((Question.appendCap m' 0 e).cut (w.tape w.drawn (.appendCap m' 0 e))-m');have Y:m'≠0:=Yb;have S:¬((m':Int)<0):=Yb;simp[Builtin.append_,qo hu,qo B,sizeOf,typeInfo,zeroValue,y,hz,asInt,asIntOf,hw,u,D,F,Y,S,I,Question.forced,H,newRow];rw[if_neg A];simp only[Builtin.zeroCells,C,J];generalize (Question.appendCap m' 0 e).cut (w.tape w.drawn (.appendCap m' 0 e))=q at*;have Q:(List.replicate m' z.cells.toList).flatten.toArray++(List.replicate (q-m') z.cells.toList).flatten.toArray=(List.replicate q z.cells.toList).flatten.toArray:=by
  have e:q=m'+(q-m'):=Yb
  conv=>rhs;rw[e]
  rw[<-ZP,zP];simp
 rw[Q];rfl
theorem qbe{x:Operand}{t:TypeId}{e:TypeId}{r:TypeInfo}{z:Value}(p:o.op= .call ⟨.builtin .clear,#[x],#[t]⟩)(hu:P.underlying t=some (.slice e))(g:P.info? e=some r)(y:r.zero=some z)(d:St W0 own w)
  (h:XO P W0 f own (.clr z.cells.toList x) K):q5K P f o w own W0 K false:=by
 simp only[XO] at h
 split at h
 ·rename_i a n c k;obtain⟨s,own',q,v⟩:=h.h;have b:execOp (ev f) o=(do pure (.value (<-Builtin.clear_ #[t] o.type #[.slice (some a) n c]))):=by
   simp[execOp,p,resolve,invoke,builtin,k]
  refine .inr ⟨rfl, .inl ⟨.tuple #[],q4J w a 0 (List.replicate n z.cells.toList).flatten,own',?_,(q w d).2,v⟩⟩;rw[b];have l:=q2f (zs:=z.cells) n;cases n with
  |zero=>simp[Builtin.clear_,qo hu,q4J]
  |succ n=>
   have i:=q0G (P:=P) (a:=a) (List.replicate (n+1) z.cells.toList).flatten 0 w s (fun j u=>by simpa using (q w d).1 j u);have m:(Builtin.zeroCells z.cells (n+1)).toList=(List.replicate (n+1) z.cells.toList).flatten:=by unfold Builtin.zeroCells;rw[l]
   simp[Builtin.clear_,qo hu,zeroValue,typeInfo,g,y,m,i]
 ·rename_i n c k;have b:execOp (ev f) o=(do pure (.value (<-Builtin.clear_ #[t] o.type #[.slice none n c]))):=by
   simp[execOp,p,resolve,invoke,builtin,k]
  refine .inr ⟨rfl, .inl ⟨.tuple #[],w,own,?_,d,h⟩⟩;rw[b];simp[Builtin.clear_,qo hu]
 ·exact h.elim
theorem q6S{c:Call}{io:IOp}(q:o.op= .call c)(d:q5a P c=io)(r:St W0 own w)(h:XO P W0 f own io K):q5K P f o w own W0 K (qdI io):=by
 obtain⟨cal,args,D⟩:=c;obtain⟨args⟩:=args;obtain⟨D⟩:=D;unfold q5a at d;simp only at d
 split at d
 ·rename_i k
  split at d
  ·rename_i fn p
   split at d
   ·split at d
    ·rename_i i;simp only[zH,decide_eq_true_eq,ZD] at i
     split at d
     ·rename_i x;subst d;simp only[XO] at h
      split at h
      ·rename_i b j;refine qt r (v:= .int .u64 b) ?_ h;simp[execOp,q,resolve,q4Z,Deferred.ofValue,invoke,callFunc,p,i.1.1,i.1.2,i.2,qcQ i.2,j,qiA]
      ·exact h.elim
     ·subst d;exact(qv h).elim
    ·split at d
     ·rename_i i;simp only[zH,decide_eq_true_eq,ZD] at i
      split at d
      ·rename_i x;subst d;simp only[XO] at h
       split at h
       ·rename_i n j;refine qt r (v:= .float .f64 n.toNat) ?_ h;simp[execOp,q,resolve,q4Z,Deferred.ofValue,invoke,callFunc,p,i.1.1,i.1.2,i.2,qcR i.2,j,qj2]
       ·exact h.elim
      ·subst d;exact(qv h).elim
     ·split at d
      ·rename_i i;simp only[zH,decide_eq_true_eq,ZD] at i
       split at d
       ·rename_i x y;subst d;simp only[XO] at h
        split at h
        ·rename_i a b j u;refine qt r (v:= .float .f64 (q5f true a b)) ?_ h;simp[execOp,q,resolve,q4Z,Deferred.ofValue,invoke,callFunc,p,i.1.1,i.1.2,i.2,qfB i.2,j,u,qfZ]
        ·exact h.elim
       ·subst d;exact(qv h).elim
      ·split at d
       ·rename_i i;simp only[zH,decide_eq_true_eq,ZD] at i
        split at d
        ·rename_i x y;subst d;simp only[XO] at h
         split at h
         ·rename_i a b j u;refine qt r (v:= .float .f64 (q5f false a b)) ?_ h;simp[execOp,q,resolve,q4Z,Deferred.ofValue,invoke,callFunc,p,i.1.1,i.1.2,i.2,qfA i.2,j,u,qfY]
         ·exact h.elim
        ·subst d;exact(qv h).elim
       ·split at d
        ·rename_i i;simp only[zH,decide_eq_true_eq,ZD] at i
         split at d
         ·rename_i x y;subst d;simp only[XO] at h
          split at h
          ·rename_i s c j u;refine qt r (v:= .int .i64 (qfb s c)) ?_ h;simp[execOp,q,resolve,q4Z,Deferred.ofValue,invoke,callFunc,p,i.1.1,i.1.2,i.2,qfz i.2,j,u,qja]
          ·exact h.elim
         ·subst d;exact(qv h).elim
        ·subst d;exact(qv h).elim
   ·rename_i i;subst d;simp only[XO] at h;simp only[yd,not_or,Bool.not_eq_true,beq_eq_false_iff_ne,Option.isNone_eq_false_iff] at i;have H:fn.body≠none:=by intro e;simp[e] at i
    refine .inr ⟨rfl, .inr (.inr (.inl ⟨k,(args.map (ev f)).toArray,?_,by simpa using h⟩))⟩;simp[execOp,q,resolve,ev,Deferred.ofValue,invoke,callFunc,p,i.1,H]
  ·subst d;exact(qv h).elim
 ·split at d
  ·rename_i x t
   split at d
   ·rename_i e hu;subst d;simp only[XO] at h
    split at h
    ·rename_i b n c j;refine qt r (v:= .int .i64 n) ?_ h;simp[execOp,q,resolve,invoke,builtin,Builtin.len_,qo hu,goInt,j]
    ·exact h.elim
   ·rename_i hu;subst d;simp only[XO] at h
    split at h
    ·rename_i s j;refine qt r (v:= .int .i64 s.size) ?_ h;simp[execOp,q,resolve,invoke,builtin,Builtin.len_,qo hu,goInt,j]
    ·exact h.elim
   ·subst d;exact(qv h).elim
  ·subst d;exact(qv h).elim
 ·split at d
  ·rename_i x t
   split at d
   ·rename_i e hu;subst d;simp only[XO] at h
    split at h
    ·rename_i a n c j;refine qt r (v:= .int .i64 c) ?_ h;simp[execOp,q,resolve,invoke,builtin,Builtin.cap_,qo hu,goInt,j]
    ·exact h.elim
   ·subst d;exact(qv h).elim
  ·subst d;exact(qv h).elim
 ·split at d
  ·rename_i s x t tx
   split at d
   ·rename_i e e2 hu C
    split at d
    ·rename_i G A
     split at d
     ·rename_i z E
      split at d
      ·rename_i i;subst d;simp only[XO] at h
       split at h
       ·rename_i a n c a2 m c2 F j;exact q8O q F j hu C A E i r h
       ·exact h.elim
      ·subst d;exact(qv h).elim
     ·subst d;exact(qv h).elim
    ·subst d;exact(qv h).elim
   ·rename_i e k hu C
    split at d
    ·rename_i G A
     split at d
     ·rename_i z E
      split at d
      ·rename_i i;subst d;simp only[XO] at h
       split at h
       ·rename_i a n c m F j;exact qcG q F j hu C A E i r h
       ·exact h.elim
      ·subst d;exact(qv h).elim
     ·subst d;exact(qv h).elim
    ·subst d;exact(qv h).elim
   ·subst d;exact(qv h).elim
  ·subst d;exact(qv h).elim
 ·split at d
  ·rename_i x t
   split at d
   ·rename_i e hu
    split at d
    ·rename_i G A
     split at d
     ·rename_i z E;subst d;exact qbe q hu A E r h
     ·subst d;exact(qv h).elim
    ·subst d;exact(qv h).elim
   ·subst d;exact(qv h).elim
  ·subst d;exact(qv h).elim
 ·rename_i g;subst d;simp only[XO] at h
  split at h
  ·rename_i k first cap j;obtain⟨B,i⟩:=h.h;unfold okF at B
   split at B
   ·rename_i fn p;simp only[zH,Bool.not_eq_true',beq_eq_false_iff_ne,Zo] at B;obtain⟨J,bd,hb⟩:=B;refine .inr ⟨rfl, .inr (.inr (.inl ⟨k,(first.toList++args.map (ev f)++cap.toList).toArray,?_,by simpa using i⟩))⟩;simp[execOp,q,resolve,j,Deferred.ofValue,invoke,callFunc,p,J,hb]
   ·cases B
  ·rename_i l first cap j;obtain⟨k,tmps,assign,body,u,I⟩:=h.h w r;refine .inr ⟨rfl, .inr (.inr (.inr ⟨l,k,tmps,assign,body,?_,I⟩))⟩;have e:(first.toList++args.map (ev f)).toArray=first++(args.map (ev f)).toArray:=Yd;rw[e] at u;simp[execOp,q,resolve,j,Deferred.ofValue,invoke]
   simpa using u
  ·exact h.elim
 ·split at d
  ·rename_i x y;subst d;simp only[XO] at h
   split at h
   ·rename_i k m L n j u;refine qt r ?_ h.h;simp[execOp,q,resolve,invoke,builtin,Builtin.min_,j,u,Builtin.min2];omega
   ·exact h.elim
  ·subst d;exact(qv h).elim
 ·split at d
  ·rename_i x y;subst d;simp only[XO] at h
   split at h
   ·rename_i k m L n j u;refine qt r ?_ h.h;simp[execOp,q,resolve,invoke,builtin,Builtin.max_,j,u,Builtin.max2];omega
   ·exact h.elim
  ·subst d;exact(qv h).elim
 ·subst d;exact(qv h).elim
theorem q67{t:TypeId}{a b:Bool}(hu:P.underlying t=some .bool):(Op.equal t (.bool a) (.bool b)).run P w= .ok (decide (a=b)) w:=by
 show(Op.equalIn (9999+1) t (.bool a) (.bool b)).run P w=_;rw[Op.equalIn];simp only[Sem.run_bind,qo hu,Result.andThen_ok];simp only[Sem.run_pure,Bool.beq_eq_decide_eq]
theorem q5O{t:TypeId}{a b:Bool}:binOp .eql t (.bool a) (.bool b)=(do pure (.bool (<-Op.equal t (.bool a) (.bool b)))):=rfl
theorem q5P{t:TypeId}{a b:Bool}:binOp .neq t (.bool a) (.bool b)=(do pure (.bool (!(<-Op.equal t (.bool a) (.bool b))))):=rfl
theorem q5j{b pos:Nat}{s:ByteArray}{t:TypeId}(a:w.heap[b]? =some (.stringIter s pos)):(pos<s.size->(Instr.next (.pointer (some ⟨b,0,none⟩)) true t).run P w= .ok (.tuple #[.bool true, .int .i64 pos, .int .i32 (Utf8.decode s pos).1]) {w with heap:=w.heap.setIfInBounds b (.stringIter s (pos+(Utf8.decode s pos).2))})/\
  (¬pos<s.size->(Instr.next (.pointer (some ⟨b,0,none⟩)) true t).run P w= .ok (.tuple #[.bool false]) w):=by
 refine⟨fun h=>?_,fun h=>?_⟩ <;>simp[Instr.next,getObj,setObj,Sem.run,a,h,goInt]
theorem q8U{t:TypeId}{ms:Array (String×TypeId)}(hu:P.underlying t=some (.interface ms)):(Op.equal t .nilIface .nilIface).run P w= .ok true w/\∀tt v,(Op.equal t (.iface tt v) .nilIface).run P w= .ok false w:=by
 refine⟨?_,fun tt v=>?_⟩
 ·show(Op.equalIn (9999+1) t _ _).run P w=_;rw[Op.equalIn];simp only[Sem.run_bind,qo hu,Result.andThen_ok];rfl
 ·show(Op.equalIn (9999+1) t _ _).run P w=_;rw[Op.equalIn];simp only[Sem.run_bind,qo hu,Result.andThen_ok];rfl
theorem q0T{t:TypeId}{v:Value}(h:v= .nilIface\/∃tt x,v= .iface tt x):binOp .eql t v .nilIface=(do pure (.bool (<-Op.equal t v .nilIface)))/\binOp .neq t v .nilIface=(do pure (.bool (!(<-Op.equal t v .nilIface)))):=by
 rcases h with rfl|⟨_,_,rfl⟩ <;>exact⟨rfl,rfl⟩
theorem qco{l l':List UInt8}:(l==l')=decide (l=l'):=by by_cases h:l=l' <;>simp[h]
def qdm(P:Program)(k:Nat)(t:TypeId):Prop:=
 match k,P.underlying t with
 |0,some (.slice _)|1,some (.pointer _)|2,some (.func _ _ _)|3,some (.map _ _)=>True
 |_,_=>False
theorem qjq{k:Nat}{t:TypeId}{v1 v2:Value}{b:Bool}(hb:qjp k v1 v2=some b)(g:qdm P k t):(Op.equal t v1 v2).run P w= .ok b w/\(∀op x y,(eqGuard op t x y v1 v2).run P w= .ok () w)/\
  binOp .eql t v1 v2=(do pure (.bool (<-Op.equal t v1 v2)))/\binOp .neq t v1 v2=(do pure (.bool (!(<-Op.equal t v1 v2)))):=by
 have c:∀d,P.underlying t=some d->(Op.equal t v1 v2).run P w=(do
   match d,v1,v2 with
   | .slice _, .slice none _ _, .slice b _ _=>pure b.isNone
   | .slice _, .slice _ _ _, .slice none _ _=>pure false
   | .pointer _, .pointer none, .pointer b=>pure b.isNone
   | .pointer _, .pointer _, .pointer none=>pure false
   | .map _ _, .map none, .map b=>pure b.isNone
   | .map _ _, .map _, .map none=>pure false
   | .func _ _ _, .nilFunc, .nilFunc=>pure true
   | .func _ _ _, .func _ _ _, .nilFunc=>pure false
   |_,_,_=>Op.equal t v1 v2:Sem Bool).run P w:=by
  intro d hd
  split
  all_goals first|rfl|show(Op.equalIn (9999+1) t _ _).run P w=_;rw[Op.equalIn];simp only[Sem.run_bind,qo hd,Result.andThen_ok]
 unfold qdm at g
 split at g
 ·rename_i e hu
  match v1,v2,hb with
  | .slice a _ _, .slice none _ _,hb=>
   simp only[qjp,Option.some.injEq] at hb;refine⟨?_,fun op x y=>by cases op <;>simp[eqGuard],rfl,rfl⟩;rw[c _ hu,<-hb];cases a <;>simp
 ·rename_i e hu
  match v1,v2,hb with
  | .pointer a, .pointer none,hb=>
   simp only[qjp,Option.some.injEq] at hb;refine⟨?_,fun op x y=>by cases op <;>simp[eqGuard],rfl,rfl⟩;rw[c _ hu,<-hb];cases a <;>simp
 ·rename_i h i e3 hu
  match v1,v2,hb with
  | .func _ _ _, .nilFunc,hb=>
   simp only[qjp,Option.some.injEq] at hb;refine⟨?_,fun op x y=>by cases op <;>simp[eqGuard],rfl,rfl⟩;rw[c _ hu,<-hb];simp
  | .nilFunc, .nilFunc,hb=>
   simp only[qjp,Option.some.injEq] at hb;refine⟨?_,fun op x y=>by cases op <;>simp[eqGuard],rfl,rfl⟩;rw[c _ hu,<-hb];simp
 ·rename_i h i hu
  match v1,v2,hb with
  | .map a, .map none,hb=>
   simp only[qjp,Option.some.injEq] at hb;refine⟨?_,fun op x y=>by cases op <;>simp[eqGuard],rfl,rfl⟩;rw[c _ hu,<-hb];cases a <;>simp
 ·exact g.elim
theorem q21{k:TypeId}{kk:Nat}(h:qfI P k=some kk):(kk=0/\∃j,P.underlying k=some (.int j))\/(kk=2/\P.underlying k=some .string):=by
 unfold qfI at h
 split at h
 ·rename_i j hu;exact .inl ⟨(Option.some.inj h).symm,_,hu⟩
 ·rename_i hu;exact .inr ⟨(Option.some.inj h).symm,hu⟩
 ·cases h
theorem q2Y{k:TypeId}{kk n:Nat}{e:Bool}{v:Value}(h:qfI P k=some kk):(Instr.checkKey e (n+1) k v).run P w= .ok () w:=by
 rcases q21 h with ⟨_,j,hu⟩|⟨_,hu⟩ <;>simp[Instr.checkKey,qo hu]
theorem qhz{a b:ByteArray}:(a==b)=decide (a.data.toList=b.data.toList):=by
 obtain⟨x⟩:=a;obtain⟨y⟩:=b;show(x==y)=_
 by_cases h:x=y
 ·subst h;simp
 ·rw[decide_eq_false (fun e=>h (ZK.1 e))];simp[h]
theorem q7y{a b:Value}{r:Bool}(h:q1u 0 a b=some r):∃j x y,a= .int j x/\b= .int j y/\r=decide (x=y):=by
 cases a <;>cases b <;>simp only[q1u] at h <;>try cases h
 rename_i j x j' y
 split at h
 ·rename_i c;have:=qdb c;subst this;exact⟨_,_,_,rfl,rfl,(Option.some.inj h).symm⟩
 ·cases h
theorem q7z{a b:Value}{r:Bool}(h:q1u 2 a b=some r):∃x y,a= .string x/\b= .string y/\r=decide (x.data.toList=y.data.toList):=by
 cases a <;>cases b <;>simp only[q1u] at h <;>try cases h
 exact⟨_,_,rfl,rfl,rfl⟩
theorem q46{T:TypeDesc}{kk:Nat}{a b:Value}{r:Bool}(c:(kk=0/\∃j,T= .int j)\/(kk=2/\T= .string))(h:q1u kk a b=some r):Instr.sameNow T a b=some r:=by
 rcases c with ⟨rfl,j,rfl⟩|⟨rfl,rfl⟩
 ·obtain⟨j',x,y,rfl,rfl,rfl⟩:=q7y h;simp only[Instr.sameNow,if_true]
  congr 1
 ·obtain⟨x,y,rfl,rfl,rfl⟩:=q7z h;simp only[Instr.sameNow,qhz]
theorem q5k{kk n:Nat}{a b:Value}(d:kk=0\/kk=2)(h:q1u kk a b=some true):Instr.sameBits (n+1) b a=true/\b=a:=by
 rcases d with rfl|rfl
 ·obtain⟨j',x,y,rfl,rfl,e⟩:=q7y h;have e:=of_decide_eq_true e.symm;subst e;exact⟨by simp[Instr.sameBits],rfl⟩
 ·obtain⟨x,y,rfl,rfl,e⟩:=q7z h;have e:=of_decide_eq_true e.symm;have c:x=y:=by
   cases x;cases y;simp only[ByteArray.mk.injEq];exact ZK.1 e
  subst c;exact⟨by simp[Instr.sameBits,qhz],rfl⟩
theorem q9d{j j':IntKind}{a b:Value}:Instr.sameNow (.int j) a b=Instr.sameNow (.int j') a b:=by
 cases a <;>cases b <;>rfl
theorem q1N{T:TypeDesc}{kk:Nat}{key:Value}(a:(kk=0/\∃j,T= .int j)\/(kk=2/\T= .string))(v:Value):∀(es:List MapEntry) (j:Nat) (r:Option Value),q1Y kk key (es.map fun e=>(e.key,e.val))=some r->
  (r=none/\Instr.findNow T key es j=some none/\q5F kk key v (es.map fun e=>(e.key,e.val))=(es.map fun e=>(e.key,e.val))++ [(key,v)])\/
  (∃i x e,r=some x/\Instr.findNow T key es j=some (some (j+i,x))/\es[i]? =some e/\q1u kk key e.key=some true/\q5F kk key v (es.map fun e=>(e.key,e.val))=(es.map fun e=>(e.key,e.val)).set i (key,v))
 | [],j,r,h=> .inl ⟨(Option.some.inj h).symm,rfl,rfl⟩
 |e::es,j,r,h=>by
  simp only[zG] at h ⊢;unfold q1Y at h;unfold q5F
  split at h
  ·rename_i he;refine .inr ⟨0,e.val,e,(Option.some.inj h).symm,?_,rfl,he,?_⟩
   ·unfold Instr.findNow;rw[q46 a he];rfl
   ·rw[he];rfl
  ·rename_i he;rw[he]
   rcases q1N a v es (j+1) r h with ⟨b,c,d⟩|⟨i,x,e',b,c,d,g,k⟩
   ·refine .inl ⟨b,?_,by simp only[d,zk]⟩;unfold Instr.findNow;rw[q46 a he];exact c
   ·refine .inr ⟨i+1,x,e',b,?_,by simpa using d,g,by simp only[k,List.set_cons_succ]⟩;unfold Instr.findNow;rw[q46 a he,<-show j+1+i=j+(i+1) by omega];exact c
  ·cases h
theorem q50{k:TypeId}{kk:Nat}{key:Value}{es:List MapEntry}{q:Option (Nat×Value)}(b:qfI P k=some kk)(h:∀T,((kk=0/\∃j,T=TypeDesc.int j)\/(kk=2/\T= .string))->Instr.findNow T key es 0=some q):(Instr.findKey k key es).run P w= .ok q w:=by
 rcases q21 b with ⟨a,j,hu⟩|⟨a,hu⟩
 ·have:=h _ (.inl ⟨a,j,rfl⟩);simp[Instr.findKey,qo hu,this]
 ·have:=h _ (.inr ⟨a,rfl⟩);simp[Instr.findKey,qo hu,this]
theorem q9Z{k:TypeId}{kk:Nat}{key:Value}{es:Array MapEntry}{r:Option Value}(g:qfI P k=some kk)(h:q1Y kk key (es.toList.map fun e=>(e.key,e.val))=some r)(v:Value):
  (r=none/\(Instr.findKey k key es.toList).run P w= .ok none w/\q5F kk key v (es.toList.map fun e=>(e.key,e.val))=(es.toList.map fun e=>(e.key,e.val))++ [(key,v)])\/
  (∃i x e,r=some x/\(Instr.findKey k key es.toList).run P w= .ok (some (i,x)) w/\es[i]? =some e/\e.key=key/\(∀n,Instr.sameBits (n+1) e.key key=true)/\q5F kk key v (es.toList.map fun e=>(e.key,e.val))=(es.toList.map fun e=>(e.key,e.val)).set i (key,v)):=by
 have m:kk=0\/kk=2:=by rcases q21 g with ⟨h,_⟩|⟨h,_⟩ <;>simp[h]
 have b:∃T,(kk=0/\∃j,T=TypeDesc.int j)\/(kk=2/\T= .string):=by
  rcases q21 g with ⟨h,j,_⟩|⟨h,_⟩
  ·exact⟨.int j, .inl ⟨h,j,rfl⟩⟩
  ·exact⟨.string, .inr ⟨h,rfl⟩⟩
 obtain⟨T0,b⟩:=b
 rcases q1N b v es.toList 0 r h with ⟨c,_,s⟩|⟨i,x,e,c,p,s,d,A⟩
 ·refine .inl ⟨c,q50 g fun T q=>?_,s⟩
  rcases q1N q v es.toList 0 r h with ⟨_,p,_⟩|⟨i,x,e,d,_⟩
  ·exact p
  ·rw[c] at d;cases d
 ·refine .inr ⟨i,x,e,c,q50 g fun T q=>?_,by rw[<-Z5];exact s,(q5k (n:=0) m d).2,fun n=>(q5k m d).1,A⟩
  rcases q21 g with ⟨y,j0,_⟩|⟨y,_⟩
  ·rcases q with ⟨_,j,rfl⟩|⟨u,_⟩
   ·rcases b with ⟨_,j',rfl⟩|⟨u,_⟩
    ·rcases q1N (T:= .int j) (.inl ⟨y,j,rfl⟩) v es.toList 0 r h with ⟨t,_,_⟩|⟨i',x',e',t,h7,h8,h9,h10⟩
     ·rw[c] at t;cases t
     ·have z:∀(l:List MapEntry) (n:Nat),Instr.findNow (.int j) key l n=Instr.findNow (.int j') key l n:=by
       intro l
       induction l with
       |nil=>intro n;rfl
       |cons a l B=>intro n;unfold Instr.findNow;rw[B,q9d (j:=j) (j':=j')]
      rw[z,p];simp
    ·omega
   ·omega
  ·rcases q with ⟨u,_⟩|⟨_,rfl⟩
   ·omega
   ·rcases b with ⟨u,_⟩|⟨_,rfl⟩
    ·omega
    ·rw[p];simp
theorem q6d{t k e:TypeId}{kk:Nat}{z key:Value}{ok:Bool}{x:Option Nat}{es:Array MapEntry}{r:Option Value}(hu:P.underlying t=some (.map k e))(p:qfI P k=some kk)(u:q7h P e=some z)
  (s:(x=none/\es= #[])\/∃b c,x=some b/\w.heap[b]? =some (.map es c)) (h:q1Y kk key (es.toList.map fun e=>(e.key,e.val))=some r):(Instr.lookup t (.map x) key ok).run P w= .ok (qkT z ok r) w:=by
 have a:(r=none/\(Instr.findKey k key es.toList).run P w= .ok none w)\/∃i x,r=some x/\(Instr.findKey k key es.toList).run P w= .ok (some (i,x)) w:=by
  rcases q9Z (w:=w) p h .nilIface with ⟨j,l,_⟩|⟨i,x,_,j,l,_⟩
  ·exact .inl ⟨j,l⟩
  ·exact .inr ⟨i,x,j,l⟩
 have m:∀e,(Instr.checkKey e 10000 k key).run P w= .ok () w:=fun e=>q2Y (n:=9999) p
 have g:=q3Q (w:=w) u;have d:=qo (w:=w) hu
 rcases s with ⟨rfl,rfl⟩|⟨b,c,rfl,hb⟩
 ·have q:r=none:=(Option.some.inj h).symm;subst q;have a:(Instr.findKey k key []).run P w= .ok none w:=by
   rcases a with ⟨_,a⟩|⟨i,x,h,_⟩
   ·exact a
   ·cases h
  cases ok <;>simp[Instr.lookup,d,m,a,g,qkT]
 ·rcases a with ⟨rfl,a⟩|⟨i,x,rfl,a⟩
  ·cases ok <;>simp[Instr.lookup,d,getObj,Sem.run,hb,m,a,g,qkT]
  ·cases ok <;>simp[Instr.lookup,d,getObj,Sem.run,hb,m,a,qkT]
theorem q3C{t k e:TypeId}{kk:Nat}{key v:Value}{b c:Nat}{es:Array MapEntry}{r:Option Value}(hu:P.underlying t=some (.map k e))(m:qfI P k=some kk)
  (hb:w.heap[b]? =some (.map es c)) (h:q1Y kk key (es.toList.map fun e=>(e.key,e.val))=some r):
  ∃a q,(Instr.mapUpdate t (.map (some b)) key v).run P w= .ok () {w with heap:=w.heap.setIfInBounds b (.map a q)}/\a.toList.map (fun e=>(e.key,e.val))=q5F kk key v (es.toList.map fun e=>(e.key,e.val)):=by
 have l:=q2Y (w:=w) (n:=9999) (e:=false) (v:=key) m
 rcases q9Z (w:=w) m h v with ⟨_,d,s⟩|⟨i,x,e,_,d,j,h5,u,y⟩
 ·refine⟨es.push {key,val:=v,born:=c},c+1,?_,by simp[s]⟩;simp[Instr.mapUpdate,qo hu,getObj,setObj,Sem.run,hb,l,d]
 ·refine⟨es.modify i fun e=>{e with key:=key,val:=v},c,?_,?_⟩
  ·simp[Instr.mapUpdate,qo hu,getObj,setObj,Sem.run,hb,l,d,j,Instr.keyThatStays,u 9999]
  ·rw[y];refine Z8 fun n=>?_
   rw[zI,zx,Z5,ZR,zi,Array.length_toList,zI,Z5]
   by_cases p:i=n
   ·subst p;have g:=(Zg.1 j).1;simp[g]
   ·simp[p]
theorem q25{io:IOp}(g:q1I P o.op=io)(u:St W0 own w)(h:XO P W0 f own io K):q5K P f o w own W0 K (qdI io):=by
 cases A:o.op <;>rw[A] at g <;>(try simp only[q1I] at g)
 case move x=>subst g;exact qt u (v:=ev f x) (by simp[execOp,A]) (Mv.h (K:=fun v=>K v own) h)
 case assign x=>subst g;exact qt u (v:=ev f x) (by simp[execOp,A]) (Mv.h (K:=fun v=>K v own) h)
 case pick c x y=>
  subst g;simp only[XO] at h
  split at h
  ·rename_i b V;exact qt u (v:=if b then ev f x else ev f y) (by cases b <;>simp[execOp,A,V,asBool]) h.h
  ·exact h.elim
 case binOp op t x y t'=>
  unfold qdi at g
  split at g
  ·subst g;simp only[XO] at h
   split at h
   ·rename_i q F;exact q8P A q F u h
   ·exact h.elim
  ·split at g <;>subst g
   ·simp only[XO] at h
    split at h
    ·rename_i a b q F;exact qt u (v:= .bool (decide (a.toList=b.toList))) (by simp[execOp,A,eqGuard,q,F,binOp,Op.stringOp,qco]) h
    ·exact h.elim
   ·simp only[XO] at h
    split at h
    ·rename_i a b q F;exact qt u (v:= .bool (!decide (a.toList=b.toList))) (by simp[execOp,A,eqGuard,q,F,binOp,Op.stringOp,qco]) h
    ·exact h.elim
   ·simp only[XO] at h
    split at h
    ·rename_i a b q F;obtain⟨g,B⟩:=h.h;have N:¬(9223372036854775807<(a.size:Int)+(b.size:Int)):=Yb;exact qt u (v:= .string (a++b)) (by simp[execOp,A,eqGuard,q,F,binOp,Op.stringOp,N]) B
    ·exact h.elim
   ·exact(qv h).elim
  iterate 4
   ·rename_i hu;have av:∀neg k,qdm P k t->XO P W0 f own (.nilq neg k x y) K->(op=(bif neg then .neq else .eql))->q5K P f o w own W0 K true:=by
     intro neg k B h ae;simp only[XO] at h
     split at h
     ·rename_i b hb;obtain⟨hE,Q,E,S⟩:=qjq (w:=w) hb B;refine qt u (v:= .bool (bif neg then !b else b)) ?_ h;cases neg <;>simp only[cond_true,cond_false] at ae <;>subst ae <;>simp[execOp,A,Q,E,S,hE]
     ·exact h.elim
    split at g <;>subst g
    ·exact av false _ (by simp[qdm,hu]) h rfl
    ·exact av true _ (by simp[qdm,hu]) h rfl
    ·exact(qv h).elim
  iterate 2
   ·split at g
    ·rename_i ks aU
     split at g
     ·subst g;exact(qv h).elim
     ·rename_i aQ;have aJ:∀neg,XO P W0 f own (.ageq neg ks x y) K->(op=(bif neg then .neq else .eql))->q5K P f o w own W0 K true:=by
       intro neg h ae;simp only[XO] at h
       split at h
       ·rename_i xs ys q F;obtain⟨r,hr,T⟩:=h.h;have aE:q4g P t=some true:=by unfold q4g;simp_all
        have hE:=q3Z 6 t ks 10000 (.agg xs) (.agg ys) r aU Yb ⟨fun _=>⟨_,rfl⟩,fun h=>by rw[aE] at h;cases h⟩ ⟨fun _=>⟨_,rfl⟩,fun h=>by rw[aE] at h;cases h⟩ hr w;have Q:=run_eqGuard_agg (P:=P) w op t x y xs ys (by simpa using aQ);refine qt u (v:= .bool (bif neg then !r else r)) ?_ T;have e1:(binOp .eql t (.agg xs) (.agg ys)).run P w= .ok (.bool r) w:=by rw[run_eql_struct,hE];rfl
        have e2:(binOp .neq t (.agg xs) (.agg ys)).run P w= .ok (.bool (!r)) w:=by rw[run_neq_struct,hE];rfl
        cases neg <;>simp only[cond_true,cond_false] at ae <;>subst ae <;>simp[execOp,A,q,F,Q,e1,e2]
       ·exact h.elim
      split at g <;>subst g
      ·exact aJ false h rfl
      ·exact aJ true h rfl
      ·exact(qv h).elim
    ·subst g;exact(qv h).elim
  ·have G:(∀a b:Nat,binOp op t (.float .f64 a) (.float .f64 b)=pure (.bool (q5I op (FloatKind.f64.format.order a b))))->XO P W0 f own (.fbin op x y) K->q5K P f o w own W0 K true:=by
    intro he h;simp only[XO] at h
    split at h
    ·rename_i a b q F;refine qt u (v:= .bool (q5I op (FloatKind.f64.format.order a b))) ?_ h.h;have Q:(eqGuard op t x y (ev f x) (ev f y)).run P w= .ok () w:=by
      unfold eqGuard;rw[q,F];cases op <;>simp
     rw[q,F] at Q;simp[execOp,A,q,F,Q,he]
    ·exact h.elim
   have O:(∀a b:Nat,binOp op t (.float .f64 a) (.float .f64 b)=(match floatBits op .f64 a b with|some r=>pure (.float .f64 r)|none=>(do pure (.float .f64 (<-choose (.nanBits .f64 a b))))))->
     XO P W0 f own (.flt op x y) K->q5K P f o w own W0 K false:=by
    intro he h;simp only[XO] at h
    split at h
    ·rename_i a b q F;have Q:(eqGuard op t x y (ev f x) (ev f y)).run P w= .ok () w:=by
      unfold eqGuard;rw[q,F];cases op <;>simp
     rw[q,F] at Q;cases au:floatBits op .f64 a b with
     |some r=>exact qt u (v:= .float .f64 r) (by simp[execOp,A,q,F,Q,he,au]) (h.h.1 r au)
     |none=>
      refine .inr ⟨rfl, .inl ⟨.float .f64 (Question.cut (.nanBits .f64 a b) (w.tape w.drawn (.nanBits .f64 a b))),{w with drawn:=w.drawn+1},own,by simp[execOp,A,q,F,Q,he,au,Question.forced],u.drawn _,h.h.2 au _ ?_⟩⟩;exact⟨_,_,yp _ Yc,yp _ Yc,rfl⟩
    ·exact h.elim
   split at g <;>subst g
   ·exact O (fun a b=>by simp only[binOp,Op.floatArith,floatBits];cases FloatKind.f64.format.add a b <;>simp) h
   ·exact O (fun a b=>by simp only[binOp,Op.floatArith,floatBits];cases FloatKind.f64.format.sub a b <;>simp) h
   ·exact O (fun a b=>by simp only[binOp,Op.floatArith,floatBits];cases FloatKind.f64.format.mul a b <;>simp) h
   ·exact O (fun a b=>by simp only[binOp,Op.floatArith,floatBits];cases FloatKind.f64.format.div a b <;>simp) h
   ·exact G (fun a b=>by simp[binOp,Op.floatCmp,q5I]) h
   ·exact G (fun a b=>by simp[binOp,Op.floatCmp,q5I]) h
   ·exact G (fun a b=>by simp[binOp,Op.floatCmp,q5I]) h
   ·exact G (fun a b=>by simp[binOp,Op.floatCmp,q5I]) h
   ·exact G (fun a b=>by simp[binOp,Op.floatCmp,q5I]) h
   ·exact G (fun a b=>by simp[binOp,Op.floatCmp,q5I]) h
   ·exact(qv h).elim
  ·rename_i hu
   split at g <;>subst g
   ·simp only[XO] at h
    split at h
    ·rename_i a b q F;exact qt u (v:= .bool (decide (a=b))) (by simp[execOp,A,eqGuard,q,F,q5O,q67 hu]) h
    ·exact h.elim
   ·simp only[XO] at h
    split at h
    ·rename_i a b q F;refine qt u (v:= .bool (decide (a≠b))) ?_ h;simp[execOp,A,eqGuard,q,F,q5P,q67 hu]
    ·exact h.elim
   ·exact(qv h).elim
  ·rename_i ms hu;obtain⟨e1,e2⟩:=q8U (w:=w) hu;have aq:ev f (.const .nilIface)= .nilIface:=rfl
   split at g <;>subst g
   ·simp only[XO] at h
    split at h
    ·rename_i q;exact qt u (v:= .bool (!false)) (by simp[execOp,A,eqGuard,q,(q0T (t:=t) (.inl rfl)).1,e1,aq]) h
    ·rename_i tt v q;exact qt u (v:= .bool false) (by simp[execOp,A,eqGuard,q,(q0T (t:=t) (.inr ⟨tt,v,rfl⟩)).1,e2,aq]) h
    ·exact h.elim
   ·simp only[XO] at h
    split at h
    ·rename_i q;exact qt u (v:= .bool (!true)) (by simp[execOp,A,eqGuard,q,(q0T (t:=t) (.inl rfl)).2,e1,aq]) h
    ·rename_i tt v q;exact qt u (v:= .bool true) (by simp[execOp,A,eqGuard,q,(q0T (t:=t) (.inr ⟨tt,v,rfl⟩)).2,e2,aq]) h
    ·exact h.elim
   ·exact(qv h).elim
  ·subst g;exact(qv h).elim
 case unOp op t x=>
  cases op <;>simp only at g
  case not=>
   subst g;simp only[XO] at h
   split at h
   ·rename_i b q;exact qt u (v:= .bool (!b)) (by simp[execOp,A,q,Op.unary]) h
   ·exact h.elim
  case neg=>
   split at g
   ·subst g;simp only[XO] at h
    split at h
    ·rename_i k m q;exact qt u (v:= .int k (k.wrap (0-m))) (by simp[execOp,A,q,Op.unary,Op.intArith]) h.h
    ·exact h.elim
   ·subst g;exact(qv h).elim
  all_goals(subst g;exact(qv h).elim)
 case convert s d x=>
  split at g
  ·rename_i k' k hs hd;subst g;simp only[XO] at h
   split at h
   ·rename_i k2 m q;exact qt u (v:= .int k (k.wrap m)) (by simp[execOp,A,q,convert,qo hs,qo hd,Conv.intToInt]) h.h
   ·exact h.elim
  ·rename_i k' hs hd;subst g;simp only[XO] at h
   split at h
   ·rename_i k2 m q;exact qt u (v:= .float .f64 (FloatKind.f64.nearest m)) (by simp[execOp,A,q,convert,qo hs,qo hd,Conv.intToFloat]) h
   ·exact h.elim
  ·rename_i k hs hd;subst g;simp only[XO] at h
   split at h
   ·rename_i b q;obtain⟨n,C,B⟩:=h.h;refine qt u (v:= .int k n) ?_ B;have V:=run_convert_float_int (P:=P) w s d .f64 k b n (by simp[hs]) hd C;simp[execOp,A,q,V]
   ·exact h.elim
  ·subst g;exact(qv h).elim
 case fieldAddr t x i=>
  split at g
  ·rename_i fs hu
   split at g
   ·rename_i fd D
    split at g
    ·rename_i n C;subst g;simp only[XO] at h
     split at h
     ·rename_i b off q;refine qt u (v:= .pointer (some ⟨b,off+fd.offset,none⟩)) ?_ h;simp[execOp,A,q,Instr.fieldAt,qo hu,D,Instr.sureAddr,fieldPlace,q0P C,qN]
     ·exact h.elim
    ·subst g;exact(qv h).elim
   ·subst g;exact(qv h).elim
  ·subst g;exact(qv h).elim
 case field t x i=>
  split at g
  ·rename_i fs hu
   split at g
   ·rename_i fd D
    split at g
    ·rename_i n U C;subst g;simp only[XO] at h
     split at h
     ·rename_i cs q;refine qt u ?_ h.h;simp[execOp,A,q,Instr.field,qo hu,D,asAgg,part,q0I U,q0P C];rw[<-ZK];simp[Array.toList_extract,List.extract_eq_take_drop]
     ·exact h.elim
    ·rename_i n U C;subst g;simp only[XO] at h
     split at h
     ·rename_i cs q;obtain⟨v,R,B⟩:=h.h;refine qt u ?_ B;rw[Z5] at R;simp[execOp,A,q,Instr.field,qo hu,D,asAgg,part,q0I U,R]
     ·exact h.elim
    ·subst g;exact(qv h).elim
   ·subst g;exact(qv h).elim
  ·subst g;exact(qv h).elim
 case indexAddr t x i=>
  split at g
  ·rename_i e hu
   split at g
   ·rename_i n C;subst g;simp only[XO] at h
    split at h
    ·rename_i a len cap k m q hi;obtain⟨j,b,off,rfl,Z,rfl,B⟩:=h.h;refine qt u ?_ B;simp[execOp,A,q,hi,Instr.indexAt,qo hu,asIntOf,q0P C,qN,Z]
    ·exact h.elim
   ·subst g;exact(qv h).elim
  ·rename_i len e hu
   split at g
   ·rename_i n C;subst g;simp only[XO] at h
    split at h
    ·rename_i b off k m q hi;obtain⟨j,rfl,Z,B⟩:=h.h;refine qt u ?_ B;simp[execOp,A,q,hi,Instr.indexAt,qo hu,asIntOf,q0P C,qN,Z,Instr.sureAddr]
    ·exact h.elim
   ·subst g;exact(qv h).elim
  ·subst g;exact(qv h).elim
 case makeSlice t l c=>
  split at g
  ·rename_i e hu
   split at g
   ·rename_i ie W
    split at g
    ·rename_i z X
     split at g
     ·rename_i V;subst g;simp only[XO] at h
      split at h
      ·rename_i k l0 k' c0 aV aM;obtain⟨l',J,rfl,rfl,hlc,hb,T⟩:=h.h;refine .inr ⟨rfl, .inl ⟨_,_,_,?_,u.push (.cells (List.replicate J z.cells.toList).flatten.toArray e) (p:=fun o=>o=Obj.cells (List.replicate J z.cells.toList).flatten.toArray e) rfl,T w.heap.size u.size⟩⟩;have hcb:J<=J*ie.bytes:=yl _ V.2.2;have aK:=q2f (zs:=z.cells) J;rw[V.1] at aK;have E:(ie.bytes:Int)*(J:Int)<=281474976710656:=by rw[<-yG,Nat.mul_comm];omega
       have hr:=run_make (P:=P) w t e ie z hu W X k k' l' J Yb Yb E Yb;simp only[zF] at hr;have hm:madeCells z.cells (J*ie.size)=(List.replicate J z.cells.toList).flatten.toArray:=by rw[<-aK];simp[madeCells,V.1]
       rw[hm] at hr;simp only[execOp,A,aV,aM,Sem.run_bind,hr,Result.andThen_ok,Sem.run_pure];rfl
      ·exact h.elim
     ·subst g;exact(qv h).elim
    ·subst g;exact(qv h).elim
   ·subst g;exact(qv h).elim
  ·subst g;exact(qv h).elim
 case makeFunc fn first cap=>
  cases fn <;>simp only at g
  case func k=>
   split at g
   ·rename_i hf;subst g;simp only[XO] at h;have aO:first= #[]:=by simpa using hf
    refine qt u ?_ h;subst aO;obtain⟨cap⟩:=cap;simp[execOp,A,Instr.makeFunc]
   ·subst g;exact(qv h).elim
  all_goals(subst g;exact(qv h).elim)
 case slice t x lo hi mx=>
  split at g
  ·rename_i e hu
   split at g
   ·rename_i n C;subst g;simp only[XO] at h
    split at h
    ·rename_i a len cap br aR mx' q E S h3;obtain⟨l,r,m,e1,e2,e3,aA,bh,aW,aX,T⟩:=h.h;refine qt u ?_ T;have hb:=q64 (P:=P) (isS:=true) (q7A E) (q7A S) (q7A h3) e1 e2 e3 aA bh aW aX w;unfold slA;simp[execOp,A,Instr.sliceAt,Instr.slice,q,qo hu,hb,q0P C]
    ·exact h.elim
   ·subst g;exact(qv h).elim
  ·rename_i hu
   split at g
   ·subst g;simp only[XO] at h
    split at h
    ·rename_i s br aR q E S;obtain⟨l,r,e1,e2,aA,bm,T⟩:=h.h;refine qt u ?_ T;have hb:=q64 (P:=P) (isS:=false) (len:=s.size) (cap:=s.size) (m:=s.size) (mx:=none) (mx':=none) (q7A E) (q7A S) (.inl ⟨rfl,rfl⟩) e1 e2 rfl aA (fun _=>bm) (fun h=>by cases h) (fun h=>by cases h) w;simp[execOp,A,Instr.sliceAt,Instr.slice,q,qo hu,hb]
    ·exact h.elim
   ·subst g;exact(qv h).elim
  ·subst g;exact(qv h).elim
 case index t x i=>
  split at g
  ·rename_i hu;subst g;simp only[XO] at h
   split at h
   ·rename_i s k m q hi;obtain⟨j,b,rfl,hb,B⟩:=h.h;refine qt u ?_ B;have aL:s[j]? =some b:=by
     rw[z7] at hb;obtain⟨Z,hb⟩:=hb;have aT:j<s.size:=by simpa using Z
     rw[getElem?_pos s j aT]
     congr 1
    simp[execOp,A,q,hi,Instr.index,qo hu,asIntOf,aL]
   ·exact h.elim
  ·rename_i len e hu
   split at g
   ·rename_i n U C;subst g;simp only[XO] at h
    split at h
    ·rename_i cs k m q hi;obtain⟨j,rfl,Z,B⟩:=h.h;refine qt u ?_ B.h;simp[execOp,A,q,hi,Instr.index,qo hu,asIntOf,q0P C,Z,part,q0I U];rw[<-ZK];simp[Array.toList_extract,List.extract_eq_take_drop]
    ·exact h.elim
   ·rename_i U C;subst g;simp only[XO] at h
    split at h
    ·rename_i cs k m q hi;obtain⟨j,rfl,Z,B⟩:=h.h;obtain⟨v,R,B⟩:=B.h;refine qt u ?_ B;rw[Z5] at R;simp[execOp,A,q,hi,Instr.index,qo hu,asIntOf,q0P C,Z,part,q0I U,R]
    ·exact h.elim
   ·subst g;exact(qv h).elim
  ·subst g;exact(qv h).elim
 case load t x=>
  split at g
  ·rename_i n U C;subst g;simp only[XO] at h
   split at h
   ·rename_i ad q;obtain⟨vs,hlen,R,B⟩:=h.h;refine qt u ?_ B;simp[execOp,A,q,Instr.loadAt,Instr.sureAddr,loadVar,q0I U,q0P C,q3B (vs:=vs.toList) hlen (R w u)]
   ·exact h.elim
  ·rename_i n U C;subst g;simp only[XO] at h
   split at h
   ·rename_i ad q;obtain⟨v,R,B⟩:=h.h;refine qt u ?_ B;have bo:=R w u;simp[execOp,A,q,Instr.loadAt,Instr.sureAddr,loadVar,q0I U,bo]
   ·exact h.elim
  ·subst g;exact(qv h).elim
 case store t x v=>
  split at g
  ·rename_i n U C;subst g;simp only[XO] at h
   split at h
   ·rename_i ad cs q R;obtain⟨hlen,⟨E,own',hs,B⟩⟩:=h;refine .inr ⟨rfl, .inr (.inl ⟨q4J w ad 0 cs.toList,own',?_,(hs w u).2,B⟩)⟩;have az:cs.size=n:=by simpa using hlen
    simp[execOp,A,q,R,Instr.storeAt,Instr.sureAddr,storeVar,Value.cells,q0P C,az,q0G _ 0 w E (fun j Z=>by simpa using (hs w u).1 j Z)]
   ·exact h.elim
  ·rename_i U C;subst g;simp only[XO] at h
   split at h
   ·rename_i ad q;obtain⟨⟨E,own',hs,B⟩⟩:=h.h;obtain⟨g1,g2,g3⟩:=hs w u;refine .inr ⟨rfl, .inr (.inl ⟨w.setCell ad (ev f v),own',?_,g3,B⟩)⟩;have V:(ev f v).cells= #[ev f v]:=by revert E;cases ev f v <;>simp[q2r,Value.cells]
    simp[execOp,A,q,Instr.storeAt,Instr.sureAddr,storeVar,V,q0P C,storeCells,q4m E (a:=ad.add 0) (w:=w) (by simpa [Addr.add] using g1) (by simpa [Addr.add] using g2)];simp[Addr.add]
   ·exact h.elim
  ·subst g;exact(qv h).elim
 case box t x=>
  subst g;simp only[XO] at h;have key:∀cs:jg,(ev f x).cells=cs->New W0 own (.cells cs t) (fun b own'=>K (.pointer (some ⟨b,0,none⟩)) own')->q5K P f o w own W0 K (qdI (.box t x)):=by
   intro cs V h;refine .inr ⟨rfl, .inl ⟨_,_,_,?_,u.push (.cells cs t) (p:=fun o=>o= .cells cs t) rfl,h.h w.heap.size u.size (fun _ he=>u.mem_size he)⟩⟩;simp[execOp,A,Instr.box,newVar,newRow,V]
  split at h
  ·rename_i cs q;exact key cs (by rw[q];rfl) h
  ·rename_i v H;refine key _ ?_ h.h;unfold Value.cells
   split
   ·rename_i cs q;exact(H cs q).elim
   ·rfl
 case alloc t=>
  split at g
  ·rename_i z X;subst g;simp only[XO] at h;have key:∀cs:jg,z.cells=cs->New W0 own (.cells cs t) (fun b own'=>K (.pointer (some ⟨b,0,none⟩)) own')->q5K P f o w own W0 K (qdI (.new t z)):=by
    intro cs V h;refine .inr ⟨rfl, .inl ⟨_,_,_,?_,u.push (.cells cs t) (p:=fun o=>o= .cells cs t) rfl,h.h w.heap.size u.size (fun _ he=>u.mem_size he)⟩⟩;simp[execOp,A,Instr.alloc,newVar,newRow,q3Q X,V]
   split at h
   ·exact key _ rfl h
   ·rename_i v H;refine key _ ?_ h;unfold Value.cells
    split
    ·exact(H _ rfl).elim
    ·rfl
  ·subst g;exact(qv h).elim
 case build t parts=>
  unfold q6R at g
  split at g
  ·rename_i z fs X hu
   split at g
   ·rename_i aI
    split at g
    ·rename_i l N;subst g;simp only[XO] at h;obtain⟨cs',E,S,_⟩:=q6y parts.toList l z.cells.toList _ (by simpa using N) h;refine qt u ?_ S;have aZ:(fun i=>Option.map (fun f=>(f.offset,(szT P f.type).getD 0)) fs[i]?)=q5g P fs:=by
      funext i
      unfold q5g;cases aP:fs[i]? with
      |none=>rfl
      |some fd=>
       have aH:fd∈fs:=Array.mem_of_getElem? aP;have:=Array.all_eq_true'.1 aI fd aH;obtain⟨n,C⟩:=Zo.1 this;simp[C]
     have aw:Instr.fill (q5g P fs) z.cells (parts.toList.map fun p=>(p.1,ev f p.2))=some cs'.toArray:=by simpa using E
     simp[execOp,A,Instr.build,q3Q X,qo hu,qjx aI,aZ,aw]
    ·subst g;exact(qv h).elim
   ·subst g;exact(qv h).elim
  ·rename_i z len e X hu
   split at g
   ·rename_i n C
    split at g
    ·rename_i l N;subst g;simp only[XO] at h;obtain⟨cs',E,S,_⟩:=q6y parts.toList l z.cells.toList _ (by simpa using N) h;refine qt u ?_ S;have aw:Instr.fill (fun i=>some (i*n,n)) z.cells (parts.toList.map fun p=>(p.1,ev f p.2))=some cs'.toArray:=by simpa using E
     simp[execOp,A,Instr.build,q3Q X,qo hu,q0P C,aw]
    ·subst g;exact(qv h).elim
   ·subst g;exact(qv h).elim
  ·subst g;exact(qv h).elim
 case buildSlice t len parts=>
  unfold q59 at g
  split at g
  ·rename_i e hu
   split at g
   ·rename_i n z C X
    split at g
    ·rename_i hb
     split at g
     ·rename_i l N;subst g;simp only[XO] at h;obtain⟨ie,W,Y⟩:=Zf.1 (show(P.info? e).map (·.size)=some n from C);obtain⟨aC,aG,aS⟩:=Option.bind_eq_some_iff.1 (show(P.info? e).bind (·.zero)=some z from X);have aN:aC=ie:=Option.some.inj (aG.symm.trans W);subst aN;subst Y;obtain⟨cs',E,S,_⟩:=q6y parts.toList l (q7i z (len*aC.size)) _ (by simpa [q7i] using N) h;have ay:=S.h w.heap.size u.size (fun _ he=>u.mem_size he);refine .inr ⟨rfl, .inl ⟨_,_,_,?_,u.push (.cells cs'.toArray e) (p:=(· = .cells cs'.toArray e)) rfl,ay⟩⟩;have hr:=run_buildSlice (P:=P) w t e len (parts.map fun p=>(p.1,ev f p.2)) cs'.toArray aC z hu W aS Yb Yb (by unfold q7i at E;rw[yy] at E;simpa only[Array.toList_map] using E);unfold execOp;rw[A];simp only[Sem.run_map,bind_pure_comp,hr,Result.andThen_ok];rfl
     ·subst g;exact(qv h).elim
    ·split at g
     ·rename_i aF;subst g;simp only[XO] at h;obtain⟨ie,W,Y⟩:=Zf.1 (show(P.info? e).map (·.size)=some n from C);subst Y;have ay:K (.slice (some ⟨w.heap.size,0,none⟩) len len) ((w.heap.size,(· = .cells #[] e))::own):=h.h w.heap.size u.size (fun _ he=>u.mem_size he);have hp:parts= #[]:=by rw[<-ZK];exact aF.2
      subst hp;refine .inr ⟨rfl, .inl ⟨_,_,_,?_,u.push (.cells #[] e) (p:=(· = .cells #[] e)) rfl,ay⟩⟩;simp[execOp,A,Instr.buildSlice,qo hu,sizeOf,typeInfo,W,aF.1,Instr.fill,newRow];rw[show(Array.range 0)= #[] from rfl];simp
     ·subst g;exact(qv h).elim
   ·subst g;exact(qv h).elim
  ·subst g;exact(qv h).elim
 case extract x i=>
  subst g;simp only[XO] at h
  split at h
  ·rename_i vs q;obtain⟨v,R,B⟩:=h.h;refine qt u ?_ B;rw[Z5] at R;simp[execOp,A,q,Instr.extract,R]
  ·exact h.elim
 case nilCheck x=>
  subst g;simp only[XO] at h
  split at h
  ·rename_i ad q;exact qt u (v:= .pointer (some ad)) (by simp[execOp,A,q]) h
  ·exact h.elim
 case call c=>exact q6S A g u h
 case range t x=>
  split at g
  ·rename_i hu;subst g;simp only[XO] at h
   split at h
   ·rename_i s q;refine .inr ⟨rfl, .inl ⟨_,_,_,?_,u.push (.stringIter s 0) (p:=fun o=>o= .stringIter s 0) rfl,h.h w.heap.size u.size (fun _ he=>u.mem_size he)⟩⟩;simp[execOp,A,Instr.range,qo hu,q]
   ·exact h.elim
  ·subst g;exact(qv h).elim
 case next x isS=>
  split at g
  ·subst g;simp only[XO] at h
   split at h
   ·rename_i b q;obtain⟨s,pos,hm,E,S⟩:=h.h;obtain⟨o',I,aY⟩:=u.owns _ hm;have Q:w.heap[b]? =some (.stringIter s pos):=by rw[<-show o'=_ from aY];exact I
    by_cases L:pos<s.size
    ·obtain⟨own',hu,B⟩:=E L;refine .inr ⟨rfl, .inl ⟨_,{w with heap:=w.heap.setIfInBounds b (.stringIter s (pos+(Utf8.decode s pos).2))},own',?_,?_,B⟩⟩
     ·have hr:=(q5j (P:=P) (t:=o.type) Q).1 L;simp[execOp,A,q,hr]
     ·have hb:=(Zg.1 Q).1;refine u.up hu rfl rfl rfl Yd (fun k _ H=>?_) ⟨_,?_,rfl⟩
      ·simp[Ne.symm H]
      ·simp[hb]
    ·refine .inr ⟨rfl, .inl ⟨_,w,own,?_,u,S L⟩⟩;have hr:=(q5j (P:=P) (t:=o.type) Q).2 L;simp[execOp,A,q,hr]
   ·exact h.elim
  ·subst g;exact(qv h).elim
 case makeMap t r=>
  cases r with
  |some x=>subst g;exact(qv h).elim
  |none=>
   subst g;simp only[XO] at h;refine .inr ⟨rfl, .inl ⟨_,_,_,?_,u.push (.map #[] 0) (p:=q2H []) ⟨#[],0,rfl,rfl⟩,h.h w.heap.size u.size⟩⟩;simp[execOp,A,Instr.makeMap,newObj,Sem.run]
 case lookup t x i ok=>
  split at g
  ·rename_i k e hu
   split at g
   ·rename_i kk z B X;subst g;simp only[XO] at h
    split at h
    ·rename_i q;exact qt u (by simp[execOp,A,q,q6d (r:=none) (key:=ev f i) (ok:=ok) hu B X (.inl ⟨rfl,rfl⟩) rfl]) h
    ·rename_i b q;obtain⟨l,r,hm,D,T⟩:=h.h;obtain⟨o',I,es,c,rfl,g⟩:=u.owns _ hm;rw[<-g] at D;exact qt u (by simp[execOp,A,q,q6d (r:=r) (ok:=ok) hu B X (.inr ⟨b,c,rfl,I⟩) D]) T
    ·exact h.elim
   ·subst g;exact(qv h).elim
  ·subst g;exact(qv h).elim
 case mapUpdate t x i v=>
  split at g
  ·rename_i k e hu
   split at g
   ·rename_i kk B;subst g;simp only[XO] at h
    split at h
    ·rename_i b q;obtain⟨l,own',aj,aB,T⟩:=h.h;obtain⟨r,D⟩:=Zo.1 aB;obtain⟨o',I,es,c,rfl,g⟩:=u.owns _ aj.mem;rw[<-g] at D;obtain⟨M,J,af,he⟩:=q3C (v:=ev f v) hu B I D;have L:=(Zg.1 I).1;refine .inr ⟨rfl, .inr (.inl ⟨{w with heap:=w.heap.setIfInBounds b (.map M J)},own',?_,?_,T⟩)⟩
     ·simp[execOp,A,q,af]
     ·refine u.up aj rfl rfl rfl Yd (fun k _ H=>by simp[Ne.symm H]) ⟨.map M J,by simp[L],M,J,rfl,by rw[he,g]⟩
    ·exact h.elim
   ·subst g;exact(qv h).elim
  ·subst g;exact(qv h).elim
 case insert t x i v=>
  split at g
  ·rename_i k e hu
   split at g
   ·rename_i kk B;subst g;simp only[XO] at h
    split at h
    ·rename_i b q;obtain⟨l,own',aj,aB,T⟩:=h.h;obtain⟨r,D⟩:=Zo.1 aB;obtain⟨o',I,es,c,rfl,g⟩:=u.owns _ aj.mem;rw[<-g] at D;obtain⟨M,J,af,he⟩:=q3C (v:=ev f v) hu B I D;have L:=(Zg.1 I).1;refine .inr ⟨rfl, .inr (.inl ⟨{w with heap:=w.heap.setIfInBounds b (.map M J)},own',?_,?_,T⟩)⟩
     ·simp[execOp,A,q,af]
     ·refine u.up aj rfl rfl rfl Yd (fun k _ H=>by simp[Ne.symm H]) ⟨.map M J,by simp[L],M,J,rfl,by rw[he,g]⟩
    ·exact h.elim
   ·subst g;exact(qv h).elim
  ·subst g;exact(qv h).elim
 all_goals(subst g;exact(qv h).elim)
theorem q5U{k:FuncId}{args:List Operand}(a:q1I P o.op= .call k args):(execOp (ev f) o).run P w= .ok (.enter k (args.map (ev f)).toArray) w:=by
 cases j:o.op <;>rw[j] at a <;>(try simp only[q1I] at a) <;>(try exact IOp.noConfusion a)
 case binOp op t x y t'=>unfold qdi at a;repeat'(first|exact IOp.noConfusion a|split at a)
 case buildSlice=>unfold q59 at a;repeat'(first|exact IOp.noConfusion a|split at a)
 case unOp op t x=>cases op <;>simp only at a <;>repeat'(first|exact IOp.noConfusion a|split at a)
 case build=>unfold q6R at a;repeat'(first|exact IOp.noConfusion a|split at a)
 case makeFunc fn _ _=>cases fn <;>simp only at a <;>repeat'(first|exact IOp.noConfusion a|split at a)
 case makeMap t r=>
  cases r with
  |none=>have h:IOp.mkm= .call k args:=a;cases h
  |some x=>have h:IOp.bad= .call k args:=a;cases h
 case call c=>
  obtain⟨cal,as,b⟩:=c;obtain⟨as⟩:=as;obtain⟨b⟩:=b;unfold q5a at a;simp only at a
  split at a
  ·split at a
   ·rename_i fn i
    split at a
    ·repeat'(first|exact IOp.noConfusion a|split at a)
    ·rename_i g;injection a with l d
     subst l;subst d;simp only[yd,not_or,Bool.not_eq_true,beq_eq_false_iff_ne,Option.isNone_eq_false_iff] at g;have d:fn.body≠none:=by intro e;simp[e] at g
     simp[execOp,j,resolve,ev,Deferred.ofValue,invoke,callFunc,i,g.1,d]
   ·exact IOp.noConfusion a
  all_goals repeat'(first|exact IOp.noConfusion a|split at a)
 all_goals repeat'(first|exact IOp.noConfusion a|split at a)
end
end Go.Proofs.YtfnghamklcdgnaaGreatDoor
