/- What the laws share, part 3. No condition. -/
import Derived.Laws.FloatArith
import Derived.Great.BuildSlice
import Derived.Laws.Append
import Derived.Laws.StructEq
import Derived.Laws.MakeOwn
import Derived.ChangeKeysEq
import Derived.OrdersIn
import Derived.Test.YtikpjajangpdjaaGreatDoorQ2
namespace Go.Proofs.YtikpjajangpdjaaGreatDoor
open Go
abbrev j9:=Option Addr
abbrev jf:=List Value
abbrev jj:=List Nat
inductive IOp
 |mov (x:Operand)
 |pick (c a b:Operand)
 |bin (op:BinOp) (x y:Operand)
 |beq (neg:Bool) (x y:Operand)
 |ageq (neg:Bool) (ks:jj) (x y:Operand)
 |nilq (neg:Bool) (k:Nat) (x y:Operand)
 |not (x:Operand)
 |neg (x:Operand)
 |conv(k:IntKind) (x:Operand)
 |fad (off:Nat) (x:Operand)
 |fld (off:Nat) (x:Operand)
 |fldN (off n:Nat) (x:Operand)
 |ixs (sz:Nat) (x i:Operand)
 |ixa (len sz:Nat) (x i:Operand)
 |idx (len:Nat) (x i:Operand)
 |idxN (len sz:Nat) (x i:Operand)
 |ld (x:Operand)
 |ldN (n:Nat) (x:Operand)
 |st (x v:Operand)
 |stN (n:Nat) (x v:Operand)
 |box (t:TypeId) (x:Operand)
 |new (t:TypeId) (zero:Value)
 |bld (zero:jf) (parts:List (Nat×Nat×Operand))
 |blds (t:TypeId) (len:Nat) (zero:jf) (parts:List (Nat×Nat×Operand))
 |mk (t:TypeId) (sz bytes:Nat) (zero:jf) (l c:Operand)
 |sls (sz:Nat) (x:Operand) (lo hi mx:Option Operand)
 |capb (x:Operand)
 |sidx (x i:Operand)
 |sslc (x:Operand) (lo hi:Option Operand)
 |scat (x y:Operand)
 |ibs (x c:Operand)
 |ext (x:Operand) (i:Nat)
 |len (x:Operand)
 |lens (x:Operand)
 |nilc (x:Operand)
 |mm (max:Bool) (x y:Operand)
 |app (t:TypeId) (sz bytes:Nat) (zero:jf) (s x:Operand)
 |appz (t:TypeId) (bytes:Nat) (zero:jf) (s n:Operand)
 |clr (zero:jf) (x:Operand)
 |call (k:FuncId) (args:List Operand)
 |callv (x:Operand) (args:List Operand)
 |mkf (k:FuncId) (cap:List Operand)
 |sbin (op:BinOp) (x y:Operand)
 |fbin (op:BinOp) (x y:Operand)
 |flt (op:BinOp) (x y:Operand)
 |i2f (x:Operand)
 |f2i (k:IntKind) (x:Operand)
 |fbits (x:Operand)
 |ffrom (x:Operand)
 |fpk (neg:Bool) (x y:Operand)
 |nifc (neg:Bool) (x:Operand)
 |iter (x:Operand)
 |next (x:Operand)
 |mkm
 |mlk (kk:Nat) (z:Value) (ok:Bool) (x i:Operand)
 |mup (kk:Nat) (x i v:Operand)
 |bad
structure q51 where
 dst:Option Nat
 op:IOp
 guard:Option (Nat×Bool)
def q4O(P:Program)(t:TypeId):Option Bool:=
 match P.underlying t with
 |some (.struct _)|some (.array _ _)=>some true
 |some _=>some false
 |none=>none
def szT(P:Program)(t:TypeId):Option Nat:=(P.info? t).map (·.size)
def q8D(P:Program)(t:TypeId):Option Value:=(P.info? t).bind (·.zero)
def q95(P:Program)(f:TypeId->Option (jj)):List Field->Nat->Option (jj)
 | [],_=>some []
 |x::r,off=>match f x.type with
  |some ks=>if x.offset=off/\x.name≠ "_" /\szT P x.type=some ks.length then(match q95 P f r (off+ks.length) with|some a=>some (ks++a)|none=>none) else none
  |none=>none
def q2Q(P:Program):Nat->TypeId->Option (jj)
 |0,_=>none
 |n+1,t=>match P.underlying t with
  |some (.int _)=>some [0]
  |some .bool=>some [1]
  |some .string=>some [2]
  |some (.array k e)=>match q2Q P n e with
   |some ks=>if szT P e=some ks.length then some (List.replicate k ks).flatten else none
   |none=>none
  |some (.struct a)=>if P.stoodInHeld t then none else q95 P (q2Q P n) a.toList 0
  |_=>none
def qft(P:Program)(op:BinOp)(t:TypeId)(x y:Operand):IOp:=
 match P.underlying t with
 |some (.int _)=> .bin op x y
 |some .string=>match op with
  | .eql| .neq=> .sbin op x y
  | .add=> .scat x y
  |_=> .bad
 |some (.slice _)=>match op with
  | .eql=> .nilq false 0 x y
  | .neq=> .nilq true 0 x y
  |_=> .bad
 |some (.pointer _)=>match op with
  | .eql=> .nilq false 1 x y
  | .neq=> .nilq true 1 x y
  |_=> .bad
 |some (.func _ _ _)=>match op with
  | .eql=> .nilq false 2 x y
  | .neq=> .nilq true 2 x y
  |_=> .bad
 |some (.map _ _)=>match op with
  | .eql=> .nilq false 3 x y
  | .neq=> .nilq true 3 x y
  |_=> .bad
 |some (.struct _)|some (.array _ _)=>match q2Q P 6 t with
  |some ks=>if P.eqGuardType P.depth t then .bad else(match op with
   | .eql=> .ageq false ks x y
   | .neq=> .ageq true ks x y
   |_=> .bad)
  |none=> .bad
 |some (.float .f64)=>match op with
  | .add| .sub| .mul| .quo=> .flt op x y
  | .eql| .neq| .lss| .leq| .gtr| .geq=> .fbin op x y
  |_=> .bad
 |some .bool=>match op with
  | .eql=> .beq false x y
  | .neq=> .beq true x y
  |_=> .bad
 |some (.interface _)=>match op,y with
  | .eql, .const .nilIface=> .nifc false x
  | .neq, .const .nilIface=> .nifc true x
  |_,_=> .bad
 |_=> .bad
def q1i(P:Program)(place:Nat->Option (Nat×Nat))(a:Nat):List (Nat×Operand)->Option (List (Nat×Nat×Operand))
 | []=>some []
 |(i,x)::r=>match place i with
  |some (off,sz)=>if off+sz<=a then(match q1i P place a r with|some l=>some ((off,sz,x)::l)|none=>none) else none
  |none=>none
def q5X(P:Program)(a:Array Field)(i:Nat):Option (Nat×Nat):=match a[i]? with
 |some f=>(szT P f.type).map fun n=>(f.offset,n)
 |none=>none
def q7Y(P:Program)(a:Array Field):Bool:=a.all fun f=>(szT P f.type).isSome
def q8a(P:Program)(t:TypeId)(parts:List (Nat×Operand)):IOp:=
 match q8D P t,P.underlying t with
 |some z,some (.struct a)=>if q7Y P a then(match q1i P (q5X P a) z.cells.size parts with|some l=> .bld z.cells.toList l|none=> .bad) else .bad
 |some z,some (.array _ e)=>match szT P e with
  |some n=>(match q1i P (fun i=>some (i*n,n)) z.cells.size parts with|some l=> .bld z.cells.toList l|none=> .bad)
  |none=> .bad
 |_,_=> .bad
def q8E(z:Value)(n:Nat):jf:=((Array.range n).map (z.cells[· % z.cells.size]!)).toList
def q5R(P:Program)(t:TypeId)(len:Nat)(parts:List (Nat×Operand)):IOp:=
 match P.underlying t with
 |some (.slice e)=>match szT P e,q8D P e with
  |some n,some z=>if 0<len*n/\len*n<=16777216 then(match q1i P (fun i=>some (i*n,n)) (len*n) parts with|some l=> .blds e len (q8E z (len*n)) l|none=> .bad) else(if len*n=0/\parts= [] then .blds e len [] [] else .bad)
  |_,_=> .bad
 |_=> .bad
def q5S(P:Program)(c:Call):IOp:=
 match c.callee with
 | .value (.func k)=>match P.funcs[k]? with
  |some fn=>if fn.name== "runtime.NumGoroutine" ||fn.body.isNone then
    (if fn.body.isNone&&(Extern.findNext fn).isNone&&decide (fn.name= "math.Float64bits") then(match c.args.toList with| [x]=> .fbits x|_=> .bad)
    else if fn.body.isNone&&(Extern.findNext fn).isNone&&decide (fn.name= "math.Float64frombits") then(match c.args.toList with| [x]=> .ffrom x|_=> .bad)
    else if fn.body.isNone&&(Extern.findNext fn).isNone&&decide (fn.name= "math.archMin") then(match c.args.toList with| [x,y]=> .fpk true x y|_=> .bad)
    else if fn.body.isNone&&(Extern.findNext fn).isNone&&decide (fn.name= "math.archMax") then(match c.args.toList with| [x,y]=> .fpk false x y|_=> .bad)
    else if fn.body.isNone&&(Extern.findNext fn).isNone&&decide (fn.name= "internal/bytealg.IndexByteString") then(match c.args.toList with| [x,y]=> .ibs x y|_=> .bad) else .bad)
   else .call k c.args.toList
  |none=> .bad
 | .builtin .len=>match c.args.toList,c.argTypes.toList with
  | [x],[t]=>match P.underlying t with
   |some (.slice _)=> .len x
   |some .string=> .lens x
   |_=> .bad
  |_,_=> .bad
 | .builtin .cap=>match c.args.toList,c.argTypes.toList with
  | [x],[t]=>match P.underlying t with
   |some (.slice _)=> .capb x
   |_=> .bad
  |_,_=> .bad
 | .builtin .append=>match c.args.toList,c.argTypes.toList with
  | [s,x],[t,tx]=>match P.underlying t,P.underlying tx with
   |some (.slice e),some (.slice _)=>match P.info? e with
    |some a=>match a.zero with
     |some z=>if z.cells.size=a.size/\0<a.size/\0<a.bytes then .app e a.size a.bytes z.cells.toList s x else .bad
     |none=> .bad
    |none=> .bad
   |some (.slice e),some (.int _)=>match P.info? e with
    |some a=>match a.zero with
     |some z=>if z.cells.size=a.size/\0<a.size/\0<a.bytes then .appz e a.bytes z.cells.toList s x else .bad
     |none=> .bad
    |none=> .bad
   |_,_=> .bad
  |_,_=> .bad
 | .builtin .clear=>match c.args.toList,c.argTypes.toList with
  | [x],[t]=>match P.underlying t with
   |some (.slice e)=>match P.info? e with
    |some a=>match a.zero with
     |some z=> .clr z.cells.toList x
     |none=> .bad
    |none=> .bad
   |_=> .bad
  |_,_=> .bad
 | .value (.tmp f)=> .callv (.tmp f) c.args.toList
 | .builtin .min=>match c.args.toList with| [x,y]=> .mm false x y|_=> .bad
 | .builtin .max=>match c.args.toList with| [x,y]=> .mm true x y|_=> .bad
 |_=> .bad
def qis(P:Program)(k:TypeId):Option Nat:=match P.underlying k with
 |some (.int _)=>some 0
 |some .string=>some 2
 |_=>none
def q1M(P:Program):Op->IOp
 | .move x| .assign x=> .mov x
 | .pick c a b=> .pick c a b
 | .binOp op t x y _=>qft P op t x y
 | .unOp .not _ x=> .not x
 | .unOp .neg t x=>match P.underlying t with|some (.int _)=> .neg x|_=> .bad
 | .convert s d x=>match P.underlying s,P.underlying d with
  |some (.int _),some (.int k)=> .conv k x
  |some (.int _),some (.float .f64)=> .i2f x
  |some (.float .f64),some (.int k)=> .f2i k x
  |_,_=> .bad
 | .fieldAddr t x i=>match P.underlying t with
  |some (.struct h)=>match h[i]? with
   |some f=>match szT P f.type with|some (_+1)=> .fad f.offset x|_=> .bad
   |none=> .bad
  |_=> .bad
 | .field t x i=>match P.underlying t with
  |some (.struct h)=>match h[i]? with
   |some f=>match q4O P f.type,szT P f.type with
    |some true,some n=> .fldN f.offset n x
    |some false,some _=> .fld f.offset x
    |_,_=> .bad
   |none=> .bad
  |_=> .bad
 | .indexAddr t x i=>match P.underlying t with
  |some (.slice e)=>match szT P e with|some n=> .ixs n x i|none=> .bad
  |some (.array len e)=>match szT P e with|some n=> .ixa len n x i|none=> .bad
  |_=> .bad
 | .makeSlice t l c=>match P.underlying t with
  |some (.slice e)=>match P.info? e with
   |some g=>match g.zero with
    |some z=>if z.cells.size=g.size/\0<g.size/\0<g.bytes then .mk e g.size g.bytes z.cells.toList l c else .bad
    |none=> .bad
   |none=> .bad
  |_=> .bad
 | .makeFunc (.func k) first cap=>if first.isEmpty then .mkf k cap.toList else .bad
 | .slice t x p m mx=>match P.underlying t with
  |some (.slice e)=>match szT P e with
   |some n=> .sls n x p m mx
   |none=> .bad
  |some .string=>match mx with
   |none=> .sslc x p m
   |some _=> .bad
  |_=> .bad
 | .index t x i=>match P.underlying t with
  |some .string=> .sidx x i
  |some (.array len e)=>match q4O P e,szT P e with
    |some true,some n=> .idxN len n x i
    |some false,some 1=> .idx len x i
    |_,_=> .bad
  |_=> .bad
 | .load t x=>match q4O P t,szT P t with
  |some true,some n=> .ldN n x
  |some false,some _=> .ld x
  |_,_=> .bad
 | .store t x v=>match q4O P t,szT P t with
  |some true,some n=> .stN n x v
  |some false,some 1=> .st x v
  |_,_=> .bad
 | .box t x=> .box t x
 | .alloc t=>match q8D P t with|some z=> .new t z|none=> .bad
 | .extract x i=> .ext x i
 | .build t parts=>q8a P t parts.toList
 | .buildSlice t len parts=>q5R P t len parts.toList
 | .nilCheck x=> .nilc x
 | .range t x=>match P.underlying t with|some .string=> .iter x|_=> .bad
 | .next x isS=>match isS with|true=> .next x|false=> .bad
 | .call c=>q5S P c
 | .makeMap _ none=> .mkm
 | .lookup t x i ok=>match P.underlying t with
  |some (.map k e)=>match qis P k,q8D P e with
   |some j,some z=> .mlk j z ok x i
   |_,_=> .bad
  |_=> .bad
 | .mapUpdate t x i v| .insert t x i v=>match P.underlying t with
  |some (.map k _)=>match qis P k with
   |some j=> .mup j x i v
   |none=> .bad
  |_=> .bad
 |_=> .bad
def q0J(P:Program)(ops:Array Oper)(o:Oper):q51:=
 {dst:=o.dst,op:=q1M P o.op,guard:=match o.guard with
  |none=>none
  |some (j,b)=>match (ops[j]?).bind (·.dst) with
   |some d=>some (d,b)
   |none=>none}
structure q5r(k:IntKind)(e:Int)(K:Int->Prop):Prop where
 h:K (k.wrap e)
structure MM(mx:Bool)(a b:Int)(K:Int->Prop):Prop where
 h:K (bif mx then max a b else min a b)
def q6z(op:BinOp)(c:Option Ordering):Bool:=
 match op with
 | .eql=>c==some .eq
 | .neq=>c !=some .eq
 | .lss=>c==some .lt
 | .leq=>c==some .lt||c==some .eq
 | .gtr=>c==some .gt
 | .geq=>c==some .gt||c==some .eq
 |_=>false
structure qrq(op:BinOp)(a b:Nat)(K:Bool->Prop):Prop where
 h:K (q6z op (FloatKind.f64.format.order a b))
def qrm(r:Nat):Prop:=∃s t:Nat,s<2/\t<2 ^ 52-1/\r=s*2 ^ 63+0x7ff0000000000000+1+t
structure qrr(op:BinOp)(a b:Nat)(K:Nat->Prop):Prop where
 h:(∀r,floatBits op .f64 a b=some r->K r)/\(floatBits op .f64 a b=none->∀r,qrm r->K r)
structure F2I(k:IntKind)(b:Nat)(K:Int->Prop):Prop where
 h:∃n,floatToIntVal .f64 b k=some n/\K n
def q5W(neg:Bool)(x y:Nat):Nat:=
 if FloatKind.f64.decode x== .infinity neg||FloatKind.f64.decode y== .infinity neg then FloatKind.f64.encode (.infinity neg)
 else if(FloatKind.f64.decode x).isNaN||(FloatKind.f64.decode y).isNaN then 0x7FF8000000000001
 else if(FloatKind.f64.decode x).isZero&&(FloatKind.f64.decode y).isZero then(if(FloatKind.f64.decode x).neg==neg then x else y)
 else if(FloatKind.f64.decode x).order (FloatKind.f64.decode y)==some (bif neg then .lt else .gt) then x else y
def qej(op:BinOp)(a b:ByteArray)(K:Value->Prop):Prop:=
 match op with
 | .eql=>K (.bool (decide (a.toList=b.toList)))
 | .neq=>K (.bool (!decide (a.toList=b.toList)))
 |_=>False
structure Quo(k:IntKind)(m n:Int)(K:Int->Prop):Prop where
 h:n≠0/\K (k.wrap (m.tdiv n))
structure Rem(m n:Int)(K:Int->Prop):Prop where
 h:n≠0/\K (m.tmod n)
structure Shl(k:IntKind)(m n:Int)(K:Int->Prop):Prop where
 h:0<=n/\K (k.wrap (m*2 ^ (min n.toNat k.bits)))
structure Shr(k:IntKind)(m n:Int)(K:Int->Prop):Prop where
 h:0<=n/\K (m.fdiv (2 ^ (min n.toNat k.bits)))
structure Idx(i:Int)(n:Nat)(K:Nat->Prop):Prop where
 h:∃j:Nat,i=j/\j<n/\K j
def kn:IntKind->Nat
 | .i8=>0| .i16=>1| .i32=>2| .i64=>3| .u8=>4| .u16=>5| .u32=>6| .u64=>7
theorem qfk{k a:IntKind}(h:Nat.beq (kn k) (kn a)=true):k=a:=by cases k <;>cases a <;>first|rfl|cases h
structure IxS(a:j9)(sz:Nat)(i:Int)(len:Nat)(K:Addr->Prop):Prop where
 h:∃j b o:Nat,i=j/\j<len/\a=some ⟨b,o,none⟩/\K ⟨b,o+j*sz,none⟩
theorem qF{a b c d e}(h:IxS a b c d e):IxS a b c d e:=h
def slA(a:j9)(m l sz:Nat):j9:=if m=l then a else a.map (·.add (l*sz))
structure qon(a:j9)(n c sz:Nat)(lo hi mx:Option Int)(K:Value->Prop):Prop where
 h:∃l r m:Nat,lo.getD 0=l/\hi.getD n=r/\mx.getD c=m/\l<=r/\(hi.isSome=true->r<=m)/\(mx.isSome=true->m<=c)/\(mx.isSome=true->hi.isSome=true)/\K (.slice (slA a m l sz) (r-l) (m-l))
structure qsx(s:ByteArray)(lo hi:Option Int)(K:Value->Prop):Prop where
 h:∃l r:Nat,lo.getD 0=l/\hi.getD s.size=r/\l<=r/\r<=s.size/\K (.string (s.extract l r))
structure qsw(s:ByteArray)(i:Int)(K:Value->Prop):Prop where
 h:∃(j:Nat) (b:UInt8),i=j/\s.data.toList[j]? =some b/\K (.int .u8 b.toNat)
structure qsP(a b:ByteArray)(K:Value->Prop):Prop where
 h:a.size+b.size<=9223372036854775807/\K (.string (a++b))
def qhv(s:ByteArray)(c:Int):Int:=match (List.range s.size).find? fun i=>s[i]! ==c.toNat.toUInt8 with
 |some i=>i
 |none=> -1
def evI(f:Fr):Option Operand->Option (Option Int)
 |none=>some none
 |some x=>match ev f x with
  | .int _ i=>some (some i)
  |_=>none
def qmR:Nat->Value->Value->Option Bool
 |0, .slice a _ _, .slice none _ _=>some a.isNone
 |1, .pointer a, .pointer none=>some a.isNone
 |2, .func _ _ _, .nilFunc=>some false
 |2, .nilFunc, .nilFunc=>some true
 |3, .map a, .map none=>some a.isNone
 |_,_,_=>none
def q1n:Nat->Value->Value->Option Bool
 |0, .int k a, .int c b=>match Nat.beq (kn k) (kn c) with
  |true=>some (decide (a=b))
  |false=>none
 |1, .bool a, .bool b=>some (decide (a=b))
 |2, .string a, .string b=>some (decide (a.data.toList=b.data.toList))
 |_,_,_=>none
def eqC:jj->jf->jf->Option Bool
 | [],[],[]=>some true
 |k::ks,x::xs,y::ys=>match q1n k x y with
  |some a=>(match eqC ks xs ys with
   |some b=>some (a&&b)
   |none=>none)
  |none=>none
 |_,_,_=>none
def q3r(l:List (Value×Value)):Obj->Prop:=fun o=>∃es c,o=Obj.map es c/\es.toList.map (fun e=>(e.key,e.val))=l
def q2F(a:Nat)(key:Value):List (Value×Value)->Option (Option Value)
 | []=>some none
 |e::r=>match q1n a key e.1 with
  |some true=>some (some e.2)
  |some false=>q2F a key r
  |none=>none
def q6T(a:Nat)(key v:Value):List (Value×Value)->List (Value×Value)
 | []=> [(key,v)]
 |e::r=>match q1n a key e.1 with
  |some true=>(key,v)::r
  |_=>e::q6T a key v r
def qor(z:Value)(ok:Bool)(r:Option Value):Value:=match ok,r with
 |true,some v=> .tuple #[v, .bool true]
 |true,none=> .tuple #[z, .bool false]
 |false,some v=>v
 |false,none=>z
structure EqT(ks:jj)(xs ys:jf)(K:Bool->Prop):Prop where
 h:∃r,eqC ks xs ys=some r/\K r
structure Sel(v:Option Value)(K:Value->Prop):Prop where
 h:∃x,v=some x/\K x
structure qsv(cs:jf)(off n:Nat)(K:Value->Prop):Prop where
 h:K (.agg ((cs.drop off).take n).toArray)
structure q2L(c b:Bool)(Ky Kn:Prop):Prop where
 y:c=b->Ky
 n:c=(!b)->Kn
structure Br(c:Bool)(Ky Kn:Prop):Prop where
 y:c=true->Ky
 n:c=false->Kn
def Mv(v:Value)(K:Value->Prop):Prop:=
 match v with
 | .int k n=>K (.int k n)
 | .bool b=>K (.bool b)
 | .pointer a=>K (.pointer a)
 | .slice a n c=>K (.slice a n c)
 | .agg cs=>K (.agg cs)
 | .tuple cs=>K (.tuple cs)
 | .string s=>K (.string s)
 | .float k b=>K (.float k b)
 | .func a b c=>K (.func a b c)
 |v=>K v
theorem qk6{v:Value}{K:Value->Prop}:Mv v K↔K v:=by cases v <;>rfl
theorem Mv.h{v:Value}{K:Value->Prop}(h:Mv v K):K v:=qk6.1 h
theorem Mv.mk{v:Value}{K:Value->Prop}(h:K v):Mv v K:=qk6.2 h
def qoy(c:Bool)(a b:Value)(K:Value->Prop):Prop:=match c with|true=>Mv a K|false=>Mv b K
theorem qoy.h{c:Bool}{a b:Value}{K:Value->Prop}(h:qoy c a b K):K (if c then a else b):=by cases c <;>exact Mv.h h
theorem qoy.mk{c:Bool}{a b:Value}{K:Value->Prop}(h:K (if c then a else b)):qoy c a b K:=by cases c <;>exact Mv.mk h
def q6C(k a:IntKind)(p:Prop):Prop:=match Nat.beq (kn k) (kn a) with|true=>p|false=>False
theorem q6C.h{k a:IntKind}{p:Prop}(h:q6C k a p):k=a/\p:=by
 unfold q6C at h
 split at h
 ·exact⟨qfk (by assumption),h⟩
 ·exact h.elim
theorem q6C.mk{k:IntKind}{p:Prop}(h:p):q6C k k p:=by unfold q6C;cases k <;>exact h
structure Ld(W0:World)(own:Own)(a:Addr)(K:Value->Prop):Prop where
 h:∃v,Kn W0 own (fun w=>w.cell? a=some v)/\K v
theorem gLd{a b c d}(h:Ld a b c d):Ld a b c d:=h
structure LdN(W0:World)(own:Own)(a:Addr)(n:Nat)(K:jh->Prop):Prop where
 h:∃vs:jh,vs.toList.length=n/\Kn W0 own (fun w=>∀j,j<n->w.cell? (a.add j)=vs.toList[j]?)/\K vs
theorem q24{a b c d e}(h:LdN a b c d e):LdN a b c d e:=h
def q2G:Value->Bool
 | .agg _| .tuple _=>false
 |_=>true
structure StT(W0:World)(own:Own)(a:Addr)(v:Value)(K:Own->Prop):Prop where
 h:q2G v=true/\∃own',(∀w,St W0 own w->(w.cell? a).isSome=true/\w.frozen? a=false/\St W0 own' (w.setCell a v))/\K own'
def q6a(w:World)(a:Addr):Nat->jf->World
 |_,[]=>w
 |j,v::vs=>q6a (w.setCell (a.add j) v) a (j+1) vs
structure StN(W0:World)(own:Own)(a:Addr)(vs:jf)(K:Own->Prop):Prop where
 h:(∀v∈vs,q2G v=true)/\∃own',(∀w,St W0 own w->(∀j,j<vs.length->(w.cell? (a.add j)).isSome=true/\w.frozen? (a.add j)=false)/\St W0 own' (q6a w a 0 vs))/\K own'
structure New(W0:World)(own:Own)(o:Obj)(K:Nat->Own->Prop):Prop where
 h:∀b,W0.heap.size<=b->(∀e∈own,e.1<b)->K b ((b,(· =o))::own)
structure MkT(W0:World)(own:Own)(T:TypeId)(bytes:Nat)(zs:jf)(l c:Int)(K:Value->Own->Prop):Prop where
 h:∃l' c':Nat,l=l'/\c=c'/\l'<=c'/\c'*bytes<=281474976710656/\∀b,W0.heap.size<=b->K (.slice (some ⟨b,0,none⟩) l' c') ((b,fun o=>o=Obj.cells (List.replicate c' zs).flatten.toArray T)::own)
def Holds(a:j9)(cs:jf)(w:World):Prop:=∀ad,a=some ad->∀j v,cs[j]? =some v->w.cell? (ad.add j)=some v
structure qb3(W0:World)(own:Own)(T:TypeId)(sz bytes:Nat)(zs:jf)(a:j9)(n c:Nat)(a2:j9)(m:Nat)(K:Value->Own->Prop):Prop where
 h:∃cs ys:jf,cs.length=n*sz/\ys.length=m*sz/\(a=none->cs= [])/\(a2=none->ys= [])/\(∀v∈ys,q2G v=true)/\Kn W0 own (Holds a cs)/\Kn W0 own (Holds a2 ys)/\
  (n+m<=c->∃own',(∀w,St W0 own w->(∀ad,a=some ad->(∀j,j<ys.length->(w.cell? ((ad.add (n*sz)).add j)).isSome=true/\w.frozen? ((ad.add (n*sz)).add j)=false)/\St W0 own' (q6a w (ad.add (n*sz)) 0 ys))/\(a=none->St W0 own' w))/\K (.slice a (n+m) c) own')/\
  (c<n+m->(n+m)*bytes<=140737488355328/\∀b c',W0.heap.size<=b->n+m<=c'->∃own',Ent W0 ((b,fun o=>o=Obj.cells (cs++ys++(List.replicate (c'-(n+m)) zs).flatten).toArray T)::own) own'/\K (.slice (some ⟨b,0,none⟩) (n+m) c') own')
structure qsq(W0:World)(own:Own)(T:TypeId)(bytes:Nat)(zs:jf)(a:j9)(l c:Nat)(m:Int)(K:Value->Own->Prop):Prop where
 h:(m=0/\l<=c/\K (.slice a l c) own)\/l=0/\c=0/\∃m':Nat,m=m'/\0<m'/\m'*bytes<=281474976710656/\∀b c',W0.heap.size<=b->m'<=c'->K (.slice (some ⟨b,0,none⟩) m' c') ((b,fun o=>o=Obj.cells (List.replicate c' zs).flatten.toArray T)::own)
def okF(P:Program)(k:FuncId):Bool:=match P.funcs[k]? with
 |some fn=> !(fn.name== "runtime.NumGoroutine")&&fn.body.isSome
 |none=>false
structure q0k(P:Program)(W0:World)(own:Own)(k:FuncId)(args:jf)(K:Value->Own->Prop):Prop where
 h:∀w,St W0 own w->Calls P k args.toArray w fun e w'=>∃v own',e= .returned v/\St W0 own' w'/\K v own'
theorem qe{a b c d e f}(h:q0k a b c d e f):q0k a b c d e f:=h
structure q2f(P:Program)(W0:World)(own:Own)(k:FuncId)(args:jf)(K:Value->Own->Prop):Prop where
 h:okF P k=true/\q0k P W0 own k args K
structure qoD(P:Program)(W0:World)(own:Own)(l:Nat)(args:jf)(K:Value->Own->Prop):Prop where
 h:∀w,St W0 own w->∃k tmps assign body,(Instr.yield l args.toArray).run P w= .ok (.round l k tmps assign body) w/\RoundIn Fence.wide 0 P l k tmps assign body w fun e w'=>∃v own',e= .returned v/\St W0 own' w'/\K v own'
structure qrs(W0:World)(own:Own)(b:Nat)(K:Value->Own->Prop):Prop where
 h:∃(s:ByteArray) (pos:Nat),(b,fun o=>o=Obj.stringIter s pos)∈own/\(pos<s.size->∃own',Up b (fun o=>o=Obj.stringIter s pos) (fun o=>o=Obj.stringIter s (pos+(Utf8.decode s pos).2)) own own'/\K (.tuple #[.bool true, .int .i64 pos, .int .i32 (Utf8.decode s pos).1]) own')/\(¬pos<s.size->K (.tuple #[.bool false]) own)
structure qst(W0:World)(own:Own)(K:Nat->Own->Prop):Prop where
 h:∀b,W0.heap.size<=b->K b ((b,q3r [])::own)
structure qss(own:Own)(kk b:Nat)(key:Value)(K:Option Value->Prop):Prop where
 h:∃l r,(b,q3r l)∈own/\q2F kk key l=some r/\K r
structure qsO(own:Own)(kk b:Nat)(key v:Value)(K:Own->Prop):Prop where
 h:∃l own',Up b (q3r l) (q3r (q6T kk key v l)) own own'/\(q2F kk key l).isSome=true/\K own'
noncomputable def Bld(f:Fr)(parts:List (Nat×Nat×Operand)):jf->(jf->Prop)->Prop:=
 List.rec (motive:=fun _=>jf->(jf->Prop)->Prop) (fun cs K=>K cs) (fun p _ a cs K=>match ev f p.2.2 with
  | .agg vs=>(match Nat.beq vs.toList.length p.2.1 with|true=>a (cs.take p.1++vs.toList++cs.drop (p.1+p.2.1)) K|false=>False)
  |v=>Mv v fun v=>(match Nat.beq p.2.1 1 with|true=>a (cs.set p.1 v) K|false=>False)) parts
theorem qdW{f:Fr}{cs:jf}{K:jf->Prop}:Bld f [] cs K=K cs:=rfl
theorem q2d{f:Fr}{off sz:Nat}{x:Operand}{r:List (Nat×Nat×Operand)}{cs:jf}{K:jf->Prop}:Bld f ((off,sz,x)::r) cs K=match ev f x with
  | .agg vs=>(match Nat.beq vs.toList.length sz with|true=>Bld f r (cs.take off++vs.toList++cs.drop (off+sz)) K|false=>False)
  |v=>Mv v fun v=>(match Nat.beq sz 1 with|true=>Bld f r (cs.set off v) K|false=>False):=rfl
def qhQ(op:BinOp)(k:IntKind)(m n:Int):Int:=
 match op with
 | .and=>k.wrap (BitVec.ofInt k.bits m&&&BitVec.ofInt k.bits n).toNat
 | .or=>k.wrap (BitVec.ofInt k.bits m|||BitVec.ofInt k.bits n).toNat
 | .xor=>k.wrap (BitVec.ofInt k.bits m ^^^ BitVec.ofInt k.bits n).toNat
 |_=>k.wrap (BitVec.ofInt k.bits m&&& ~~~ BitVec.ofInt k.bits n).toNat
structure qov(op:BinOp)(k:IntKind)(m n:Int)(K:Int->Prop):Prop where
 h:K (qhQ op k m n)
def q3O(op:BinOp)(k:IntKind)(m:Int)(a:IntKind)(n:Int)(K:Value->Prop):Prop:=
 match op with
 | .add=>q6C k a<| q5r k (m+n) fun z=>K (.int k z)
 | .sub=>q6C k a<| q5r k (m-n) fun z=>K (.int k z)
 | .mul=>q6C k a<| q5r k (m*n) fun z=>K (.int k z)
 | .quo=>q6C k a<| Quo k m n fun z=>K (.int k z)
 | .rem=>q6C k a<| Rem m n fun z=>K (.int k z)
 | .and=>q6C k a<| qov .and k m n fun z=>K (.int k z)
 | .or=>q6C k a<| qov .or k m n fun z=>K (.int k z)
 | .xor=>q6C k a<| qov .xor k m n fun z=>K (.int k z)
 | .andNot=>q6C k a<| qov .andNot k m n fun z=>K (.int k z)
 | .shl=>Shl k m n fun z=>K (.int k z)
 | .shr=>Shr k m n fun z=>K (.int k z)
 | .eql=>q6C k a<| K (.bool (decide (m=n)))
 | .neq=>q6C k a<| K (.bool (decide (m≠n)))
 | .lss=>q6C k a<| K (.bool (decide (m<n)))
 | .leq=>q6C k a<| K (.bool (decide (m<=n)))
 | .gtr=>q6C k a<| K (.bool (decide (n<m)))
 | .geq=>q6C k a<| K (.bool (decide (n<=m)))
def XO(P:Program)(W0:World)(f:Fr)(own:Own)(op:IOp)(K:Value->Own->Prop):Prop:=
 match op with
 | .mov x=>Mv (ev f x) fun v=>K v own
 | .pick c a b=>match ev f c with
  | .bool c=>qoy c (ev f a) (ev f b) fun v=>K v own
  |_=>False
 | .bin op x y=>match ev f x,ev f y with
  | .int k m, .int h n=>q3O op k m h n fun v=>K v own
  |_,_=>False
 | .sbin op x y=>match ev f x,ev f y with
  | .string a, .string b=>qej op a b fun v=>K v own
  |_,_=>False
 | .fbin op x y=>match ev f x,ev f y with
  | .float .f64 a, .float .f64 b=>qrq op a b fun r=>K (.bool r) own
  |_,_=>False
 | .flt op x y=>match ev f x,ev f y with
  | .float .f64 a, .float .f64 b=>qrr op a b fun r=>K (.float .f64 r) own
  |_,_=>False
 | .i2f x=>match ev f x with
  | .int _ n=>K (.float .f64 (FloatKind.f64.nearest n)) own
  |_=>False
 | .f2i k x=>match ev f x with
  | .float .f64 b=>F2I k b fun n=>K (.int k n) own
  |_=>False
 | .fbits x=>match ev f x with
  | .float .f64 b=>K (.int .u64 b) own
  |_=>False
 | .fpk neg x y=>match ev f x,ev f y with
  | .float .f64 a, .float .f64 b=>K (.float .f64 (q5W neg a b)) own
  |_,_=>False
 | .ffrom x=>match ev f x with
  | .int .u64 n=>K (.float .f64 n.toNat) own
  |_=>False
 | .beq neg x y=>match ev f x,ev f y with
  | .bool a, .bool b=>K (.bool (bif neg then decide (a≠b) else decide (a=b))) own
  |_,_=>False
 | .not x=>match ev f x with
  | .bool a=>K (.bool (!a)) own
  |_=>False
 | .neg x=>match ev f x with
  | .int k a=>q5r k (0-a) fun z=>K (.int k z) own
  |_=>False
 | .conv k x=>match ev f x with
  | .int _ a=>q5r k a fun z=>K (.int k z) own
  |_=>False
 | .fad off x=>match ev f x with
  | .pointer (some ⟨b,o,none⟩)=>K (.pointer (some ⟨b,o+off,none⟩)) own
  |_=>False
 | .fld off x=>match ev f x with
  | .agg cs=>Sel cs.toList[off]? fun v=>K v own
  |_=>False
 | .fldN off n x=>match ev f x with
  | .agg cs=>qsv cs.toList off n fun v=>K v own
  |_=>False
 | .ixs sz x i=>match ev f x,ev f i with
  | .slice a len _, .int _ i=>IxS a sz i len fun ad=>K (.pointer (some ad)) own
  |_,_=>False
 | .sls sz x e d mx=>match ev f x,evI f e,evI f d,evI f mx with
  | .slice a n c,some e,some d,some mx=>qon a n c sz e d mx fun v=>K v own
  |_,_,_,_=>False
 | .sslc x e d=>match ev f x,evI f e,evI f d with
  | .string s,some e,some d=>qsx s e d fun v=>K v own
  |_,_,_=>False
 | .sidx x i=>match ev f x,ev f i with
  | .string s, .int _ i=>qsw s i fun v=>K v own
  |_,_=>False
 | .scat x y=>match ev f x,ev f y with
  | .string a, .string b=>qsP a b fun v=>K v own
  |_,_=>False
 | .ibs x c=>match ev f x,ev f c with
  | .string s, .int .u8 c=>K (.int .i64 (qhv s c)) own
  |_,_=>False
 | .capb x=>match ev f x with
  | .slice _ _ c=>K (.int .i64 c) own
  |_=>False
 | .nilq neg k x y=>match qmR k (ev f x) (ev f y) with
  |some b=>K (.bool (bif neg then !b else b)) own
  |none=>False
 | .ageq neg ks x y=>match ev f x,ev f y with
  | .agg xs, .agg ys=>EqT ks xs.toList ys.toList fun r=>K (.bool (bif neg then !r else r)) own
  |_,_=>False
 | .mkf k cap=>K (.func (.func k) #[] (cap.map (ev f)).toArray) own
 | .mk t _ bytes zs l c=>match ev f l,ev f c with
  | .int _ l, .int _ c=>MkT W0 own t bytes zs l c K
  |_,_=>False
 | .app t sz bytes zs s x=>match ev f s,ev f x with
  | .slice a n c, .slice a2 m _=>qb3 W0 own t sz bytes zs a n c a2 m K
  |_,_=>False
 | .appz t bytes zs s n=>match ev f s,ev f n with
  | .slice a l c, .int .i64 m=>qsq W0 own t bytes zs a l c m K
  |_,_=>False
 | .clr zs x=>match ev f x with
  | .slice (some a) n _=>StN W0 own a (List.replicate n zs).flatten fun own'=>K (.tuple #[]) own'
  | .slice none _ _=>K (.tuple #[]) own
  |_=>False
 | .callv x args=>match ev f x with
  | .func (.func k) first cap=>q2f P W0 own k (first.toList++args.map (ev f)++cap.toList) K
  | .func (.yield l) first _=>qoD P W0 own l (first.toList++args.map (ev f)) K
  |_=>False
 | .ixa len sz x i=>match ev f x,ev f i with
  | .pointer (some ⟨b,o,none⟩), .int _ i=>Idx i len fun j=>K (.pointer (some ⟨b,o+j*sz,none⟩)) own
  |_,_=>False
 | .idx len x i=>match ev f x,ev f i with
  | .agg cs, .int _ i=>Idx i len fun j=>Sel cs.toList[j]? fun v=>K v own
  |_,_=>False
 | .idxN len sz x i=>match ev f x,ev f i with
  | .agg cs, .int _ i=>Idx i len fun j=>qsv cs.toList (j*sz) sz fun v=>K v own
  |_,_=>False
 | .ld x=>match ev f x with
  | .pointer (some a)=>Ld W0 own a fun v=>K v own
  |_=>False
 | .ldN n x=>match ev f x with
  | .pointer (some a)=>LdN W0 own a n fun vs=>K (.agg vs) own
  |_=>False
 | .st x v=>match ev f x with
  | .pointer (some a)=>Mv (ev f v) fun v=>StT W0 own a v fun own'=>K undef own'
  |_=>False
 | .stN n x v=>match ev f x,ev f v with
  | .pointer (some a), .agg cs=>cs.toList.length=n/\StN W0 own a cs.toList fun own'=>K undef own'
  |_,_=>False
 | .box t x=>match ev f x with
  | .agg cs=>New W0 own (.cells cs t) fun b own'=>K (.pointer (some ⟨b,0,none⟩)) own'
  |v=>Mv v fun v=>New W0 own (.cells #[v] t) fun b own'=>K (.pointer (some ⟨b,0,none⟩)) own'
 | .new t z=>match z with
  | .agg cs=>New W0 own (.cells cs t) fun b own'=>K (.pointer (some ⟨b,0,none⟩)) own'
  |z=>New W0 own (.cells #[z] t) fun b own'=>K (.pointer (some ⟨b,0,none⟩)) own'
 | .ext x i=>match ev f x with
  | .tuple vs=>Sel vs.toList[i]? fun v=>K v own
  |_=>False
 | .len x=>match ev f x with
  | .slice _ n _=>K (.int .i64 n) own
  |_=>False
 | .lens x=>match ev f x with
  | .string s=>K (.int .i64 s.size) own
  |_=>False
 | .nilc x=>match ev f x with
  | .pointer (some a)=>K (.pointer (some a)) own
  |_=>False
 | .mm mx x y=>match ev f x,ev f y with
  | .int k a, .int _ b=>MM mx a b fun z=>K (.int k z) own
  |_,_=>False
 | .bld zero parts=>Bld f parts zero fun cs=>K (.agg cs.toArray) own
 | .blds t len zero parts=>Bld f parts zero fun cs=>New W0 own (.cells cs.toArray t) fun b own'=>K (.slice (some ⟨b,0,none⟩) len len) own'
 | .call k args=>q0k P W0 own k (args.map (ev f)) K
 | .nifc neg x=>match ev f x with
  | .nilIface=>K (.bool (!neg)) own
  | .iface _ _=>K (.bool neg) own
  |_=>False
 | .iter x=>match ev f x with
  | .string s=>New W0 own (.stringIter s 0) fun b own'=>K (.pointer (some ⟨b,0,none⟩)) own'
  |_=>False
 | .next x=>match ev f x with
  | .pointer (some ⟨b,0,none⟩)=>qrs W0 own b K
  |_=>False
 | .mkm=>qst W0 own fun b own'=>K (.map (some b)) own'
 | .mlk g z ok x i=>match ev f x with
  | .map none=>K (qor z ok none) own
  | .map (some b)=>qss own g b (ev f i) fun r=>K (qor z ok r) own
  |_=>False
 | .mup g x i v=>match ev f x with
  | .map (some b)=>qsO own g b (ev f i) (ev f v) fun own'=>K undef own'
  |_=>False
 |_=>False
theorem qM(b o n:Nat):(Addr.mk b o none).add n=⟨b,o+n,none⟩:=by
 unfold Addr.add
 split
 ·simp_all
 ·rfl
def qfX:IOp->Bool
 | .st _ _| .stN _ _ _| .box _ _| .new _ _| .call _ _| .callv _ _| .blds _ _ _ _| .mk _ _ _ _ _ _| .app _ _ _ _ _ _| .appz _ _ _ _ _| .clr _ _| .flt _ _ _| .iter _| .next _| .mkm| .mup _ _ _ _| .bad=>false
 |_=>true
def q6B(P:Program)(f:Fr)(o:Oper)(w:World)(own:Own)(W0:World)(K:Value->Own->Prop)(ro:Bool):Prop:=
 (∃v,(execOp (ev f) o).run P w= .ok (.value v) w/\K v own)\/
 (ro=false/\((∃v a own',(execOp (ev f) o).run P w= .ok (.value v) a/\St W0 own' a/\K v own')\/
 (∃a own',(execOp (ev f) o).run P w= .ok .skip a/\St W0 own' a/\K undef own')\/
 (∃k args,(execOp (ev f) o).run P w= .ok (.enter k args) w/\q0k P W0 own k args.toList K)\/
 (∃l k tmps assign body,(execOp (ev f) o).run P w= .ok (.round l k tmps assign body) w/\RoundIn Fence.wide 0 P l k tmps assign body w fun e a=>∃v own',e= .returned v/\St W0 own' a/\K v own')))
theorem qeN{a:Act}{f:Fr}(b:∀t,a.tmps.getD t undef=f t):a.eval=ev f:=by
 funext x
 cases x <;>simp only[Act.eval,ev,b]
section
variable{P:Program}{o:Oper}{w:World}{own:Own}{W0:World}{K:Value->Own->Prop}{f:Fr}
theorem qp{v:Value}{ro:Bool}(_hS:St W0 own w)(b:(execOp (ev f) o).run P w= .ok (.value v) w)(a:K v own):q6B P f o w own W0 K ro:=
 .inl ⟨v,b,a⟩
theorem qlR{s:Sem Value}{v:Value}{ro:Bool}(he:execOp (ev f) o=(do pure (.value (<-s))))(a:St W0 own w)(c:s.run P w= .ok v w)(b:K v own):q6B P f o w own W0 K ro:=
 qp a (by rw[he];simp[c]) b
theorem qaf{ro:Bool}{op:BinOp}{t p:TypeId}{x y:Operand}{k e:IntKind}{m n:Int}(l:o.op= .binOp op t x y p)(c:ev f x= .int k m)(d:ev f y= .int e n)(i:St W0 own w)
  (h:q3O op k m e n fun v=>K v own):q6B P f o w own W0 K ro:=by
 have he:execOp (ev f) o=(do pure (.value (<-(do eqGuard op t x y (ev f x) (ev f y);binOp op t (ev f x) (ev f y))))):=by unfold execOp;rw[l]
 have j:∀w,(eqGuard op t x y (ev f x) (ev f y)).run P w= .ok () w:=by
  intro w;unfold eqGuard;rw[c,d];cases op <;>simp
 refine(?_:∃v,(binOp op t (ev f x) (ev f y)).run P w= .ok v w/\K v own).elim fun v b=>qlR he i (by simp[j,b.1]) b.2
 rw[c,d];cases op <;>simp only[q3O] at h
 case add=>obtain⟨rfl,⟨g⟩⟩:=h.h;exact⟨_,by simp[binOp,Op.intArith],g⟩
 case sub=>obtain⟨rfl,⟨g⟩⟩:=h.h;exact⟨_,by simp[binOp,Op.intArith],g⟩
 case mul=>obtain⟨rfl,⟨g⟩⟩:=h.h;exact⟨_,by simp[binOp,Op.intArith],g⟩
 case quo=>obtain⟨rfl,⟨a,g⟩⟩:=h.h;exact⟨_,by simp[binOp,Op.intDiv,a],g⟩
 case rem=>obtain⟨rfl,⟨a,g⟩⟩:=h.h;exact⟨_,by simp[binOp,Op.intDiv,a],g⟩
 case and=>obtain⟨rfl,⟨g⟩⟩:=h.h;exact⟨_,by simp[binOp,Op.intBits,qhQ],g⟩
 case or=>obtain⟨rfl,⟨g⟩⟩:=h.h;exact⟨_,by simp[binOp,Op.intBits,qhQ],g⟩
 case xor=>obtain⟨rfl,⟨g⟩⟩:=h.h;exact⟨_,by simp[binOp,Op.intBits,qhQ],g⟩
 case andNot=>obtain⟨rfl,⟨g⟩⟩:=h.h;exact⟨_,by simp[binOp,Op.intBits,qhQ],g⟩
 case shl=>obtain⟨a,h⟩:=h;exact⟨_,by simp[binOp,Op.shift,Int.not_lt.2 a],h⟩
 case shr=>obtain⟨a,h⟩:=h;exact⟨_,by simp[binOp,Op.shift,Int.not_lt.2 a],h⟩
 case eql=>obtain⟨rfl,g⟩:=h.h;exact⟨_,by simp[binOp,Op.intCmp];rfl,g⟩
 case neq=>obtain⟨rfl,g⟩:=h.h;exact⟨_,by simp[binOp,Op.intCmp,bne];rfl,g⟩
 case lss=>obtain⟨rfl,g⟩:=h.h;exact⟨_,by simp[binOp,Op.intCmp],g⟩
 case leq=>obtain⟨rfl,g⟩:=h.h;exact⟨_,by simp[binOp,Op.intCmp],g⟩
 case gtr=>obtain⟨rfl,g⟩:=h.h;exact⟨_,by simp[binOp,Op.intCmp],g⟩
 case geq=>obtain⟨rfl,g⟩:=h.h;exact⟨_,by simp[binOp,Op.intCmp],g⟩
theorem q8n{a:Addr}{v:Value}(h:w.cell? a=some v):(load a).run P w= .ok v w:=by
 simp[load,Sem.run,h]
theorem q4W{a:Addr}:∀(n i:Nat) (acc vs:jf),vs.length=n->(∀j,j<n->w.cell? (a.add (i+j))=vs[j]?)->
  (loadCellsFrom a i n acc.toArray).run P w= .ok (acc++vs).toArray w
 |0,i,acc,vs,b,_=>by
  have:vs= []:=zC.1 b;subst this;simp[loadCellsFrom]
 |n+1,i,acc,vs,b,h=>by
  match vs,b with
  |v::vs,b=>
   have c:=h 0 Yu;simp only[ZV,Zo] at c;have d:=q4W n (i+1) (acc++ [v]) vs (by simpa using b) (fun j hj=>by
    have:=h (j+1) Yu
    simpa [Nat.add_assoc,Nat.add_comm 1 j] using this)
   simp only[loadCellsFrom,Sem.run_bind,q8n c,Result.andThen_ok,List.push_toArray];rw[d];simp
theorem q42{a:Addr}{n:Nat}{vs:jf}(c:vs.length=n)(h:∀j,j<n->w.cell? (a.add j)=vs[j]?):
  (loadCells a n).run P w= .ok vs.toArray w:=by
 have:=q4W (P:=P) n 0 [] vs c (fun j b=>by simpa using h j b)
 simpa [loadCells] using this
theorem q0b{a:Addr}{v:Value}(k:Nat):(w.setCell a v).heap[k]? =if a.block=k then(w.heap[k]?).map (fun
   | .cells c elem b=> .cells (if a.spot.isSome then c else c.setIfInBounds a.off v) elem b
   |o=>o) else w.heap[k]? :=by
 simp only[World.setCell,ZR];rfl
theorem cell?_setCell_isSome{a b:Addr}{v:Value}(h:(w.cell? b).isSome=true):((w.setCell a v).cell? b).isSome=true:=by
 unfold World.cell? at*;rw[q0b]
 by_cases e:a.block=b.block
 ·rw[if_pos e]
  rcases c:w.heap[b.block]? with _|x
  ·simp[c] at h
  ·rw[c] at h;cases x <;>simp_all
   split <;>simp_all
   split <;>simp_all
 ·rw[if_neg e];exact h
theorem frozen?_setCell'{a b:Addr}{v:Value}:(w.setCell a v).frozen? b=w.frozen? b:=by
 unfold World.frozen?;rw[q0b]
 by_cases e:a.block=b.block
 ·rw[if_pos e]
  rcases hx:w.heap[b.block]? with _|x
  ·simp
  ·cases x <;>simp
 ·rw[if_neg e]
theorem q4X{a:Addr}{v:Value}(h1:q2G v=true)(h:(w.cell? a).isSome=true)(hf:w.frozen? a=false):(store a v).run P w= .ok () (w.setCell a v):=by
 obtain⟨u,hu⟩:=Zv.1 h;cases v <;>simp_all [store,Sem.run,q2G]
theorem q1k{a:Addr}:∀(vs:jf) (i:Nat) (w:World),(∀v∈vs,q2G v=true)->
  (∀j,j<vs.length->(w.cell? (a.add (i+j))).isSome=true/\w.frozen? (a.add (i+j))=false)->(storeCells a vs i).run P w= .ok () (q6a w a i vs)
 | [],i,w,_,_=>by simp[storeCells,q6a]
 |v::vs,i,w,c,h=>by
  have b:=h 0 Yw;simp only[ZV] at b;simp only[storeCells,Sem.run_bind,q4X (c v zj) b.1 b.2,Result.andThen_ok,q6a];refine q1k vs (i+1) _ (fun x g=>c x (zl _ g)) fun j d=>?_
  have:=h (j+1) (by simpa using d);have e:i+1+j=i+(j+1):=Yu;rw[e];exact⟨cell?_setCell_isSome this.1,by rw[frozen?_setCell'];exact this.2⟩
theorem q0K{t:TypeId}{b:Bool}(h:q4O P t=some b):(isAgg t).run P w= .ok b w:=by
 unfold q4O at h;unfold isAgg;cases hu:P.underlying t with
 |none=>simp[hu] at h
 |some d=>
  simp only[underlying,Sem.run_bind,run_program,Result.andThen_ok,hu];cases d <;>simp_all
theorem q0Q{t:TypeId}{n:Nat}(h:szT P t=some n):(sizeOf t).run P w= .ok n w:=by
 unfold szT at h;unfold sizeOf typeInfo;cases hu:P.info? t with
 |none=>simp[hu] at h
 |some d=>simp_all
theorem qn{t:TypeId}{d:TypeDesc}(h:P.underlying t=some d):(underlying t).run P w= .ok d w:=by
 simp[underlying,h]
theorem q4m{t:TypeId}{z:Value}(h:q8D P t=some z):(zeroValue t).run P w= .ok z w:=by
 unfold q8D at h;unfold zeroValue typeInfo;cases hu:P.info? t with
 |none=>simp[hu] at h
 |some d=>simp_all
theorem qne{vs:jf}:∀(off:Nat) (cs:jf),off+vs.length<=cs.length->
  (vs.toArray.zipIdx.foldl (fun(cs:jh) (c,j)=>cs.setIfInBounds (off+j) c) cs.toArray)=(cs.take off++vs++cs.drop (off+vs.length)).toArray:=by
 intro off cs a;have key:∀(vs:jf) (k:Nat) (cs:jf),off+k+vs.length<=cs.length->
   ((vs.zipIdx k).foldl (fun(cs:jh) (c,j)=>cs.setIfInBounds (off+j) c) cs.toArray)=(cs.take (off+k)++vs++cs.drop (off+k+vs.length)).toArray:=by
  intro vs
  induction vs with
  |nil=>intro k cs _;simp
  |cons v vs g=>
   intro k cs a;simp only[zm] at a;simp only[List.zipIdx_cons,y9];have b:cs.toArray.setIfInBounds (off+k) v=(cs.set (off+k) v).toArray:=Yw;rw[b,g (k+1) _ (by simp;omega)]
   congr 1
   have d:off+(k+1)=off+k+1:=Yu;rw[d,List.take_set,Yi Yu,List.take_succ_eq_append_getElem Yu];have e:(List.take (off+k) cs++ [cs[off+k]]).set (off+k) v=List.take (off+k) cs++ [v]:=by
    rw[ZS _ _ (by simp;omega)];have:off+k-(List.take (off+k) cs).length=0:=by simp;omega
    rw[this];rfl
   rw[e];simp[Nat.add_assoc,Nat.add_comm 1]
 have:=key vs 0 cs (by simpa using a);rw[<-Array.foldl_toList]
 simpa using this
theorem qeT{place:Nat->Option (Nat×Nat)}{i off sz:Nat}{v:Value}{vs cs:jf}{rest:List (Nat×Value)}(b:place i=some (off,sz))(a:v.cells=vs.toArray)(c:vs.length=sz)
  (hle:off+sz<=cs.length):Instr.fill place cs.toArray ((i,v)::rest)=Instr.fill place (cs.take off++vs++cs.drop (off+sz)).toArray rest:=by
 subst c;have hm:=qne (vs:=vs) off cs hle;rw[<-hm];simp only[Instr.fill,b,a];rw[if_neg (by simp;omega)]
theorem q9l(cs:jf)(off:Nat)(v:Value)(h:off+1<=cs.length):cs.set off v=cs.take off++ [v]++cs.drop (off+1):=by
 rw[Zj,if_pos Yu];simp
theorem q7C{place:Nat->Option (Nat×Nat)}:∀(parts:List (Nat×Operand)) (l:List (Nat×Nat×Operand)) (cs:jf) (b:jf->Prop),q1i P place cs.length parts=some l->Bld f l cs b->
  ∃cs',Instr.fill place cs.toArray (parts.map fun p=>(p.1,ev f p.2))=some cs'.toArray/\b cs'/\cs'.length=cs.length
 | [],l,cs,b,a,h=>by
  simp only[q1i,Option.some.injEq] at a;subst a;exact⟨cs,rfl,h,rfl⟩
 |(i,x)::parts,l,cs,b,a,h=>by
  simp only[q1i] at a
  split at a
  ·rename_i off sz r
   split at a
   ·rename_i hle
    split at a
    ·rename_i l' g;simp only[Option.some.injEq] at a;subst a;rw[q2d] at h;have key:∀vs:jf,(ev f x).cells=vs.toArray->vs.length=sz->Bld f l' (cs.take off++vs++cs.drop (off+sz)) b->
       ∃cs',Instr.fill place cs.toArray (((i,x)::parts).map fun p=>(p.1,ev f p.2))=some cs'.toArray/\b cs'/\cs'.length=cs.length:=by
      intro vs e s h;have hlen:(cs.take off++vs++cs.drop (off+sz)).length=cs.length:=by simp;omega
      obtain⟨cs',m,n,q⟩:=q7C parts l' _ b (by rw[hlen];exact g) h;exact⟨cs',by rw[zF,qeT r e s hle];exact m,n,q.trans hlen⟩
     split at h
     ·rename_i vs k
      split at h
      ·rename_i hb;exact key vs.toList (by rw[k];simp[Value.cells]) (ZI hb) h
      ·exact h.elim
     ·rename_i v j;have d:=Mv.h (K:=fun v=>(match Nat.beq sz 1 with|true=>Bld f l' (cs.set off v) b|false=>False)) h
      split at d
      ·rename_i hb;have c:sz=1:=ZI hb;have e:(ev f x).cells= #[ev f x]:=by
        unfold Value.cells
        split
        ·rename_i cs k;exact(j cs k).elim
        ·rfl
       rw[q9l cs off _ Yu] at d;exact key [ev f x] e (by simp[c]) (by rw[c];exact d)
      ·exact d.elim
    ·cases a
   ·cases a
  ·cases a
theorem qn0{a:Array Field}(b:q7Y P a=true):(a.mapM fun f=>(Prod.mk f.offset<$>sizeOf f.type:Sem (Nat×Nat))).run P w= .ok (a.map fun f=>(f.offset,(szT P f.type).getD 0)) w:=by
 obtain⟨a⟩:=a;rw[List.mapM_toArray];simp only[q7Y,List.all_toArray] at b;have key:∀l:List Field,(l.all fun f=>(szT P f.type).isSome)=true->(l.mapM fun f=>(Prod.mk f.offset<$>sizeOf f.type:Sem (Nat×Nat))).run P w= .ok (l.map fun f=>(f.offset,(szT P f.type).getD 0)) w:=by
  intro l
  induction l with
  |nil=>intro _;simp
  |cons f l d=>
   intro h;simp only[Ys,zu] at h;obtain⟨n,c⟩:=Zv.1 h.1;simp[List.mapM_cons,q0Q c,d h.2,c]
 simp[key a b]
theorem q7X{k:Nat}{ks:jj}{xs ys:jf}{r:Bool}(h:eqC (k::ks) xs ys=some r):∃x c y d a b,xs=x::c/\ys=y::d/\q1n k x y=some a/\eqC ks c d=some b/\r=(a&&b):=by
 match xs,ys,h with
 |x::c,y::d,h=>
  simp only[eqC] at h;cases e:q1n k x y with
  |none=>rw[e] at h;cases h
  |some a=>
   rw[e] at h;cases hb:eqC ks c d with
   |none=>rw[hb] at h;cases h
   |some b=>
    rw[hb] at h;exact⟨x,c,y,d,a,b,rfl,rfl,e,hb,(Option.some.inj h).symm⟩
 | [],[],h=>simp[eqC] at h
 | [],_::_,h=>simp[eqC] at h
 |_::_,[],h=>simp[eqC] at h
theorem q5F:∀(c d:jj) (xs ys:jf) (r:Bool),eqC (c++d) xs ys=some r->
  ∃r1 r2,eqC c (xs.take c.length) (ys.take c.length)=some r1/\eqC d (xs.drop c.length) (ys.drop c.length)=some r2/\r=(r1&&r2)
 | [],d,xs,ys,r,h=>⟨true,r,by simp[eqC],by simpa using h,Yw⟩
 |k::c,d,xs,ys,r,h=>by
  obtain⟨x,e,y,g,a,b,rfl,rfl,l,hb,rfl⟩:=q7X h;obtain⟨r1,r2,i,j,rfl⟩:=q5F c d e g b hb;exact⟨a&&r1,r2,by simp[eqC,l,i],by simpa using j,by simp[Bool.and_assoc]⟩
def qcl(P:Program)(t:TypeId)(x:Value):Prop:=(q4O P t=some true->∃cs,x= .agg cs)/\(q4O P t=some false->x.cells= #[x])
theorem qfj{n:Nat}{t:TypeId}{ks:jj}(h:q2Q P n t=some ks):(q4O P t=some true)\/(q4O P t=some false/\∃k,ks= [k]):=by
 cases n with
 |zero=>simp[q2Q] at h
 |succ n=>
  unfold q2Q at h
  split at h
  ·rename_i hu;exact .inr ⟨by simp[q4O,hu],_,(Option.some.inj h).symm⟩
  ·rename_i hu;exact .inr ⟨by simp[q4O,hu],_,(Option.some.inj h).symm⟩
  ·rename_i hu;exact .inr ⟨by simp[q4O,hu],_,(Option.some.inj h).symm⟩
  ·rename_i hu;exact .inl (by simp[q4O,hu])
  ·rename_i hu;exact .inl (by simp[q4O,hu])
  ·cases h
theorem qai{k:Nat}{x y:Value}{r:Bool}(h:q1n k x y=some r):x.cells= #[x]/\y.cells= #[y]:=by
 unfold q1n at h
 split at h <;>first|exact⟨rfl,rfl⟩|cases h
theorem qc6{t:TypeId}{n:Nat}{ks:jj}{xs ys:jh}{off:Nat}{r:Bool}(s:q2Q P n t=some ks)(d:szT P t=some ks.length)
  (h:eqC ks ((xs.toList.drop off).take ks.length) ((ys.toList.drop off).take ks.length)=some r) (w:World):
  ∃a b,(part t xs off).run P w= .ok a w/\(part t ys off).run P w= .ok b w/\qcl P t a/\qcl P t b/\a.cells.toList=(xs.toList.drop off).take ks.length/\b.cells.toList=(ys.toList.drop off).take ks.length:=by
 rcases qfj s with c|⟨c,k,rfl⟩
 ·refine⟨.agg (xs.extract off (off+ks.length)), .agg (ys.extract off (off+ks.length)),by simp[part,q0K c,q0Q d],by simp[part,q0K c,q0Q d],⟨fun _=>⟨_,rfl⟩,fun h=>by rw[c] at h;cases h⟩,⟨fun _=>⟨_,rfl⟩,fun h=>by rw[c] at h;cases h⟩,?_,?_⟩
  ·simp[Value.cells,Array.toList_extract,List.extract_eq_take_drop]
  ·simp[Value.cells,Array.toList_extract,List.extract_eq_take_drop]
 ·obtain⟨x,l,y,m,a,b,e,i,u,hb,rfl⟩:=q7X h;have g:xs[off]? =some x:=by
   have:=congrArg (·[0]?) e
   simpa using this
  have j:ys[off]? =some y:=by
   have:=congrArg (·[0]?) i
   simpa using this
  obtain⟨p,q⟩:=qai u;have v:l= []:=by
   have:=congrArg List.length e;simp at this;exact zC.1 Yu
  have z:m= []:=by
   have:=congrArg List.length i;simp at this;exact zC.1 Yu
  refine⟨x,y,by simp[part,q0K c,g],by simp[part,q0K c,j],⟨fun h=>(by rw[c] at h;cases h),fun _=>p⟩,⟨fun h=>(by rw[c] at h;cases h),fun _=>q⟩,?_,?_⟩
  ·rw[e,v,p]
  ·rw[i,z,q]
theorem qaq{t:TypeId}{n:Nat}(h:szT P t=some n):∃i,P.info? t=some i/\P.cellsOf t=n:=by
 unfold szT at h;obtain⟨i,a,b⟩:=Zb.1 h;exact⟨i,a,by simp[Program.cellsOf,a,b]⟩
theorem q4t:∀(n:Nat) (t:TypeId) (ks:jj) (d:Nat) (x y:Value) (r:Bool),q2Q P n t=some ks->n<=d->qcl P t x->qcl P t y->eqC ks x.cells.toList y.cells.toList=some r->∀w,(Op.equalIn d t x y).run P w= .ok r w
 |0,_,_,_,_,_,_,h,_,_,_,_,_=>by simp[q2Q] at h
 |n+1,t,ks,0,x,y,r,_,hd,_,_,_,_=>by omega
 |n+1,t,ks,d+1,x,y,r,h,hd,M,N,he,w=>by
  have one:∀k,ks= [k]->q4O P t=some false->q1n k x y=some r:=by
   rintro k rfl U;rw[M.2 U,N.2 U] at he;obtain⟨x',xs',y',ys',a,b,R,S,c,hb,rfl⟩:=q7X he;simp only[List.cons.injEq] at R S;obtain⟨rfl,rfl⟩:=R;obtain⟨rfl,rfl⟩:=S;simp only[eqC,Option.some.injEq] at hb;subst hb
   simpa using c
  unfold q2Q at h
  split at h
  ·rename_i k hu;have c:=one 0 (Option.some.inj h).symm (by simp[q4O,hu])
   match x,y,c with
   | .int V a, .int k2 b,c=>
    simp only[q1n] at c
    split at c
    ·rename_i g;obtain rfl:=qfk g;rw[run_equalIn_int w d t V k a b hu];simp only[Option.some.injEq] at c;rw[<-c];congr 1
    ·cases c
  ·rename_i hu;have c:=one 1 (Option.some.inj h).symm (by simp[q4O,hu])
   match x,y,c with
   | .bool a, .bool b,c=>
    simp only[q1n,Option.some.injEq] at c;rw[run_equalIn_bool w d t a b hu,<-c];simp[Bool.beq_eq_decide_eq]
  ·rename_i hu;have c:=one 2 (Option.some.inj h).symm (by simp[q4O,hu])
   match x,y,c with
   | .string a, .string b,c=>
    simp only[q1n,Option.some.injEq] at c;rw[run_equalIn_string w d t a b hu,ByteArray.toList_eq,ByteArray.toList_eq,<-c]
    congr 1
    by_cases h:a.data.toList=b.data.toList
    ·rw[decide_eq_true h];exact beq_iff_eq.2 h
    ·rw[decide_eq_false h];exact beq_eq_false_iff_ne.2 h
  ·rename_i k e hu
   split at h
   ·rename_i u B
    split at h
    ·rename_i D;have I:=Option.some.inj h;obtain⟨ie,G,F⟩:=qaq D;obtain⟨xs,rfl⟩:=M.1 (by simp[q4O,hu]);obtain⟨ys,rfl⟩:=N.1 (by simp[q4O,hu]);rw[run_equalIn_array w d xs ys hu G,F];simp only[Value.cells] at he;rw[<-I] at he;have key:∀(m i:Nat) (r:Bool),eqC (List.replicate m u).flatten (xs.toList.drop (i*u.length)) (ys.toList.drop (i*u.length))=some r->(Op.eqItems d e u.length xs ys (List.range' i m)).run P w= .ok r w:=by
      intro m
      induction m with
      |zero=>
       intro i r h;simp only[yM,Y4] at h;have J:r=true:=by
        cases q:xs.toList.drop (i*u.length) <;>cases s:ys.toList.drop (i*u.length) <;>rw[q,s] at h <;>simp[eqC] at h <;>first|exact h|exact h.symm
       subst J;simp[Op.eqItems]
      |succ m O=>
       intro i r h;rw[ZY,Z8] at h;obtain⟨r1,r2,v,z,rfl⟩:=q5F _ _ _ _ _ h;obtain⟨a,b,pa,Q,sa,sb,ca,cb⟩:=qc6 B D v w;have p:=q4t n e u d a b r1 B Yu sa sb (by rw[ca,cb];exact v) w;rw[yA,yA,<-ZK] at z;have j:=O (i+1) r2 z;rw[List.range'_succ];simp only[Op.eqItems,Sem.run_bind,pa,Q,p,Result.andThen_ok];cases r1
       ·simp
       ·simpa using j
     rw[List.range_eq_range'];exact key k 0 r (by simpa using he)
    ·cases h
   ·cases h
  ·rename_i T hu
   split at h
   ·cases h
   ·rename_i L;obtain⟨xs,rfl⟩:=M.1 (by simp[q4O,hu]);obtain⟨ys,rfl⟩:=N.1 (by simp[q4O,hu]);have A:P.fieldsOf t=T:=by simp[Program.fieldsOf,hu]
    rw[run_equalIn_struct w d t xs ys (by rw[A];exact hu) (by simpa using L),A];simp only[Value.cells] at he;have key:∀(l:List Field) (off:Nat) (ks:jj) (r:Bool),q95 P (q2Q P n) l off=some ks->eqC ks (xs.toList.drop off) (ys.toList.drop off)=some r->(Op.eqFields d xs ys l).run P w= .ok r w:=by
     intro l
     induction l with
     |nil=>
      intro off ks r g h;simp only[q95,Option.some.injEq] at g;subst g;have J:r=true:=by
       cases q:xs.toList.drop off <;>cases s:ys.toList.drop off <;>rw[q,s] at h <;>simp[eqC] at h <;>first|exact h|exact h.symm
      subst J;simp[Op.eqFields]
     |cons f l O=>
      intro off ks r g h;unfold q95 at g
      split at g
      ·rename_i W C
       split at g
       ·rename_i E
        split at g
        ·rename_i kr H;have:=Option.some.inj g;subst this;obtain⟨r1,r2,v,z,rfl⟩:=q5F _ _ _ _ _ h;obtain⟨a,b,pa,Q,sa,sb,ca,cb⟩:=qc6 C E.2.2 v w;have p:=q4t n f.type W d a b r1 C Yu sa sb (by rw[ca,cb];exact v) w;rw[yA,yA] at z;have j:=O _ _ r2 H z;simp only[Op.eqFields,E.2.1,ne_eq,not_false_eq_true,if_true,E.1,Sem.run_bind,pa,Q,p,Result.andThen_ok];cases r1
         ·simp
         ·simpa using j
        ·cases g
       ·cases g
      ·cases g
    exact key T.toList 0 ks r h (by simpa using he)
  ·cases h
theorem qol(n:Nat)(h:n<=281474976710656):IntKind.i64.wrap (n:Int)=n:=by
 unfold IntKind.wrap;have a:((2:Int) ^ IntKind.i64.bits)=18446744073709551616:=rfl;have b:((2:Int) ^ (IntKind.i64.bits-1))=9223372036854775808:=rfl;simp only[a,b,IntKind.signed,Y6,decide_eq_true_eq]
 split <;>omega
def OV(v:Option Value)(i:Option Int):Prop:=(i=none/\v=none)\/(∃k n,i=some n/\v=some (.int k n))
theorem q8W{f:Fr}{p:Option Operand}{q:Option Int}(a:evI f p=some q):OV (p.map (ev f)) q:=by
 cases p with
 |none=>simp only[evI,Option.some.injEq] at a;exact .inl ⟨a.symm,rfl⟩
 |some x=>
  simp only[evI] at a
  split at a
  ·rename_i k i b;exact .inr ⟨k,i,(Option.some.inj a).symm,by simp[b]⟩
  ·cases a
theorem q70{isS:Bool}{len cap l r m:Nat}{n k mx:Option Value}{d a mx':Option Int}(p:OV n d)(q:OV k a)(s:OV mx mx')(e:d.getD 0=l)(g:a.getD len=r)(h:mx'.getD cap=m)
  (i:l<=r) (c:a.isSome=true->r<=m) (b:mx'.isSome=true->m<=cap) (j:mx'.isSome=true->a.isSome=true) (w:World):(Instr.sliceBounds isS len cap n k mx).run P w= .ok (l,r,m) w:=by
 rcases s with ⟨rfl,rfl⟩|⟨k3,i3,rfl,rfl⟩ <;>rcases q with ⟨rfl,rfl⟩|⟨k2,i2,rfl,rfl⟩ <;>rcases p with ⟨rfl,rfl⟩|⟨k1,i1,rfl,rfl⟩
 all_goals simp only[Za,yh] at e g h
 all_goals simp only[ZT,ZL,forall_const,zL,false_implies,implies_true] at c b j
 all_goals(try(replace e:=Int.natCast_eq_zero.1 e.symm))
 all_goals(try(replace g:=Int.natCast_inj.1 g))
 all_goals(try(replace h:=Int.natCast_inj.1 h))
 all_goals(subst e;subst g;subst h)
 all_goals simp[Instr.sliceBounds,Instr.sliceBound,asIntOf,i,c,b]
theorem q4l{zs:jh}(c:Nat):((Array.range (c*zs.size)).map (zs[· % zs.size]!))=(List.replicate c zs.toList).flatten.toArray:=by
 rw[<-ZM];simp only[Array.toList_map,Array.toList_range]
 induction c with
 |zero=>simp
 |succ c b=>
  rw[ZK,List.range_add,zB,b,Y7,zY]
  congr 1
  rw[ya];refine List.ext_getElem Yw fun i a h2=>?_
  simp only[zi,List.length_range] at a;have e:(c*zs.size+i) % zs.size=i:=by rw[Ym,Nat.mul_add_mod,Nat.mod_eq_of_lt a]
  simp[e,a]
theorem qt(h:XO P W0 f own .bad K):False:=by simp only[XO] at h
theorem q5H{k:FuncId}:ev f (.func k)= .func (.func k) #[] #[]:=rfl
theorem qly(b:Nat):Extern.MathFloatBits.float64bits #[.float .f64 b]=pure (.int .u64 b):=rfl
theorem qmq(n:Int):Extern.MathFloatBits.float64frombits #[.int .u64 n]=pure (.float .f64 n.toNat):=rfl
theorem qiK(a b:Nat):Extern.MathDim.pick "math.archMin" true .lt #[.float .f64 a, .float .f64 b]=pure (.float .f64 (q5W true a b)):=rfl
theorem qiJ(a b:Nat):Extern.MathDim.pick "math.archMax" false .gt #[.float .f64 a, .float .f64 b]=pure (.float .f64 (q5W false a b)):=rfl
theorem qie{fn:Func}(h:fn.name= "math.archMin"):Extern.find fn=some (Extern.MathDim.pick "math.archMin" true .lt):=by
 unfold Extern.find;rw[h];rfl
theorem qid{fn:Func}(h:fn.name= "math.archMax"):Extern.find fn=some (Extern.MathDim.pick "math.archMax" false .gt):=by
 unfold Extern.find;rw[h];rfl
theorem qeW{fn:Func}(h:fn.name= "math.Float64bits"):Extern.find fn=some Extern.MathFloatBits.float64bits:=by
 unfold Extern.find;rw[h];rfl
theorem qic{fn:Func}(h:fn.name= "internal/bytealg.IndexByteString"):Extern.find fn=some Extern.BytealgIndexByte.indexByte:=by
 unfold Extern.find;rw[h];rfl
theorem qmB(s:ByteArray)(c:Int)(w:World):(Extern.BytealgIndexByte.indexByte #[.string s, .int .u8 c]).run P w= .ok (.int .i64 (qhv s c)) w:=by
 have he:Extern.BytealgIndexByte.indexByte #[.string s, .int .u8 c]=(match (List.range s.size).find? fun i=>s[i]! ==c.toNat.toUInt8 with
  |some i=>pure (goInt i)
  |none=>pure (goInt (-1))):=rfl
 rw[he];unfold qhv
 split <;>simp[goInt]
theorem qeX{fn:Func}(h:fn.name= "math.Float64frombits"):Extern.find fn=some Extern.MathFloatBits.float64frombits:=by
 unfold Extern.find;rw[h];rfl
theorem q41{sz n:Nat}{a:j9}{cap:Nat}{cs:jf}{w:World}(d:cs.length=n*sz)(b:a=none->cs= [])(c:Holds a cs w):(Builtin.firstCells sz n (.slice a n cap)).run P w= .ok cs.toArray w:=by
 cases a with
 |none=>rw[b rfl];exact run_firstCells_none w sz n n cap
 |some ad=>exact run_firstCells_some w sz n ad n cap cs d (fun j v e=>c ad rfl j v e)
theorem qae{s x:Operand}{t tx:TypeId}{e N:TypeId}{g:TypeInfo}{z:Value}{a a2:j9}{n c m c2:Nat}(V:o.op= .call ⟨.builtin .append,#[s,x],#[t,tx]⟩)(W:ev f s= .slice a n c)(L:ev f x= .slice a2 m c2)
  (hu:P.underlying t=some (.slice e)) (k:P.underlying tx=some (.slice N)) (i:P.info? e=some g) (Y:g.zero=some z) (hc:z.cells.size=g.size/\0<g.size/\0<g.bytes) (l:St W0 own w)
  (h:qb3 W0 own e g.size g.bytes z.cells.toList a n c a2 m K):q6B P f o w own W0 K false:=by
 obtain⟨cs,ys,G,A,S,q,v,U,u,J,I⟩:=h.h;have d:execOp (ev f) o=(do pure (.value (<-Builtin.append_ #[t,tx] o.type #[.slice a n c, .slice a2 m c2]))):=by
  simp[execOp,V,resolve,invoke,builtin,W,L]
 by_cases b:n+m<=c
 ·obtain⟨own',y,B⟩:=J b;have C:=q41 (P:=P) (cap:=c2) A q (u w l);cases a with
  |none=>
   refine .inr ⟨rfl, .inl ⟨.slice none (n+m) c,w,own',?_,(y w l).2 rfl,B⟩⟩;rw[d];simp[Builtin.append_,qn hu,qn k,sizeOf,typeInfo,i,Builtin.lenOf,b,C]
  |some ad=>
   obtain⟨O,Q⟩:=(y w l).1 ad rfl;refine .inr ⟨rfl, .inl ⟨.slice (some ad) (n+m) c,_,own',?_,Q,B⟩⟩;rw[d];simp[Builtin.append_,qn hu,qn k,sizeOf,typeInfo,i,Builtin.lenOf,b,C,q1k ys 0 w v (fun j T=>by simpa using O j T)]
 ·obtain⟨hb,B⟩:=I Yu;have hd:St W0 own w.drew:=l.drawn _;have C:=q41 (P:=P) (cap:=c2) A q (u w.drew hd);have H:=q41 (P:=P) (cap:=c) G S (U w.drew hd);have D:¬(281474976710656<Builtin.nextslicecap (n+m) c*g.bytes):=by have:=growslice_fits (bytes:=g.bytes) (show c<n+m by omega) hb;omega
  have F:g.bytes≠0:=Yu;have r:n+m<=(Question.appendCap (n+m) c e).cut (w.tape w.drawn (.appendCap (n+m) c e)):=yK _ _;obtain⟨o2,R,E⟩:=B w.heap.size _ l.size r;refine .inr ⟨rfl, .inl ⟨_,_,_,?_,R _ (hd.push (.cells (cs++ys++(List.replicate ((Question.appendCap (n+m) c e).cut (w.tape w.drawn (.appendCap (n+m) c e))-(n+m)) z.cells.toList).flatten).toArray e) (p:=fun o=>o=Obj.cells (cs++ys++(List.replicate ((Question.appendCap (n+m) c e).cut (w.tape w.drawn (.appendCap (n+m) c e))-(n+m)) z.cells.toList).flatten).toArray e) rfl),E⟩⟩;rw[d];have M:=q4l (zs:=z.cells) ((Question.appendCap (n+m) c e).cut (w.tape w.drawn (.appendCap (n+m) c e))-(n+m));simp[Builtin.append_,qn hu,qn k,sizeOf,typeInfo,zeroValue,i,Y,Builtin.lenOf,b,D,F,Question.forced,C,H,newRow];simp only[Builtin.zeroCells,M];generalize hX:(List.replicate ((Question.appendCap (n+m) c e).cut (w.tape w.drawn (.appendCap (n+m) c e))-(n+m)) z.cells.toList).flatten=X;have L:cs.toArray++(ys.toArray++X.toArray)=(cs++(ys++X)).toArray:=Yw;rw[L];rfl
theorem qeB{s x:Operand}{t tx:TypeId}{e:TypeId}{b:TypeInfo}{z:Value}{a:j9}{n c:Nat}{m:Int}{k:IntKind}(N:o.op= .call ⟨.builtin .append,#[s,x],#[t,tx]⟩)(O:ev f s= .slice a n c)(u:ev f x= .int .i64 m)
  (hu:P.underlying t=some (.slice e)) (r:P.underlying tx=some (.int k)) (l:P.info? e=some b) (S:b.zero=some z) (M:z.cells.size=b.size/\0<b.size/\0<b.bytes) (C:St W0 own w)
  (h:qsq W0 own e b.bytes z.cells.toList a n c m K):q6B P f o w own W0 K false:=by
 rcases h.h with ⟨rfl,hle,B⟩|⟨rfl,rfl,m',rfl,g,hb,B⟩
 ·have d:execOp (ev f) o=(do pure (.value (<-Builtin.append_ #[t,tx] o.type #[.slice a n c, .int .i64 0]))):=by
   simp[execOp,N,resolve,invoke,builtin,O,u]
  refine .inr ⟨rfl, .inl ⟨.slice a n c,w,own,?_,C,B⟩⟩;rw[d];have I:IntKind.i64.wrap 0=0:=Yv;cases a <;>simp[Builtin.append_,qn hu,qn r,sizeOf,typeInfo,l,asInt,asIntOf,I,hle,storeCells]
 have d:execOp (ev f) o=(do pure (.value (<-Builtin.append_ #[t,tx] o.type #[.slice a 0 0, .int .i64 m']))):=by
  simp[execOp,N,resolve,invoke,builtin,O,u]
 have hm':m'<=m'*b.bytes:=Nat.le_mul_of_pos_right _ M.2.2;have hw:=qol m' Yu;have hd:St W0 own w.drew:=C.drawn _;have E:=q41 (P:=P) (sz:=b.size) (n:=0) (a:=a) (cap:=0) (cs:= []) (w:=w.drew) Yw (fun _=>rfl) (fun ad _ j v R=>by simp at R);have y:¬(281474976710656<Builtin.nextslicecap m' 0*b.bytes):=by rw[nextslicecap_zero g];omega
 have A:¬((281474976710656:Int)<(m':Int)*(b.bytes:Int)):=by rw[<-Yd];omega
 have D:b.bytes≠0:=Yu;have F:m'*b.size≠0:=Nat.ne_of_gt (Nat.mul_pos g M.2.1);have G:¬(9223372036854775807<(m':Int)):=Yu;have i:m'<=(Question.appendCap m' 0 e).cut (w.tape w.drawn (.appendCap m' 0 e)):=yK _ _;refine .inr ⟨rfl, .inl ⟨_,_,_,?_,hd.push (.cells (List.replicate ((Question.appendCap m' 0 e).cut (w.tape w.drawn (.appendCap m' 0 e))) z.cells.toList).flatten.toArray e) (p:=fun o=>o=Obj.cells (List.replicate ((Question.appendCap m' 0 e).cut (w.tape w.drawn (.appendCap m' 0 e))) z.cells.toList).flatten.toArray e) rfl,B w.heap.size _ C.size i⟩⟩;rw[d];have J:=q4l (zs:=z.cells) m';have L:=q4l (zs:=z.cells) ((Question.appendCap m' 0 e).cut (w.tape w.drawn (.appendCap m' 0 e))-m');have H:m'≠0:=Yu;have Q:¬((m':Int)<0):=Yu;simp[Builtin.append_,qn hu,qn r,sizeOf,typeInfo,zeroValue,l,S,asInt,asIntOf,hw,A,y,D,H,Q,G,Question.forced,E,newRow];rw[if_neg F];simp only[Builtin.zeroCells,J,L];generalize (Question.appendCap m' 0 e).cut (w.tape w.drawn (.appendCap m' 0 e))=q at*;have u:(List.replicate m' z.cells.toList).flatten.toArray++(List.replicate (q-m') z.cells.toList).flatten.toArray=(List.replicate q z.cells.toList).flatten.toArray:=by
  have e:q=m'+(q-m'):=Yu
  conv=>rhs;rw[e]
  rw[<-List.replicate_append_replicate,zY];simp
 rw[u];rfl
theorem qcZ{x:Operand}{t:TypeId}{e:TypeId}{r:TypeInfo}{z:Value}(p:o.op= .call ⟨.builtin .clear,#[x],#[t]⟩)(hu:P.underlying t=some (.slice e))(g:P.info? e=some r)(y:r.zero=some z)(d:St W0 own w)
  (h:XO P W0 f own (.clr z.cells.toList x) K):q6B P f o w own W0 K false:=by
 simp only[XO] at h
 split at h
 ·rename_i a n c k;obtain⟨s,own',q,v⟩:=h.h;have b:execOp (ev f) o=(do pure (.value (<-Builtin.clear_ #[t] o.type #[.slice (some a) n c]))):=by
   simp[execOp,p,resolve,invoke,builtin,k]
  refine .inr ⟨rfl, .inl ⟨.tuple #[],q6a w a 0 (List.replicate n z.cells.toList).flatten,own',?_,(q w d).2,v⟩⟩;rw[b];have l:=q4l (zs:=z.cells) n;cases n with
  |zero=>simp[Builtin.clear_,qn hu,q6a]
  |succ n=>
   have i:=q1k (P:=P) (a:=a) (List.replicate (n+1) z.cells.toList).flatten 0 w s (fun j u=>by simpa using (q w d).1 j u);have m:(Builtin.zeroCells z.cells (n+1)).toList=(List.replicate (n+1) z.cells.toList).flatten:=by unfold Builtin.zeroCells;rw[l]
   simp[Builtin.clear_,qn hu,zeroValue,typeInfo,g,y,m,i]
 ·rename_i n c k;have b:execOp (ev f) o=(do pure (.value (<-Builtin.clear_ #[t] o.type #[.slice none n c]))):=by
   simp[execOp,p,resolve,invoke,builtin,k]
  refine .inr ⟨rfl, .inl ⟨.tuple #[],w,own,?_,d,h⟩⟩;rw[b];simp[Builtin.clear_,qn hu]
 ·exact h.elim
theorem q8b{c:Call}{io:IOp}(q:o.op= .call c)(d:q5S P c=io)(r:St W0 own w)(h:XO P W0 f own io K):q6B P f o w own W0 K (qfX io):=by
 obtain⟨cal,args,D⟩:=c;obtain⟨args⟩:=args;obtain⟨D⟩:=D;unfold q5S at d;simp only at d
 split at d
 ·rename_i k
  split at d
  ·rename_i fn p
   split at d
   ·split at d
    ·rename_i i;simp only[zu,decide_eq_true_eq,ZD] at i
     split at d
     ·rename_i x;subst d;simp only[XO] at h
      split at h
      ·rename_i b j;refine qp r (v:= .int .u64 b) ?_ h;simp[execOp,q,resolve,q5H,Deferred.ofValue,invoke,callFunc,p,i.1.1,i.1.2,i.2,qeW i.2,j,qly]
      ·exact h.elim
     ·subst d;exact(qt h).elim
    ·split at d
     ·rename_i i;simp only[zu,decide_eq_true_eq,ZD] at i
      split at d
      ·rename_i x;subst d;simp only[XO] at h
       split at h
       ·rename_i n j;refine qp r (v:= .float .f64 n.toNat) ?_ h;simp[execOp,q,resolve,q5H,Deferred.ofValue,invoke,callFunc,p,i.1.1,i.1.2,i.2,qeX i.2,j,qmq]
       ·exact h.elim
      ·subst d;exact(qt h).elim
     ·split at d
      ·rename_i i;simp only[zu,decide_eq_true_eq,ZD] at i
       split at d
       ·rename_i x y;subst d;simp only[XO] at h
        split at h
        ·rename_i a b j u;refine qp r (v:= .float .f64 (q5W true a b)) ?_ h;simp[execOp,q,resolve,q5H,Deferred.ofValue,invoke,callFunc,p,i.1.1,i.1.2,i.2,qie i.2,j,u,qiK]
        ·exact h.elim
       ·subst d;exact(qt h).elim
      ·split at d
       ·rename_i i;simp only[zu,decide_eq_true_eq,ZD] at i
        split at d
        ·rename_i x y;subst d;simp only[XO] at h
         split at h
         ·rename_i a b j u;refine qp r (v:= .float .f64 (q5W false a b)) ?_ h;simp[execOp,q,resolve,q5H,Deferred.ofValue,invoke,callFunc,p,i.1.1,i.1.2,i.2,qid i.2,j,u,qiJ]
         ·exact h.elim
        ·subst d;exact(qt h).elim
       ·split at d
        ·rename_i i;simp only[zu,decide_eq_true_eq,ZD] at i
         split at d
         ·rename_i x y;subst d;simp only[XO] at h
          split at h
          ·rename_i s c j u;refine qp r (v:= .int .i64 (qhv s c)) ?_ h;simp[execOp,q,resolve,q5H,Deferred.ofValue,invoke,callFunc,p,i.1.1,i.1.2,i.2,qic i.2,j,u,qmB]
          ·exact h.elim
         ·subst d;exact(qt h).elim
        ·subst d;exact(qt h).elim
   ·rename_i i;subst d;simp only[XO] at h;simp only[Zd,not_or,yi,beq_eq_false_iff_ne,Option.isNone_eq_false_iff] at i;have H:fn.body≠none:=by intro e;simp[e] at i
    refine .inr ⟨rfl, .inr (.inr (.inl ⟨k,(args.map (ev f)).toArray,?_,by simpa using h⟩))⟩;simp[execOp,q,resolve,ev,Deferred.ofValue,invoke,callFunc,p,i.1,H]
  ·subst d;exact(qt h).elim
 ·split at d
  ·rename_i x t
   split at d
   ·rename_i e hu;subst d;simp only[XO] at h
    split at h
    ·rename_i b n c j;refine qp r (v:= .int .i64 n) ?_ h;simp[execOp,q,resolve,invoke,builtin,Builtin.len_,qn hu,goInt,j]
    ·exact h.elim
   ·rename_i hu;subst d;simp only[XO] at h
    split at h
    ·rename_i s j;refine qp r (v:= .int .i64 s.size) ?_ h;simp[execOp,q,resolve,invoke,builtin,Builtin.len_,qn hu,goInt,j]
    ·exact h.elim
   ·subst d;exact(qt h).elim
  ·subst d;exact(qt h).elim
 ·split at d
  ·rename_i x t
   split at d
   ·rename_i e hu;subst d;simp only[XO] at h
    split at h
    ·rename_i a n c j;refine qp r (v:= .int .i64 c) ?_ h;simp[execOp,q,resolve,invoke,builtin,Builtin.cap_,qn hu,goInt,j]
    ·exact h.elim
   ·subst d;exact(qt h).elim
  ·subst d;exact(qt h).elim
 ·split at d
  ·rename_i s x t tx
   split at d
   ·rename_i e e2 hu C
    split at d
    ·rename_i G A
     split at d
     ·rename_i z E
      split at d
      ·rename_i i;subst d;simp only[XO] at h
       split at h
       ·rename_i a n c a2 m c2 F j;exact qae q F j hu C A E i r h
       ·exact h.elim
      ·subst d;exact(qt h).elim
     ·subst d;exact(qt h).elim
    ·subst d;exact(qt h).elim
   ·rename_i e k hu C
    split at d
    ·rename_i G A
     split at d
     ·rename_i z E
      split at d
      ·rename_i i;subst d;simp only[XO] at h
       split at h
       ·rename_i a n c m F j;exact qeB q F j hu C A E i r h
       ·exact h.elim
      ·subst d;exact(qt h).elim
     ·subst d;exact(qt h).elim
    ·subst d;exact(qt h).elim
   ·subst d;exact(qt h).elim
  ·subst d;exact(qt h).elim
 ·split at d
  ·rename_i x t
   split at d
   ·rename_i e hu
    split at d
    ·rename_i G A
     split at d
     ·rename_i z E;subst d;exact qcZ q hu A E r h
     ·subst d;exact(qt h).elim
    ·subst d;exact(qt h).elim
   ·subst d;exact(qt h).elim
  ·subst d;exact(qt h).elim
 ·rename_i g;subst d;simp only[XO] at h
  split at h
  ·rename_i k first cap j;obtain⟨B,i⟩:=h.h;unfold okF at B
   split at B
   ·rename_i fn p;simp only[zu,yx,beq_eq_false_iff_ne,Zv] at B;obtain⟨J,bd,hb⟩:=B;refine .inr ⟨rfl, .inr (.inr (.inl ⟨k,(first.toList++args.map (ev f)++cap.toList).toArray,?_,by simpa using i⟩))⟩;simp[execOp,q,resolve,j,Deferred.ofValue,invoke,callFunc,p,J,hb]
   ·cases B
  ·rename_i l first cap j;obtain⟨k,tmps,assign,body,u,I⟩:=h.h w r;refine .inr ⟨rfl, .inr (.inr (.inr ⟨l,k,tmps,assign,body,?_,I⟩))⟩;have e:(first.toList++args.map (ev f)).toArray=first++(args.map (ev f)).toArray:=Yw;rw[e] at u;simp[execOp,q,resolve,j,Deferred.ofValue,invoke]
   simpa using u
  ·exact h.elim
 ·split at d
  ·rename_i x y;subst d;simp only[XO] at h
   split at h
   ·rename_i k m L n j u;refine qp r ?_ h.h;simp[execOp,q,resolve,invoke,builtin,Builtin.min_,j,u,Builtin.min2];omega
   ·exact h.elim
  ·subst d;exact(qt h).elim
 ·split at d
  ·rename_i x y;subst d;simp only[XO] at h
   split at h
   ·rename_i k m L n j u;refine qp r ?_ h.h;simp[execOp,q,resolve,invoke,builtin,Builtin.max_,j,u,Builtin.max2];omega
   ·exact h.elim
  ·subst d;exact(qt h).elim
 ·subst d;exact(qt h).elim
theorem q76{t:TypeId}{a b:Bool}(hu:P.underlying t=some .bool):(Op.equal t (.bool a) (.bool b)).run P w= .ok (decide (a=b)) w:=by
 show(Op.equalIn (9999+1) t (.bool a) (.bool b)).run P w=_;rw[Op.equalIn];simp only[Sem.run_bind,qn hu,Result.andThen_ok];simp only[Sem.run_pure,Bool.beq_eq_decide_eq]
theorem q6F{t:TypeId}{a b:Bool}:binOp .eql t (.bool a) (.bool b)=(do pure (.bool (<-Op.equal t (.bool a) (.bool b)))):=rfl
theorem q6G{t:TypeId}{a b:Bool}:binOp .neq t (.bool a) (.bool b)=(do pure (.bool (!(<-Op.equal t (.bool a) (.bool b))))):=rfl
theorem q66{b pos:Nat}{s:ByteArray}{t:TypeId}(a:w.heap[b]? =some (.stringIter s pos)):(pos<s.size->(Instr.next (.pointer (some ⟨b,0,none⟩)) true t).run P w= .ok (.tuple #[.bool true, .int .i64 pos, .int .i32 (Utf8.decode s pos).1]) {w with heap:=w.heap.setIfInBounds b (.stringIter s (pos+(Utf8.decode s pos).2))})/\
  (¬pos<s.size->(Instr.next (.pointer (some ⟨b,0,none⟩)) true t).run P w= .ok (.tuple #[.bool false]) w):=by
 refine⟨fun h=>?_,fun h=>?_⟩ <;>simp[Instr.next,getObj,setObj,Sem.run,a,h,goInt]
theorem qaj{t:TypeId}{ms:Array (String×TypeId)}(hu:P.underlying t=some (.interface ms)):(Op.equal t .nilIface .nilIface).run P w= .ok true w/\∀tt v,(Op.equal t (.iface tt v) .nilIface).run P w= .ok false w:=by
 refine⟨?_,fun tt v=>?_⟩
 ·show(Op.equalIn (9999+1) t _ _).run P w=_;rw[Op.equalIn];simp only[Sem.run_bind,qn hu,Result.andThen_ok];rfl
 ·show(Op.equalIn (9999+1) t _ _).run P w=_;rw[Op.equalIn];simp only[Sem.run_bind,qn hu,Result.andThen_ok];rfl
theorem q0Y{t:TypeId}{v:Value}(h:v= .nilIface\/∃tt x,v= .iface tt x):binOp .eql t v .nilIface=(do pure (.bool (<-Op.equal t v .nilIface)))/\binOp .neq t v .nilIface=(do pure (.bool (!(<-Op.equal t v .nilIface)))):=by
 rcases h with rfl|⟨_,_,rfl⟩ <;>exact⟨rfl,rfl⟩
theorem qef{l l':List UInt8}:(l==l')=decide (l=l'):=by by_cases h:l=l' <;>simp[h]
def qfD(P:Program)(k:Nat)(t:TypeId):Prop:=
 match k,P.underlying t with
 |0,some (.slice _)|1,some (.pointer _)|2,some (.func _ _ _)|3,some (.map _ _)=>True
 |_,_=>False
theorem qmS{k:Nat}{t:TypeId}{v1 v2:Value}{b:Bool}(hb:qmR k v1 v2=some b)(g:qfD P k t):(Op.equal t v1 v2).run P w= .ok b w/\(∀op x y,(eqGuard op t x y v1 v2).run P w= .ok () w)/\
  binOp .eql t v1 v2=(do pure (.bool (<-Op.equal t v1 v2)))/\binOp .neq t v1 v2=(do pure (.bool (!(<-Op.equal t v1 v2)))):=by
 have c:∀d,P.underlying t=some d->(Op.equal t v1 v2).run P w=(do
   match d,v1,v2 with
   | .slice _, .slice none _ _, .slice b _ _=>pure b.isNone
   | .slice _, .slice _ _ _, .slice none _ _=>pure false
   | .pointer _, .pointer none, .pointer b=>pure b.isNone
   | .pointer _, .pointer _, .pointer none=>pure false
   | .map _ _, .map none, .map b=>pure b.isNone
   | .map _ _, .map _, .map none=>pure false
   | .func _ _ _, .nilFunc, .nilFunc=>pure true
   | .func _ _ _, .func _ _ _, .nilFunc=>pure false
   |_,_,_=>Op.equal t v1 v2:Sem Bool).run P w:=by
  intro d hd
  split
  all_goals first|rfl|show(Op.equalIn (9999+1) t _ _).run P w=_;rw[Op.equalIn];simp only[Sem.run_bind,qn hd,Result.andThen_ok]
 unfold qfD at g
 split at g
 ·rename_i e hu
  match v1,v2,hb with
  | .slice a _ _, .slice none _ _,hb=>
   simp only[qmR,Option.some.injEq] at hb;refine⟨?_,fun op x y=>by cases op <;>simp[eqGuard],rfl,rfl⟩;rw[c _ hu,<-hb];cases a <;>simp
 ·rename_i e hu
  match v1,v2,hb with
  | .pointer a, .pointer none,hb=>
   simp only[qmR,Option.some.injEq] at hb;refine⟨?_,fun op x y=>by cases op <;>simp[eqGuard],rfl,rfl⟩;rw[c _ hu,<-hb];cases a <;>simp
 ·rename_i h i e3 hu
  match v1,v2,hb with
  | .func _ _ _, .nilFunc,hb=>
   simp only[qmR,Option.some.injEq] at hb;refine⟨?_,fun op x y=>by cases op <;>simp[eqGuard],rfl,rfl⟩;rw[c _ hu,<-hb];simp
  | .nilFunc, .nilFunc,hb=>
   simp only[qmR,Option.some.injEq] at hb;refine⟨?_,fun op x y=>by cases op <;>simp[eqGuard],rfl,rfl⟩;rw[c _ hu,<-hb];simp
 ·rename_i h i hu
  match v1,v2,hb with
  | .map a, .map none,hb=>
   simp only[qmR,Option.some.injEq] at hb;refine⟨?_,fun op x y=>by cases op <;>simp[eqGuard],rfl,rfl⟩;rw[c _ hu,<-hb];cases a <;>simp
 ·exact g.elim
theorem q26{k:TypeId}{a:Nat}(h:qis P k=some a):(a=0/\∃j,P.underlying k=some (.int j))\/(a=2/\P.underlying k=some .string):=by
 unfold qis at h
 split at h
 ·rename_i j hu;exact .inl ⟨(Option.some.inj h).symm,_,hu⟩
 ·rename_i hu;exact .inr ⟨(Option.some.inj h).symm,hu⟩
 ·cases h
theorem q3p{k:TypeId}{a n:Nat}{e:Bool}{v:Value}(h:qis P k=some a):(Instr.checkKey e (n+1) k v).run P w= .ok () w:=by
 rcases q26 h with ⟨_,j,hu⟩|⟨_,hu⟩ <;>simp[Instr.checkKey,qn hu]
theorem qkd{a b:ByteArray}:(a==b)=decide (a.data.toList=b.data.toList):=by
 obtain⟨x⟩:=a;obtain⟨y⟩:=b;show(x==y)=_
 by_cases h:x=y
 ·subst h;simp
 ·rw[decide_eq_false (fun e=>h (ZM.1 e))];simp[h]
theorem q8U{a b:Value}{r:Bool}(h:q1n 0 a b=some r):∃j x y,a= .int j x/\b= .int j y/\r=decide (x=y):=by
 cases a <;>cases b <;>simp only[q1n] at h <;>try cases h
 rename_i j x j' y
 split at h
 ·rename_i c;have:=qfk c;subst this;exact⟨_,_,_,rfl,rfl,(Option.some.inj h).symm⟩
 ·cases h
theorem q8V{a b:Value}{r:Bool}(h:q1n 2 a b=some r):∃x y,a= .string x/\b= .string y/\r=decide (x.data.toList=y.data.toList):=by
 cases a <;>cases b <;>simp only[q1n] at h <;>try cases h
 exact⟨_,_,rfl,rfl,rfl⟩
theorem q4z{T:TypeDesc}{c:Nat}{a b:Value}{r:Bool}(d:(c=0/\∃j,T= .int j)\/(c=2/\T= .string))(h:q1n c a b=some r):Instr.sameNow T a b=some r:=by
 rcases d with ⟨rfl,j,rfl⟩|⟨rfl,rfl⟩
 ·obtain⟨j',x,y,rfl,rfl,rfl⟩:=q8U h;simp only[Instr.sameNow,if_true]
  congr 1
 ·obtain⟨x,y,rfl,rfl,rfl⟩:=q8V h;simp only[Instr.sameNow,qkd]
theorem q67{c n:Nat}{a b:Value}(g:c=0\/c=2)(h:q1n c a b=some true):Instr.sameBits (n+1) b a=true/\b=a:=by
 rcases g with rfl|rfl
 ·obtain⟨j',x,y,rfl,rfl,e⟩:=q8U h;have e:=of_decide_eq_true e.symm;subst e;exact⟨by simp[Instr.sameBits],rfl⟩
 ·obtain⟨x,y,rfl,rfl,e⟩:=q8V h;have e:=of_decide_eq_true e.symm;have d:x=y:=by
   cases x;cases y;simp only[ByteArray.mk.injEq];exact ZM.1 e
  subst d;exact⟨by simp[Instr.sameBits,qkd],rfl⟩
theorem qaG{j j':IntKind}{a b:Value}:Instr.sameNow (.int j) a b=Instr.sameNow (.int j') a b:=by
 cases a <;>cases b <;>rfl
theorem q1T{T:TypeDesc}{a:Nat}{key:Value}(b:(a=0/\∃j,T= .int j)\/(a=2/\T= .string))(v:Value):∀(es:List MapEntry) (j:Nat) (r:Option Value),q2F a key (es.map fun e=>(e.key,e.val))=some r->
  (r=none/\Instr.findNow T key es j=some none/\q6T a key v (es.map fun e=>(e.key,e.val))=(es.map fun e=>(e.key,e.val))++ [(key,v)])\/
  (∃i x e,r=some x/\Instr.findNow T key es j=some (some (j+i,x))/\es[i]? =some e/\q1n a key e.key=some true/\q6T a key v (es.map fun e=>(e.key,e.val))=(es.map fun e=>(e.key,e.val)).set i (key,v))
 | [],j,r,h=> .inl ⟨(Option.some.inj h).symm,rfl,rfl⟩
 |e::es,j,r,h=>by
  simp only[zF] at h ⊢;unfold q2F at h;unfold q6T
  split at h
  ·rename_i he;refine .inr ⟨0,e.val,e,(Option.some.inj h).symm,?_,rfl,he,?_⟩
   ·unfold Instr.findNow;rw[q4z b he];rfl
   ·rw[he];rfl
  ·rename_i he;rw[he]
   rcases q1T b v es (j+1) r h with ⟨c,d,g⟩|⟨i,x,e',c,d,g,k,l⟩
   ·refine .inl ⟨c,?_,by simp only[g,zp]⟩;unfold Instr.findNow;rw[q4z b he];exact d
   ·refine .inr ⟨i+1,x,e',c,?_,by simpa using g,k,by simp only[l,List.set_cons_succ]⟩;unfold Instr.findNow;rw[q4z b he,<-show j+1+i=j+(i+1) by omega];exact d
  ·cases h
theorem q5I{k:TypeId}{b:Nat}{key:Value}{es:List MapEntry}{q:Option (Nat×Value)}(c:qis P k=some b)(h:∀T,((b=0/\∃j,T=TypeDesc.int j)\/(b=2/\T= .string))->Instr.findNow T key es 0=some q):(Instr.findKey k key es).run P w= .ok q w:=by
 rcases q26 c with ⟨a,j,hu⟩|⟨a,hu⟩
 ·have:=h _ (.inl ⟨a,j,rfl⟩);simp[Instr.findKey,qn hu,this]
 ·have:=h _ (.inr ⟨a,rfl⟩);simp[Instr.findKey,qn hu,this]
theorem qbx{k:TypeId}{c:Nat}{key:Value}{es:Array MapEntry}{r:Option Value}(m:qis P k=some c)(h:q2F c key (es.toList.map fun e=>(e.key,e.val))=some r)(v:Value):
  (r=none/\(Instr.findKey k key es.toList).run P w= .ok none w/\q6T c key v (es.toList.map fun e=>(e.key,e.val))=(es.toList.map fun e=>(e.key,e.val))++ [(key,v)])\/
  (∃i x e,r=some x/\(Instr.findKey k key es.toList).run P w= .ok (some (i,x)) w/\es[i]? =some e/\e.key=key/\(∀n,Instr.sameBits (n+1) e.key key=true)/\q6T c key v (es.toList.map fun e=>(e.key,e.val))=(es.toList.map fun e=>(e.key,e.val)).set i (key,v)):=by
 have p:c=0\/c=2:=by rcases q26 m with ⟨h,_⟩|⟨h,_⟩ <;>simp[h]
 have b:∃T,(c=0/\∃j,T=TypeDesc.int j)\/(c=2/\T= .string):=by
  rcases q26 m with ⟨h,j,_⟩|⟨h,_⟩
  ·exact⟨.int j, .inl ⟨h,j,rfl⟩⟩
  ·exact⟨.string, .inr ⟨h,rfl⟩⟩
 obtain⟨T0,b⟩:=b
 rcases q1T b v es.toList 0 r h with ⟨d,_,t⟩|⟨i,x,e,d,q,t,g,B⟩
 ·refine .inl ⟨d,q5I m fun T s=>?_,t⟩
  rcases q1T s v es.toList 0 r h with ⟨_,q,_⟩|⟨i,x,e,g,_⟩
  ·exact q
  ·rw[d] at g;cases g
 ·refine .inr ⟨i,x,e,d,q5I m fun T s=>?_,by rw[<-Z7];exact t,(q67 (n:=0) p g).2,fun n=>(q67 p g).1,B⟩
  rcases q26 m with ⟨z,j0,_⟩|⟨z,_⟩
  ·rcases s with ⟨_,j,rfl⟩|⟨y,_⟩
   ·rcases b with ⟨_,j',rfl⟩|⟨y,_⟩
    ·rcases q1T (T:= .int j) (.inl ⟨z,j,rfl⟩) v es.toList 0 r h with ⟨u,_,_⟩|⟨i',x',e',u,h7,h8,h9,h10⟩
     ·rw[d] at u;cases u
     ·have A:∀(l:List MapEntry) (n:Nat),Instr.findNow (.int j) key l n=Instr.findNow (.int j') key l n:=by
       intro l
       induction l with
       |nil=>intro n;rfl
       |cons a l C=>intro n;unfold Instr.findNow;rw[C,qaG (j:=j) (j':=j')]
      rw[A,q];simp
    ·omega
   ·omega
  ·rcases s with ⟨y,_⟩|⟨_,rfl⟩
   ·omega
   ·rcases b with ⟨y,_⟩|⟨_,rfl⟩
    ·omega
    ·rw[q];simp
theorem q7i{t k e:TypeId}{q:Nat}{z key:Value}{ok:Bool}{x:Option Nat}{es:Array MapEntry}{r:Option Value}(hu:P.underlying t=some (.map k e))(p:qis P k=some q)(v:q8D P e=some z)
  (u:(x=none/\es= #[])\/∃b c,x=some b/\w.heap[b]? =some (.map es c)) (h:q2F q key (es.toList.map fun e=>(e.key,e.val))=some r):(Instr.lookup t (.map x) key ok).run P w= .ok (qor z ok r) w:=by
 have a:(r=none/\(Instr.findKey k key es.toList).run P w= .ok none w)\/∃i x,r=some x/\(Instr.findKey k key es.toList).run P w= .ok (some (i,x)) w:=by
  rcases qbx (w:=w) p h .nilIface with ⟨j,l,_⟩|⟨i,x,_,j,l,_⟩
  ·exact .inl ⟨j,l⟩
  ·exact .inr ⟨i,x,j,l⟩
 have m:∀e,(Instr.checkKey e 10000 k key).run P w= .ok () w:=fun e=>q3p (n:=9999) p
 have g:=q4m (w:=w) v;have d:=qn (w:=w) hu
 rcases u with ⟨rfl,rfl⟩|⟨b,c,rfl,hb⟩
 ·have s:r=none:=(Option.some.inj h).symm;subst s;have a:(Instr.findKey k key []).run P w= .ok none w:=by
   rcases a with ⟨_,a⟩|⟨i,x,h,_⟩
   ·exact a
   ·cases h
  cases ok <;>simp[Instr.lookup,d,m,a,g,qor]
 ·rcases a with ⟨rfl,a⟩|⟨i,x,rfl,a⟩
  ·cases ok <;>simp[Instr.lookup,d,getObj,Sem.run,hb,m,a,g,qor]
  ·cases ok <;>simp[Instr.lookup,d,getObj,Sem.run,hb,m,a,qor]
theorem q43{t k e:TypeId}{j:Nat}{key v:Value}{b c:Nat}{es:Array MapEntry}{r:Option Value}(hu:P.underlying t=some (.map k e))(p:qis P k=some j)
  (hb:w.heap[b]? =some (.map es c)) (h:q2F j key (es.toList.map fun e=>(e.key,e.val))=some r):
  ∃a s,(Instr.mapUpdate t (.map (some b)) key v).run P w= .ok () {w with heap:=w.heap.setIfInBounds b (.map a s)}/\a.toList.map (fun e=>(e.key,e.val))=q6T j key v (es.toList.map fun e=>(e.key,e.val)):=by
 have m:=q3p (w:=w) (n:=9999) (e:=false) (v:=key) p
 rcases qbx (w:=w) p h v with ⟨_,d,u⟩|⟨i,x,e,_,d,l,h5,y,z⟩
 ·refine⟨es.push {key,val:=v,born:=c},c+1,?_,by simp[u]⟩;simp[Instr.mapUpdate,qn hu,getObj,setObj,Sem.run,hb,m,d]
 ·refine⟨es.modify i fun e=>{e with key:=key,val:=v},c,?_,?_⟩
  ·simp[Instr.mapUpdate,qn hu,getObj,setObj,Sem.run,hb,m,d,l,Instr.keyThatStays,y 9999]
  ·rw[z];refine Zm fun n=>?_
   rw[zI,zx,Z7,ZR,zi,Array.length_toList,zI,Z7]
   by_cases q:i=n
   ·subst q;have g:=(Zg.1 l).1;simp[g]
   ·simp[q]
theorem q2h{io:IOp}(g:q1M P o.op=io)(u:St W0 own w)(h:XO P W0 f own io K):q6B P f o w own W0 K (qfX io):=by
 cases A:o.op <;>rw[A] at g <;>(try simp only[q1M] at g)
 case move x=>subst g;exact qp u (v:=ev f x) (by simp[execOp,A]) (Mv.h (K:=fun v=>K v own) h)
 case assign x=>subst g;exact qp u (v:=ev f x) (by simp[execOp,A]) (Mv.h (K:=fun v=>K v own) h)
 case pick c x y=>
  subst g;simp only[XO] at h
  split at h
  ·rename_i b V;exact qp u (v:=if b then ev f x else ev f y) (by cases b <;>simp[execOp,A,V,asBool]) h.h
  ·exact h.elim
 case binOp op t x y t'=>
  unfold qft at g
  split at g
  ·subst g;simp only[XO] at h
   split at h
   ·rename_i q F;exact qaf A q F u h
   ·exact h.elim
  ·split at g <;>subst g
   ·simp only[XO] at h
    split at h
    ·rename_i a b q F;exact qp u (v:= .bool (decide (a.toList=b.toList))) (by simp[execOp,A,eqGuard,q,F,binOp,Op.stringOp,qef]) h
    ·exact h.elim
   ·simp only[XO] at h
    split at h
    ·rename_i a b q F;exact qp u (v:= .bool (!decide (a.toList=b.toList))) (by simp[execOp,A,eqGuard,q,F,binOp,Op.stringOp,qef]) h
    ·exact h.elim
   ·simp only[XO] at h
    split at h
    ·rename_i a b q F;obtain⟨g,B⟩:=h.h;have N:¬(9223372036854775807<(a.size:Int)+(b.size:Int)):=Yu;exact qp u (v:= .string (a++b)) (by simp[execOp,A,eqGuard,q,F,binOp,Op.stringOp,N]) B
    ·exact h.elim
   ·exact(qt h).elim
  iterate 4
   ·rename_i hu;have aw:∀neg k,qfD P k t->XO P W0 f own (.nilq neg k x y) K->(op=(bif neg then .neq else .eql))->q6B P f o w own W0 K true:=by
     intro neg k B h ae;simp only[XO] at h
     split at h
     ·rename_i b hb;obtain⟨hE,Q,E,S⟩:=qmS (w:=w) hb B;refine qp u (v:= .bool (bif neg then !b else b)) ?_ h;cases neg <;>simp only[cond_true,cond_false] at ae <;>subst ae <;>simp[execOp,A,Q,E,S,hE]
     ·exact h.elim
    split at g <;>subst g
    ·exact aw false _ (by simp[qfD,hu]) h rfl
    ·exact aw true _ (by simp[qfD,hu]) h rfl
    ·exact(qt h).elim
  iterate 2
   ·split at g
    ·rename_i ks aU
     split at g
     ·subst g;exact(qt h).elim
     ·rename_i aQ;have aJ:∀neg,XO P W0 f own (.ageq neg ks x y) K->(op=(bif neg then .neq else .eql))->q6B P f o w own W0 K true:=by
       intro neg h ae;simp only[XO] at h
       split at h
       ·rename_i xs ys q F;obtain⟨r,hr,T⟩:=h.h;have aE:q4O P t=some true:=by unfold q4O;simp_all
        have hE:=q4t 6 t ks 10000 (.agg xs) (.agg ys) r aU Yu ⟨fun _=>⟨_,rfl⟩,fun h=>by rw[aE] at h;cases h⟩ ⟨fun _=>⟨_,rfl⟩,fun h=>by rw[aE] at h;cases h⟩ hr w;have Q:=run_eqGuard_agg (P:=P) w op t x y xs ys (by simpa using aQ);refine qp u (v:= .bool (bif neg then !r else r)) ?_ T;have e1:(binOp .eql t (.agg xs) (.agg ys)).run P w= .ok (.bool r) w:=by rw[run_eql_struct,hE];rfl
        have e2:(binOp .neq t (.agg xs) (.agg ys)).run P w= .ok (.bool (!r)) w:=by rw[run_neq_struct,hE];rfl
        cases neg <;>simp only[cond_true,cond_false] at ae <;>subst ae <;>simp[execOp,A,q,F,Q,e1,e2]
       ·exact h.elim
      split at g <;>subst g
      ·exact aJ false h rfl
      ·exact aJ true h rfl
      ·exact(qt h).elim
    ·subst g;exact(qt h).elim
  ·have G:(∀a b:Nat,binOp op t (.float .f64 a) (.float .f64 b)=pure (.bool (q6z op (FloatKind.f64.format.order a b))))->XO P W0 f own (.fbin op x y) K->q6B P f o w own W0 K true:=by
    intro he h;simp only[XO] at h
    split at h
    ·rename_i a b q F;refine qp u (v:= .bool (q6z op (FloatKind.f64.format.order a b))) ?_ h.h;have Q:(eqGuard op t x y (ev f x) (ev f y)).run P w= .ok () w:=by
      unfold eqGuard;rw[q,F];cases op <;>simp
     rw[q,F] at Q;simp[execOp,A,q,F,Q,he]
    ·exact h.elim
   have O:(∀a b:Nat,binOp op t (.float .f64 a) (.float .f64 b)=(match floatBits op .f64 a b with|some r=>pure (.float .f64 r)|none=>(do pure (.float .f64 (<-choose (.nanBits .f64 a b))))))->
     XO P W0 f own (.flt op x y) K->q6B P f o w own W0 K false:=by
    intro he h;simp only[XO] at h
    split at h
    ·rename_i a b q F;have Q:(eqGuard op t x y (ev f x) (ev f y)).run P w= .ok () w:=by
      unfold eqGuard;rw[q,F];cases op <;>simp
     rw[q,F] at Q;cases au:floatBits op .f64 a b with
     |some r=>exact qp u (v:= .float .f64 r) (by simp[execOp,A,q,F,Q,he,au]) (h.h.1 r au)
     |none=>
      refine .inr ⟨rfl, .inl ⟨.float .f64 (Question.cut (.nanBits .f64 a b) (w.tape w.drawn (.nanBits .f64 a b))),{w with drawn:=w.drawn+1},own,by simp[execOp,A,q,F,Q,he,au,Question.forced],u.drawn _,h.h.2 au _ ?_⟩⟩;exact⟨_,_,ye _ Yv,ye _ Yv,rfl⟩
    ·exact h.elim
   split at g <;>subst g
   ·exact O (fun a b=>by simp only[binOp,Op.floatArith,floatBits];cases FloatKind.f64.format.add a b <;>simp) h
   ·exact O (fun a b=>by simp only[binOp,Op.floatArith,floatBits];cases FloatKind.f64.format.sub a b <;>simp) h
   ·exact O (fun a b=>by simp only[binOp,Op.floatArith,floatBits];cases FloatKind.f64.format.mul a b <;>simp) h
   ·exact O (fun a b=>by simp only[binOp,Op.floatArith,floatBits];cases FloatKind.f64.format.div a b <;>simp) h
   ·exact G (fun a b=>by simp[binOp,Op.floatCmp,q6z]) h
   ·exact G (fun a b=>by simp[binOp,Op.floatCmp,q6z]) h
   ·exact G (fun a b=>by simp[binOp,Op.floatCmp,q6z]) h
   ·exact G (fun a b=>by simp[binOp,Op.floatCmp,q6z]) h
   ·exact G (fun a b=>by simp[binOp,Op.floatCmp,q6z]) h
   ·exact G (fun a b=>by simp[binOp,Op.floatCmp,q6z]) h
   ·exact(qt h).elim
  ·rename_i hu
   split at g <;>subst g
   ·simp only[XO] at h
    split at h
    ·rename_i a b q F;exact qp u (v:= .bool (decide (a=b))) (by simp[execOp,A,eqGuard,q,F,q6F,q76 hu]) h
    ·exact h.elim
   ·simp only[XO] at h
    split at h
    ·rename_i a b q F;refine qp u (v:= .bool (decide (a≠b))) ?_ h;simp[execOp,A,eqGuard,q,F,q6G,q76 hu]
    ·exact h.elim
   ·exact(qt h).elim
  ·rename_i ms hu;obtain⟨e1,e2⟩:=qaj (w:=w) hu;have aq:ev f (.const .nilIface)= .nilIface:=rfl
   split at g <;>subst g
   ·simp only[XO] at h
    split at h
    ·rename_i q;exact qp u (v:= .bool (!false)) (by simp[execOp,A,eqGuard,q,(q0Y (t:=t) (.inl rfl)).1,e1,aq]) h
    ·rename_i tt v q;exact qp u (v:= .bool false) (by simp[execOp,A,eqGuard,q,(q0Y (t:=t) (.inr ⟨tt,v,rfl⟩)).1,e2,aq]) h
    ·exact h.elim
   ·simp only[XO] at h
    split at h
    ·rename_i q;exact qp u (v:= .bool (!true)) (by simp[execOp,A,eqGuard,q,(q0Y (t:=t) (.inl rfl)).2,e1,aq]) h
    ·rename_i tt v q;exact qp u (v:= .bool true) (by simp[execOp,A,eqGuard,q,(q0Y (t:=t) (.inr ⟨tt,v,rfl⟩)).2,e2,aq]) h
    ·exact h.elim
   ·exact(qt h).elim
  ·subst g;exact(qt h).elim
 case unOp op t x=>
  cases op <;>simp only at g
  case not=>
   subst g;simp only[XO] at h
   split at h
   ·rename_i b q;exact qp u (v:= .bool (!b)) (by simp[execOp,A,q,Op.unary]) h
   ·exact h.elim
  case neg=>
   split at g
   ·subst g;simp only[XO] at h
    split at h
    ·rename_i k m q;exact qp u (v:= .int k (k.wrap (0-m))) (by simp[execOp,A,q,Op.unary,Op.intArith]) h.h
    ·exact h.elim
   ·subst g;exact(qt h).elim
  all_goals(subst g;exact(qt h).elim)
 case convert s d x=>
  split at g
  ·rename_i k' k hs hd;subst g;simp only[XO] at h
   split at h
   ·rename_i k2 m q;exact qp u (v:= .int k (k.wrap m)) (by simp[execOp,A,q,convert,qn hs,qn hd,Conv.intToInt]) h.h
   ·exact h.elim
  ·rename_i k' hs hd;subst g;simp only[XO] at h
   split at h
   ·rename_i k2 m q;exact qp u (v:= .float .f64 (FloatKind.f64.nearest m)) (by simp[execOp,A,q,convert,qn hs,qn hd,Conv.intToFloat]) h
   ·exact h.elim
  ·rename_i k hs hd;subst g;simp only[XO] at h
   split at h
   ·rename_i b q;obtain⟨n,C,B⟩:=h.h;refine qp u (v:= .int k n) ?_ B;have V:=run_convert_float_int (P:=P) w s d .f64 k b n (by simp[hs]) hd C;simp[execOp,A,q,V]
   ·exact h.elim
  ·subst g;exact(qt h).elim
 case fieldAddr t x i=>
  split at g
  ·rename_i fs hu
   split at g
   ·rename_i fd D
    split at g
    ·rename_i n C;subst g;simp only[XO] at h
     split at h
     ·rename_i b off q;refine qp u (v:= .pointer (some ⟨b,off+fd.offset,none⟩)) ?_ h;simp[execOp,A,q,Instr.fieldAt,qn hu,D,Instr.sureAddr,fieldPlace,q0Q C,qM]
     ·exact h.elim
    ·subst g;exact(qt h).elim
   ·subst g;exact(qt h).elim
  ·subst g;exact(qt h).elim
 case field t x i=>
  split at g
  ·rename_i fs hu
   split at g
   ·rename_i fd D
    split at g
    ·rename_i n U C;subst g;simp only[XO] at h
     split at h
     ·rename_i cs q;refine qp u ?_ h.h;simp[execOp,A,q,Instr.field,qn hu,D,asAgg,part,q0K U,q0Q C];rw[<-ZM];simp[Array.toList_extract,List.extract_eq_take_drop]
     ·exact h.elim
    ·rename_i n U C;subst g;simp only[XO] at h
     split at h
     ·rename_i cs q;obtain⟨v,R,B⟩:=h.h;refine qp u ?_ B;rw[Z7] at R;simp[execOp,A,q,Instr.field,qn hu,D,asAgg,part,q0K U,R]
     ·exact h.elim
    ·subst g;exact(qt h).elim
   ·subst g;exact(qt h).elim
  ·subst g;exact(qt h).elim
 case indexAddr t x i=>
  split at g
  ·rename_i e hu
   split at g
   ·rename_i n C;subst g;simp only[XO] at h
    split at h
    ·rename_i a len cap k m q hi;obtain⟨j,b,off,rfl,Z,rfl,B⟩:=h.h;refine qp u ?_ B;simp[execOp,A,q,hi,Instr.indexAt,qn hu,asIntOf,q0Q C,qM,Z]
    ·exact h.elim
   ·subst g;exact(qt h).elim
  ·rename_i len e hu
   split at g
   ·rename_i n C;subst g;simp only[XO] at h
    split at h
    ·rename_i b off k m q hi;obtain⟨j,rfl,Z,B⟩:=h.h;refine qp u ?_ B;simp[execOp,A,q,hi,Instr.indexAt,qn hu,asIntOf,q0Q C,qM,Z,Instr.sureAddr]
    ·exact h.elim
   ·subst g;exact(qt h).elim
  ·subst g;exact(qt h).elim
 case makeSlice t l c=>
  split at g
  ·rename_i e hu
   split at g
   ·rename_i ie W
    split at g
    ·rename_i z X
     split at g
     ·rename_i V;subst g;simp only[XO] at h
      split at h
      ·rename_i k l0 k' c0 aV aM;obtain⟨l',J,rfl,rfl,hlc,hb,T⟩:=h.h;refine .inr ⟨rfl, .inl ⟨_,_,_,?_,u.push (.cells (List.replicate J z.cells.toList).flatten.toArray e) (p:=fun o=>o=Obj.cells (List.replicate J z.cells.toList).flatten.toArray e) rfl,T w.heap.size u.size⟩⟩;have hcb:J<=J*ie.bytes:=Nat.le_mul_of_pos_right _ V.2.2;have aK:=q4l (zs:=z.cells) J;rw[V.1] at aK;have E:(ie.bytes:Int)*(J:Int)<=281474976710656:=by rw[<-Yd,Ym];omega
       have hr:=run_make (P:=P) w t e ie z hu W X k k' l' J Yu Yu E Yu;simp only[zD] at hr;have hm:madeCells z.cells (J*ie.size)=(List.replicate J z.cells.toList).flatten.toArray:=by rw[<-aK];simp[madeCells,V.1]
       rw[hm] at hr;simp only[execOp,A,aV,aM,Sem.run_bind,hr,Result.andThen_ok,Sem.run_pure];rfl
      ·exact h.elim
     ·subst g;exact(qt h).elim
    ·subst g;exact(qt h).elim
   ·subst g;exact(qt h).elim
  ·subst g;exact(qt h).elim
 case makeFunc fn first cap=>
  cases fn <;>simp only at g
  case func k=>
   split at g
   ·rename_i hf;subst g;simp only[XO] at h;have aO:first= #[]:=by simpa using hf
    refine qp u ?_ h;subst aO;obtain⟨cap⟩:=cap;simp[execOp,A,Instr.makeFunc]
   ·subst g;exact(qt h).elim
  all_goals(subst g;exact(qt h).elim)
 case slice t x lo hi mx=>
  split at g
  ·rename_i e hu
   split at g
   ·rename_i n C;subst g;simp only[XO] at h
    split at h
    ·rename_i a len cap br aR mx' q E S h3;obtain⟨l,r,m,e1,e2,e3,aA,bh,aW,aX,T⟩:=h.h;refine qp u ?_ T;have hb:=q70 (P:=P) (isS:=true) (q8W E) (q8W S) (q8W h3) e1 e2 e3 aA bh aW aX w;unfold slA;simp[execOp,A,Instr.sliceAt,Instr.slice,q,qn hu,hb,q0Q C]
    ·exact h.elim
   ·subst g;exact(qt h).elim
  ·rename_i hu
   split at g
   ·subst g;simp only[XO] at h
    split at h
    ·rename_i s br aR q E S;obtain⟨l,r,e1,e2,aA,bm,T⟩:=h.h;refine qp u ?_ T;have hb:=q70 (P:=P) (isS:=false) (len:=s.size) (cap:=s.size) (m:=s.size) (mx:=none) (mx':=none) (q8W E) (q8W S) (.inl ⟨rfl,rfl⟩) e1 e2 rfl aA (fun _=>bm) (fun h=>by cases h) (fun h=>by cases h) w;simp[execOp,A,Instr.sliceAt,Instr.slice,q,qn hu,hb]
    ·exact h.elim
   ·subst g;exact(qt h).elim
  ·subst g;exact(qt h).elim
 case index t x i=>
  split at g
  ·rename_i hu;subst g;simp only[XO] at h
   split at h
   ·rename_i s k m q hi;obtain⟨j,b,rfl,hb,B⟩:=h.h;refine qp u ?_ B;have aL:s[j]? =some b:=by
     rw[z7] at hb;obtain⟨Z,hb⟩:=hb;have aT:j<s.size:=by simpa using Z
     rw[getElem?_pos s j aT]
     congr 1
    simp[execOp,A,q,hi,Instr.index,qn hu,asIntOf,aL]
   ·exact h.elim
  ·rename_i len e hu
   split at g
   ·rename_i n U C;subst g;simp only[XO] at h
    split at h
    ·rename_i cs k m q hi;obtain⟨j,rfl,Z,B⟩:=h.h;refine qp u ?_ B.h;simp[execOp,A,q,hi,Instr.index,qn hu,asIntOf,q0Q C,Z,part,q0K U];rw[<-ZM];simp[Array.toList_extract,List.extract_eq_take_drop]
    ·exact h.elim
   ·rename_i U C;subst g;simp only[XO] at h
    split at h
    ·rename_i cs k m q hi;obtain⟨j,rfl,Z,B⟩:=h.h;obtain⟨v,R,B⟩:=B.h;refine qp u ?_ B;rw[Z7] at R;simp[execOp,A,q,hi,Instr.index,qn hu,asIntOf,q0Q C,Z,part,q0K U,R]
    ·exact h.elim
   ·subst g;exact(qt h).elim
  ·subst g;exact(qt h).elim
 case load t x=>
  split at g
  ·rename_i n U C;subst g;simp only[XO] at h
   split at h
   ·rename_i ad q;obtain⟨vs,hlen,R,B⟩:=h.h;refine qp u ?_ B;simp[execOp,A,q,Instr.loadAt,Instr.sureAddr,loadVar,q0K U,q0Q C,q42 (vs:=vs.toList) hlen (R w u)]
   ·exact h.elim
  ·rename_i n U C;subst g;simp only[XO] at h
   split at h
   ·rename_i ad q;obtain⟨v,R,B⟩:=h.h;refine qp u ?_ B;have bo:=R w u;simp[execOp,A,q,Instr.loadAt,Instr.sureAddr,loadVar,q0K U,bo]
   ·exact h.elim
  ·subst g;exact(qt h).elim
 case store t x v=>
  split at g
  ·rename_i n U C;subst g;simp only[XO] at h
   split at h
   ·rename_i ad cs q R;obtain⟨hlen,⟨E,own',hs,B⟩⟩:=h;refine .inr ⟨rfl, .inr (.inl ⟨q6a w ad 0 cs.toList,own',?_,(hs w u).2,B⟩)⟩;have az:cs.size=n:=by simpa using hlen
    simp[execOp,A,q,R,Instr.storeAt,Instr.sureAddr,storeVar,Value.cells,q0Q C,az,q1k _ 0 w E (fun j Z=>by simpa using (hs w u).1 j Z)]
   ·exact h.elim
  ·rename_i U C;subst g;simp only[XO] at h
   split at h
   ·rename_i ad q;obtain⟨⟨E,own',hs,B⟩⟩:=h.h;obtain⟨g1,g2,g3⟩:=hs w u;refine .inr ⟨rfl, .inr (.inl ⟨w.setCell ad (ev f v),own',?_,g3,B⟩)⟩;have V:(ev f v).cells= #[ev f v]:=by revert E;cases ev f v <;>simp[q2G,Value.cells]
    simp[execOp,A,q,Instr.storeAt,Instr.sureAddr,storeVar,V,q0Q C,storeCells,q4X E (a:=ad.add 0) (w:=w) (by simpa [Addr.add] using g1) (by simpa [Addr.add] using g2)];simp[Addr.add]
   ·exact h.elim
  ·subst g;exact(qt h).elim
 case box t x=>
  subst g;simp only[XO] at h;have key:∀cs:jh,(ev f x).cells=cs->New W0 own (.cells cs t) (fun b own'=>K (.pointer (some ⟨b,0,none⟩)) own')->q6B P f o w own W0 K (qfX (.box t x)):=by
   intro cs V h;refine .inr ⟨rfl, .inl ⟨_,_,_,?_,u.push (.cells cs t) (p:=fun o=>o= .cells cs t) rfl,h.h w.heap.size u.size (fun _ he=>u.mem_size he)⟩⟩;simp[execOp,A,Instr.box,newVar,newRow,V]
  split at h
  ·rename_i cs q;exact key cs (by rw[q];rfl) h
  ·rename_i v H;refine key _ ?_ h.h;unfold Value.cells
   split
   ·rename_i cs q;exact(H cs q).elim
   ·rfl
 case alloc t=>
  split at g
  ·rename_i z X;subst g;simp only[XO] at h;have key:∀cs:jh,z.cells=cs->New W0 own (.cells cs t) (fun b own'=>K (.pointer (some ⟨b,0,none⟩)) own')->q6B P f o w own W0 K (qfX (.new t z)):=by
    intro cs V h;refine .inr ⟨rfl, .inl ⟨_,_,_,?_,u.push (.cells cs t) (p:=fun o=>o= .cells cs t) rfl,h.h w.heap.size u.size (fun _ he=>u.mem_size he)⟩⟩;simp[execOp,A,Instr.alloc,newVar,newRow,q4m X,V]
   split at h
   ·exact key _ rfl h
   ·rename_i v H;refine key _ ?_ h;unfold Value.cells
    split
    ·exact(H _ rfl).elim
    ·rfl
  ·subst g;exact(qt h).elim
 case build t parts=>
  unfold q8a at g
  split at g
  ·rename_i z fs X hu
   split at g
   ·rename_i aI
    split at g
    ·rename_i l N;subst g;simp only[XO] at h;obtain⟨cs',E,S,_⟩:=q7C parts.toList l z.cells.toList _ (by simpa using N) h;refine qp u ?_ S;have aZ:(fun i=>Option.map (fun f=>(f.offset,(szT P f.type).getD 0)) fs[i]?)=q5X P fs:=by
      funext i
      unfold q5X;cases aP:fs[i]? with
      |none=>rfl
      |some fd=>
       have aH:fd∈fs:=Array.mem_of_getElem? aP;have:=Array.all_eq_true'.1 aI fd aH;obtain⟨n,C⟩:=Zv.1 this;simp[C]
     have ax:Instr.fill (q5X P fs) z.cells (parts.toList.map fun p=>(p.1,ev f p.2))=some cs'.toArray:=by simpa using E
     simp[execOp,A,Instr.build,q4m X,qn hu,qn0 aI,aZ,ax]
    ·subst g;exact(qt h).elim
   ·subst g;exact(qt h).elim
  ·rename_i z len e X hu
   split at g
   ·rename_i n C
    split at g
    ·rename_i l N;subst g;simp only[XO] at h;obtain⟨cs',E,S,_⟩:=q7C parts.toList l z.cells.toList _ (by simpa using N) h;refine qp u ?_ S;have ax:Instr.fill (fun i=>some (i*n,n)) z.cells (parts.toList.map fun p=>(p.1,ev f p.2))=some cs'.toArray:=by simpa using E
     simp[execOp,A,Instr.build,q4m X,qn hu,q0Q C,ax]
    ·subst g;exact(qt h).elim
   ·subst g;exact(qt h).elim
  ·subst g;exact(qt h).elim
 case buildSlice t len parts=>
  unfold q5R at g
  split at g
  ·rename_i e hu
   split at g
   ·rename_i n z C X
    split at g
    ·rename_i hb
     split at g
     ·rename_i l N;subst g;simp only[XO] at h;obtain⟨ie,W,Y⟩:=Zb.1 (show(P.info? e).map (·.size)=some n from C);obtain⟨aC,aG,aS⟩:=Option.bind_eq_some_iff.1 (show(P.info? e).bind (·.zero)=some z from X);have aN:aC=ie:=Option.some.inj (aG.symm.trans W);subst aN;subst Y;obtain⟨cs',E,S,_⟩:=q7C parts.toList l (q8E z (len*aC.size)) _ (by simpa [q8E] using N) h;have ay:=S.h w.heap.size u.size (fun _ he=>u.mem_size he);refine .inr ⟨rfl, .inl ⟨_,_,_,?_,u.push (.cells cs'.toArray e) (p:=(· = .cells cs'.toArray e)) rfl,ay⟩⟩;have hr:=run_buildSlice (P:=P) w t e len (parts.map fun p=>(p.1,ev f p.2)) cs'.toArray aC z hu W aS Yu Yu (by unfold q8E at E;rw[yB] at E;simpa only[Array.toList_map] using E);unfold execOp;rw[A];simp only[Sem.run_map,bind_pure_comp,hr,Result.andThen_ok];rfl
     ·subst g;exact(qt h).elim
    ·split at g
     ·rename_i aF;subst g;simp only[XO] at h;obtain⟨ie,W,Y⟩:=Zb.1 (show(P.info? e).map (·.size)=some n from C);subst Y;have ay:K (.slice (some ⟨w.heap.size,0,none⟩) len len) ((w.heap.size,(· = .cells #[] e))::own):=h.h w.heap.size u.size (fun _ he=>u.mem_size he);have hp:parts= #[]:=by rw[<-ZM];exact aF.2
      subst hp;refine .inr ⟨rfl, .inl ⟨_,_,_,?_,u.push (.cells #[] e) (p:=(· = .cells #[] e)) rfl,ay⟩⟩;simp[execOp,A,Instr.buildSlice,qn hu,sizeOf,typeInfo,W,aF.1,Instr.fill,newRow];rw[show(Array.range 0)= #[] from rfl];simp
     ·subst g;exact(qt h).elim
   ·subst g;exact(qt h).elim
  ·subst g;exact(qt h).elim
 case extract x i=>
  subst g;simp only[XO] at h
  split at h
  ·rename_i vs q;obtain⟨v,R,B⟩:=h.h;refine qp u ?_ B;rw[Z7] at R;simp[execOp,A,q,Instr.extract,R]
  ·exact h.elim
 case nilCheck x=>
  subst g;simp only[XO] at h
  split at h
  ·rename_i ad q;exact qp u (v:= .pointer (some ad)) (by simp[execOp,A,q]) h
  ·exact h.elim
 case call c=>exact q8b A g u h
 case range t x=>
  split at g
  ·rename_i hu;subst g;simp only[XO] at h
   split at h
   ·rename_i s q;refine .inr ⟨rfl, .inl ⟨_,_,_,?_,u.push (.stringIter s 0) (p:=fun o=>o= .stringIter s 0) rfl,h.h w.heap.size u.size (fun _ he=>u.mem_size he)⟩⟩;simp[execOp,A,Instr.range,qn hu,q]
   ·exact h.elim
  ·subst g;exact(qt h).elim
 case next x isS=>
  split at g
  ·subst g;simp only[XO] at h
   split at h
   ·rename_i b q;obtain⟨s,pos,hm,E,S⟩:=h.h;obtain⟨o',I,aY⟩:=u.owns _ hm;have Q:w.heap[b]? =some (.stringIter s pos):=by rw[<-show o'=_ from aY];exact I
    by_cases L:pos<s.size
    ·obtain⟨own',hu,B⟩:=E L;refine .inr ⟨rfl, .inl ⟨_,{w with heap:=w.heap.setIfInBounds b (.stringIter s (pos+(Utf8.decode s pos).2))},own',?_,?_,B⟩⟩
     ·have hr:=(q66 (P:=P) (t:=o.type) Q).1 L;simp[execOp,A,q,hr]
     ·have hb:=(Zg.1 Q).1;refine u.up hu rfl rfl rfl Yw (fun k _ H=>?_) ⟨_,?_,rfl⟩
      ·simp[Ne.symm H]
      ·simp[hb]
    ·refine .inr ⟨rfl, .inl ⟨_,w,own,?_,u,S L⟩⟩;have hr:=(q66 (P:=P) (t:=o.type) Q).2 L;simp[execOp,A,q,hr]
   ·exact h.elim
  ·subst g;exact(qt h).elim
 case makeMap t r=>
  cases r with
  |some x=>subst g;exact(qt h).elim
  |none=>
   subst g;simp only[XO] at h;refine .inr ⟨rfl, .inl ⟨_,_,_,?_,u.push (.map #[] 0) (p:=q3r []) ⟨#[],0,rfl,rfl⟩,h.h w.heap.size u.size⟩⟩;simp[execOp,A,Instr.makeMap,newObj,Sem.run]
 case lookup t x i ok=>
  split at g
  ·rename_i k e hu
   split at g
   ·rename_i kk z B X;subst g;simp only[XO] at h
    split at h
    ·rename_i q;exact qp u (by simp[execOp,A,q,q7i (r:=none) (key:=ev f i) (ok:=ok) hu B X (.inl ⟨rfl,rfl⟩) rfl]) h
    ·rename_i b q;obtain⟨l,r,hm,D,T⟩:=h.h;obtain⟨o',I,es,c,rfl,g⟩:=u.owns _ hm;rw[<-g] at D;exact qp u (by simp[execOp,A,q,q7i (r:=r) (ok:=ok) hu B X (.inr ⟨b,c,rfl,I⟩) D]) T
    ·exact h.elim
   ·subst g;exact(qt h).elim
  ·subst g;exact(qt h).elim
 case mapUpdate t x i v=>
  split at g
  ·rename_i k e hu
   split at g
   ·rename_i kk B;subst g;simp only[XO] at h
    split at h
    ·rename_i b q;obtain⟨l,own',aj,aB,T⟩:=h.h;obtain⟨r,D⟩:=Zv.1 aB;obtain⟨o',I,es,c,rfl,g⟩:=u.owns _ aj.mem;rw[<-g] at D;obtain⟨M,J,af,he⟩:=q43 (v:=ev f v) hu B I D;have L:=(Zg.1 I).1;refine .inr ⟨rfl, .inr (.inl ⟨{w with heap:=w.heap.setIfInBounds b (.map M J)},own',?_,?_,T⟩)⟩
     ·simp[execOp,A,q,af]
     ·refine u.up aj rfl rfl rfl Yw (fun k _ H=>by simp[Ne.symm H]) ⟨.map M J,by simp[L],M,J,rfl,by rw[he,g]⟩
    ·exact h.elim
   ·subst g;exact(qt h).elim
  ·subst g;exact(qt h).elim
 case insert t x i v=>
  split at g
  ·rename_i k e hu
   split at g
   ·rename_i kk B;subst g;simp only[XO] at h
    split at h
    ·rename_i b q;obtain⟨l,own',aj,aB,T⟩:=h.h;obtain⟨r,D⟩:=Zv.1 aB;obtain⟨o',I,es,c,rfl,g⟩:=u.owns _ aj.mem;rw[<-g] at D;obtain⟨M,J,af,he⟩:=q43 (v:=ev f v) hu B I D;have L:=(Zg.1 I).1;refine .inr ⟨rfl, .inr (.inl ⟨{w with heap:=w.heap.setIfInBounds b (.map M J)},own',?_,?_,T⟩)⟩
     ·simp[execOp,A,q,af]
     ·refine u.up aj rfl rfl rfl Yw (fun k _ H=>by simp[Ne.symm H]) ⟨.map M J,by simp[L],M,J,rfl,by rw[he,g]⟩
    ·exact h.elim
   ·subst g;exact(qt h).elim
  ·subst g;exact(qt h).elim
 all_goals(subst g;exact(qt h).elim)
theorem q6K{k:FuncId}{args:List Operand}(a:q1M P o.op= .call k args):(execOp (ev f) o).run P w= .ok (.enter k (args.map (ev f)).toArray) w:=by
 cases j:o.op <;>rw[j] at a <;>(try simp only[q1M] at a) <;>(try exact IOp.noConfusion a)
 case binOp op t x y t'=>unfold qft at a;repeat'(first|exact IOp.noConfusion a|split at a)
 case buildSlice=>unfold q5R at a;repeat'(first|exact IOp.noConfusion a|split at a)
 case unOp op t x=>cases op <;>simp only at a <;>repeat'(first|exact IOp.noConfusion a|split at a)
 case build=>unfold q8a at a;repeat'(first|exact IOp.noConfusion a|split at a)
 case makeFunc fn _ _=>cases fn <;>simp only at a <;>repeat'(first|exact IOp.noConfusion a|split at a)
 case makeMap t r=>
  cases r with
  |none=>have h:IOp.mkm= .call k args:=a;cases h
  |some x=>have h:IOp.bad= .call k args:=a;cases h
 case call c=>
  obtain⟨cal,as,b⟩:=c;obtain⟨as⟩:=as;obtain⟨b⟩:=b;unfold q5S at a;simp only at a
  split at a
  ·split at a
   ·rename_i fn i
    split at a
    ·repeat'(first|exact IOp.noConfusion a|split at a)
    ·rename_i g;injection a with l d
     subst l;subst d;simp only[Zd,not_or,yi,beq_eq_false_iff_ne,Option.isNone_eq_false_iff] at g;have d:fn.body≠none:=by intro e;simp[e] at g
     simp[execOp,j,resolve,ev,Deferred.ofValue,invoke,callFunc,i,g.1,d]
   ·exact IOp.noConfusion a
  all_goals repeat'(first|exact IOp.noConfusion a|split at a)
 all_goals repeat'(first|exact IOp.noConfusion a|split at a)
end
end Go.Proofs.YtikpjajangpdjaaGreatDoor
