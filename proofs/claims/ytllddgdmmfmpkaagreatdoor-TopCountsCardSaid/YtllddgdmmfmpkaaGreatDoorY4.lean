/- What the laws share, part 4. No condition. -/
import Derived.Laws.FloatArith
import Derived.Great.BuildSlice
import Derived.Laws.Append
import Derived.Laws.StructEq
import Derived.Laws.MakeOwn
import Derived.ChangeKeysEq
import Derived.OrdersIn
import Derived.Test.YtllddgdmmfmpkaaGreatDoorY3
namespace Go.Proofs.YtllddgdmmfmpkaaGreatDoor
open Go
inductive IOp
  | mov (x : Operand)
  | pick (c a b : Operand)
  | bin (op : BinOp) (x y : Operand)
  | beq (neg : Bool) (x y : Operand)
  | ageq (neg : Bool) (ks : List Nat) (x y : Operand)
  | nilq (neg : Bool) (k : Nat) (x y : Operand)
  | not (x : Operand)
  | neg (x : Operand)
  | conv (k : IntKind) (x : Operand)
  | fad (off : Nat) (x : Operand)
  | fld (off : Nat) (x : Operand)
  | fldN (off n : Nat) (x : Operand)
  | ixs (sz : Nat) (x i : Operand)
  | ixa (len sz : Nat) (x i : Operand)
  | idx (len : Nat) (x i : Operand)
  | idxN (len sz : Nat) (x i : Operand)
  | ld (x : Operand)
  | ldN (n : Nat) (x : Operand)
  | st (x v : Operand)
  | stN (n : Nat) (x v : Operand)
  | box (t : TypeId) (x : Operand)
  | new (t : TypeId) (zero : Value)
  | bld (zero : List Value) (parts : List (Nat × Nat × Operand))
  | blds (t : TypeId) (len : Nat) (zero : List Value) (parts : List (Nat × Nat × Operand))
  | mk (t : TypeId) (sz bytes : Nat) (zero : List Value) (l c : Operand)
  | sls (sz : Nat) (x : Operand) (lo hi mx : Option Operand)
  | capb (x : Operand)
  | sidx (x i : Operand)
  | sslc (x : Operand) (lo hi : Option Operand)
  | scat (x y : Operand)
  | ibs (x c : Operand)
  | ext (x : Operand) (i : Nat)
  | len (x : Operand)
  | lens (x : Operand)
  | nilc (x : Operand)
  | mm (max : Bool) (x y : Operand)
  | app (t : TypeId) (sz bytes : Nat) (zero : List Value) (s x : Operand)
  | appz (t : TypeId) (bytes : Nat) (zero : List Value) (s n : Operand)
  | clr (zero : List Value) (x : Operand)
  | call (k : FuncId) (args : List Operand)
  | callv (x : Operand) (args : List Operand)
  | mkf (k : FuncId) (cap : List Operand)
  | sbin (op : BinOp) (x y : Operand)
  | fbin (op : BinOp) (x y : Operand)
  | flt (op : BinOp) (x y : Operand)
  | i2f (x : Operand)
  | f2i (k : IntKind) (x : Operand)
  | fbits (x : Operand)
  | ffrom (x : Operand)
  | fpk (neg : Bool) (x y : Operand)
  | nifc (neg : Bool) (x : Operand)
  | iter (x : Operand)
  | next (x : Operand)
  | mkm
  | mlk (kk : Nat) (z : Value) (ok : Bool) (x i : Operand)
  | mup (kk : Nat) (x i v : Operand)
  | bad
structure IOpr where
  dst : Option Nat
  op : IOp
  guard : Option (Nat × Bool)
def aggT (P : Program) (t : TypeId) : Option Bool :=
  match P.underlying t with
  | some (.struct _) | some (.array _ _) => some true
  | some _ => some false
  | none => none
def szT (P : Program) (t : TypeId) : Option Nat := (P.info? t).map (·.size)
def zeroT (P : Program) (t : TypeId) : Option Value := (P.info? t).bind (·.zero)
def kindsF (P : Program) (f : TypeId → Option (List Nat)) : List Field → Nat → Option (List Nat)
  | [], _ => some []
  | x :: r, off => match f x.type with
    | some ks => if x.offset = off ∧ x.name ≠ "_" ∧ szT P x.type = some ks.length then (match kindsF P f r (off + ks.length) with | some kr => some (ks ++ kr) | none => none) else none
    | none => none
def kindsT (P : Program) : Nat → TypeId → Option (List Nat)
  | 0, _ => none
  | n + 1, t => match P.underlying t with
    | some (.int _) => some [0]
    | some .bool => some [1]
    | some .string => some [2]
    | some (.array k e) => match kindsT P n e with
      | some ks => if szT P e = some ks.length then some (List.replicate k ks).flatten else none
      | none => none
    | some (.struct fs) => if P.stoodInHeld t then none else kindsF P (kindsT P n) fs.toList 0
    | _ => none
def lowBin (P : Program) (op : BinOp) (t : TypeId) (x y : Operand) : IOp :=
  match P.underlying t with
  | some (.int _) => .bin op x y
  | some .string => match op with
    | .eql | .neq => .sbin op x y
    | .add => .scat x y
    | _ => .bad
  | some (.slice _) => match op with
    | .eql => .nilq false 0 x y
    | .neq => .nilq true 0 x y
    | _ => .bad
  | some (.pointer _) => match op with
    | .eql => .nilq false 1 x y
    | .neq => .nilq true 1 x y
    | _ => .bad
  | some (.func _ _ _) => match op with
    | .eql => .nilq false 2 x y
    | .neq => .nilq true 2 x y
    | _ => .bad
  | some (.map _ _) => match op with
    | .eql => .nilq false 3 x y
    | .neq => .nilq true 3 x y
    | _ => .bad
  | some (.struct _) | some (.array _ _) => match kindsT P 6 t with
    | some ks => if P.eqGuardType P.depth t then .bad else (match op with
      | .eql => .ageq false ks x y
      | .neq => .ageq true ks x y
      | _ => .bad)
    | none => .bad
  | some (.float .f64) => match op with
    | .add | .sub | .mul | .quo => .flt op x y
    | .eql | .neq | .lss | .leq | .gtr | .geq => .fbin op x y
    | _ => .bad
  | some .bool => match op with
    | .eql => .beq false x y
    | .neq => .beq true x y
    | _ => .bad
  | some (.interface _) => match op, y with
    | .eql, .const .nilIface => .nifc false x
    | .neq, .const .nilIface => .nifc true x
    | _, _ => .bad
  | _ => .bad
def lowParts (P : Program) (place : Nat → Option (Nat × Nat)) (tot : Nat) : List (Nat × Operand) → Option (List (Nat × Nat × Operand))
  | [] => some []
  | (i, x) :: r => match place i with
    | some (off, sz) => if off + sz ≤ tot then (match lowParts P place tot r with | some l => some ((off, sz, x) :: l) | none => none) else none
    | none => none
def placesS (P : Program) (fs : Array Field) (i : Nat) : Option (Nat × Nat) := match fs[i]? with
  | some f => (szT P f.type).map fun n => (f.offset, n)
  | none => none
def fieldsOk (P : Program) (fs : Array Field) : Bool := fs.all fun f => (szT P f.type).isSome
def lowBuild (P : Program) (t : TypeId) (parts : List (Nat × Operand)) : IOp :=
  match zeroT P t, P.underlying t with
  | some z, some (.struct fs) => if fieldsOk P fs then (match lowParts P (placesS P fs) z.cells.size parts with | some l => .bld z.cells.toList l | none => .bad) else .bad
  | some z, some (.array _ e) => match szT P e with
    | some n => (match lowParts P (fun i => some (i * n, n)) z.cells.size parts with | some l => .bld z.cells.toList l | none => .bad)
    | none => .bad
  | _, _ => .bad
def zerosOf (z : Value) (n : Nat) : List Value := ((Array.range n).map (z.cells[· % z.cells.size]!)).toList
def lowBuildS (P : Program) (t : TypeId) (len : Nat) (parts : List (Nat × Operand)) : IOp :=
  match P.underlying t with
  | some (.slice e) => match szT P e, zeroT P e with
    | some n, some z => if 0 < len * n ∧ len * n ≤ 16777216 then (match lowParts P (fun i => some (i * n, n)) (len * n) parts with | some l => .blds e len (zerosOf z (len * n)) l | none => .bad) else (if len * n = 0 ∧ parts = [] then .blds e len [] [] else .bad)
    | _, _ => .bad
  | _ => .bad
def lowCall (P : Program) (c : Call) : IOp :=
  match c.callee with
  | .value (.func k) => match P.funcs[k]? with
    | some fn => if fn.name == "runtime.NumGoroutine" || fn.body.isNone then
        (if fn.body.isNone && (Extern.findNext fn).isNone && decide (fn.name = "math.Float64bits") then (match c.args.toList with | [x] => .fbits x | _ => .bad)
        else if fn.body.isNone && (Extern.findNext fn).isNone && decide (fn.name = "math.Float64frombits") then (match c.args.toList with | [x] => .ffrom x | _ => .bad)
        else if fn.body.isNone && (Extern.findNext fn).isNone && decide (fn.name = "math.archMin") then (match c.args.toList with | [x, y] => .fpk true x y | _ => .bad)
        else if fn.body.isNone && (Extern.findNext fn).isNone && decide (fn.name = "math.archMax") then (match c.args.toList with | [x, y] => .fpk false x y | _ => .bad)
        else if fn.body.isNone && (Extern.findNext fn).isNone && decide (fn.name = "internal/bytealg.IndexByteString") then (match c.args.toList with | [x, y] => .ibs x y | _ => .bad) else .bad)
      else .call k c.args.toList
    | none => .bad
  | .builtin .len => match c.args.toList, c.argTypes.toList with
    | [x], [t] => match P.underlying t with
      | some (.slice _) => .len x
      | some .string => .lens x
      | _ => .bad
    | _, _ => .bad
  | .builtin .cap => match c.args.toList, c.argTypes.toList with
    | [x], [t] => match P.underlying t with
      | some (.slice _) => .capb x
      | _ => .bad
    | _, _ => .bad
  | .builtin .append => match c.args.toList, c.argTypes.toList with
    | [s, x], [t, tx] => match P.underlying t, P.underlying tx with
      | some (.slice e), some (.slice _) => match P.info? e with
        | some ie => match ie.zero with
          | some z => if z.cells.size = ie.size ∧ 0 < ie.size ∧ 0 < ie.bytes then .app e ie.size ie.bytes z.cells.toList s x else .bad
          | none => .bad
        | none => .bad
      | some (.slice e), some (.int _) => match P.info? e with
        | some ie => match ie.zero with
          | some z => if z.cells.size = ie.size ∧ 0 < ie.size ∧ 0 < ie.bytes then .appz e ie.bytes z.cells.toList s x else .bad
          | none => .bad
        | none => .bad
      | _, _ => .bad
    | _, _ => .bad
  | .builtin .clear => match c.args.toList, c.argTypes.toList with
    | [x], [t] => match P.underlying t with
      | some (.slice e) => match P.info? e with
        | some ie => match ie.zero with
          | some z => .clr z.cells.toList x
          | none => .bad
        | none => .bad
      | _ => .bad
    | _, _ => .bad
  | .value (.tmp f) => .callv (.tmp f) c.args.toList
  | .builtin .min => match c.args.toList with | [x, y] => .mm false x y | _ => .bad
  | .builtin .max => match c.args.toList with | [x, y] => .mm true x y | _ => .bad
  | _ => .bad
def keyK (P : Program) (k : TypeId) : Option Nat := match P.underlying k with
  | some (.int _) => some 0
  | some .string => some 2
  | _ => none
def lowOp (P : Program) : Op → IOp
  | .move x | .assign x => .mov x
  | .pick c a b => .pick c a b
  | .binOp op t x y _ => lowBin P op t x y
  | .unOp .not _ x => .not x
  | .unOp .neg t x => match P.underlying t with | some (.int _) => .neg x | _ => .bad
  | .convert s d x => match P.underlying s, P.underlying d with
    | some (.int _), some (.int k) => .conv k x
    | some (.int _), some (.float .f64) => .i2f x
    | some (.float .f64), some (.int k) => .f2i k x
    | _, _ => .bad
  | .fieldAddr t x i => match P.underlying t with
    | some (.struct fs) => match fs[i]? with
      | some f => match szT P f.type with | some (_ + 1) => .fad f.offset x | _ => .bad
      | none => .bad
    | _ => .bad
  | .field t x i => match P.underlying t with
    | some (.struct fs) => match fs[i]? with
      | some f => match aggT P f.type, szT P f.type with
        | some true, some n => .fldN f.offset n x
        | some false, some _ => .fld f.offset x
        | _, _ => .bad
      | none => .bad
    | _ => .bad
  | .indexAddr t x i => match P.underlying t with
    | some (.slice e) => match szT P e with | some n => .ixs n x i | none => .bad
    | some (.array len e) => match szT P e with | some n => .ixa len n x i | none => .bad
    | _ => .bad
  | .makeSlice t l c => match P.underlying t with
    | some (.slice e) => match P.info? e with
      | some ie => match ie.zero with
        | some z => if z.cells.size = ie.size ∧ 0 < ie.size ∧ 0 < ie.bytes then .mk e ie.size ie.bytes z.cells.toList l c else .bad
        | none => .bad
      | none => .bad
    | _ => .bad
  | .makeFunc (.func k) first cap => if first.isEmpty then .mkf k cap.toList else .bad
  | .slice t x lo hi mx => match P.underlying t with
    | some (.slice e) => match szT P e with
      | some n => .sls n x lo hi mx
      | none => .bad
    | some .string => match mx with
      | none => .sslc x lo hi
      | some _ => .bad
    | _ => .bad
  | .index t x i => match P.underlying t with
    | some .string => .sidx x i
    | some (.array len e) => match aggT P e, szT P e with
        | some true, some n => .idxN len n x i
        | some false, some 1 => .idx len x i
        | _, _ => .bad
    | _ => .bad
  | .load t x => match aggT P t, szT P t with
    | some true, some n => .ldN n x
    | some false, some _ => .ld x
    | _, _ => .bad
  | .store t x v => match aggT P t, szT P t with
    | some true, some n => .stN n x v
    | some false, some 1 => .st x v
    | _, _ => .bad
  | .box t x => .box t x
  | .alloc t => match zeroT P t with | some z => .new t z | none => .bad
  | .extract x i => .ext x i
  | .build t parts => lowBuild P t parts.toList
  | .buildSlice t len parts => lowBuildS P t len parts.toList
  | .nilCheck x => .nilc x
  | .range t x => match P.underlying t with | some .string => .iter x | _ => .bad
  | .next x isS => match isS with | true => .next x | false => .bad
  | .call c => lowCall P c
  | .makeMap _ none => .mkm
  | .lookup t x i ok => match P.underlying t with
    | some (.map k e) => match keyK P k, zeroT P e with
      | some kk, some z => .mlk kk z ok x i
      | _, _ => .bad
    | _ => .bad
  | .mapUpdate t x i v | .insert t x i v => match P.underlying t with
    | some (.map k _) => match keyK P k with
      | some kk => .mup kk x i v
      | none => .bad
    | _ => .bad
  | _ => .bad
def lowOpr (P : Program) (ops : Array Oper) (o : Oper) : IOpr :=
  { dst := o.dst, op := lowOp P o.op, guard := match o.guard with
    | none => none
    | some (j, b) => match (ops[j]?).bind (·.dst) with
      | some d => some (d, b)
      | none => none }
structure Arith (k : IntKind) (e : Int) (K : Int → Prop) : Prop where
  h : K (k.wrap e)
structure MM (mx : Bool) (a b : Int) (K : Int → Prop) : Prop where
  h : K (bif mx then max a b else min a b)
def fcmp (op : BinOp) (c : Option Ordering) : Bool :=
  match op with
  | .eql => c == some .eq
  | .neq => c != some .eq
  | .lss => c == some .lt
  | .leq => c == some .lt || c == some .eq
  | .gtr => c == some .gt
  | .geq => c == some .gt || c == some .eq
  | _ => false
structure FCmp (op : BinOp) (a b : Nat) (K : Bool → Prop) : Prop where
  h : K (fcmp op (FloatKind.f64.format.order a b))
def nanB (r : Nat) : Prop := ∃ s t : Nat, s < 2 ∧ t < 2 ^ 52 - 1 ∧ r = s * 2 ^ 63 + 0x7ff0000000000000 + 1 + t
structure FltA (op : BinOp) (a b : Nat) (K : Nat → Prop) : Prop where
  h : (∀ r, floatBits op .f64 a b = some r → K r) ∧ (floatBits op .f64 a b = none → ∀ r, nanB r → K r)
structure F2I (k : IntKind) (b : Nat) (K : Int → Prop) : Prop where
  h : ∃ n, floatToIntVal .f64 b k = some n ∧ K n
def pickF (neg : Bool) (x y : Nat) : Nat :=
  if FloatKind.f64.decode x == .infinity neg || FloatKind.f64.decode y == .infinity neg then FloatKind.f64.encode (.infinity neg)
  else if (FloatKind.f64.decode x).isNaN || (FloatKind.f64.decode y).isNaN then 0x7FF8000000000001
  else if (FloatKind.f64.decode x).isZero && (FloatKind.f64.decode y).isZero then (if (FloatKind.f64.decode x).neg == neg then x else y)
  else if (FloatKind.f64.decode x).order (FloatKind.f64.decode y) == some (bif neg then .lt else .gt) then x else y
def binStr (op : BinOp) (a b : ByteArray) (K : Value → Prop) : Prop :=
  match op with
  | .eql => K (.bool (decide (a.toList = b.toList)))
  | .neq => K (.bool (!decide (a.toList = b.toList)))
  | _ => False
structure Quo (k : IntKind) (m n : Int) (K : Int → Prop) : Prop where
  h : n ≠ 0 ∧ K (k.wrap (m.tdiv n))
structure Rem (m n : Int) (K : Int → Prop) : Prop where
  h : n ≠ 0 ∧ K (m.tmod n)
structure Shl (k : IntKind) (m n : Int) (K : Int → Prop) : Prop where
  h : 0 ≤ n ∧ K (k.wrap (m * 2 ^ (min n.toNat k.bits)))
structure Shr (k : IntKind) (m n : Int) (K : Int → Prop) : Prop where
  h : 0 ≤ n ∧ K (m.fdiv (2 ^ (min n.toNat k.bits)))
structure Idx (i : Int) (n : Nat) (K : Nat → Prop) : Prop where
  h : ∃ j : Nat, i = j ∧ j < n ∧ K j
def kn : IntKind → Nat
  | .i8 => 0 | .i16 => 1 | .i32 => 2 | .i64 => 3 | .u8 => 4 | .u16 => 5 | .u32 => 6 | .u64 => 7
theorem kn_inj {k k' : IntKind} (h : Nat.beq (kn k) (kn k') = true) : k = k' := by cases k <;> cases k' <;> first | rfl | cases h
structure IxS (a : Option Addr) (sz : Nat) (i : Int) (len : Nat) (K : Addr → Prop) : Prop where
  h : ∃ j b o : Nat, i = j ∧ j < len ∧ a = some ⟨b, o, none⟩ ∧ K ⟨b, o + j * sz, none⟩
def slA (a : Option Addr) (m l sz : Nat) : Option Addr := if m = l then a else a.map (·.add (l * sz))
structure SlsT (a : Option Addr) (n c sz : Nat) (lo hi mx : Option Int) (K : Value → Prop) : Prop where
  h : ∃ l r m : Nat, lo.getD 0 = l ∧ hi.getD n = r ∧ mx.getD c = m ∧ l ≤ r ∧ (hi.isSome = true → r ≤ m) ∧ (mx.isSome = true → m ≤ c) ∧ (mx.isSome = true → hi.isSome = true) ∧ K (.slice (slA a m l sz) (r - l) (m - l))
structure SscT (s : ByteArray) (lo hi : Option Int) (K : Value → Prop) : Prop where
  h : ∃ l r : Nat, lo.getD 0 = l ∧ hi.getD s.size = r ∧ l ≤ r ∧ r ≤ s.size ∧ K (.string (s.extract l r))
structure SixT (s : ByteArray) (i : Int) (K : Value → Prop) : Prop where
  h : ∃ (j : Nat) (b : UInt8), i = j ∧ s.data.toList[j]? = some b ∧ K (.int .u8 b.toNat)
structure SctT (a b : ByteArray) (K : Value → Prop) : Prop where
  h : a.size + b.size ≤ 9223372036854775807 ∧ K (.string (a ++ b))
def ibsF (s : ByteArray) (c : Int) : Int := match (List.range s.size).find? fun i => s[i]! == c.toNat.toUInt8 with
  | some i => i
  | none => -1
def evI (f : Fr) : Option Operand → Option (Option Int)
  | none => some none
  | some x => match ev f x with
    | .int _ i => some (some i)
    | _ => none
def nilB : Nat → Value → Value → Option Bool
  | 0, .slice a _ _, .slice none _ _ => some a.isNone
  | 1, .pointer a, .pointer none => some a.isNone
  | 2, .func _ _ _, .nilFunc => some false
  | 2, .nilFunc, .nilFunc => some true
  | 3, .map a, .map none => some a.isNone
  | _, _, _ => none
def eqOne : Nat → Value → Value → Option Bool
  | 0, .int k a, .int k' b => match Nat.beq (kn k) (kn k') with
    | true => some (decide (a = b))
    | false => none
  | 1, .bool a, .bool b => some (decide (a = b))
  | 2, .string a, .string b => some (decide (a.data.toList = b.data.toList))
  | _, _, _ => none
def eqC : List Nat → List Value → List Value → Option Bool
  | [], [], [] => some true
  | k :: ks, x :: xs, y :: ys => match eqOne k x y with
    | some a => (match eqC ks xs ys with
      | some b => some (a && b)
      | none => none)
    | none => none
  | _, _, _ => none
def mapO (l : List (Value × Value)) : Obj → Prop := fun o => ∃ es c, o = Obj.map es c ∧ es.toList.map (fun e => (e.key, e.val)) = l
def findM (kk : Nat) (key : Value) : List (Value × Value) → Option (Option Value)
  | [] => some none
  | e :: r => match eqOne kk key e.1 with
    | some true => some (some e.2)
    | some false => findM kk key r
    | none => none
def updM (kk : Nat) (key v : Value) : List (Value × Value) → List (Value × Value)
  | [] => [(key, v)]
  | e :: r => match eqOne kk key e.1 with
    | some true => (key, v) :: r
    | _ => e :: updM kk key v r
def mapR (z : Value) (ok : Bool) (r : Option Value) : Value := match ok, r with
  | true, some v => .tuple #[v, .bool true]
  | true, none => .tuple #[z, .bool false]
  | false, some v => v
  | false, none => z
structure EqT (ks : List Nat) (xs ys : List Value) (K : Bool → Prop) : Prop where
  h : ∃ r, eqC ks xs ys = some r ∧ K r
structure Sel (v : Option Value) (K : Value → Prop) : Prop where
  h : ∃ x, v = some x ∧ K x
structure SelN (cs : List Value) (off n : Nat) (K : Value → Prop) : Prop where
  h : K (.agg ((cs.drop off).take n).toArray)
structure When (c b : Bool) (Ky Kn : Prop) : Prop where
  y : c = b → Ky
  n : c = (!b) → Kn
structure Br (c : Bool) (Ky Kn : Prop) : Prop where
  y : c = true → Ky
  n : c = false → Kn
def Mv (v : Value) (K : Value → Prop) : Prop :=
  match v with
  | .int k n => K (.int k n)
  | .bool b => K (.bool b)
  | .pointer a => K (.pointer a)
  | .slice a n c => K (.slice a n c)
  | .agg cs => K (.agg cs)
  | .tuple cs => K (.tuple cs)
  | .string s => K (.string s)
  | .float k b => K (.float k b)
  | .func a b c => K (.func a b c)
  | v => K v
theorem Mv_iff {v : Value} {K : Value → Prop} : Mv v K ↔ K v := by cases v <;> rfl
theorem Mv.h {v : Value} {K : Value → Prop} (h : Mv v K) : K v := Mv_iff.1 h
theorem Mv.mk {v : Value} {K : Value → Prop} (h : K v) : Mv v K := Mv_iff.2 h
def Pick (c : Bool) (a b : Value) (K : Value → Prop) : Prop := match c with | true => Mv a K | false => Mv b K
theorem Pick.h {c : Bool} {a b : Value} {K : Value → Prop} (h : Pick c a b K) : K (if c then a else b) := by cases c <;> exact Mv.h h
theorem Pick.mk {c : Bool} {a b : Value} {K : Value → Prop} (h : K (if c then a else b)) : Pick c a b K := by cases c <;> exact Mv.mk h
def Same (k k' : IntKind) (p : Prop) : Prop := match Nat.beq (kn k) (kn k') with | true => p | false => False
theorem Same.h {k k' : IntKind} {p : Prop} (h : Same k k' p) : k = k' ∧ p := by
  unfold Same at h
  split at h
  · exact ⟨kn_inj (by assumption), h⟩
  · exact h.elim
theorem Same.mk {k : IntKind} {p : Prop} (h : p) : Same k k p := by unfold Same; cases k <;> exact h
structure Ld (W0 : World) (own : Own) (a : Addr) (K : Value → Prop) : Prop where
  h : ∃ v, Kn W0 own (fun w => w.cell? a = some v) ∧ K v
structure LdN (W0 : World) (own : Own) (a : Addr) (n : Nat) (K : Array Value → Prop) : Prop where
  h : ∃ vs : Array Value, vs.toList.length = n ∧ Kn W0 own (fun w => ∀ j, j < n → w.cell? (a.add j) = vs.toList[j]?) ∧ K vs
def oneC : Value → Bool
  | .agg _ | .tuple _ => false
  | _ => true
structure StT (W0 : World) (own : Own) (a : Addr) (v : Value) (K : Own → Prop) : Prop where
  h : oneC v = true ∧ ∃ own', (∀ w, St W0 own w → (w.cell? a).isSome = true ∧ w.frozen? a = false ∧ St W0 own' (w.setCell a v)) ∧ K own'
def setN (w : World) (a : Addr) : Nat → List Value → World
  | _, [] => w
  | j, v :: vs => setN (w.setCell (a.add j) v) a (j + 1) vs
structure StN (W0 : World) (own : Own) (a : Addr) (vs : List Value) (K : Own → Prop) : Prop where
  h : (∀ v ∈ vs, oneC v = true) ∧ ∃ own', (∀ w, St W0 own w → (∀ j, j < vs.length → (w.cell? (a.add j)).isSome = true ∧ w.frozen? (a.add j) = false) ∧ St W0 own' (setN w a 0 vs)) ∧ K own'
structure New (W0 : World) (own : Own) (o : Obj) (K : Nat → Own → Prop) : Prop where
  h : ∀ b, W0.heap.size ≤ b → (∀ e ∈ own, e.1 < b) → K b ((b, (· = o)) :: own)
structure MkT (W0 : World) (own : Own) (T : TypeId) (bytes : Nat) (zs : List Value) (l c : Int) (K : Value → Own → Prop) : Prop where
  h : ∃ l' c' : Nat, l = l' ∧ c = c' ∧ l' ≤ c' ∧ c' * bytes ≤ 281474976710656 ∧ ∀ b, W0.heap.size ≤ b → K (.slice (some ⟨b, 0, none⟩) l' c') ((b, fun o => o = Obj.cells (List.replicate c' zs).flatten.toArray T) :: own)
def Holds (a : Option Addr) (cs : List Value) (w : World) : Prop := ∀ ad, a = some ad → ∀ j v, cs[j]? = some v → w.cell? (ad.add j) = some v
structure AppT (W0 : World) (own : Own) (T : TypeId) (sz bytes : Nat) (zs : List Value) (a : Option Addr) (n c : Nat) (a2 : Option Addr) (m : Nat) (K : Value → Own → Prop) : Prop where
  h : ∃ cs ys : List Value, cs.length = n * sz ∧ ys.length = m * sz ∧ (a = none → cs = []) ∧ (a2 = none → ys = []) ∧ (∀ v ∈ ys, oneC v = true) ∧ Kn W0 own (Holds a cs) ∧ Kn W0 own (Holds a2 ys) ∧
    (n + m ≤ c → ∃ own', (∀ w, St W0 own w → (∀ ad, a = some ad → (∀ j, j < ys.length → (w.cell? ((ad.add (n * sz)).add j)).isSome = true ∧ w.frozen? ((ad.add (n * sz)).add j) = false) ∧ St W0 own' (setN w (ad.add (n * sz)) 0 ys)) ∧ (a = none → St W0 own' w)) ∧ K (.slice a (n + m) c) own') ∧
    (c < n + m → (n + m) * bytes ≤ 140737488355328 ∧ ∀ b c', W0.heap.size ≤ b → n + m ≤ c' → ∃ own', Ent W0 ((b, fun o => o = Obj.cells (cs ++ ys ++ (List.replicate (c' - (n + m)) zs).flatten).toArray T) :: own) own' ∧ K (.slice (some ⟨b, 0, none⟩) (n + m) c') own')
structure AppZ (W0 : World) (own : Own) (T : TypeId) (bytes : Nat) (zs : List Value) (a : Option Addr) (l c : Nat) (m : Int) (K : Value → Own → Prop) : Prop where
  h : (m = 0 ∧ l ≤ c ∧ K (.slice a l c) own) ∨ l = 0 ∧ c = 0 ∧ ∃ m' : Nat, m = m' ∧ 0 < m' ∧ m' * bytes ≤ 281474976710656 ∧ ∀ b c', W0.heap.size ≤ b → m' ≤ c' → K (.slice (some ⟨b, 0, none⟩) m' c') ((b, fun o => o = Obj.cells (List.replicate c' zs).flatten.toArray T) :: own)
def okF (P : Program) (k : FuncId) : Bool := match P.funcs[k]? with
  | some fn => !(fn.name == "runtime.NumGoroutine") && fn.body.isSome
  | none => false
structure CallT (P : Program) (W0 : World) (own : Own) (k : FuncId) (args : List Value) (K : Value → Own → Prop) : Prop where
  h : ∀ w, St W0 own w → Calls P k args.toArray w fun e w' => ∃ v own', e = .returned v ∧ St W0 own' w' ∧ K v own'
structure CallV (P : Program) (W0 : World) (own : Own) (k : FuncId) (args : List Value) (K : Value → Own → Prop) : Prop where
  h : okF P k = true ∧ CallT P W0 own k args K
structure YieldT (P : Program) (W0 : World) (own : Own) (l : Nat) (args : List Value) (K : Value → Own → Prop) : Prop where
  h : ∀ w, St W0 own w → ∃ k tmps assign body, (Instr.yield l args.toArray).run P w = .ok (.round l k tmps assign body) w ∧ RoundIn Fence.wide 0 P l k tmps assign body w fun e w' => ∃ v own', e = .returned v ∧ St W0 own' w' ∧ K v own'
structure NextT (W0 : World) (own : Own) (b : Nat) (K : Value → Own → Prop) : Prop where
  h : ∃ (s : ByteArray) (pos : Nat), (b, fun o => o = Obj.stringIter s pos) ∈ own ∧ (pos < s.size → ∃ own', Up b (fun o => o = Obj.stringIter s pos) (fun o => o = Obj.stringIter s (pos + (Utf8.decode s pos).2)) own own' ∧ K (.tuple #[.bool true, .int .i64 pos, .int .i32 (Utf8.decode s pos).1]) own') ∧ (¬ pos < s.size → K (.tuple #[.bool false]) own)
structure NewM (W0 : World) (own : Own) (K : Nat → Own → Prop) : Prop where
  h : ∀ b, W0.heap.size ≤ b → K b ((b, mapO []) :: own)
structure MlkT (own : Own) (kk b : Nat) (key : Value) (K : Option Value → Prop) : Prop where
  h : ∃ l r, (b, mapO l) ∈ own ∧ findM kk key l = some r ∧ K r
structure MupT (own : Own) (kk b : Nat) (key v : Value) (K : Own → Prop) : Prop where
  h : ∃ l own', Up b (mapO l) (mapO (updM kk key v l)) own own' ∧ (findM kk key l).isSome = true ∧ K own'
noncomputable def Bld (f : Fr) (parts : List (Nat × Nat × Operand)) : List Value → (List Value → Prop) → Prop :=
  List.rec (motive := fun _ => List Value → (List Value → Prop) → Prop) (fun cs K => K cs) (fun p _ ih cs K => match ev f p.2.2 with
    | .agg vs => (match Nat.beq vs.toList.length p.2.1 with | true => ih (cs.take p.1 ++ vs.toList ++ cs.drop (p.1 + p.2.1)) K | false => False)
    | v => Mv v fun v => (match Nat.beq p.2.1 1 with | true => ih (cs.set p.1 v) K | false => False)) parts
theorem Bld_nil {f : Fr} {cs : List Value} {K : List Value → Prop} : Bld f [] cs K = K cs := rfl
theorem Bld_cons {f : Fr} {off sz : Nat} {x : Operand} {r : List (Nat × Nat × Operand)} {cs : List Value} {K : List Value → Prop} : Bld f ((off, sz, x) :: r) cs K = match ev f x with
    | .agg vs => (match Nat.beq vs.toList.length sz with | true => Bld f r (cs.take off ++ vs.toList ++ cs.drop (off + sz)) K | false => False)
    | v => Mv v fun v => (match Nat.beq sz 1 with | true => Bld f r (cs.set off v) K | false => False) := rfl
def bitF (op : BinOp) (k : IntKind) (m n : Int) : Int :=
  match op with
  | .and => k.wrap (BitVec.ofInt k.bits m &&& BitVec.ofInt k.bits n).toNat
  | .or => k.wrap (BitVec.ofInt k.bits m ||| BitVec.ofInt k.bits n).toNat
  | .xor => k.wrap (BitVec.ofInt k.bits m ^^^ BitVec.ofInt k.bits n).toNat
  | _ => k.wrap (BitVec.ofInt k.bits m &&& ~~~ BitVec.ofInt k.bits n).toNat
structure BitT (op : BinOp) (k : IntKind) (m n : Int) (K : Int → Prop) : Prop where
  h : K (bitF op k m n)
def binInt (op : BinOp) (k : IntKind) (m : Int) (k' : IntKind) (n : Int) (K : Value → Prop) : Prop :=
  match op with
  | .add => Same k k' <| Arith k (m + n) fun z => K (.int k z)
  | .sub => Same k k' <| Arith k (m - n) fun z => K (.int k z)
  | .mul => Same k k' <| Arith k (m * n) fun z => K (.int k z)
  | .quo => Same k k' <| Quo k m n fun z => K (.int k z)
  | .rem => Same k k' <| Rem m n fun z => K (.int k z)
  | .and => Same k k' <| BitT .and k m n fun z => K (.int k z)
  | .or => Same k k' <| BitT .or k m n fun z => K (.int k z)
  | .xor => Same k k' <| BitT .xor k m n fun z => K (.int k z)
  | .andNot => Same k k' <| BitT .andNot k m n fun z => K (.int k z)
  | .shl => Shl k m n fun z => K (.int k z)
  | .shr => Shr k m n fun z => K (.int k z)
  | .eql => Same k k' <| K (.bool (decide (m = n)))
  | .neq => Same k k' <| K (.bool (decide (m ≠ n)))
  | .lss => Same k k' <| K (.bool (decide (m < n)))
  | .leq => Same k k' <| K (.bool (decide (m ≤ n)))
  | .gtr => Same k k' <| K (.bool (decide (n < m)))
  | .geq => Same k k' <| K (.bool (decide (n ≤ m)))
def XO (P : Program) (W0 : World) (f : Fr) (own : Own) (op : IOp) (K : Value → Own → Prop) : Prop :=
  match op with
  | .mov x => Mv (ev f x) fun v => K v own
  | .pick c a b => match ev f c with
    | .bool c => Pick c (ev f a) (ev f b) fun v => K v own
    | _ => False
  | .bin op x y => match ev f x, ev f y with
    | .int k m, .int k' n => binInt op k m k' n fun v => K v own
    | _, _ => False
  | .sbin op x y => match ev f x, ev f y with
    | .string a, .string b => binStr op a b fun v => K v own
    | _, _ => False
  | .fbin op x y => match ev f x, ev f y with
    | .float .f64 a, .float .f64 b => FCmp op a b fun r => K (.bool r) own
    | _, _ => False
  | .flt op x y => match ev f x, ev f y with
    | .float .f64 a, .float .f64 b => FltA op a b fun r => K (.float .f64 r) own
    | _, _ => False
  | .i2f x => match ev f x with
    | .int _ n => K (.float .f64 (FloatKind.f64.nearest n)) own
    | _ => False
  | .f2i k x => match ev f x with
    | .float .f64 b => F2I k b fun n => K (.int k n) own
    | _ => False
  | .fbits x => match ev f x with
    | .float .f64 b => K (.int .u64 b) own
    | _ => False
  | .fpk neg x y => match ev f x, ev f y with
    | .float .f64 a, .float .f64 b => K (.float .f64 (pickF neg a b)) own
    | _, _ => False
  | .ffrom x => match ev f x with
    | .int .u64 n => K (.float .f64 n.toNat) own
    | _ => False
  | .beq neg x y => match ev f x, ev f y with
    | .bool a, .bool b => K (.bool (bif neg then decide (a ≠ b) else decide (a = b))) own
    | _, _ => False
  | .not x => match ev f x with
    | .bool a => K (.bool (!a)) own
    | _ => False
  | .neg x => match ev f x with
    | .int k a => Arith k (0 - a) fun z => K (.int k z) own
    | _ => False
  | .conv k x => match ev f x with
    | .int _ a => Arith k a fun z => K (.int k z) own
    | _ => False
  | .fad off x => match ev f x with
    | .pointer (some ⟨b, o, none⟩) => K (.pointer (some ⟨b, o + off, none⟩)) own
    | _ => False
  | .fld off x => match ev f x with
    | .agg cs => Sel cs.toList[off]? fun v => K v own
    | _ => False
  | .fldN off n x => match ev f x with
    | .agg cs => SelN cs.toList off n fun v => K v own
    | _ => False
  | .ixs sz x i => match ev f x, ev f i with
    | .slice a len _, .int _ i => IxS a sz i len fun ad => K (.pointer (some ad)) own
    | _, _ => False
  | .sls sz x lo hi mx => match ev f x, evI f lo, evI f hi, evI f mx with
    | .slice a n c, some lo, some hi, some mx => SlsT a n c sz lo hi mx fun v => K v own
    | _, _, _, _ => False
  | .sslc x lo hi => match ev f x, evI f lo, evI f hi with
    | .string s, some lo, some hi => SscT s lo hi fun v => K v own
    | _, _, _ => False
  | .sidx x i => match ev f x, ev f i with
    | .string s, .int _ i => SixT s i fun v => K v own
    | _, _ => False
  | .scat x y => match ev f x, ev f y with
    | .string a, .string b => SctT a b fun v => K v own
    | _, _ => False
  | .ibs x c => match ev f x, ev f c with
    | .string s, .int .u8 c => K (.int .i64 (ibsF s c)) own
    | _, _ => False
  | .capb x => match ev f x with
    | .slice _ _ c => K (.int .i64 c) own
    | _ => False
  | .nilq neg k x y => match nilB k (ev f x) (ev f y) with
    | some b => K (.bool (bif neg then !b else b)) own
    | none => False
  | .ageq neg ks x y => match ev f x, ev f y with
    | .agg xs, .agg ys => EqT ks xs.toList ys.toList fun r => K (.bool (bif neg then !r else r)) own
    | _, _ => False
  | .mkf k cap => K (.func (.func k) #[] (cap.map (ev f)).toArray) own
  | .mk t _ bytes zs l c => match ev f l, ev f c with
    | .int _ l, .int _ c => MkT W0 own t bytes zs l c K
    | _, _ => False
  | .app t sz bytes zs s x => match ev f s, ev f x with
    | .slice a n c, .slice a2 m _ => AppT W0 own t sz bytes zs a n c a2 m K
    | _, _ => False
  | .appz t bytes zs s n => match ev f s, ev f n with
    | .slice a l c, .int .i64 m => AppZ W0 own t bytes zs a l c m K
    | _, _ => False
  | .clr zs x => match ev f x with
    | .slice (some a) n _ => StN W0 own a (List.replicate n zs).flatten fun own' => K (.tuple #[]) own'
    | .slice none _ _ => K (.tuple #[]) own
    | _ => False
  | .callv x args => match ev f x with
    | .func (.func k) first cap => CallV P W0 own k (first.toList ++ args.map (ev f) ++ cap.toList) K
    | .func (.yield l) first _ => YieldT P W0 own l (first.toList ++ args.map (ev f)) K
    | _ => False
  | .ixa len sz x i => match ev f x, ev f i with
    | .pointer (some ⟨b, o, none⟩), .int _ i => Idx i len fun j => K (.pointer (some ⟨b, o + j * sz, none⟩)) own
    | _, _ => False
  | .idx len x i => match ev f x, ev f i with
    | .agg cs, .int _ i => Idx i len fun j => Sel cs.toList[j]? fun v => K v own
    | _, _ => False
  | .idxN len sz x i => match ev f x, ev f i with
    | .agg cs, .int _ i => Idx i len fun j => SelN cs.toList (j * sz) sz fun v => K v own
    | _, _ => False
  | .ld x => match ev f x with
    | .pointer (some a) => Ld W0 own a fun v => K v own
    | _ => False
  | .ldN n x => match ev f x with
    | .pointer (some a) => LdN W0 own a n fun vs => K (.agg vs) own
    | _ => False
  | .st x v => match ev f x with
    | .pointer (some a) => Mv (ev f v) fun v => StT W0 own a v fun own' => K undef own'
    | _ => False
  | .stN n x v => match ev f x, ev f v with
    | .pointer (some a), .agg cs => cs.toList.length = n ∧ StN W0 own a cs.toList fun own' => K undef own'
    | _, _ => False
  | .box t x => match ev f x with
    | .agg cs => New W0 own (.cells cs t) fun b own' => K (.pointer (some ⟨b, 0, none⟩)) own'
    | v => Mv v fun v => New W0 own (.cells #[v] t) fun b own' => K (.pointer (some ⟨b, 0, none⟩)) own'
  | .new t z => match z with
    | .agg cs => New W0 own (.cells cs t) fun b own' => K (.pointer (some ⟨b, 0, none⟩)) own'
    | z => New W0 own (.cells #[z] t) fun b own' => K (.pointer (some ⟨b, 0, none⟩)) own'
  | .ext x i => match ev f x with
    | .tuple vs => Sel vs.toList[i]? fun v => K v own
    | _ => False
  | .len x => match ev f x with
    | .slice _ n _ => K (.int .i64 n) own
    | _ => False
  | .lens x => match ev f x with
    | .string s => K (.int .i64 s.size) own
    | _ => False
  | .nilc x => match ev f x with
    | .pointer (some a) => K (.pointer (some a)) own
    | _ => False
  | .mm mx x y => match ev f x, ev f y with
    | .int k a, .int _ b => MM mx a b fun z => K (.int k z) own
    | _, _ => False
  | .bld zero parts => Bld f parts zero fun cs => K (.agg cs.toArray) own
  | .blds t len zero parts => Bld f parts zero fun cs => New W0 own (.cells cs.toArray t) fun b own' => K (.slice (some ⟨b, 0, none⟩) len len) own'
  | .call k args => CallT P W0 own k (args.map (ev f)) K
  | .nifc neg x => match ev f x with
    | .nilIface => K (.bool (!neg)) own
    | .iface _ _ => K (.bool neg) own
    | _ => False
  | .iter x => match ev f x with
    | .string s => New W0 own (.stringIter s 0) fun b own' => K (.pointer (some ⟨b, 0, none⟩)) own'
    | _ => False
  | .next x => match ev f x with
    | .pointer (some ⟨b, 0, none⟩) => NextT W0 own b K
    | _ => False
  | .mkm => NewM W0 own fun b own' => K (.map (some b)) own'
  | .mlk kk z ok x i => match ev f x with
    | .map none => K (mapR z ok none) own
    | .map (some b) => MlkT own kk b (ev f i) fun r => K (mapR z ok r) own
    | _ => False
  | .mup kk x i v => match ev f x with
    | .map (some b) => MupT own kk b (ev f i) (ev f v) fun own' => K undef own'
    | _ => False
  | _ => False
theorem addr_add (b o n : Nat) : (Addr.mk b o none).add n = ⟨b, o + n, none⟩ := by
  unfold Addr.add
  split
  · simp_all
  · rfl
def roOp : IOp → Bool
  | .st _ _ | .stN _ _ _ | .box _ _ | .new _ _ | .call _ _ | .callv _ _ | .blds _ _ _ _ | .mk _ _ _ _ _ _ | .app _ _ _ _ _ _ | .appz _ _ _ _ _ | .clr _ _ | .flt _ _ _ | .iter _ | .next _ | .mkm | .mup _ _ _ _ | .bad => false
  | _ => true
def Does (P : Program) (f : Fr) (o : Oper) (w : World) (own : Own) (W0 : World) (K : Value → Own → Prop) (ro : Bool) : Prop :=
  (∃ v, (execOp (ev f) o).run P w = .ok (.value v) w ∧ K v own) ∨
  (ro = false ∧ ((∃ v w' own', (execOp (ev f) o).run P w = .ok (.value v) w' ∧ St W0 own' w' ∧ K v own') ∨
  (∃ w' own', (execOp (ev f) o).run P w = .ok .skip w' ∧ St W0 own' w' ∧ K undef own') ∨
  (∃ k args, (execOp (ev f) o).run P w = .ok (.enter k args) w ∧ CallT P W0 own k args.toList K) ∨
  (∃ l k tmps assign body, (execOp (ev f) o).run P w = .ok (.round l k tmps assign body) w ∧ RoundIn Fence.wide 0 P l k tmps assign body w fun e w' => ∃ v own', e = .returned v ∧ St W0 own' w' ∧ K v own')))
theorem ev_eq {a : Act} {f : Fr} (hf : ∀ t, a.tmps.getD t undef = f t) : a.eval = ev f := by
  funext x
  cases x <;> simp only [Act.eval, ev, hf]
section
variable {P : Program} {o : Oper} {w : World} {own : Own} {W0 : World} {K : Value → Own → Prop} {f : Fr}
theorem does_val {v : Value} {ro : Bool} (_hS : St W0 own w) (hr : (execOp (ev f) o).run P w = .ok (.value v) w) (hk : K v own) : Does P f o w own W0 K ro :=
  .inl ⟨v, hr, hk⟩
theorem does_of {s : Sem Value} {v : Value} {ro : Bool} (he : execOp (ev f) o = (do pure (.value (← s)))) (hS : St W0 own w) (hr : s.run P w = .ok v w) (hk : K v own) : Does P f o w own W0 K ro :=
  does_val hS (by rw [he]; simp [hr]) hk
theorem does_binInt {ro : Bool} {op : BinOp} {t t' : TypeId} {x y : Operand} {k k' : IntKind} {m n : Int} (ho : o.op = .binOp op t x y t') (hx : ev f x = .int k m) (hy : ev f y = .int k' n) (hS : St W0 own w)
    (h : binInt op k m k' n fun v => K v own) : Does P f o w own W0 K ro := by
  have he : execOp (ev f) o = (do pure (.value (← (do eqGuard op t x y (ev f x) (ev f y); binOp op t (ev f x) (ev f y))))) := by unfold execOp; rw [ho]
  have hg : ∀ w, (eqGuard op t x y (ev f x) (ev f y)).run P w = .ok () w := by
    intro w
    unfold eqGuard
    rw [hx, hy]
    cases op <;> simp
  refine (?_ : ∃ v, (binOp op t (ev f x) (ev f y)).run P w = .ok v w ∧ K v own).elim fun v hv => does_of he hS (by simp [hg, hv.1]) hv.2
  rw [hx, hy]
  cases op <;> simp only [binInt] at h
  case add => obtain ⟨rfl, ⟨g⟩⟩ := h.h; exact ⟨_, by simp [binOp, Op.intArith], g⟩
  case sub => obtain ⟨rfl, ⟨g⟩⟩ := h.h; exact ⟨_, by simp [binOp, Op.intArith], g⟩
  case mul => obtain ⟨rfl, ⟨g⟩⟩ := h.h; exact ⟨_, by simp [binOp, Op.intArith], g⟩
  case quo => obtain ⟨rfl, ⟨h0, g⟩⟩ := h.h; exact ⟨_, by simp [binOp, Op.intDiv, h0], g⟩
  case rem => obtain ⟨rfl, ⟨h0, g⟩⟩ := h.h; exact ⟨_, by simp [binOp, Op.intDiv, h0], g⟩
  case and => obtain ⟨rfl, ⟨g⟩⟩ := h.h; exact ⟨_, by simp [binOp, Op.intBits, bitF], g⟩
  case or => obtain ⟨rfl, ⟨g⟩⟩ := h.h; exact ⟨_, by simp [binOp, Op.intBits, bitF], g⟩
  case xor => obtain ⟨rfl, ⟨g⟩⟩ := h.h; exact ⟨_, by simp [binOp, Op.intBits, bitF], g⟩
  case andNot => obtain ⟨rfl, ⟨g⟩⟩ := h.h; exact ⟨_, by simp [binOp, Op.intBits, bitF], g⟩
  case shl => obtain ⟨h0, h⟩ := h; exact ⟨_, by simp [binOp, Op.shift, Int.not_lt.2 h0], h⟩
  case shr => obtain ⟨h0, h⟩ := h; exact ⟨_, by simp [binOp, Op.shift, Int.not_lt.2 h0], h⟩
  case eql => obtain ⟨rfl, g⟩ := h.h; exact ⟨_, by simp [binOp, Op.intCmp]; rfl, g⟩
  case neq => obtain ⟨rfl, g⟩ := h.h; exact ⟨_, by simp [binOp, Op.intCmp, bne]; rfl, g⟩
  case lss => obtain ⟨rfl, g⟩ := h.h; exact ⟨_, by simp [binOp, Op.intCmp], g⟩
  case leq => obtain ⟨rfl, g⟩ := h.h; exact ⟨_, by simp [binOp, Op.intCmp], g⟩
  case gtr => obtain ⟨rfl, g⟩ := h.h; exact ⟨_, by simp [binOp, Op.intCmp], g⟩
  case geq => obtain ⟨rfl, g⟩ := h.h; exact ⟨_, by simp [binOp, Op.intCmp], g⟩
theorem run_load_some {a : Addr} {v : Value} (h : w.cell? a = some v) : (load a).run P w = .ok v w := by
  simp [load, Sem.run, h]
theorem run_loadFrom {a : Addr} : ∀ (n i : Nat) (acc vs : List Value), vs.length = n → (∀ j, j < n → w.cell? (a.add (i + j)) = vs[j]?) →
    (loadCellsFrom a i n acc.toArray).run P w = .ok (acc ++ vs).toArray w
  | 0, i, acc, vs, hl, _ => by
    have : vs = [] := List.length_eq_zero_iff.1 hl
    subst this
    simp [loadCellsFrom]
  | n + 1, i, acc, vs, hl, h => by
    match vs, hl with
    | v :: vs, hl =>
      have h0 := h 0 (by omega)
      simp only [Nat.add_zero, List.getElem?_cons_zero] at h0
      have ih := run_loadFrom n (i + 1) (acc ++ [v]) vs (by simpa using hl) (fun j hj => by
        have := h (j + 1) (by omega)
        simpa [Nat.add_assoc, Nat.add_comm 1 j] using this)
      simp only [loadCellsFrom, Sem.run_bind, run_load_some h0, Result.andThen_ok, List.push_toArray]
      rw [ih]
      simp
theorem run_loadCells {a : Addr} {n : Nat} {vs : List Value} (hl : vs.length = n) (h : ∀ j, j < n → w.cell? (a.add j) = vs[j]?) :
    (loadCells a n).run P w = .ok vs.toArray w := by
  have := run_loadFrom (P := P) n 0 [] vs hl (fun j hj => by simpa using h j hj)
  simpa [loadCells] using this
theorem setCell_heap {a : Addr} {v : Value} (k : Nat) : (w.setCell a v).heap[k]? = if a.block = k then (w.heap[k]?).map (fun
      | .cells c elem frozen => .cells (if a.spot.isSome then c else c.setIfInBounds a.off v) elem frozen
      | o => o) else w.heap[k]? := by
  simp only [World.setCell, Array.getElem?_modify]
  rfl
theorem cell?_setCell_isSome {a b : Addr} {v : Value} (h : (w.cell? b).isSome = true) : ((w.setCell a v).cell? b).isSome = true := by
  unfold World.cell? at *
  rw [setCell_heap]
  by_cases e : a.block = b.block
  · rw [if_pos e]
    rcases hx : w.heap[b.block]? with _ | x
    · simp [hx] at h
    · rw [hx] at h
      cases x <;> simp_all
      split <;> simp_all
      split <;> simp_all
  · rw [if_neg e]; exact h
theorem frozen?_setCell' {a b : Addr} {v : Value} : (w.setCell a v).frozen? b = w.frozen? b := by
  unfold World.frozen?
  rw [setCell_heap]
  by_cases e : a.block = b.block
  · rw [if_pos e]
    rcases hx : w.heap[b.block]? with _ | x
    · simp
    · cases x <;> simp
  · rw [if_neg e]
theorem run_store_ok {a : Addr} {v : Value} (h1 : oneC v = true) (h : (w.cell? a).isSome = true) (hf : w.frozen? a = false) : (store a v).run P w = .ok () (w.setCell a v) := by
  obtain ⟨u, hu⟩ := Option.isSome_iff_exists.1 h
  cases v <;> simp_all [store, Sem.run, oneC]
theorem run_storeCells {a : Addr} : ∀ (vs : List Value) (i : Nat) (w : World), (∀ v ∈ vs, oneC v = true) →
    (∀ j, j < vs.length → (w.cell? (a.add (i + j))).isSome = true ∧ w.frozen? (a.add (i + j)) = false) → (storeCells a vs i).run P w = .ok () (setN w a i vs)
  | [], i, w, _, _ => by simp [storeCells, setN]
  | v :: vs, i, w, h1, h => by
    have h0 := h 0 (by simp)
    simp only [Nat.add_zero] at h0
    simp only [storeCells, Sem.run_bind, run_store_ok (h1 v List.mem_cons_self) h0.1 h0.2, Result.andThen_ok, setN]
    refine run_storeCells vs (i + 1) _ (fun x hx => h1 x (List.mem_cons_of_mem _ hx)) fun j hj => ?_
    have := h (j + 1) (by simpa using hj)
    have e : i + 1 + j = i + (j + 1) := by omega
    rw [e]
    exact ⟨cell?_setCell_isSome this.1, by rw [frozen?_setCell']; exact this.2⟩
theorem aggT_run {t : TypeId} {b : Bool} (h : aggT P t = some b) : (isAgg t).run P w = .ok b w := by
  unfold aggT at h
  unfold isAgg
  cases hu : P.underlying t with
  | none => simp [hu] at h
  | some d =>
    simp only [underlying, Sem.run_bind, run_program, Result.andThen_ok, hu]
    cases d <;> simp_all
theorem szT_run {t : TypeId} {n : Nat} (h : szT P t = some n) : (sizeOf t).run P w = .ok n w := by
  unfold szT at h
  unfold sizeOf typeInfo
  cases hu : P.info? t with
  | none => simp [hu] at h
  | some d => simp_all
theorem under_run {t : TypeId} {d : TypeDesc} (h : P.underlying t = some d) : (underlying t).run P w = .ok d w := by
  simp [underlying, h]
theorem zeroT_run {t : TypeId} {z : Value} (h : zeroT P t = some z) : (zeroValue t).run P w = .ok z w := by
  unfold zeroT at h
  unfold zeroValue typeInfo
  cases hu : P.info? t with
  | none => simp [hu] at h
  | some d => simp_all
theorem setMany {vs : List Value} : ∀ (off : Nat) (cs : List Value), off + vs.length ≤ cs.length →
    (vs.toArray.zipIdx.foldl (fun (cs : Array Value) (c, j) => cs.setIfInBounds (off + j) c) cs.toArray) = (cs.take off ++ vs ++ cs.drop (off + vs.length)).toArray := by
  intro off cs hl
  have key : ∀ (vs : List Value) (k : Nat) (cs : List Value), off + k + vs.length ≤ cs.length →
      ((vs.zipIdx k).foldl (fun (cs : Array Value) (c, j) => cs.setIfInBounds (off + j) c) cs.toArray) = (cs.take (off + k) ++ vs ++ cs.drop (off + k + vs.length)).toArray := by
    intro vs
    induction vs with
    | nil => intro k cs _; simp
    | cons v vs ih =>
      intro k cs hl
      simp only [List.length_cons] at hl
      simp only [List.zipIdx_cons, List.foldl_cons]
      have e0 : cs.toArray.setIfInBounds (off + k) v = (cs.set (off + k) v).toArray := by simp
      rw [e0, ih (k + 1) _ (by simp; omega)]
      congr 1
      have e1 : off + (k + 1) = off + k + 1 := by omega
      rw [e1, List.take_set, List.drop_set_of_lt (by omega), List.take_succ_eq_append_getElem (by omega)]
      have e2 : (List.take (off + k) cs ++ [cs[off + k]]).set (off + k) v = List.take (off + k) cs ++ [v] := by
        rw [List.set_append_right _ _ (by simp; omega)]
        have : off + k - (List.take (off + k) cs).length = 0 := by simp; omega
        rw [this]
        rfl
      rw [e2]
      simp [Nat.add_assoc, Nat.add_comm 1]
  have := key vs 0 cs (by simpa using hl)
  rw [← Array.foldl_toList]
  simpa using this
theorem fill_step {place : Nat → Option (Nat × Nat)} {i off sz : Nat} {v : Value} {vs cs : List Value} {rest : List (Nat × Value)} (hp : place i = some (off, sz)) (hc : v.cells = vs.toArray) (hs : vs.length = sz)
    (hle : off + sz ≤ cs.length) : Instr.fill place cs.toArray ((i, v) :: rest) = Instr.fill place (cs.take off ++ vs ++ cs.drop (off + sz)).toArray rest := by
  subst hs
  have hm := setMany (vs := vs) off cs hle
  rw [← hm]
  simp only [Instr.fill, hp, hc]
  rw [if_neg (by simp; omega)]
theorem set_split (cs : List Value) (off : Nat) (v : Value) (h : off + 1 ≤ cs.length) : cs.set off v = cs.take off ++ [v] ++ cs.drop (off + 1) := by
  rw [List.set_eq_take_append_cons_drop, if_pos (by omega)]
  simp
theorem Bld_run {place : Nat → Option (Nat × Nat)} : ∀ (parts : List (Nat × Operand)) (l : List (Nat × Nat × Operand)) (cs : List Value) (K' : List Value → Prop), lowParts P place cs.length parts = some l → Bld f l cs K' →
    ∃ cs', Instr.fill place cs.toArray (parts.map fun p => (p.1, ev f p.2)) = some cs'.toArray ∧ K' cs' ∧ cs'.length = cs.length
  | [], l, cs, K', hl, h => by
    simp only [lowParts, Option.some.injEq] at hl
    subst hl
    exact ⟨cs, rfl, h, rfl⟩
  | (i, x) :: parts, l, cs, K', hl, h => by
    simp only [lowParts] at hl
    split at hl
    · rename_i off sz hp
      split at hl
      · rename_i hle
        split at hl
        · rename_i l' hl'
          simp only [Option.some.injEq] at hl
          subst hl
          rw [Bld_cons] at h
          have key : ∀ vs : List Value, (ev f x).cells = vs.toArray → vs.length = sz → Bld f l' (cs.take off ++ vs ++ cs.drop (off + sz)) K' →
              ∃ cs', Instr.fill place cs.toArray (((i, x) :: parts).map fun p => (p.1, ev f p.2)) = some cs'.toArray ∧ K' cs' ∧ cs'.length = cs.length := by
            intro vs hc hs h
            have hlen : (cs.take off ++ vs ++ cs.drop (off + sz)).length = cs.length := by simp; omega
            obtain ⟨cs', h1, h2, h3⟩ := Bld_run parts l' _ K' (by rw [hlen]; exact hl') h
            exact ⟨cs', by rw [List.map_cons, fill_step hp hc hs hle]; exact h1, h2, h3.trans hlen⟩
          split at h
          · rename_i vs hx
            split at h
            · rename_i hb
              exact key vs.toList (by rw [hx]; simp [Value.cells]) (Nat.eq_of_beq_eq_true hb) h
            · exact h.elim
          · rename_i v hne
            have h' := Mv.h (K := fun v => (match Nat.beq sz 1 with | true => Bld f l' (cs.set off v) K' | false => False)) h
            split at h'
            · rename_i hb
              have hsz : sz = 1 := Nat.eq_of_beq_eq_true hb
              have hc : (ev f x).cells = #[ev f x] := by
                unfold Value.cells
                split
                · rename_i cs hx; exact (hne cs hx).elim
                · rfl
              rw [set_split cs off _ (by omega)] at h'
              exact key [ev f x] hc (by simp [hsz]) (by rw [hsz]; exact h')
            · exact h'.elim
        · cases hl
      · cases hl
    · cases hl
theorem placesM {fs : Array Field} (hok : fieldsOk P fs = true) : (fs.mapM fun f => (Prod.mk f.offset <$> sizeOf f.type : Sem (Nat × Nat))).run P w = .ok (fs.map fun f => (f.offset, (szT P f.type).getD 0)) w := by
  obtain ⟨fs⟩ := fs
  rw [List.mapM_toArray]
  simp only [fieldsOk, List.all_toArray] at hok
  have key : ∀ l : List Field, (l.all fun f => (szT P f.type).isSome) = true → (l.mapM fun f => (Prod.mk f.offset <$> sizeOf f.type : Sem (Nat × Nat))).run P w = .ok (l.map fun f => (f.offset, (szT P f.type).getD 0)) w := by
    intro l
    induction l with
    | nil => intro _; simp
    | cons f l ih =>
      intro h
      simp only [List.all_cons, Bool.and_eq_true] at h
      obtain ⟨n, hn⟩ := Option.isSome_iff_exists.1 h.1
      simp [List.mapM_cons, szT_run hn, ih h.2, hn]
  simp [key fs hok]
theorem eqC_cons {k : Nat} {ks : List Nat} {xs ys : List Value} {r : Bool} (h : eqC (k :: ks) xs ys = some r) : ∃ x xs' y ys' a b, xs = x :: xs' ∧ ys = y :: ys' ∧ eqOne k x y = some a ∧ eqC ks xs' ys' = some b ∧ r = (a && b) := by
  match xs, ys, h with
  | x :: xs', y :: ys', h =>
    simp only [eqC] at h
    cases ha : eqOne k x y with
    | none => rw [ha] at h; cases h
    | some a =>
      rw [ha] at h
      cases hb : eqC ks xs' ys' with
      | none => rw [hb] at h; cases h
      | some b =>
        rw [hb] at h
        exact ⟨x, xs', y, ys', a, b, rfl, rfl, ha, hb, (Option.some.inj h).symm⟩
  | [], [], h => simp [eqC] at h
  | [], _ :: _, h => simp [eqC] at h
  | _ :: _, [], h => simp [eqC] at h
theorem eqC_split : ∀ (ks1 ks2 : List Nat) (xs ys : List Value) (r : Bool), eqC (ks1 ++ ks2) xs ys = some r →
    ∃ r1 r2, eqC ks1 (xs.take ks1.length) (ys.take ks1.length) = some r1 ∧ eqC ks2 (xs.drop ks1.length) (ys.drop ks1.length) = some r2 ∧ r = (r1 && r2)
  | [], ks2, xs, ys, r, h => ⟨true, r, by simp [eqC], by simpa using h, by simp⟩
  | k :: ks1, ks2, xs, ys, r, h => by
    obtain ⟨x, xs', y, ys', a, b, rfl, rfl, ha, hb, rfl⟩ := eqC_cons h
    obtain ⟨r1, r2, h1, h2, rfl⟩ := eqC_split ks1 ks2 xs' ys' b hb
    exact ⟨a && r1, r2, by simp [eqC, ha, h1], by simpa using h2, by simp [Bool.and_assoc]⟩
def shaped (P : Program) (t : TypeId) (x : Value) : Prop := (aggT P t = some true → ∃ cs, x = .agg cs) ∧ (aggT P t = some false → x.cells = #[x])
theorem kinds_agg {n : Nat} {t : TypeId} {ks : List Nat} (h : kindsT P n t = some ks) : (aggT P t = some true) ∨ (aggT P t = some false ∧ ∃ k, ks = [k]) := by
  cases n with
  | zero => simp [kindsT] at h
  | succ n =>
    unfold kindsT at h
    split at h
    · rename_i hu; exact .inr ⟨by simp [aggT, hu], _, (Option.some.inj h).symm⟩
    · rename_i hu; exact .inr ⟨by simp [aggT, hu], _, (Option.some.inj h).symm⟩
    · rename_i hu; exact .inr ⟨by simp [aggT, hu], _, (Option.some.inj h).symm⟩
    · rename_i hu; exact .inl (by simp [aggT, hu])
    · rename_i hu; exact .inl (by simp [aggT, hu])
    · cases h
theorem eqOne_cells {k : Nat} {x y : Value} {r : Bool} (h : eqOne k x y = some r) : x.cells = #[x] ∧ y.cells = #[y] := by
  unfold eqOne at h
  split at h <;> first | exact ⟨rfl, rfl⟩ | cases h
theorem part_run {t : TypeId} {n : Nat} {ks : List Nat} {xs ys : Array Value} {off : Nat} {r : Bool} (hk : kindsT P n t = some ks) (hsz : szT P t = some ks.length)
    (h : eqC ks ((xs.toList.drop off).take ks.length) ((ys.toList.drop off).take ks.length) = some r) (w : World) :
    ∃ a b, (part t xs off).run P w = .ok a w ∧ (part t ys off).run P w = .ok b w ∧ shaped P t a ∧ shaped P t b ∧ a.cells.toList = (xs.toList.drop off).take ks.length ∧ b.cells.toList = (ys.toList.drop off).take ks.length := by
  rcases kinds_agg hk with ha | ⟨ha, k, rfl⟩
  · refine ⟨.agg (xs.extract off (off + ks.length)), .agg (ys.extract off (off + ks.length)), by simp [part, aggT_run ha, szT_run hsz], by simp [part, aggT_run ha, szT_run hsz], ⟨fun _ => ⟨_, rfl⟩, fun h => by rw [ha] at h; cases h⟩, ⟨fun _ => ⟨_, rfl⟩, fun h => by rw [ha] at h; cases h⟩, ?_, ?_⟩
    · simp [Value.cells, Array.toList_extract, List.extract_eq_take_drop]
    · simp [Value.cells, Array.toList_extract, List.extract_eq_take_drop]
  · obtain ⟨x, xs', y, ys', a, b, hx, hy, ho, hb, rfl⟩ := eqC_cons h
    have hx0 : xs[off]? = some x := by
      have := congrArg (·[0]?) hx
      simpa using this
    have hy0 : ys[off]? = some y := by
      have := congrArg (·[0]?) hy
      simpa using this
    obtain ⟨cx, cy⟩ := eqOne_cells ho
    have lx : xs' = [] := by
      have := congrArg List.length hx
      simp at this
      exact List.length_eq_zero_iff.1 (by omega)
    have ly : ys' = [] := by
      have := congrArg List.length hy
      simp at this
      exact List.length_eq_zero_iff.1 (by omega)
    refine ⟨x, y, by simp [part, aggT_run ha, hx0], by simp [part, aggT_run ha, hy0], ⟨fun h => (by rw [ha] at h; cases h), fun _ => cx⟩, ⟨fun h => (by rw [ha] at h; cases h), fun _ => cy⟩, ?_, ?_⟩
    · rw [hx, lx, cx]
    · rw [hy, ly, cy]
theorem info_of_szT {t : TypeId} {n : Nat} (h : szT P t = some n) : ∃ i, P.info? t = some i ∧ P.cellsOf t = n := by
  unfold szT at h
  obtain ⟨i, hi, hn⟩ := Option.map_eq_some_iff.1 h
  exact ⟨i, hi, by simp [Program.cellsOf, hi, hn]⟩
theorem equal_flat : ∀ (n : Nat) (t : TypeId) (ks : List Nat) (d : Nat) (x y : Value) (r : Bool), kindsT P n t = some ks → n ≤ d → shaped P t x → shaped P t y → eqC ks x.cells.toList y.cells.toList = some r → ∀ w, (Op.equalIn d t x y).run P w = .ok r w
  | 0, _, _, _, _, _, _, h, _, _, _, _, _ => by simp [kindsT] at h
  | n + 1, t, ks, 0, x, y, r, _, hd, _, _, _, _ => by omega
  | n + 1, t, ks, d + 1, x, y, r, h, hd, hx, hy, he, w => by
    have one : ∀ k, ks = [k] → aggT P t = some false → eqOne k x y = some r := by
      rintro k rfl ha
      rw [hx.2 ha, hy.2 ha] at he
      obtain ⟨x', xs', y', ys', a, b, e1, e2, ho, hb, rfl⟩ := eqC_cons he
      simp only [List.cons.injEq] at e1 e2
      obtain ⟨rfl, rfl⟩ := e1
      obtain ⟨rfl, rfl⟩ := e2
      simp only [eqC, Option.some.injEq] at hb
      subst hb
      simpa using ho
    unfold kindsT at h
    split at h
    · rename_i k hu
      have ho := one 0 (Option.some.inj h).symm (by simp [aggT, hu])
      match x, y, ho with
      | .int k1 a, .int k2 b, ho =>
        simp only [eqOne] at ho
        split at ho
        · rename_i hk
          obtain rfl := kn_inj hk
          rw [run_equalIn_int w d t k1 k a b hu]
          simp only [Option.some.injEq] at ho
          rw [← ho]; congr 1
        · cases ho
    · rename_i hu
      have ho := one 1 (Option.some.inj h).symm (by simp [aggT, hu])
      match x, y, ho with
      | .bool a, .bool b, ho =>
        simp only [eqOne, Option.some.injEq] at ho
        rw [run_equalIn_bool w d t a b hu, ← ho]
        simp [Bool.beq_eq_decide_eq]
    · rename_i hu
      have ho := one 2 (Option.some.inj h).symm (by simp [aggT, hu])
      match x, y, ho with
      | .string a, .string b, ho =>
        simp only [eqOne, Option.some.injEq] at ho
        rw [run_equalIn_string w d t a b hu, ByteArray.toList_eq, ByteArray.toList_eq, ← ho]
        congr 1
        by_cases h : a.data.toList = b.data.toList
        · rw [decide_eq_true h]; exact beq_iff_eq.2 h
        · rw [decide_eq_false h]; exact beq_eq_false_iff_ne.2 h
    · rename_i k e hu
      split at h
      · rename_i ke hke
        split at h
        · rename_i hsz
          have hks := Option.some.inj h
          obtain ⟨ie, hie, hce⟩ := info_of_szT hsz
          obtain ⟨xs, rfl⟩ := hx.1 (by simp [aggT, hu])
          obtain ⟨ys, rfl⟩ := hy.1 (by simp [aggT, hu])
          rw [run_equalIn_array w d xs ys hu hie, hce]
          simp only [Value.cells] at he
          rw [← hks] at he
          have key : ∀ (m i : Nat) (r : Bool), eqC (List.replicate m ke).flatten (xs.toList.drop (i * ke.length)) (ys.toList.drop (i * ke.length)) = some r → (Op.eqItems d e ke.length xs ys (List.range' i m)).run P w = .ok r w := by
            intro m
            induction m with
            | zero =>
              intro i r h
              simp only [List.replicate_zero, List.flatten_nil] at h
              have hr : r = true := by
                cases hx0 : xs.toList.drop (i * ke.length) <;> cases hy0 : ys.toList.drop (i * ke.length) <;> rw [hx0, hy0] at h <;> simp [eqC] at h <;> first | exact h | exact h.symm
              subst hr
              simp [Op.eqItems]
            | succ m ih =>
              intro i r h
              rw [List.replicate_succ, List.flatten_cons] at h
              obtain ⟨r1, r2, h1, h2, rfl⟩ := eqC_split _ _ _ _ _ h
              obtain ⟨a, b, pa, pb, sa, sb, ca, cb⟩ := part_run hke hsz h1 w
              have hr1 := equal_flat n e ke d a b r1 hke (by omega) sa sb (by rw [ca, cb]; exact h1) w
              rw [List.drop_drop, List.drop_drop, ← Nat.succ_mul] at h2
              have h2' := ih (i + 1) r2 h2
              rw [List.range'_succ]
              simp only [Op.eqItems, Sem.run_bind, pa, pb, hr1, Result.andThen_ok]
              cases r1
              · simp
              · simpa using h2'
          rw [List.range_eq_range']
          exact key k 0 r (by simpa using he)
        · cases h
      · cases h
    · rename_i fs hu
      split at h
      · cases h
      · rename_i hst
        obtain ⟨xs, rfl⟩ := hx.1 (by simp [aggT, hu])
        obtain ⟨ys, rfl⟩ := hy.1 (by simp [aggT, hu])
        have hfo : P.fieldsOf t = fs := by simp [Program.fieldsOf, hu]
        rw [run_equalIn_struct w d t xs ys (by rw [hfo]; exact hu) (by simpa using hst), hfo]
        simp only [Value.cells] at he
        have key : ∀ (l : List Field) (off : Nat) (ks : List Nat) (r : Bool), kindsF P (kindsT P n) l off = some ks → eqC ks (xs.toList.drop off) (ys.toList.drop off) = some r → (Op.eqFields d xs ys l).run P w = .ok r w := by
          intro l
          induction l with
          | nil =>
            intro off ks r hk h
            simp only [kindsF, Option.some.injEq] at hk
            subst hk
            have hr : r = true := by
              cases hx0 : xs.toList.drop off <;> cases hy0 : ys.toList.drop off <;> rw [hx0, hy0] at h <;> simp [eqC] at h <;> first | exact h | exact h.symm
            subst hr
            simp [Op.eqFields]
          | cons f l ih =>
            intro off ks r hk h
            unfold kindsF at hk
            split at hk
            · rename_i kf hkf
              split at hk
              · rename_i hc
                split at hk
                · rename_i kr hkr
                  have := Option.some.inj hk
                  subst this
                  obtain ⟨r1, r2, h1, h2, rfl⟩ := eqC_split _ _ _ _ _ h
                  obtain ⟨a, b, pa, pb, sa, sb, ca, cb⟩ := part_run hkf hc.2.2 h1 w
                  have hr1 := equal_flat n f.type kf d a b r1 hkf (by omega) sa sb (by rw [ca, cb]; exact h1) w
                  rw [List.drop_drop, List.drop_drop] at h2
                  have h2' := ih _ _ r2 hkr h2
                  simp only [Op.eqFields, hc.2.1, ne_eq, not_false_eq_true, if_true, hc.1, Sem.run_bind, pa, pb, hr1, Result.andThen_ok]
                  cases r1
                  · simp
                  · simpa using h2'
                · cases hk
              · cases hk
            · cases hk
        exact key fs.toList 0 ks r h (by simpa using he)
    · cases h
theorem wrap64n (n : Nat) (h : n ≤ 281474976710656) : IntKind.i64.wrap (n : Int) = n := by
  unfold IntKind.wrap
  have h3 : ((2 : Int) ^ IntKind.i64.bits) = 18446744073709551616 := rfl
  have h4 : ((2 : Int) ^ (IntKind.i64.bits - 1)) = 9223372036854775808 := rfl
  simp only [h3, h4, IntKind.signed, Bool.true_and, decide_eq_true_eq]
  split <;> omega
def OV (v : Option Value) (i : Option Int) : Prop := (i = none ∧ v = none) ∨ (∃ k n, i = some n ∧ v = some (.int k n))
theorem evI_ov {f : Fr} {p : Option Operand} {q : Option Int} (hp : evI f p = some q) : OV (p.map (ev f)) q := by
  cases p with
  | none => simp only [evI, Option.some.injEq] at hp; exact .inl ⟨hp.symm, rfl⟩
  | some x =>
    simp only [evI] at hp
    split at hp
    · rename_i k i hx
      exact .inr ⟨k, i, (Option.some.inj hp).symm, by simp [hx]⟩
    · cases hp
theorem bounds_run {isS : Bool} {len cap l r m : Nat} {lo hi mx : Option Value} {lo' hi' mx' : Option Int} (h1 : OV lo lo') (h2 : OV hi hi') (h3 : OV mx mx') (e1 : lo'.getD 0 = l) (e2 : hi'.getD len = r) (e3 : mx'.getD cap = m)
    (hlr : l ≤ r) (hrm : hi'.isSome = true → r ≤ m) (hmc : mx'.isSome = true → m ≤ cap) (hmh : mx'.isSome = true → hi'.isSome = true) (w : World) : (Instr.sliceBounds isS len cap lo hi mx).run P w = .ok (l, r, m) w := by
  rcases h3 with ⟨rfl, rfl⟩ | ⟨k3, i3, rfl, rfl⟩ <;> rcases h2 with ⟨rfl, rfl⟩ | ⟨k2, i2, rfl, rfl⟩ <;> rcases h1 with ⟨rfl, rfl⟩ | ⟨k1, i1, rfl, rfl⟩
  all_goals simp only [Option.getD_some, Option.getD_none] at e1 e2 e3
  all_goals simp only [Option.isSome_some, Option.isSome_none, forall_const, Bool.false_eq_true, false_implies, implies_true] at hrm hmc hmh
  all_goals (try (replace e1 := Int.natCast_eq_zero.1 e1.symm))
  all_goals (try (replace e2 := Int.natCast_inj.1 e2))
  all_goals (try (replace e3 := Int.natCast_inj.1 e3))
  all_goals (subst e1; subst e2; subst e3)
  all_goals simp [Instr.sliceBounds, Instr.sliceBound, asIntOf, hlr, hrm, hmc]
theorem zer_flat {zs : Array Value} (c : Nat) : ((Array.range (c * zs.size)).map (zs[· % zs.size]!)) = (List.replicate c zs.toList).flatten.toArray := by
  rw [← Array.toList_inj]
  simp only [Array.toList_map, Array.toList_range]
  induction c with
  | zero => simp
  | succ c ih =>
    rw [Nat.succ_mul, List.range_add, List.map_append, ih, List.replicate_succ', List.flatten_append]
    congr 1
    rw [List.map_map]
    refine List.ext_getElem (by simp) fun i h1 h2 => ?_
    simp only [List.length_map, List.length_range] at h1
    have e : (c * zs.size + i) % zs.size = i := by rw [Nat.mul_comm, Nat.mul_add_mod, Nat.mod_eq_of_lt h1]
    simp [e, h1]
theorem XO_bad (h : XO P W0 f own .bad K) : False := by simp only [XO] at h
theorem ev_func {k : FuncId} : ev f (.func k) = .func (.func k) #[] #[] := rfl
theorem bits_eq (b : Nat) : Extern.MathFloatBits.float64bits #[.float .f64 b] = pure (.int .u64 b) := rfl
theorem from_eq (n : Int) : Extern.MathFloatBits.float64frombits #[.int .u64 n] = pure (.float .f64 n.toNat) := rfl
theorem pick_min (a b : Nat) : Extern.MathDim.pick "math.archMin" true .lt #[.float .f64 a, .float .f64 b] = pure (.float .f64 (pickF true a b)) := rfl
theorem pick_max (a b : Nat) : Extern.MathDim.pick "math.archMax" false .gt #[.float .f64 a, .float .f64 b] = pure (.float .f64 (pickF false a b)) := rfl
theorem find_min {fn : Func} (h : fn.name = "math.archMin") : Extern.find fn = some (Extern.MathDim.pick "math.archMin" true .lt) := by
  unfold Extern.find
  rw [h]
  rfl
theorem find_max {fn : Func} (h : fn.name = "math.archMax") : Extern.find fn = some (Extern.MathDim.pick "math.archMax" false .gt) := by
  unfold Extern.find
  rw [h]
  rfl
theorem find_bits {fn : Func} (h : fn.name = "math.Float64bits") : Extern.find fn = some Extern.MathFloatBits.float64bits := by
  unfold Extern.find
  rw [h]
  rfl
theorem find_ibs {fn : Func} (h : fn.name = "internal/bytealg.IndexByteString") : Extern.find fn = some Extern.BytealgIndexByte.indexByte := by
  unfold Extern.find
  rw [h]
  rfl
theorem ibs_run (s : ByteArray) (c : Int) (w : World) : (Extern.BytealgIndexByte.indexByte #[.string s, .int .u8 c]).run P w = .ok (.int .i64 (ibsF s c)) w := by
  have he : Extern.BytealgIndexByte.indexByte #[.string s, .int .u8 c] = (match (List.range s.size).find? fun i => s[i]! == c.toNat.toUInt8 with
    | some i => pure (goInt i)
    | none => pure (goInt (-1))) := rfl
  rw [he]
  unfold ibsF
  split <;> simp [goInt]
theorem find_from {fn : Func} (h : fn.name = "math.Float64frombits") : Extern.find fn = some Extern.MathFloatBits.float64frombits := by
  unfold Extern.find
  rw [h]
  rfl
theorem run_first {sz n : Nat} {a : Option Addr} {cap : Nat} {cs : List Value} {w : World} (hl : cs.length = n * sz) (h0 : a = none → cs = []) (hh : Holds a cs w) : (Builtin.firstCells sz n (.slice a n cap)).run P w = .ok cs.toArray w := by
  cases a with
  | none => rw [h0 rfl]; exact run_firstCells_none w sz n n cap
  | some ad => exact run_firstCells_some w sz n ad n cap cs hl (fun j v hv => hh ad rfl j v hv)
theorem does_append {s x : Operand} {t tx : TypeId} {e e2 : TypeId} {ie : TypeInfo} {z : Value} {a a2 : Option Addr} {n c m c2 : Nat} (ho : o.op = .call ⟨.builtin .append, #[s, x], #[t, tx]⟩) (hs : ev f s = .slice a n c) (hx : ev f x = .slice a2 m c2)
    (hu : P.underlying t = some (.slice e)) (hu2 : P.underlying tx = some (.slice e2)) (hie : P.info? e = some ie) (hz : ie.zero = some z) (hc : z.cells.size = ie.size ∧ 0 < ie.size ∧ 0 < ie.bytes) (hS : St W0 own w)
    (h : AppT W0 own e ie.size ie.bytes z.cells.toList a n c a2 m K) : Does P f o w own W0 K false := by
  obtain ⟨cs, ys, hcl, hyl, ha, ha2, hone, hk, hk2, hin, hgr⟩ := h.h
  have hrun : execOp (ev f) o = (do pure (.value (← Builtin.append_ #[t, tx] o.type #[.slice a n c, .slice a2 m c2]))) := by
    simp [execOp, ho, resolve, invoke, builtin, hs, hx]
  by_cases hfit : n + m ≤ c
  · obtain ⟨own', hst, hK⟩ := hin hfit
    have hf := run_first (P := P) (cap := c2) hyl ha2 (hk2 w hS)
    cases a with
    | none =>
      refine .inr ⟨rfl, .inl ⟨.slice none (n + m) c, w, own', ?_, (hst w hS).2 rfl, hK⟩⟩
      rw [hrun]
      simp [Builtin.append_, under_run hu, under_run hu2, sizeOf, typeInfo, hie, Builtin.lenOf, hfit, hf]
    | some ad =>
      obtain ⟨h1, h2⟩ := (hst w hS).1 ad rfl
      refine .inr ⟨rfl, .inl ⟨.slice (some ad) (n + m) c, _, own', ?_, h2, hK⟩⟩
      rw [hrun]
      simp [Builtin.append_, under_run hu, under_run hu2, sizeOf, typeInfo, hie, Builtin.lenOf, hfit, hf, run_storeCells ys 0 w hone (fun j hj => by simpa using h1 j hj)]
  · obtain ⟨hb, hK⟩ := hgr (by omega)
    have hd : St W0 own w.drew := hS.drawn _
    have hf := run_first (P := P) (cap := c2) hyl ha2 (hk2 w.drew hd)
    have hf0 := run_first (P := P) (cap := c) hcl ha (hk w.drew hd)
    have h48 : ¬ (281474976710656 < Builtin.nextslicecap (n + m) c * ie.bytes) := by have := growslice_fits (bytes := ie.bytes) (show c < n + m by omega) hb; omega
    have hb0 : ie.bytes ≠ 0 := by omega
    have hcap : n + m ≤ (Question.appendCap (n + m) c e).cut (w.tape w.drawn (.appendCap (n + m) c e)) := Nat.le_add_right _ _
    obtain ⟨o2, hE, hK'⟩ := hK w.heap.size _ hS.size hcap
    refine .inr ⟨rfl, .inl ⟨_, _, _, ?_, hE _ (hd.push (.cells (cs ++ ys ++ (List.replicate ((Question.appendCap (n + m) c e).cut (w.tape w.drawn (.appendCap (n + m) c e)) - (n + m)) z.cells.toList).flatten).toArray e) (p := fun o => o = Obj.cells (cs ++ ys ++ (List.replicate ((Question.appendCap (n + m) c e).cut (w.tape w.drawn (.appendCap (n + m) c e)) - (n + m)) z.cells.toList).flatten).toArray e) rfl), hK'⟩⟩
    rw [hrun]
    have hz0 := zer_flat (zs := z.cells) ((Question.appendCap (n + m) c e).cut (w.tape w.drawn (.appendCap (n + m) c e)) - (n + m))
    simp [Builtin.append_, under_run hu, under_run hu2, sizeOf, typeInfo, zeroValue, hie, hz, Builtin.lenOf, hfit, h48, hb0, Question.forced, hf, hf0, newRow]
    simp only [Builtin.zeroCells, hz0]
    generalize hX : (List.replicate ((Question.appendCap (n + m) c e).cut (w.tape w.drawn (.appendCap (n + m) c e)) - (n + m)) z.cells.toList).flatten = X
    have hx : cs.toArray ++ (ys.toArray ++ X.toArray) = (cs ++ (ys ++ X)).toArray := by simp
    rw [hx]
    rfl
theorem does_appz {s x : Operand} {t tx : TypeId} {e : TypeId} {ie : TypeInfo} {z : Value} {a : Option Addr} {n c : Nat} {m : Int} {k : IntKind} (ho : o.op = .call ⟨.builtin .append, #[s, x], #[t, tx]⟩) (hs : ev f s = .slice a n c) (hx : ev f x = .int .i64 m)
    (hu : P.underlying t = some (.slice e)) (hu2 : P.underlying tx = some (.int k)) (hie : P.info? e = some ie) (hz : ie.zero = some z) (hc : z.cells.size = ie.size ∧ 0 < ie.size ∧ 0 < ie.bytes) (hS : St W0 own w)
    (h : AppZ W0 own e ie.bytes z.cells.toList a n c m K) : Does P f o w own W0 K false := by
  rcases h.h with ⟨rfl, hle, hK⟩ | ⟨rfl, rfl, m', rfl, hpos, hb, hK⟩
  · have hrun : execOp (ev f) o = (do pure (.value (← Builtin.append_ #[t, tx] o.type #[.slice a n c, .int .i64 0]))) := by
      simp [execOp, ho, resolve, invoke, builtin, hs, hx]
    refine .inr ⟨rfl, .inl ⟨.slice a n c, w, own, ?_, hS, hK⟩⟩
    rw [hrun]
    have hw0 : IntKind.i64.wrap 0 = 0 := by decide
    cases a <;> simp [Builtin.append_, under_run hu, under_run hu2, sizeOf, typeInfo, hie, asInt, asIntOf, hw0, hle, storeCells]
  have hrun : execOp (ev f) o = (do pure (.value (← Builtin.append_ #[t, tx] o.type #[.slice a 0 0, .int .i64 m']))) := by
    simp [execOp, ho, resolve, invoke, builtin, hs, hx]
  have hm' : m' ≤ m' * ie.bytes := Nat.le_mul_of_pos_right _ hc.2.2
  have hw := wrap64n m' (by omega)
  have hd : St W0 own w.drew := hS.drawn _
  have hf0 := run_first (P := P) (sz := ie.size) (n := 0) (a := a) (cap := 0) (cs := []) (w := w.drew) (by simp) (fun _ => rfl) (fun ad _ j v hj => by simp at hj)
  have h48 : ¬ (281474976710656 < Builtin.nextslicecap m' 0 * ie.bytes) := by rw [nextslicecap_zero hpos]; omega
  have h49 : ¬ ((281474976710656 : Int) < (m' : Int) * (ie.bytes : Int)) := by rw [← Int.natCast_mul]; omega
  have hb0 : ie.bytes ≠ 0 := by omega
  have hms : m' * ie.size ≠ 0 := Nat.ne_of_gt (Nat.mul_pos hpos hc.2.1)
  have hmx : ¬ (9223372036854775807 < (m' : Int)) := by omega
  have hcap : m' ≤ (Question.appendCap m' 0 e).cut (w.tape w.drawn (.appendCap m' 0 e)) := Nat.le_add_right _ _
  refine .inr ⟨rfl, .inl ⟨_, _, _, ?_, hd.push (.cells (List.replicate ((Question.appendCap m' 0 e).cut (w.tape w.drawn (.appendCap m' 0 e))) z.cells.toList).flatten.toArray e) (p := fun o => o = Obj.cells (List.replicate ((Question.appendCap m' 0 e).cut (w.tape w.drawn (.appendCap m' 0 e))) z.cells.toList).flatten.toArray e) rfl, hK w.heap.size _ hS.size hcap⟩⟩
  rw [hrun]
  have hz0 := zer_flat (zs := z.cells) m'
  have hz1 := zer_flat (zs := z.cells) ((Question.appendCap m' 0 e).cut (w.tape w.drawn (.appendCap m' 0 e)) - m')
  have hnz : m' ≠ 0 := by omega
  have h0 : ¬ ((m' : Int) < 0) := by omega
  simp [Builtin.append_, under_run hu, under_run hu2, sizeOf, typeInfo, zeroValue, hie, hz, asInt, asIntOf, hw, h49, h48, hb0, hnz, h0, hmx, Question.forced, hf0, newRow]
  rw [if_neg hms]
  simp only [Builtin.zeroCells, hz0, hz1]
  generalize (Question.appendCap m' 0 e).cut (w.tape w.drawn (.appendCap m' 0 e)) = q at *
  have hx : (List.replicate m' z.cells.toList).flatten.toArray ++ (List.replicate (q - m') z.cells.toList).flatten.toArray = (List.replicate q z.cells.toList).flatten.toArray := by
    have e : q = m' + (q - m') := by omega
    conv => rhs; rw [e]
    rw [← List.replicate_append_replicate, List.flatten_append]
    simp
  rw [hx]
  rfl
theorem does_clear {x : Operand} {t : TypeId} {e : TypeId} {ie : TypeInfo} {z : Value} (ho : o.op = .call ⟨.builtin .clear, #[x], #[t]⟩) (hu : P.underlying t = some (.slice e)) (hie : P.info? e = some ie) (hz : ie.zero = some z) (hS : St W0 own w)
    (h : XO P W0 f own (.clr z.cells.toList x) K) : Does P f o w own W0 K false := by
  simp only [XO] at h
  split at h
  · rename_i a n c hx
    obtain ⟨h1, own', hs, hk⟩ := h.h
    have hrun : execOp (ev f) o = (do pure (.value (← Builtin.clear_ #[t] o.type #[.slice (some a) n c]))) := by
      simp [execOp, ho, resolve, invoke, builtin, hx]
    refine .inr ⟨rfl, .inl ⟨.tuple #[], setN w a 0 (List.replicate n z.cells.toList).flatten, own', ?_, (hs w hS).2, hk⟩⟩
    rw [hrun]
    have hz0 := zer_flat (zs := z.cells) n
    cases n with
    | zero => simp [Builtin.clear_, under_run hu, setN]
    | succ n =>
      have hst := run_storeCells (P := P) (a := a) (List.replicate (n + 1) z.cells.toList).flatten 0 w h1 (fun j hj => by simpa using (hs w hS).1 j hj)
      have hzc : (Builtin.zeroCells z.cells (n + 1)).toList = (List.replicate (n + 1) z.cells.toList).flatten := by unfold Builtin.zeroCells; rw [hz0]
      simp [Builtin.clear_, under_run hu, zeroValue, typeInfo, hie, hz, hzc, hst]
  · rename_i n c hx
    have hrun : execOp (ev f) o = (do pure (.value (← Builtin.clear_ #[t] o.type #[.slice none n c]))) := by
      simp [execOp, ho, resolve, invoke, builtin, hx]
    refine .inr ⟨rfl, .inl ⟨.tuple #[], w, own, ?_, hS, h⟩⟩
    rw [hrun]
    simp [Builtin.clear_, under_run hu]
  · exact h.elim
theorem lowCall_sound {c : Call} {io : IOp} (ho : o.op = .call c) (hl : lowCall P c = io) (hS : St W0 own w) (h : XO P W0 f own io K) : Does P f o w own W0 K (roOp io) := by
  obtain ⟨cal, args, ats⟩ := c
  obtain ⟨args⟩ := args
  obtain ⟨ats⟩ := ats
  unfold lowCall at hl
  simp only at hl
  split at hl
  · rename_i k
    split at hl
    · rename_i fn hfn
      split at hl
      · split at hl
        · rename_i hc
          simp only [Bool.and_eq_true, decide_eq_true_eq, Option.isNone_iff_eq_none] at hc
          split at hl
          · rename_i x
            subst hl
            simp only [XO] at h
            split at h
            · rename_i b hx
              refine does_val hS (v := .int .u64 b) ?_ h
              simp [execOp, ho, resolve, ev_func, Deferred.ofValue, invoke, callFunc, hfn, hc.1.1, hc.1.2, hc.2, find_bits hc.2, hx, bits_eq]
            · exact h.elim
          · subst hl; exact (XO_bad h).elim
        · split at hl
          · rename_i hc
            simp only [Bool.and_eq_true, decide_eq_true_eq, Option.isNone_iff_eq_none] at hc
            split at hl
            · rename_i x
              subst hl
              simp only [XO] at h
              split at h
              · rename_i n hx
                refine does_val hS (v := .float .f64 n.toNat) ?_ h
                simp [execOp, ho, resolve, ev_func, Deferred.ofValue, invoke, callFunc, hfn, hc.1.1, hc.1.2, hc.2, find_from hc.2, hx, from_eq]
              · exact h.elim
            · subst hl; exact (XO_bad h).elim
          · split at hl
            · rename_i hc
              simp only [Bool.and_eq_true, decide_eq_true_eq, Option.isNone_iff_eq_none] at hc
              split at hl
              · rename_i x y
                subst hl
                simp only [XO] at h
                split at h
                · rename_i a b hx hy
                  refine does_val hS (v := .float .f64 (pickF true a b)) ?_ h
                  simp [execOp, ho, resolve, ev_func, Deferred.ofValue, invoke, callFunc, hfn, hc.1.1, hc.1.2, hc.2, find_min hc.2, hx, hy, pick_min]
                · exact h.elim
              · subst hl; exact (XO_bad h).elim
            · split at hl
              · rename_i hc
                simp only [Bool.and_eq_true, decide_eq_true_eq, Option.isNone_iff_eq_none] at hc
                split at hl
                · rename_i x y
                  subst hl
                  simp only [XO] at h
                  split at h
                  · rename_i a b hx hy
                    refine does_val hS (v := .float .f64 (pickF false a b)) ?_ h
                    simp [execOp, ho, resolve, ev_func, Deferred.ofValue, invoke, callFunc, hfn, hc.1.1, hc.1.2, hc.2, find_max hc.2, hx, hy, pick_max]
                  · exact h.elim
                · subst hl; exact (XO_bad h).elim
              · split at hl
                · rename_i hc
                  simp only [Bool.and_eq_true, decide_eq_true_eq, Option.isNone_iff_eq_none] at hc
                  split at hl
                  · rename_i x y
                    subst hl
                    simp only [XO] at h
                    split at h
                    · rename_i s c hx hy
                      refine does_val hS (v := .int .i64 (ibsF s c)) ?_ h
                      simp [execOp, ho, resolve, ev_func, Deferred.ofValue, invoke, callFunc, hfn, hc.1.1, hc.1.2, hc.2, find_ibs hc.2, hx, hy, ibs_run]
                    · exact h.elim
                  · subst hl; exact (XO_bad h).elim
                · subst hl; exact (XO_bad h).elim
      · rename_i hc
        subst hl
        simp only [XO] at h
        simp only [Bool.or_eq_true, not_or, Bool.not_eq_true, beq_eq_false_iff_ne, Option.isNone_eq_false_iff] at hc
        have h2 : fn.body ≠ none := by intro e; simp [e] at hc
        refine .inr ⟨rfl, .inr (.inr (.inl ⟨k, (args.map (ev f)).toArray, ?_, by simpa using h⟩))⟩
        simp [execOp, ho, resolve, ev, Deferred.ofValue, invoke, callFunc, hfn, hc.1, h2]
    · subst hl; exact (XO_bad h).elim
  · split at hl
    · rename_i x t
      split at hl
      · rename_i e hu
        subst hl
        simp only [XO] at h
        split at h
        · rename_i b n c hx
          refine does_val hS (v := .int .i64 n) ?_ h
          simp [execOp, ho, resolve, invoke, builtin, Builtin.len_, under_run hu, goInt, hx]
        · exact h.elim
      · rename_i hu
        subst hl
        simp only [XO] at h
        split at h
        · rename_i s hx
          refine does_val hS (v := .int .i64 s.size) ?_ h
          simp [execOp, ho, resolve, invoke, builtin, Builtin.len_, under_run hu, goInt, hx]
        · exact h.elim
      · subst hl; exact (XO_bad h).elim
    · subst hl; exact (XO_bad h).elim
  · split at hl
    · rename_i x t
      split at hl
      · rename_i e hu
        subst hl
        simp only [XO] at h
        split at h
        · rename_i a n c hx
          refine does_val hS (v := .int .i64 c) ?_ h
          simp [execOp, ho, resolve, invoke, builtin, Builtin.cap_, under_run hu, goInt, hx]
        · exact h.elim
      · subst hl; exact (XO_bad h).elim
    · subst hl; exact (XO_bad h).elim
  · split at hl
    · rename_i s x t tx
      split at hl
      · rename_i e e2 hu hu2
        split at hl
        · rename_i ie hie
          split at hl
          · rename_i z hz
            split at hl
            · rename_i hc
              subst hl
              simp only [XO] at h
              split at h
              · rename_i a n c a2 m c2 hs hx
                exact does_append ho hs hx hu hu2 hie hz hc hS h
              · exact h.elim
            · subst hl; exact (XO_bad h).elim
          · subst hl; exact (XO_bad h).elim
        · subst hl; exact (XO_bad h).elim
      · rename_i e k hu hu2
        split at hl
        · rename_i ie hie
          split at hl
          · rename_i z hz
            split at hl
            · rename_i hc
              subst hl
              simp only [XO] at h
              split at h
              · rename_i a n c m hs hx
                exact does_appz ho hs hx hu hu2 hie hz hc hS h
              · exact h.elim
            · subst hl; exact (XO_bad h).elim
          · subst hl; exact (XO_bad h).elim
        · subst hl; exact (XO_bad h).elim
      · subst hl; exact (XO_bad h).elim
    · subst hl; exact (XO_bad h).elim
  · split at hl
    · rename_i x t
      split at hl
      · rename_i e hu
        split at hl
        · rename_i ie hie
          split at hl
          · rename_i z hz
            subst hl
            exact does_clear ho hu hie hz hS h
          · subst hl; exact (XO_bad h).elim
        · subst hl; exact (XO_bad h).elim
      · subst hl; exact (XO_bad h).elim
    · subst hl; exact (XO_bad h).elim
  · rename_i g
    subst hl
    simp only [XO] at h
    split at h
    · rename_i k first cap hx
      obtain ⟨hok, hc⟩ := h.h
      unfold okF at hok
      split at hok
      · rename_i fn hfn
        simp only [Bool.and_eq_true, Bool.not_eq_true', beq_eq_false_iff_ne, Option.isSome_iff_exists] at hok
        obtain ⟨hn, bd, hb⟩ := hok
        refine .inr ⟨rfl, .inr (.inr (.inl ⟨k, (first.toList ++ args.map (ev f) ++ cap.toList).toArray, ?_, by simpa using hc⟩))⟩
        simp [execOp, ho, resolve, hx, Deferred.ofValue, invoke, callFunc, hfn, hn, hb]
      · cases hok
    · rename_i l first cap hx
      obtain ⟨k, tmps, assign, body, hy, hR⟩ := h.h w hS
      refine .inr ⟨rfl, .inr (.inr (.inr ⟨l, k, tmps, assign, body, ?_, hR⟩))⟩
      have e : (first.toList ++ args.map (ev f)).toArray = first ++ (args.map (ev f)).toArray := by simp
      rw [e] at hy
      simp [execOp, ho, resolve, hx, Deferred.ofValue, invoke]
      simpa using hy
    · exact h.elim
  · split at hl
    · rename_i x y
      subst hl
      simp only [XO] at h
      split at h
      · rename_i k m k' n hx hy
        refine does_val hS ?_ h.h
        simp [execOp, ho, resolve, invoke, builtin, Builtin.min_, hx, hy, Builtin.min2]
        omega
      · exact h.elim
    · subst hl; exact (XO_bad h).elim
  · split at hl
    · rename_i x y
      subst hl
      simp only [XO] at h
      split at h
      · rename_i k m k' n hx hy
        refine does_val hS ?_ h.h
        simp [execOp, ho, resolve, invoke, builtin, Builtin.max_, hx, hy, Builtin.max2]
        omega
      · exact h.elim
    · subst hl; exact (XO_bad h).elim
  · subst hl; exact (XO_bad h).elim
theorem equal_bool {t : TypeId} {a b : Bool} (hu : P.underlying t = some .bool) : (Op.equal t (.bool a) (.bool b)).run P w = .ok (decide (a = b)) w := by
  show (Op.equalIn (9999 + 1) t (.bool a) (.bool b)).run P w = _
  rw [Op.equalIn]
  simp only [Sem.run_bind, under_run hu, Result.andThen_ok]
  simp only [Sem.run_pure, Bool.beq_eq_decide_eq]
theorem binOp_bool_eql {t : TypeId} {a b : Bool} : binOp .eql t (.bool a) (.bool b) = (do pure (.bool (← Op.equal t (.bool a) (.bool b)))) := rfl
theorem binOp_bool_neq {t : TypeId} {a b : Bool} : binOp .neq t (.bool a) (.bool b) = (do pure (.bool (!(← Op.equal t (.bool a) (.bool b))))) := rfl
theorem run_nextStr {b pos : Nat} {s : ByteArray} {t : TypeId} (hg : w.heap[b]? = some (.stringIter s pos)) : (pos < s.size → (Instr.next (.pointer (some ⟨b, 0, none⟩)) true t).run P w = .ok (.tuple #[.bool true, .int .i64 pos, .int .i32 (Utf8.decode s pos).1]) { w with heap := w.heap.setIfInBounds b (.stringIter s (pos + (Utf8.decode s pos).2)) }) ∧
    (¬ pos < s.size → (Instr.next (.pointer (some ⟨b, 0, none⟩)) true t).run P w = .ok (.tuple #[.bool false]) w) := by
  refine ⟨fun h => ?_, fun h => ?_⟩ <;> simp [Instr.next, getObj, setObj, Sem.run, hg, h, goInt]
theorem equal_iface {t : TypeId} {ms : Array (String × TypeId)} (hu : P.underlying t = some (.interface ms)) : (Op.equal t .nilIface .nilIface).run P w = .ok true w ∧ ∀ tt v, (Op.equal t (.iface tt v) .nilIface).run P w = .ok false w := by
  refine ⟨?_, fun tt v => ?_⟩
  · show (Op.equalIn (9999 + 1) t _ _).run P w = _
    rw [Op.equalIn]
    simp only [Sem.run_bind, under_run hu, Result.andThen_ok]
    rfl
  · show (Op.equalIn (9999 + 1) t _ _).run P w = _
    rw [Op.equalIn]
    simp only [Sem.run_bind, under_run hu, Result.andThen_ok]
    rfl
theorem binOp_iface_eql {t : TypeId} {v : Value} (h : v = .nilIface ∨ ∃ tt x, v = .iface tt x) : binOp .eql t v .nilIface = (do pure (.bool (← Op.equal t v .nilIface))) ∧ binOp .neq t v .nilIface = (do pure (.bool (!(← Op.equal t v .nilIface)))) := by
  rcases h with rfl | ⟨_, _, rfl⟩ <;> exact ⟨rfl, rfl⟩
theorem beq_dec {l l' : List UInt8} : (l == l') = decide (l = l') := by by_cases h : l = l' <;> simp [h]
def nilTy (P : Program) (k : Nat) (t : TypeId) : Prop :=
  match k, P.underlying t with
  | 0, some (.slice _) | 1, some (.pointer _) | 2, some (.func _ _ _) | 3, some (.map _ _) => True
  | _, _ => False
theorem nil_run {k : Nat} {t : TypeId} {v1 v2 : Value} {b : Bool} (hb : nilB k v1 v2 = some b) (hk : nilTy P k t) : (Op.equal t v1 v2).run P w = .ok b w ∧ (∀ op x y, (eqGuard op t x y v1 v2).run P w = .ok () w) ∧
    binOp .eql t v1 v2 = (do pure (.bool (← Op.equal t v1 v2))) ∧ binOp .neq t v1 v2 = (do pure (.bool (!(← Op.equal t v1 v2)))) := by
  have hE : ∀ d, P.underlying t = some d → (Op.equal t v1 v2).run P w = (do
      match d, v1, v2 with
      | .slice _, .slice none _ _, .slice b _ _ => pure b.isNone
      | .slice _, .slice _ _ _, .slice none _ _ => pure false
      | .pointer _, .pointer none, .pointer b => pure b.isNone
      | .pointer _, .pointer _, .pointer none => pure false
      | .map _ _, .map none, .map b => pure b.isNone
      | .map _ _, .map _, .map none => pure false
      | .func _ _ _, .nilFunc, .nilFunc => pure true
      | .func _ _ _, .func _ _ _, .nilFunc => pure false
      | _, _, _ => Op.equal t v1 v2 : Sem Bool).run P w := by
    intro d hd
    split
    all_goals first | rfl | (show (Op.equalIn (9999 + 1) t _ _).run P w = _; rw [Op.equalIn]; simp only [Sem.run_bind, under_run hd, Result.andThen_ok])
  unfold nilTy at hk
  split at hk
  · rename_i e hu
    match v1, v2, hb with
    | .slice a _ _, .slice none _ _, hb =>
      simp only [nilB, Option.some.injEq] at hb
      refine ⟨?_, fun op x y => by cases op <;> simp [eqGuard], rfl, rfl⟩
      rw [hE _ hu, ← hb]
      cases a <;> simp
  · rename_i e hu
    match v1, v2, hb with
    | .pointer a, .pointer none, hb =>
      simp only [nilB, Option.some.injEq] at hb
      refine ⟨?_, fun op x y => by cases op <;> simp [eqGuard], rfl, rfl⟩
      rw [hE _ hu, ← hb]
      cases a <;> simp
  · rename_i e1 e2 e3 hu
    match v1, v2, hb with
    | .func _ _ _, .nilFunc, hb =>
      simp only [nilB, Option.some.injEq] at hb
      refine ⟨?_, fun op x y => by cases op <;> simp [eqGuard], rfl, rfl⟩
      rw [hE _ hu, ← hb]
      simp
    | .nilFunc, .nilFunc, hb =>
      simp only [nilB, Option.some.injEq] at hb
      refine ⟨?_, fun op x y => by cases op <;> simp [eqGuard], rfl, rfl⟩
      rw [hE _ hu, ← hb]
      simp
  · rename_i e1 e2 hu
    match v1, v2, hb with
    | .map a, .map none, hb =>
      simp only [nilB, Option.some.injEq] at hb
      refine ⟨?_, fun op x y => by cases op <;> simp [eqGuard], rfl, rfl⟩
      rw [hE _ hu, ← hb]
      cases a <;> simp
  · exact hk.elim
theorem keyK_under {k : TypeId} {kk : Nat} (h : keyK P k = some kk) : (kk = 0 ∧ ∃ j, P.underlying k = some (.int j)) ∨ (kk = 2 ∧ P.underlying k = some .string) := by
  unfold keyK at h
  split at h
  · rename_i j hu
    exact .inl ⟨(Option.some.inj h).symm, _, hu⟩
  · rename_i hu
    exact .inr ⟨(Option.some.inj h).symm, hu⟩
  · cases h
theorem checkKey_plain {k : TypeId} {kk n : Nat} {e : Bool} {v : Value} (h : keyK P k = some kk) : (Instr.checkKey e (n + 1) k v).run P w = .ok () w := by
  rcases keyK_under h with ⟨_, j, hu⟩ | ⟨_, hu⟩ <;> simp [Instr.checkKey, under_run hu]
theorem ba_beq {a b : ByteArray} : (a == b) = decide (a.data.toList = b.data.toList) := by
  obtain ⟨x⟩ := a
  obtain ⟨y⟩ := b
  show (x == y) = _
  by_cases h : x = y
  · subst h; simp
  · rw [decide_eq_false (fun e => h (Array.toList_inj.1 e))]
    simp [h]
theorem eqOne_int {a b : Value} {r : Bool} (h : eqOne 0 a b = some r) : ∃ j x y, a = .int j x ∧ b = .int j y ∧ r = decide (x = y) := by
  cases a <;> cases b <;> simp only [eqOne] at h <;> try cases h
  rename_i j x j' y
  split at h
  · rename_i hk
    have := kn_inj hk
    subst this
    exact ⟨_, _, _, rfl, rfl, (Option.some.inj h).symm⟩
  · cases h
theorem eqOne_str {a b : Value} {r : Bool} (h : eqOne 2 a b = some r) : ∃ x y, a = .string x ∧ b = .string y ∧ r = decide (x.data.toList = y.data.toList) := by
  cases a <;> cases b <;> simp only [eqOne] at h <;> try cases h
  exact ⟨_, _, rfl, rfl, rfl⟩
theorem sameNow_eq {T : TypeDesc} {kk : Nat} {a b : Value} {r : Bool} (hT : (kk = 0 ∧ ∃ j, T = .int j) ∨ (kk = 2 ∧ T = .string)) (h : eqOne kk a b = some r) : Instr.sameNow T a b = some r := by
  rcases hT with ⟨rfl, j, rfl⟩ | ⟨rfl, rfl⟩
  · obtain ⟨j', x, y, rfl, rfl, rfl⟩ := eqOne_int h
    simp only [Instr.sameNow, if_true]
    congr 1
  · obtain ⟨x, y, rfl, rfl, rfl⟩ := eqOne_str h
    simp only [Instr.sameNow, ba_beq]
theorem sameBits_eq {kk n : Nat} {a b : Value} (hk : kk = 0 ∨ kk = 2) (h : eqOne kk a b = some true) : Instr.sameBits (n + 1) b a = true ∧ b = a := by
  rcases hk with rfl | rfl
  · obtain ⟨j', x, y, rfl, rfl, e⟩ := eqOne_int h
    have e := of_decide_eq_true e.symm
    subst e
    exact ⟨by simp [Instr.sameBits], rfl⟩
  · obtain ⟨x, y, rfl, rfl, e⟩ := eqOne_str h
    have e := of_decide_eq_true e.symm
    have e2 : x = y := by
      cases x; cases y
      simp only [ByteArray.mk.injEq]
      exact Array.toList_inj.1 e
    subst e2
    exact ⟨by simp [Instr.sameBits, ba_beq], rfl⟩
theorem sameNow_int {j j' : IntKind} {a b : Value} : Instr.sameNow (.int j) a b = Instr.sameNow (.int j') a b := by
  cases a <;> cases b <;> rfl
theorem findNow_spec {T : TypeDesc} {kk : Nat} {key : Value} (hT : (kk = 0 ∧ ∃ j, T = .int j) ∨ (kk = 2 ∧ T = .string)) (v : Value) : ∀ (es : List MapEntry) (j : Nat) (r : Option Value), findM kk key (es.map fun e => (e.key, e.val)) = some r →
    (r = none ∧ Instr.findNow T key es j = some none ∧ updM kk key v (es.map fun e => (e.key, e.val)) = (es.map fun e => (e.key, e.val)) ++ [(key, v)]) ∨
    (∃ i x e, r = some x ∧ Instr.findNow T key es j = some (some (j + i, x)) ∧ es[i]? = some e ∧ eqOne kk key e.key = some true ∧ updM kk key v (es.map fun e => (e.key, e.val)) = (es.map fun e => (e.key, e.val)).set i (key, v))
  | [], j, r, h => .inl ⟨(Option.some.inj h).symm, rfl, rfl⟩
  | e :: es, j, r, h => by
    simp only [List.map_cons] at h ⊢
    unfold findM at h
    unfold updM
    split at h
    · rename_i he
      refine .inr ⟨0, e.val, e, (Option.some.inj h).symm, ?_, rfl, he, ?_⟩
      · unfold Instr.findNow
        rw [sameNow_eq hT he]
        rfl
      · rw [he]; rfl
    · rename_i he
      rw [he]
      rcases findNow_spec hT v es (j + 1) r h with ⟨h1, h2, h3⟩ | ⟨i, x, e', h1, h2, h3, h4, h5⟩
      · refine .inl ⟨h1, ?_, by simp only [h3, List.cons_append]⟩
        unfold Instr.findNow
        rw [sameNow_eq hT he]
        exact h2
      · refine .inr ⟨i + 1, x, e', h1, ?_, by simpa using h3, h4, by simp only [h5, List.set_cons_succ]⟩
        unfold Instr.findNow
        rw [sameNow_eq hT he, ← show j + 1 + i = j + (i + 1) by omega]
        exact h2
    · cases h
theorem findKey_run {k : TypeId} {kk : Nat} {key : Value} {es : List MapEntry} {q : Option (Nat × Value)} (hk : keyK P k = some kk) (h : ∀ T, ((kk = 0 ∧ ∃ j, T = TypeDesc.int j) ∨ (kk = 2 ∧ T = .string)) → Instr.findNow T key es 0 = some q) : (Instr.findKey k key es).run P w = .ok q w := by
  rcases keyK_under hk with ⟨h0, j, hu⟩ | ⟨h0, hu⟩
  · have := h _ (.inl ⟨h0, j, rfl⟩)
    simp [Instr.findKey, under_run hu, this]
  · have := h _ (.inr ⟨h0, rfl⟩)
    simp [Instr.findKey, under_run hu, this]
theorem find_run {k : TypeId} {kk : Nat} {key : Value} {es : Array MapEntry} {r : Option Value} (hk : keyK P k = some kk) (h : findM kk key (es.toList.map fun e => (e.key, e.val)) = some r) (v : Value) :
    (r = none ∧ (Instr.findKey k key es.toList).run P w = .ok none w ∧ updM kk key v (es.toList.map fun e => (e.key, e.val)) = (es.toList.map fun e => (e.key, e.val)) ++ [(key, v)]) ∨
    (∃ i x e, r = some x ∧ (Instr.findKey k key es.toList).run P w = .ok (some (i, x)) w ∧ es[i]? = some e ∧ e.key = key ∧ (∀ n, Instr.sameBits (n + 1) e.key key = true) ∧ updM kk key v (es.toList.map fun e => (e.key, e.val)) = (es.toList.map fun e => (e.key, e.val)).set i (key, v)) := by
  have hkk : kk = 0 ∨ kk = 2 := by rcases keyK_under hk with ⟨h, _⟩ | ⟨h, _⟩ <;> simp [h]
  have hT0 : ∃ T, (kk = 0 ∧ ∃ j, T = TypeDesc.int j) ∨ (kk = 2 ∧ T = .string) := by
    rcases keyK_under hk with ⟨h, j, _⟩ | ⟨h, _⟩
    · exact ⟨.int j, .inl ⟨h, j, rfl⟩⟩
    · exact ⟨.string, .inr ⟨h, rfl⟩⟩
  obtain ⟨T0, hT0⟩ := hT0
  rcases findNow_spec hT0 v es.toList 0 r h with ⟨h1, _, h3⟩ | ⟨i, x, e, h1, h2, h3, h4, h5⟩
  · refine .inl ⟨h1, findKey_run hk (fun T hT => ?_), h3⟩
    rcases findNow_spec hT v es.toList 0 r h with ⟨_, h2, _⟩ | ⟨i, x, e, h4, _⟩
    · exact h2
    · rw [h1] at h4; cases h4
  · refine .inr ⟨i, x, e, h1, findKey_run hk (fun T hT => ?_), by rw [← Array.getElem?_toList]; exact h3, (sameBits_eq (n := 0) hkk h4).2, fun n => (sameBits_eq hkk h4).1, h5⟩
    rcases keyK_under hk with ⟨k0, j0, _⟩ | ⟨k0, _⟩
    · rcases hT with ⟨_, j, rfl⟩ | ⟨k2, _⟩
      · rcases hT0 with ⟨_, j', rfl⟩ | ⟨k2, _⟩
        · rcases findNow_spec (T := .int j) (.inl ⟨k0, j, rfl⟩) v es.toList 0 r h with ⟨h6, _, _⟩ | ⟨i', x', e', h6, h7, h8, h9, h10⟩
          · rw [h1] at h6; cases h6
          · have e1 : ∀ (l : List MapEntry) (n : Nat), Instr.findNow (.int j) key l n = Instr.findNow (.int j') key l n := by
              intro l
              induction l with
              | nil => intro n; rfl
              | cons a l ih => intro n; unfold Instr.findNow; rw [ih, sameNow_int (j := j) (j' := j')]
            rw [e1, h2]; simp
        · omega
      · omega
    · rcases hT with ⟨k2, _⟩ | ⟨_, rfl⟩
      · omega
      · rcases hT0 with ⟨k2, _⟩ | ⟨_, rfl⟩
        · omega
        · rw [h2]; simp
theorem run_lookup {t k e : TypeId} {kk : Nat} {z key : Value} {ok : Bool} {x : Option Nat} {es : Array MapEntry} {r : Option Value} (hu : P.underlying t = some (.map k e)) (hk : keyK P k = some kk) (hz : zeroT P e = some z)
    (hx : (x = none ∧ es = #[]) ∨ ∃ b c, x = some b ∧ w.heap[b]? = some (.map es c)) (h : findM kk key (es.toList.map fun e => (e.key, e.val)) = some r) : (Instr.lookup t (.map x) key ok).run P w = .ok (mapR z ok r) w := by
  have hr : (r = none ∧ (Instr.findKey k key es.toList).run P w = .ok none w) ∨ ∃ i x, r = some x ∧ (Instr.findKey k key es.toList).run P w = .ok (some (i, x)) w := by
    rcases find_run (w := w) hk h .nilIface with ⟨h1, h2, _⟩ | ⟨i, x, _, h1, h2, _⟩
    · exact .inl ⟨h1, h2⟩
    · exact .inr ⟨i, x, h1, h2⟩
  have hc : ∀ e, (Instr.checkKey e 10000 k key).run P w = .ok () w := fun e => checkKey_plain (n := 9999) hk
  have hz' := zeroT_run (w := w) hz
  have hu' := under_run (w := w) hu
  rcases hx with ⟨rfl, rfl⟩ | ⟨b, c, rfl, hb⟩
  · have h0 : r = none := (Option.some.inj h).symm
    subst h0
    have hr : (Instr.findKey k key []).run P w = .ok none w := by
      rcases hr with ⟨_, hr⟩ | ⟨i, x, h, _⟩
      · exact hr
      · cases h
    cases ok <;> simp [Instr.lookup, hu', hc, hr, hz', mapR]
  · rcases hr with ⟨rfl, hr⟩ | ⟨i, x, rfl, hr⟩
    · cases ok <;> simp [Instr.lookup, hu', getObj, Sem.run, hb, hc, hr, hz', mapR]
    · cases ok <;> simp [Instr.lookup, hu', getObj, Sem.run, hb, hc, hr, mapR]
theorem run_mapUpdate {t k e : TypeId} {kk : Nat} {key v : Value} {b c : Nat} {es : Array MapEntry} {r : Option Value} (hu : P.underlying t = some (.map k e)) (hk : keyK P k = some kk)
    (hb : w.heap[b]? = some (.map es c)) (h : findM kk key (es.toList.map fun e => (e.key, e.val)) = some r) :
    ∃ es' c', (Instr.mapUpdate t (.map (some b)) key v).run P w = .ok () { w with heap := w.heap.setIfInBounds b (.map es' c') } ∧ es'.toList.map (fun e => (e.key, e.val)) = updM kk key v (es.toList.map fun e => (e.key, e.val)) := by
  have hc := checkKey_plain (w := w) (n := 9999) (e := false) (v := key) hk
  rcases find_run (w := w) hk h v with ⟨_, h2, h3⟩ | ⟨i, x, e, _, h2, h4, h5, h6, h7⟩
  · refine ⟨es.push { key, val := v, born := c }, c + 1, ?_, by simp [h3]⟩
    simp [Instr.mapUpdate, under_run hu, getObj, setObj, Sem.run, hb, hc, h2]
  · refine ⟨es.modify i fun e => { e with key := key, val := v }, c, ?_, ?_⟩
    · simp [Instr.mapUpdate, under_run hu, getObj, setObj, Sem.run, hb, hc, h2, h4, Instr.keyThatStays, h6 9999]
    · rw [h7]
      refine List.ext_getElem? fun n => ?_
      rw [List.getElem?_map, List.getElem?_set, Array.getElem?_toList, Array.getElem?_modify, List.length_map, Array.length_toList, List.getElem?_map, Array.getElem?_toList]
      by_cases hn : i = n
      · subst hn
        have hlt := (Array.getElem?_eq_some_iff.1 h4).1
        simp [hlt]
      · simp [hn]
theorem XO_sound {io : IOp} (hl : lowOp P o.op = io) (hS : St W0 own w) (h : XO P W0 f own io K) : Does P f o w own W0 K (roOp io) := by
  cases ho : o.op <;> rw [ho] at hl <;> (try simp only [lowOp] at hl)
  case move x => subst hl; exact does_val hS (v := ev f x) (by simp [execOp, ho]) (Mv.h (K := fun v => K v own) h)
  case assign x => subst hl; exact does_val hS (v := ev f x) (by simp [execOp, ho]) (Mv.h (K := fun v => K v own) h)
  case pick c x y =>
    subst hl
    simp only [XO] at h
    split at h
    · rename_i b hc
      exact does_val hS (v := if b then ev f x else ev f y) (by cases b <;> simp [execOp, ho, hc, asBool]) h.h
    · exact h.elim
  case binOp op t x y t' =>
    unfold lowBin at hl
    split at hl
    · subst hl
      simp only [XO] at h
      split at h
      · rename_i hx hy; exact does_binInt ho hx hy hS h
      · exact h.elim
    · split at hl <;> subst hl
      · simp only [XO] at h
        split at h
        · rename_i a b hx hy
          exact does_val hS (v := .bool (decide (a.toList = b.toList))) (by simp [execOp, ho, eqGuard, hx, hy, binOp, Op.stringOp, beq_dec]) h
        · exact h.elim
      · simp only [XO] at h
        split at h
        · rename_i a b hx hy
          exact does_val hS (v := .bool (!decide (a.toList = b.toList))) (by simp [execOp, ho, eqGuard, hx, hy, binOp, Op.stringOp, beq_dec]) h
        · exact h.elim
      · simp only [XO] at h
        split at h
        · rename_i a b hx hy
          obtain ⟨hl, hk⟩ := h.h
          have hl' : ¬ (9223372036854775807 < (a.size : Int) + (b.size : Int)) := by omega
          exact does_val hS (v := .string (a ++ b)) (by simp [execOp, ho, eqGuard, hx, hy, binOp, Op.stringOp, hl']) hk
        · exact h.elim
      · exact (XO_bad h).elim
    iterate 4
      · rename_i hu
        have hnil : ∀ neg k, nilTy P k t → XO P W0 f own (.nilq neg k x y) K → (op = (bif neg then .neq else .eql)) → Does P f o w own W0 K true := by
          intro neg k hk h hop
          simp only [XO] at h
          split at h
          · rename_i b hb
            obtain ⟨hE, hg, h1, h2⟩ := nil_run (w := w) hb hk
            refine does_val hS (v := .bool (bif neg then !b else b)) ?_ h
            cases neg <;> simp only [cond_true, cond_false] at hop <;> subst hop <;> simp [execOp, ho, hg, h1, h2, hE]
          · exact h.elim
        split at hl <;> subst hl
        · exact hnil false _ (by simp [nilTy, hu]) h rfl
        · exact hnil true _ (by simp [nilTy, hu]) h rfl
        · exact (XO_bad h).elim
    iterate 2
      · split at hl
        · rename_i ks hks
          split at hl
          · subst hl; exact (XO_bad h).elim
          · rename_i hgt
            have hst : ∀ neg, XO P W0 f own (.ageq neg ks x y) K → (op = (bif neg then .neq else .eql)) → Does P f o w own W0 K true := by
              intro neg h hop
              simp only [XO] at h
              split at h
              · rename_i xs ys hx hy
                obtain ⟨r, hr, hK⟩ := h.h
                have hag : aggT P t = some true := by unfold aggT; simp_all
                have hE := equal_flat 6 t ks 10000 (.agg xs) (.agg ys) r hks (by omega) ⟨fun _ => ⟨_, rfl⟩, fun h => by rw [hag] at h; cases h⟩ ⟨fun _ => ⟨_, rfl⟩, fun h => by rw [hag] at h; cases h⟩ hr w
                have hg := run_eqGuard_agg (P := P) w op t x y xs ys (by simpa using hgt)
                refine does_val hS (v := .bool (bif neg then !r else r)) ?_ hK
                have e1 : (binOp .eql t (.agg xs) (.agg ys)).run P w = .ok (.bool r) w := by rw [run_eql_struct, hE]; rfl
                have e2 : (binOp .neq t (.agg xs) (.agg ys)).run P w = .ok (.bool (!r)) w := by rw [run_neq_struct, hE]; rfl
                cases neg <;> simp only [cond_true, cond_false] at hop <;> subst hop <;> simp [execOp, ho, hx, hy, hg, e1, e2]
              · exact h.elim
            split at hl <;> subst hl
            · exact hst false h rfl
            · exact hst true h rfl
            · exact (XO_bad h).elim
        · subst hl; exact (XO_bad h).elim
    · have hcmp : (∀ a b : Nat, binOp op t (.float .f64 a) (.float .f64 b) = pure (.bool (fcmp op (FloatKind.f64.format.order a b)))) → XO P W0 f own (.fbin op x y) K → Does P f o w own W0 K true := by
        intro he h
        simp only [XO] at h
        split at h
        · rename_i a b hx hy
          refine does_val hS (v := .bool (fcmp op (FloatKind.f64.format.order a b))) ?_ h.h
          have hg : (eqGuard op t x y (ev f x) (ev f y)).run P w = .ok () w := by
            unfold eqGuard
            rw [hx, hy]
            cases op <;> simp
          rw [hx, hy] at hg
          simp [execOp, ho, hx, hy, hg, he]
        · exact h.elim
      have hflt : (∀ a b : Nat, binOp op t (.float .f64 a) (.float .f64 b) = (match floatBits op .f64 a b with | some r => pure (.float .f64 r) | none => (do pure (.float .f64 (← choose (.nanBits .f64 a b)))))) →
          XO P W0 f own (.flt op x y) K → Does P f o w own W0 K false := by
        intro he h
        simp only [XO] at h
        split at h
        · rename_i a b hx hy
          have hg : (eqGuard op t x y (ev f x) (ev f y)).run P w = .ok () w := by
            unfold eqGuard
            rw [hx, hy]
            cases op <;> simp
          rw [hx, hy] at hg
          cases hfb : floatBits op .f64 a b with
          | some r => exact does_val hS (v := .float .f64 r) (by simp [execOp, ho, hx, hy, hg, he, hfb]) (h.h.1 r hfb)
          | none =>
            refine .inr ⟨rfl, .inl ⟨.float .f64 (Question.cut (.nanBits .f64 a b) (w.tape w.drawn (.nanBits .f64 a b))), { w with drawn := w.drawn + 1 }, own, by simp [execOp, ho, hx, hy, hg, he, hfb, Question.forced], hS.drawn _, h.h.2 hfb _ ?_⟩⟩
            exact ⟨_, _, Nat.mod_lt _ (by decide), Nat.mod_lt _ (by decide), rfl⟩
        · exact h.elim
      split at hl <;> subst hl
      · exact hflt (fun a b => by simp only [binOp, Op.floatArith, floatBits]; cases FloatKind.f64.format.add a b <;> simp) h
      · exact hflt (fun a b => by simp only [binOp, Op.floatArith, floatBits]; cases FloatKind.f64.format.sub a b <;> simp) h
      · exact hflt (fun a b => by simp only [binOp, Op.floatArith, floatBits]; cases FloatKind.f64.format.mul a b <;> simp) h
      · exact hflt (fun a b => by simp only [binOp, Op.floatArith, floatBits]; cases FloatKind.f64.format.div a b <;> simp) h
      · exact hcmp (fun a b => by simp [binOp, Op.floatCmp, fcmp]) h
      · exact hcmp (fun a b => by simp [binOp, Op.floatCmp, fcmp]) h
      · exact hcmp (fun a b => by simp [binOp, Op.floatCmp, fcmp]) h
      · exact hcmp (fun a b => by simp [binOp, Op.floatCmp, fcmp]) h
      · exact hcmp (fun a b => by simp [binOp, Op.floatCmp, fcmp]) h
      · exact hcmp (fun a b => by simp [binOp, Op.floatCmp, fcmp]) h
      · exact (XO_bad h).elim
    · rename_i hu
      split at hl <;> subst hl
      · simp only [XO] at h
        split at h
        · rename_i a b hx hy
          exact does_val hS (v := .bool (decide (a = b))) (by simp [execOp, ho, eqGuard, hx, hy, binOp_bool_eql, equal_bool hu]) h
        · exact h.elim
      · simp only [XO] at h
        split at h
        · rename_i a b hx hy
          refine does_val hS (v := .bool (decide (a ≠ b))) ?_ h
          simp [execOp, ho, eqGuard, hx, hy, binOp_bool_neq, equal_bool hu]
        · exact h.elim
      · exact (XO_bad h).elim
    · rename_i ms hu
      obtain ⟨e1, e2⟩ := equal_iface (w := w) hu
      have hev : ev f (.const .nilIface) = .nilIface := rfl
      split at hl <;> subst hl
      · simp only [XO] at h
        split at h
        · rename_i hx
          exact does_val hS (v := .bool (!false)) (by simp [execOp, ho, eqGuard, hx, (binOp_iface_eql (t := t) (.inl rfl)).1, e1, hev]) h
        · rename_i tt v hx
          exact does_val hS (v := .bool false) (by simp [execOp, ho, eqGuard, hx, (binOp_iface_eql (t := t) (.inr ⟨tt, v, rfl⟩)).1, e2, hev]) h
        · exact h.elim
      · simp only [XO] at h
        split at h
        · rename_i hx
          exact does_val hS (v := .bool (!true)) (by simp [execOp, ho, eqGuard, hx, (binOp_iface_eql (t := t) (.inl rfl)).2, e1, hev]) h
        · rename_i tt v hx
          exact does_val hS (v := .bool true) (by simp [execOp, ho, eqGuard, hx, (binOp_iface_eql (t := t) (.inr ⟨tt, v, rfl⟩)).2, e2, hev]) h
        · exact h.elim
      · exact (XO_bad h).elim
    · subst hl; exact (XO_bad h).elim
  case unOp op t x =>
    cases op <;> simp only at hl
    case not =>
      subst hl
      simp only [XO] at h
      split at h
      · rename_i b hx; exact does_val hS (v := .bool (!b)) (by simp [execOp, ho, hx, Op.unary]) h
      · exact h.elim
    case neg =>
      split at hl
      · subst hl
        simp only [XO] at h
        split at h
        · rename_i k m hx; exact does_val hS (v := .int k (k.wrap (0 - m))) (by simp [execOp, ho, hx, Op.unary, Op.intArith]) h.h
        · exact h.elim
      · subst hl; exact (XO_bad h).elim
    all_goals (subst hl; exact (XO_bad h).elim)
  case convert s d x =>
    split at hl
    · rename_i k' k hs hd
      subst hl
      simp only [XO] at h
      split at h
      · rename_i k2 m hx; exact does_val hS (v := .int k (k.wrap m)) (by simp [execOp, ho, hx, convert, under_run hs, under_run hd, Conv.intToInt]) h.h
      · exact h.elim
    · rename_i k' hs hd
      subst hl
      simp only [XO] at h
      split at h
      · rename_i k2 m hx; exact does_val hS (v := .float .f64 (FloatKind.f64.nearest m)) (by simp [execOp, ho, hx, convert, under_run hs, under_run hd, Conv.intToFloat]) h
      · exact h.elim
    · rename_i k hs hd
      subst hl
      simp only [XO] at h
      split at h
      · rename_i b hx
        obtain ⟨n, hn, hk⟩ := h.h
        refine does_val hS (v := .int k n) ?_ hk
        have hc := run_convert_float_int (P := P) w s d .f64 k b n (by simp [hs]) hd hn
        simp [execOp, ho, hx, hc]
      · exact h.elim
    · subst hl; exact (XO_bad h).elim
  case fieldAddr t x i =>
    split at hl
    · rename_i fs hu
      split at hl
      · rename_i fd hfd
        split at hl
        · rename_i n hn
          subst hl
          simp only [XO] at h
          split at h
          · rename_i b off hx
            refine does_val hS (v := .pointer (some ⟨b, off + fd.offset, none⟩)) ?_ h
            simp [execOp, ho, hx, Instr.fieldAt, under_run hu, hfd, Instr.sureAddr, fieldPlace, szT_run hn, addr_add]
          · exact h.elim
        · subst hl; exact (XO_bad h).elim
      · subst hl; exact (XO_bad h).elim
    · subst hl; exact (XO_bad h).elim
  case field t x i =>
    split at hl
    · rename_i fs hu
      split at hl
      · rename_i fd hfd
        split at hl
        · rename_i n ha hn
          subst hl
          simp only [XO] at h
          split at h
          · rename_i cs hx
            refine does_val hS ?_ h.h
            simp [execOp, ho, hx, Instr.field, under_run hu, hfd, asAgg, part, aggT_run ha, szT_run hn]
            rw [← Array.toList_inj]
            simp [Array.toList_extract, List.extract_eq_take_drop]
          · exact h.elim
        · rename_i n ha hn
          subst hl
          simp only [XO] at h
          split at h
          · rename_i cs hx
            obtain ⟨v, hv, hk⟩ := h.h
            refine does_val hS ?_ hk
            rw [Array.getElem?_toList] at hv
            simp [execOp, ho, hx, Instr.field, under_run hu, hfd, asAgg, part, aggT_run ha, hv]
          · exact h.elim
        · subst hl; exact (XO_bad h).elim
      · subst hl; exact (XO_bad h).elim
    · subst hl; exact (XO_bad h).elim
  case indexAddr t x i =>
    split at hl
    · rename_i e hu
      split at hl
      · rename_i n hn
        subst hl
        simp only [XO] at h
        split at h
        · rename_i a len cap k m hx hi
          obtain ⟨j, b, off, rfl, hj, rfl, hk⟩ := h.h
          refine does_val hS ?_ hk
          simp [execOp, ho, hx, hi, Instr.indexAt, under_run hu, asIntOf, szT_run hn, addr_add, hj]
        · exact h.elim
      · subst hl; exact (XO_bad h).elim
    · rename_i len e hu
      split at hl
      · rename_i n hn
        subst hl
        simp only [XO] at h
        split at h
        · rename_i b off k m hx hi
          obtain ⟨j, rfl, hj, hk⟩ := h.h
          refine does_val hS ?_ hk
          simp [execOp, ho, hx, hi, Instr.indexAt, under_run hu, asIntOf, szT_run hn, addr_add, hj, Instr.sureAddr]
        · exact h.elim
      · subst hl; exact (XO_bad h).elim
    · subst hl; exact (XO_bad h).elim
  case makeSlice t l c =>
    split at hl
    · rename_i e hu
      split at hl
      · rename_i ie hie
        split at hl
        · rename_i z hz
          split at hl
          · rename_i hc
            subst hl
            simp only [XO] at h
            split at h
            · rename_i k l0 k' c0 hl0 hc0
              obtain ⟨l', c', rfl, rfl, hlc, hb, hK⟩ := h.h
              refine .inr ⟨rfl, .inl ⟨_, _, _, ?_, hS.push (.cells (List.replicate c' z.cells.toList).flatten.toArray e) (p := fun o => o = Obj.cells (List.replicate c' z.cells.toList).flatten.toArray e) rfl, hK w.heap.size hS.size⟩⟩
              have hcb : c' ≤ c' * ie.bytes := Nat.le_mul_of_pos_right _ hc.2.2
              have hz0 := zer_flat (zs := z.cells) c'
              rw [hc.1] at hz0
              have h1 : (ie.bytes : Int) * (c' : Int) ≤ 281474976710656 := by rw [← Int.natCast_mul, Nat.mul_comm]; omega
              have hr := run_make (P := P) w t e ie z hu hie hz k k' l' c' (by omega) (by omega) h1 (by omega)
              simp only [Int.toNat_natCast] at hr
              have hm : madeCells z.cells (c' * ie.size) = (List.replicate c' z.cells.toList).flatten.toArray := by rw [← hz0]; simp [madeCells, hc.1]
              rw [hm] at hr
              simp only [execOp, ho, hl0, hc0, Sem.run_bind, hr, Result.andThen_ok, Sem.run_pure]
              rfl
            · exact h.elim
          · subst hl; exact (XO_bad h).elim
        · subst hl; exact (XO_bad h).elim
      · subst hl; exact (XO_bad h).elim
    · subst hl; exact (XO_bad h).elim
  case makeFunc fn first cap =>
    cases fn <;> simp only at hl
    case func k =>
      split at hl
      · rename_i hf
        subst hl
        simp only [XO] at h
        have hf' : first = #[] := by simpa using hf
        refine does_val hS ?_ h
        subst hf'
        obtain ⟨cap⟩ := cap
        simp [execOp, ho, Instr.makeFunc]
      · subst hl; exact (XO_bad h).elim
    all_goals (subst hl; exact (XO_bad h).elim)
  case slice t x lo hi mx =>
    split at hl
    · rename_i e hu
      split at hl
      · rename_i n hn
        subst hl
        simp only [XO] at h
        split at h
        · rename_i a len cap lo' hi' mx' hx h1 h2 h3
          obtain ⟨l, r, m, e1, e2, e3, hlr, hrm, hmc, hmh, hK⟩ := h.h
          refine does_val hS ?_ hK
          have hb := bounds_run (P := P) (isS := true) (evI_ov h1) (evI_ov h2) (evI_ov h3) e1 e2 e3 hlr hrm hmc hmh w
          unfold slA
          simp [execOp, ho, Instr.sliceAt, Instr.slice, hx, under_run hu, hb, szT_run hn]
        · exact h.elim
      · subst hl; exact (XO_bad h).elim
    · rename_i hu
      split at hl
      · subst hl
        simp only [XO] at h
        split at h
        · rename_i s lo' hi' hx h1 h2
          obtain ⟨l, r, e1, e2, hlr, hrs, hK⟩ := h.h
          refine does_val hS ?_ hK
          have hb := bounds_run (P := P) (isS := false) (len := s.size) (cap := s.size) (m := s.size) (mx := none) (mx' := none) (evI_ov h1) (evI_ov h2) (.inl ⟨rfl, rfl⟩) e1 e2 rfl hlr (fun _ => hrs) (fun h => by cases h) (fun h => by cases h) w
          simp [execOp, ho, Instr.sliceAt, Instr.slice, hx, under_run hu, hb]
        · exact h.elim
      · subst hl; exact (XO_bad h).elim
    · subst hl; exact (XO_bad h).elim
  case index t x i =>
    split at hl
    · rename_i hu
      subst hl
      simp only [XO] at h
      split at h
      · rename_i s k m hx hi
        obtain ⟨j, b, rfl, hb, hk⟩ := h.h
        refine does_val hS ?_ hk
        have hb' : s[j]? = some b := by
          rw [List.getElem?_eq_some_iff] at hb
          obtain ⟨hj, hb⟩ := hb
          have hj' : j < s.size := by simpa using hj
          rw [getElem?_pos s j hj']
          congr 1
        simp [execOp, ho, hx, hi, Instr.index, under_run hu, asIntOf, hb']
      · exact h.elim
    · rename_i len e hu
      split at hl
      · rename_i n ha hn
        subst hl
        simp only [XO] at h
        split at h
        · rename_i cs k m hx hi
          obtain ⟨j, rfl, hj, hk⟩ := h.h
          refine does_val hS ?_ hk.h
          simp [execOp, ho, hx, hi, Instr.index, under_run hu, asIntOf, szT_run hn, hj, part, aggT_run ha]
          rw [← Array.toList_inj]
          simp [Array.toList_extract, List.extract_eq_take_drop]
        · exact h.elim
      · rename_i ha hn
        subst hl
        simp only [XO] at h
        split at h
        · rename_i cs k m hx hi
          obtain ⟨j, rfl, hj, hk⟩ := h.h
          obtain ⟨v, hv, hk⟩ := hk.h
          refine does_val hS ?_ hk
          rw [Array.getElem?_toList] at hv
          simp [execOp, ho, hx, hi, Instr.index, under_run hu, asIntOf, szT_run hn, hj, part, aggT_run ha, hv]
        · exact h.elim
      · subst hl; exact (XO_bad h).elim
    · subst hl; exact (XO_bad h).elim
  case load t x =>
    split at hl
    · rename_i n ha hn
      subst hl
      simp only [XO] at h
      split at h
      · rename_i ad hx
        obtain ⟨vs, hlen, hv, hk⟩ := h.h
        refine does_val hS ?_ hk
        simp [execOp, ho, hx, Instr.loadAt, Instr.sureAddr, loadVar, aggT_run ha, szT_run hn, run_loadCells (vs := vs.toList) hlen (hv w hS)]
      · exact h.elim
    · rename_i n ha hn
      subst hl
      simp only [XO] at h
      split at h
      · rename_i ad hx
        obtain ⟨v, hv, hk⟩ := h.h
        refine does_val hS ?_ hk
        have hv' := hv w hS
        simp [execOp, ho, hx, Instr.loadAt, Instr.sureAddr, loadVar, aggT_run ha, hv']
      · exact h.elim
    · subst hl; exact (XO_bad h).elim
  case store t x v =>
    split at hl
    · rename_i n ha hn
      subst hl
      simp only [XO] at h
      split at h
      · rename_i ad cs hx hv
        obtain ⟨hlen, ⟨h1, own', hs, hk⟩⟩ := h
        refine .inr ⟨rfl, .inr (.inl ⟨setN w ad 0 cs.toList, own', ?_, (hs w hS).2, hk⟩)⟩
        have hlen' : cs.size = n := by simpa using hlen
        simp [execOp, ho, hx, hv, Instr.storeAt, Instr.sureAddr, storeVar, Value.cells, szT_run hn, hlen', run_storeCells _ 0 w h1 (fun j hj => by simpa using (hs w hS).1 j hj)]
      · exact h.elim
    · rename_i ha hn
      subst hl
      simp only [XO] at h
      split at h
      · rename_i ad hx
        obtain ⟨⟨h1, own', hs, hk⟩⟩ := h.h
        obtain ⟨g1, g2, g3⟩ := hs w hS
        refine .inr ⟨rfl, .inr (.inl ⟨w.setCell ad (ev f v), own', ?_, g3, hk⟩)⟩
        have hc : (ev f v).cells = #[ev f v] := by revert h1; cases ev f v <;> simp [oneC, Value.cells]
        simp [execOp, ho, hx, Instr.storeAt, Instr.sureAddr, storeVar, hc, szT_run hn, storeCells, run_store_ok h1 (a := ad.add 0) (w := w) (by simpa [Addr.add] using g1) (by simpa [Addr.add] using g2)]
        simp [Addr.add]
      · exact h.elim
    · subst hl; exact (XO_bad h).elim
  case box t x =>
    subst hl
    simp only [XO] at h
    have key : ∀ cs : Array Value, (ev f x).cells = cs → New W0 own (.cells cs t) (fun b own' => K (.pointer (some ⟨b, 0, none⟩)) own') → Does P f o w own W0 K (roOp (.box t x)) := by
      intro cs hc h
      refine .inr ⟨rfl, .inl ⟨_, _, _, ?_, hS.push (.cells cs t) (p := fun o => o = .cells cs t) rfl, h.h w.heap.size hS.size (fun _ he => hS.mem_size he)⟩⟩
      simp [execOp, ho, Instr.box, newVar, newRow, hc]
    split at h
    · rename_i cs hx; exact key cs (by rw [hx]; rfl) h
    · rename_i v hne
      refine key _ ?_ h.h
      unfold Value.cells
      split
      · rename_i cs hx; exact (hne cs hx).elim
      · rfl
  case alloc t =>
    split at hl
    · rename_i z hz
      subst hl
      simp only [XO] at h
      have key : ∀ cs : Array Value, z.cells = cs → New W0 own (.cells cs t) (fun b own' => K (.pointer (some ⟨b, 0, none⟩)) own') → Does P f o w own W0 K (roOp (.new t z)) := by
        intro cs hc h
        refine .inr ⟨rfl, .inl ⟨_, _, _, ?_, hS.push (.cells cs t) (p := fun o => o = .cells cs t) rfl, h.h w.heap.size hS.size (fun _ he => hS.mem_size he)⟩⟩
        simp [execOp, ho, Instr.alloc, newVar, newRow, zeroT_run hz, hc]
      split at h
      · exact key _ rfl h
      · rename_i v hne
        refine key _ ?_ h
        unfold Value.cells
        split
        · exact (hne _ rfl).elim
        · rfl
    · subst hl; exact (XO_bad h).elim
  case build t parts =>
    unfold lowBuild at hl
    split at hl
    · rename_i z fs hz hu
      split at hl
      · rename_i hok
        split at hl
        · rename_i l hl'
          subst hl
          simp only [XO] at h
          obtain ⟨cs', h1, h2, _⟩ := Bld_run parts.toList l z.cells.toList _ (by simpa using hl') h
          refine does_val hS ?_ h2
          have hpl : (fun i => Option.map (fun f => (f.offset, (szT P f.type).getD 0)) fs[i]?) = placesS P fs := by
            funext i
            unfold placesS
            cases hfi : fs[i]? with
            | none => rfl
            | some fd =>
              have hmem : fd ∈ fs := Array.mem_of_getElem? hfi
              have := Array.all_eq_true'.1 hok fd hmem
              obtain ⟨n, hn⟩ := Option.isSome_iff_exists.1 this
              simp [hn]
          have h1' : Instr.fill (placesS P fs) z.cells (parts.toList.map fun p => (p.1, ev f p.2)) = some cs'.toArray := by simpa using h1
          simp [execOp, ho, Instr.build, zeroT_run hz, under_run hu, placesM hok, hpl, h1']
        · subst hl; exact (XO_bad h).elim
      · subst hl; exact (XO_bad h).elim
    · rename_i z len e hz hu
      split at hl
      · rename_i n hn
        split at hl
        · rename_i l hl'
          subst hl
          simp only [XO] at h
          obtain ⟨cs', h1, h2, _⟩ := Bld_run parts.toList l z.cells.toList _ (by simpa using hl') h
          refine does_val hS ?_ h2
          have h1' : Instr.fill (fun i => some (i * n, n)) z.cells (parts.toList.map fun p => (p.1, ev f p.2)) = some cs'.toArray := by simpa using h1
          simp [execOp, ho, Instr.build, zeroT_run hz, under_run hu, szT_run hn, h1']
        · subst hl; exact (XO_bad h).elim
      · subst hl; exact (XO_bad h).elim
    · subst hl; exact (XO_bad h).elim
  case buildSlice t len parts =>
    unfold lowBuildS at hl
    split at hl
    · rename_i e hu
      split at hl
      · rename_i n z hn hz
        split at hl
        · rename_i hb
          split at hl
          · rename_i l hl'
            subst hl
            simp only [XO] at h
            obtain ⟨ie, hie, hien⟩ := Option.map_eq_some_iff.1 (show (P.info? e).map (·.size) = some n from hn)
            obtain ⟨ie', hie', hiz⟩ := Option.bind_eq_some_iff.1 (show (P.info? e).bind (·.zero) = some z from hz)
            have hee : ie' = ie := Option.some.inj (hie'.symm.trans hie)
            subst hee
            subst hien
            obtain ⟨cs', h1, h2, _⟩ := Bld_run parts.toList l (zerosOf z (len * ie'.size)) _ (by simpa [zerosOf] using hl') h
            have h2' := h2.h w.heap.size hS.size (fun _ he => hS.mem_size he)
            refine .inr ⟨rfl, .inl ⟨_, _, _, ?_, hS.push (.cells cs'.toArray e) (p := (· = .cells cs'.toArray e)) rfl, h2'⟩⟩
            have hr := run_buildSlice (P := P) w t e len (parts.map fun p => (p.1, ev f p.2)) cs'.toArray ie' z hu hie hiz (by omega) (by omega) (by unfold zerosOf at h1; rw [Array.toArray_toList] at h1; simpa only [Array.toList_map] using h1)
            unfold execOp
            rw [ho]
            simp only [Sem.run_map, bind_pure_comp, hr, Result.andThen_ok]
            rfl
          · subst hl; exact (XO_bad h).elim
        · split at hl
          · rename_i hb0
            subst hl
            simp only [XO] at h
            obtain ⟨ie, hie, hien⟩ := Option.map_eq_some_iff.1 (show (P.info? e).map (·.size) = some n from hn)
            subst hien
            have h2' : K (.slice (some ⟨w.heap.size, 0, none⟩) len len) ((w.heap.size, (· = .cells #[] e)) :: own) := h.h w.heap.size hS.size (fun _ he => hS.mem_size he)
            have hp : parts = #[] := by rw [← Array.toList_inj]; exact hb0.2
            subst hp
            refine .inr ⟨rfl, .inl ⟨_, _, _, ?_, hS.push (.cells #[] e) (p := (· = .cells #[] e)) rfl, h2'⟩⟩
            simp [execOp, ho, Instr.buildSlice, under_run hu, sizeOf, typeInfo, hie, hb0.1, Instr.fill, newRow]
            rw [show (Array.range 0) = #[] from rfl]
            simp
          · subst hl; exact (XO_bad h).elim
      · subst hl; exact (XO_bad h).elim
    · subst hl; exact (XO_bad h).elim
  case extract x i =>
    subst hl
    simp only [XO] at h
    split at h
    · rename_i vs hx
      obtain ⟨v, hv, hk⟩ := h.h
      refine does_val hS ?_ hk
      rw [Array.getElem?_toList] at hv
      simp [execOp, ho, hx, Instr.extract, hv]
    · exact h.elim
  case nilCheck x =>
    subst hl
    simp only [XO] at h
    split at h
    · rename_i ad hx
      exact does_val hS (v := .pointer (some ad)) (by simp [execOp, ho, hx]) h
    · exact h.elim
  case call c => exact lowCall_sound ho hl hS h
  case range t x =>
    split at hl
    · rename_i hu
      subst hl
      simp only [XO] at h
      split at h
      · rename_i s hx
        refine .inr ⟨rfl, .inl ⟨_, _, _, ?_, hS.push (.stringIter s 0) (p := fun o => o = .stringIter s 0) rfl, h.h w.heap.size hS.size (fun _ he => hS.mem_size he)⟩⟩
        simp [execOp, ho, Instr.range, under_run hu, hx]
      · exact h.elim
    · subst hl; exact (XO_bad h).elim
  case next x isS =>
    split at hl
    · subst hl
      simp only [XO] at h
      split at h
      · rename_i b hx
        obtain ⟨s, pos, hm, h1, h2⟩ := h.h
        obtain ⟨o', ho', hp'⟩ := hS.owns _ hm
        have hg : w.heap[b]? = some (.stringIter s pos) := by rw [← show o' = _ from hp']; exact ho'
        by_cases hlt : pos < s.size
        · obtain ⟨own', hu, hk⟩ := h1 hlt
          refine .inr ⟨rfl, .inl ⟨_, { w with heap := w.heap.setIfInBounds b (.stringIter s (pos + (Utf8.decode s pos).2)) }, own', ?_, ?_, hk⟩⟩
          · have hr := (run_nextStr (P := P) (t := o.type) hg).1 hlt
            simp [execOp, ho, hx, hr]
          · have hb := (Array.getElem?_eq_some_iff.1 hg).1
            refine hS.up hu rfl rfl rfl (by simp) (fun k _ hne => ?_) ⟨_, ?_, rfl⟩
            · simp [Ne.symm hne]
            · simp [hb]
        · refine .inr ⟨rfl, .inl ⟨_, w, own, ?_, hS, h2 hlt⟩⟩
          have hr := (run_nextStr (P := P) (t := o.type) hg).2 hlt
          simp [execOp, ho, hx, hr]
      · exact h.elim
    · subst hl; exact (XO_bad h).elim
  case makeMap t r =>
    cases r with
    | some x => subst hl; exact (XO_bad h).elim
    | none =>
      subst hl
      simp only [XO] at h
      refine .inr ⟨rfl, .inl ⟨_, _, _, ?_, hS.push (.map #[] 0) (p := mapO []) ⟨#[], 0, rfl, rfl⟩, h.h w.heap.size hS.size⟩⟩
      simp [execOp, ho, Instr.makeMap, newObj, Sem.run]
  case lookup t x i ok =>
    split at hl
    · rename_i k e hu
      split at hl
      · rename_i kk z hk hz
        subst hl
        simp only [XO] at h
        split at h
        · rename_i hx
          exact does_val hS (by simp [execOp, ho, hx, run_lookup (r := none) (key := ev f i) (ok := ok) hu hk hz (.inl ⟨rfl, rfl⟩) rfl]) h
        · rename_i b hx
          obtain ⟨l, r, hm, hfd, hK⟩ := h.h
          obtain ⟨o', ho', es, c, rfl, hl⟩ := hS.owns _ hm
          rw [← hl] at hfd
          exact does_val hS (by simp [execOp, ho, hx, run_lookup (r := r) (ok := ok) hu hk hz (.inr ⟨b, c, rfl, ho'⟩) hfd]) hK
        · exact h.elim
      · subst hl; exact (XO_bad h).elim
    · subst hl; exact (XO_bad h).elim
  case mapUpdate t x i v =>
    split at hl
    · rename_i k e hu
      split at hl
      · rename_i kk hk
        subst hl
        simp only [XO] at h
        split at h
        · rename_i b hx
          obtain ⟨l, own', hup, hsm, hK⟩ := h.h
          obtain ⟨r, hfd⟩ := Option.isSome_iff_exists.1 hsm
          obtain ⟨o', ho', es, c, rfl, hl⟩ := hS.owns _ hup.mem
          rw [← hl] at hfd
          obtain ⟨es', c', hrun, he⟩ := run_mapUpdate (v := ev f v) hu hk ho' hfd
          have hlt := (Array.getElem?_eq_some_iff.1 ho').1
          refine .inr ⟨rfl, .inr (.inl ⟨{ w with heap := w.heap.setIfInBounds b (.map es' c') }, own', ?_, ?_, hK⟩)⟩
          · simp [execOp, ho, hx, hrun]
          · refine hS.up hup rfl rfl rfl (by simp) (fun k _ hne => by simp [Ne.symm hne]) ⟨.map es' c', by simp [hlt], es', c', rfl, by rw [he, hl]⟩
        · exact h.elim
      · subst hl; exact (XO_bad h).elim
    · subst hl; exact (XO_bad h).elim
  case insert t x i v =>
    split at hl
    · rename_i k e hu
      split at hl
      · rename_i kk hk
        subst hl
        simp only [XO] at h
        split at h
        · rename_i b hx
          obtain ⟨l, own', hup, hsm, hK⟩ := h.h
          obtain ⟨r, hfd⟩ := Option.isSome_iff_exists.1 hsm
          obtain ⟨o', ho', es, c, rfl, hl⟩ := hS.owns _ hup.mem
          rw [← hl] at hfd
          obtain ⟨es', c', hrun, he⟩ := run_mapUpdate (v := ev f v) hu hk ho' hfd
          have hlt := (Array.getElem?_eq_some_iff.1 ho').1
          refine .inr ⟨rfl, .inr (.inl ⟨{ w with heap := w.heap.setIfInBounds b (.map es' c') }, own', ?_, ?_, hK⟩)⟩
          · simp [execOp, ho, hx, hrun]
          · refine hS.up hup rfl rfl rfl (by simp) (fun k _ hne => by simp [Ne.symm hne]) ⟨.map es' c', by simp [hlt], es', c', rfl, by rw [he, hl]⟩
        · exact h.elim
      · subst hl; exact (XO_bad h).elim
    · subst hl; exact (XO_bad h).elim
  all_goals (subst hl; exact (XO_bad h).elim)
theorem lowOp_call_run {k : FuncId} {args : List Operand} (hl : lowOp P o.op = .call k args) : (execOp (ev f) o).run P w = .ok (.enter k (args.map (ev f)).toArray) w := by
  cases ho : o.op <;> rw [ho] at hl <;> (try simp only [lowOp] at hl) <;> (try exact IOp.noConfusion hl)
  case binOp op t x y t' => unfold lowBin at hl; repeat' (first | exact IOp.noConfusion hl | split at hl)
  case buildSlice => unfold lowBuildS at hl; repeat' (first | exact IOp.noConfusion hl | split at hl)
  case unOp op t x => cases op <;> simp only at hl <;> repeat' (first | exact IOp.noConfusion hl | split at hl)
  case build => unfold lowBuild at hl; repeat' (first | exact IOp.noConfusion hl | split at hl)
  case makeFunc fn _ _ => cases fn <;> simp only at hl <;> repeat' (first | exact IOp.noConfusion hl | split at hl)
  case makeMap t r =>
    cases r with
    | none => have h : IOp.mkm = .call k args := hl; cases h
    | some x => have h : IOp.bad = .call k args := hl; cases h
  case call c =>
    obtain ⟨cal, as, ats⟩ := c
    obtain ⟨as⟩ := as
    obtain ⟨ats⟩ := ats
    unfold lowCall at hl
    simp only at hl
    split at hl
    · split at hl
      · rename_i fn hfn
        split at hl
        · repeat' (first | exact IOp.noConfusion hl | split at hl)
        · rename_i hc
          injection hl with h1 h2
          subst h1; subst h2
          simp only [Bool.or_eq_true, not_or, Bool.not_eq_true, beq_eq_false_iff_ne, Option.isNone_eq_false_iff] at hc
          have h2 : fn.body ≠ none := by intro e; simp [e] at hc
          simp [execOp, ho, resolve, ev, Deferred.ofValue, invoke, callFunc, hfn, hc.1, h2]
      · exact IOp.noConfusion hl
    all_goals repeat' (first | exact IOp.noConfusion hl | split at hl)
  all_goals repeat' (first | exact IOp.noConfusion hl | split at hl)
end
end Go.Proofs.YtllddgdmmfmpkaaGreatDoor
