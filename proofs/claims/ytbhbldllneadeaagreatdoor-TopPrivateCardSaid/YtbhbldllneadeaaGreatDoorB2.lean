/- What the laws share, part 2. No condition. -/
import Derived.Test.YtbhbldllneadeaaGreatDoorRows
import Derived.ProofKit
import Derived.OpenShut
import Derived.ChangeOld
import Derived.Below
import Derived.Test.YtbhbldllneadeaaGreatDoorB1
namespace Go.Proofs.YtbhbldllneadeaaGreatDoor
open Go Go.ChangeShapes Go.WideShapes Go.ChangeAt Go.RowKit
theorem qox{W w:World}{own:Own}(h:St W own w):Below W.heap.size W w:=⟨h.os,h.tape,h.output,h.size,h.base⟩
theorem qp9(W:World):St W [] W:=⟨rfl,rfl,rfl,zu _,fun _ _=>rfl,fun e he=>(by cases he),fun e he=>(by cases he),List.nodup_nil⟩
section
variable{P:Program}{w:World}{b0:Nat}{t:TypeId}{v:Value}
def inK:IntKind→Int→Prop
 | .i8,n=> -128≤n∧n≤127
 | .i16,n=> -32768≤n∧n≤32767
 | .i32,n=> -2147483648≤n∧n≤2147483647
 | .i64,n=> -9223372036854775808≤n∧n≤9223372036854775807
 | .u8,n=>0≤n∧n≤255
 | .u16,n=>0≤n∧n≤65535
 | .u32,n=>0≤n∧n≤4294967295
 | .u64,n=>0≤n∧n≤18446744073709551615
theorem qoS{k:IntKind}{n:Int}(h:k.has n):inK k n:=by
 cases k <;>(simp only[IntKind.has,IntKind.min,IntKind.max,IntKind.signed,IntKind.bits] at h;simpa [inK] using h)
theorem q4{H:Type}{enc:TypeId×Value→H}(hl:laidOutB P=true){W W':World}(hb:Below W.heap.size W W'):
  ∀{ts:List TypeId} {vs:List Value} {ds:List (DataW H)} {p:List MemPlace},(ts.all fun t=>P.readableRec t&&decide (t<P.types.size))=true→
   DataW.TrodAll enc P W 0 (fun _=>true) true ts vs ds p→DataW.TrodAll enc P W' 0 (fun b=>decide (b<W.heap.size)) true ts vs ds p
 | [],[],[],_,_,h=>h
 |t::ts,v::vs,d::ds,p,hr,h=>by
  obtain⟨p0,q,h0,hs,rfl⟩:=h;simp only[List.all_cons,zx,decide_eq_true_eq] at hr;refine⟨p0,q,Below.trod hl hr.1.1 hr.1.2 h0 hb ?_,q4 hl hb (by simpa using hr.2) hs,rfl⟩;obtain⟨m,hm⟩:=h0;exact DataW.trod_lt m _ _ _ hm
 | [],_::_,_,_,_,h=>h.elim
 | [],[],_::_,_,_,h=>h.elim
 |_::_,[],_,_,_,h=>h.elim
 |_::_,_::_,[],_,_,h=>h.elim
end
theorem qp8:ownKnob Tryz.prog.godebug=none:=by kernel_rfl
theorem qoY:laidOutB Tryz.prog=true:=by kernel_rfl
end Go.Proofs.YtbhbldllneadeaaGreatDoor
