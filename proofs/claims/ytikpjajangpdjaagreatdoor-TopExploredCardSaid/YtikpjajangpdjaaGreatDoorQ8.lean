/- What the laws share, part 8. No condition. -/
import Derived.Test.YtikpjajangpdjaaGreatDoorRows
import Derived.ProofKit
import Derived.OpenShut
import Derived.ChangeOld
import Derived.Below
import Derived.Test.YtikpjajangpdjaaGreatDoorQ7
namespace Go.Proofs.YtikpjajangpdjaaGreatDoor
open Go Go.ChangeShapes Go.WideShapes Go.ChangeAt Go.RowKit
theorem qhO{W w:World}{own:Own}(h:St W own w):Below W.heap.size W w:=⟨h.os,h.tape,h.output,h.size,h.base⟩
theorem qqO(W:World):St W [] W:=⟨rfl,rfl,rfl,zq _,fun _ _=>rfl,fun e he=>(by cases he),fun e he=>(by cases he),Y0⟩
section
variable{P:Program}{w:World}{b0:Nat}{t:TypeId}{v:Value}
def inK:IntKind->Int->Prop
 | .i8,n=> -128<=n/\n<=127
 | .i16,n=> -32768<=n/\n<=32767
 | .i32,n=> -2147483648<=n/\n<=2147483647
 | .i64,n=> -9223372036854775808<=n/\n<=9223372036854775807
 | .u8,n=>0<=n/\n<=255
 | .u16,n=>0<=n/\n<=65535
 | .u32,n=>0<=n/\n<=4294967295
 | .u64,n=>0<=n/\n<=18446744073709551615
theorem qff{k:IntKind}{n:Int}(h:k.has n):inK k n:=by
 cases k <;>(simp only[IntKind.has,IntKind.min,IntKind.max,IntKind.signed,IntKind.bits] at h;simpa [inK] using h)
theorem qhT{k:IntKind}(a:P.underlying t=some (.int k))(h:Cell.okWide P w .any b0 t v):∃n,v= .int k n/\inK k n:=by
 simp only[Cell.okWide,a,Cell.ok] at h
 split at h <;>simp_all
 exact qff h.2
theorem qhj{k:IntKind}(a:P.underlying t=some (.int k))(h:Value.okWide P w .any b0 t v):∃n,v= .int k n/\inK k n:=by
 simp only[Value.okWide,a] at h;exact qhT a h
theorem q4i{H:Type}{enc:TypeId×Value->H}(g:laidOutB P=true){W e:World}(hb:Below W.heap.size W e):
  ∀{c:List TypeId} {vs:jf} {ds:List (DataW H)} {p:List MemPlace},(c.all fun t=>P.readableRec t&&decide (t<P.types.size))=true->
   DataW.TrodAll enc P W 0 (fun _=>true) true c vs ds p->DataW.TrodAll enc P e 0 (fun b=>decide (b<W.heap.size)) true c vs ds p
 | [],[],[],_,_,h=>h
 |t::c,v::vs,d::ds,p,a,h=>by
  obtain⟨j,q,f,i,rfl⟩:=h;simp only[Ys,zu,decide_eq_true_eq] at a;refine⟨j,q,Below.trod g a.1.1 a.1.2 f hb ?_,q4i g hb (by simpa using a.2) i,rfl⟩;obtain⟨m,hm⟩:=f;exact DataW.trod_lt m _ _ _ hm
 | [],_::_,_,_,_,h=>h.elim
 | [],[],_::_,_,_,h=>h.elim
 |_::_,[],_,_,_,h=>h.elim
 |_::_,_::_,[],_,_,h=>h.elim
end
theorem qqh:ownKnob Tryz.prog.godebug=none:=by kernel_rfl
theorem qn9:laidOutB Tryz.prog=true:=by kernel_rfl
end Go.Proofs.YtikpjajangpdjaaGreatDoor
