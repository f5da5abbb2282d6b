/- What the laws share, part 8. No condition. -/
import Derived.Test.YtfnghamklcdgnaaGreatDoorRows
import Derived.ProofKit
import Derived.OpenShut
import Derived.ChangeOld
import Derived.Below
import Derived.Test.YtfnghamklcdgnaaGreatDoorQ7
namespace Go.Proofs.YtfnghamklcdgnaaGreatDoor
open Go Go.ChangeShapes Go.WideShapes Go.ChangeAt Go.RowKit
theorem qfn{W w:World}{own:Own}(h:St W own w):Below W.heap.size W w:=⟨h.os,h.tape,h.output,h.size,h.base⟩
theorem qmS(W:World):St W [] W:=⟨rfl,rfl,rfl,zN _,fun _ _=>rfl,fun e he=>(by cases he),fun e he=>(by cases he),ym⟩
section
variable{P:Program}{w:World}{b0:Nat}{t:TypeId}{v:Value}
def inK:IntKind->Int->Prop
 | .i8,n=> -128<=n/\n<=127
 | .i16,n=> -32768<=n/\n<=32767
 | .i32,n=> -2147483648<=n/\n<=2147483647
 | .i64,n=> -9223372036854775808<=n/\n<=9223372036854775807
 | .u8,n=>0<=n/\n<=255
 | .u16,n=>0<=n/\n<=65535
 | .u32,n=>0<=n/\n<=4294967295
 | .u64,n=>0<=n/\n<=18446744073709551615
theorem qd6{k:IntKind}{n:Int}(h:k.has n):inK k n:=by
 cases k <;>(simp only[IntKind.has,IntKind.min,IntKind.max,IntKind.signed,IntKind.bits] at h;simpa [inK] using h)
theorem q3r{k:IntKind}(a:P.underlying t=some (.int k))(h:Cell.okWide P w .any b0 t v):∃n,v= .int k n/\inK k n:=by
 simp only[Cell.okWide,a,Cell.ok] at h
 split at h <;>simp_all
 exact qd6 h.2
def qhO(P:Program)(t:TypeId):Bool:=match P.underlying t with|some (.struct _)|some (.array _ _)=>true|_=>false
theorem qhn{ts:List TypeId}(c:qhO P t=true)(d:P.cellTypes P.depth t=some ts)(e:P.cellsOf t=ts.length)(h:Value.okWide P w .any b0 t v):
  ∃cs:je,v= .agg cs.toArray/\cs.length=ts.length/\∀(i:Nat) (x:Value) (u:TypeId),cs[i]? =some x->ts[i]? =some u->Cell.okWide P w .any b0 u x:=by
 have key:∃cs,v= .agg cs/\cs.size=P.cellsOf t/\Row.okWide P w .any b0 t cs:=by
  unfold qhO at c;unfold Value.okWide at h
  split at c
  ·rename_i heq;simpa only[heq] using h
  ·rename_i heq;simpa only[heq] using h
  ·cases c
 obtain⟨cs,rfl,f,ts',ht',_,b⟩:=key;rw[d] at ht';obtain rfl:=Option.some.inj ht';refine⟨cs.toList,Yd,by simp[f,e],fun i x u g hu=>?_⟩;have hi:i<ts.length:=(z7.1 hu).1;obtain⟨u',a,b⟩:=b i x (by simpa using g);rw[yV hi,hu] at a;obtain rfl:=Option.some.inj a;exact b
theorem q3M{H:Type}{enc:TypeId×Value->H}(f:laidOutB P=true){W c:World}(hb:Below W.heap.size W c):
  ∀{ts:List TypeId} {vs:je} {ds:List (DataW H)} {p:List MemPlace},(ts.all fun t=>P.readableRec t&&decide (t<P.types.size))=true->
   DataW.TrodAll enc P W 0 (fun _=>true) true ts vs ds p->DataW.TrodAll enc P c 0 (fun b=>decide (b<W.heap.size)) true ts vs ds p
 | [],[],[],_,_,h=>h
 |t::ts,v::vs,d::ds,p,a,h=>by
  obtain⟨i,q,e,g,rfl⟩:=h;simp only[Y9,zH,decide_eq_true_eq] at a;refine⟨i,q,Below.trod f a.1.1 a.1.2 e hb ?_,q3M f hb (by simpa using a.2) g,rfl⟩;obtain⟨m,hm⟩:=e;exact DataW.trod_lt m _ _ _ hm
 | [],_::_,_,_,_,h=>h.elim
 | [],[],_::_,_,_,h=>h.elim
 |_::_,[],_,_,_,h=>h.elim
 |_::_,_::_,[],_,_,h=>h.elim
end
theorem qmr:ownKnob Tryz.prog.godebug=none:=by kernel_rfl
theorem qjC:laidOutB Tryz.prog=true:=by kernel_rfl
end Go.Proofs.YtfnghamklcdgnaaGreatDoor
