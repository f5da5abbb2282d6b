/- What the laws share, part 2. No condition. -/
import Derived.Test.YtkieffpjjfebjaaGreatDoorRows
import Derived.ProofKit
import Derived.OpenShut
import Derived.ChangeOld
import Derived.Below
import Derived.Test.YtkieffpjjfebjaaGreatDoorR1
namespace Go.Proofs.YtkieffpjjfebjaaGreatDoor
open Go Go.ChangeShapes Go.WideShapes Go.ChangeAt Go.RowKit
theorem qmA{W w:World}{own:Own}(h:St W own w):Below W.heap.size W w:=⟨h.os,h.tape,h.output,h.size,h.base⟩
theorem qmZ(W:World):St W [] W:=⟨rfl,rfl,rfl,Nat.le_refl _,fun _ _=>rfl,fun e he=>(by cases he),fun e he=>(by cases he),List.nodup_nil⟩
section
variable{P:Program}{w:World}{b0:Nat}{t:TypeId}{v:Value}
def inK:IntKind→Int→Prop
 | .i8,n=> -128≤n∧n≤127
 | .i16,n=> -32768≤n∧n≤32767
 | .i32,n=> -2147483648≤n∧n≤2147483647
 | .i64,n=> -9223372036854775808≤n∧n≤9223372036854775807
 | .u8,n=>0≤n∧n≤255
 | .u16,n=>0≤n∧n≤65535
 | .u32,n=>0≤n∧n≤4294967295
 | .u64,n=>0≤n∧n≤18446744073709551615
theorem qmv{k:IntKind}{n:Int}(h:k.has n):inK k n:=by
 cases k <;>(simp only[IntKind.has,IntKind.min,IntKind.max,IntKind.signed,IntKind.bits] at h;simpa [inK] using h)
theorem qs{k:IntKind}(ht:P.underlying t=some (.int k))(h:Cell.okWide P w .any b0 t v):∃n,v= .int k n∧inK k n:=by
 simp only[Cell.okWide,ht,Cell.ok] at h
 split at h <;>simp_all
 exact qmv h.2
theorem qma(ht:P.underlying t=some .bool)(h:Cell.okWide P w .any b0 t v):∃b,v= .bool b:=by
 simp only[Cell.okWide,ht,Cell.ok] at h
 split at h <;>simp_all
theorem qmS{k:IntKind}(ht:P.underlying t=some (.int k))(h:Value.okWide P w .any b0 t v):∃n,v= .int k n∧inK k n:=by
 simp only[Value.okWide,ht] at h
 exact qs ht h
theorem qmG(ht:P.underlying t=some .bool)(h:Value.okWide P w .any b0 t v):∃b,v= .bool b:=by
 simp only[Value.okWide,ht] at h
 exact qma ht h
def qmJ(P:Program)(t:TypeId):Bool:=match P.underlying t with|some (.struct _)|some (.array _ _)=>true|_=>false
theorem qmo{ts:List TypeId}(hf:qmJ P t=true)(hts:P.cellTypes P.depth t=some ts)(hC:P.cellsOf t=ts.length)(h:Value.okWide P w .any b0 t v):
  ∃cs:List Value,v= .agg cs.toArray∧cs.length=ts.length∧∀(i:Nat) (x:Value) (u:TypeId),cs[i]? =some x→ts[i]? =some u→Cell.okWide P w .any b0 u x:=by
 have key:∃cs,v= .agg cs∧cs.size=P.cellsOf t∧Row.okWide P w .any b0 t cs:=by
  unfold qmJ at hf
  unfold Value.okWide at h
  split at hf
  ·rename_i heq;simpa only[heq] using h
  ·rename_i heq;simpa only[heq] using h
  ·cases hf
 obtain⟨cs,rfl,hs,ts',ht',_,hc⟩:=key
 rw[hts] at ht'
 obtain rfl:=Option.some.inj ht'
 refine⟨cs.toList,by simp,by simp[hs,hC],fun i x u hx hu=> ?_⟩
 have hi:i<ts.length:=(List.getElem?_eq_some_iff.1 hu).1
 obtain⟨u',hu',hc⟩:=hc i x (by simpa using hx)
 rw[Nat.mod_eq_of_lt hi,hu] at hu'
 obtain rfl:=Option.some.inj hu'
 exact hc
theorem qlY{H:Type}{enc:TypeId×Value→H}(hl:laidOutB P=true){W W':World}(hb:Below W.heap.size W W'):
  ∀{ts:List TypeId} {vs:List Value} {ds:List (DataW H)} {p:List MemPlace},(ts.all fun t=>P.readableRec t&&decide (t<P.types.size))=true→
   DataW.TrodAll enc P W 0 (fun _=>true) true ts vs ds p→DataW.TrodAll enc P W' 0 (fun b=>decide (b<W.heap.size)) true ts vs ds p
 | [],[],[],_,_,h=>h
 |t::ts,v::vs,d::ds,p,hr,h=>by
  obtain⟨p0,q,h0,hs,rfl⟩:=h
  simp only[List.all_cons,Bool.and_eq_true,decide_eq_true_eq] at hr
  refine⟨p0,q,Below.trod hl hr.1.1 hr.1.2 h0 hb ?_,qlY hl hb (by simpa using hr.2) hs,rfl⟩
  obtain⟨m,hm⟩:=h0
  exact DataW.trod_lt m _ _ _ hm
 | [],_::_,_,_,_,h=>h.elim
 | [],[],_::_,_,_,h=>h.elim
 |_::_,[],_,_,_,h=>h.elim
 |_::_,_::_,[],_,_,h=>h.elim
end
theorem qmX:ownKnob Tryz.prog.godebug=none:=by kernel_rfl
theorem qmN:laidOutB Tryz.prog=true:=by kernel_rfl
end Go.Proofs.YtkieffpjjfebjaaGreatDoor
