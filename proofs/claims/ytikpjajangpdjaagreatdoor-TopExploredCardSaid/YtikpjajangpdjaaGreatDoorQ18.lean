/- What the laws share, part 18. No condition. -/
import Derived.Test.YtikpjajangpdjaaGreatDoorQ17
set_option maxRecDepth 100000
namespace Go.Proofs.YtikpjajangpdjaaGreatDoor
open Go Go.ChangeShapes Go.WideShapes Go.ChangeAt Go.RowKit
theorem qf0{W:World}(h:laidMetH Tryz.prog [("strongtx/tdrf.none",Rows.laid_strongtx_tdrf_none),("strongtx/isa.forms",Rows.laid_strongtx_isa_forms)] W):qz W:=
 qfm (d:=Rows.laid_strongtx_isa_forms) (g:=2) (t:=300) (cs:=qf1) (by kernel_rfl) h (List.Mem.tail _ (List.Mem.head _)) (by kernel_rfl) (by kernel_rfl) (by kernel_rfl) (by kernel_rfl) (by simp[qf1])
theorem qmT{W:World}(h:laidMetH Tryz.prog [("strongtx/tdrf.none",Rows.laid_strongtx_tdrf_none),("strongtx/isa.forms",Rows.laid_strongtx_isa_forms)] W):q0y W 0 Ord.noneV:=
 qfm (d:=Rows.laid_strongtx_tdrf_none) (g:=0) (t:=46) (cs:=Ord.noneV) (by kernel_rfl) h (List.Mem.head _) (by kernel_rfl) (by kernel_rfl) (by kernel_rfl) (by kernel_rfl) (by simp[Ord.noneV])
section
variable{H:Type}{enc:TypeId×Value->H}{P:Program}{w:World}{spare:Nat->Bool}{held:Bool}{q:Nat->Bool}
theorem q0R{t:TypeId}{a:List TypeId}{d:DataW H}{ds:List (DataW H)}(h:(DataW.weightsEach P (t::a) (d::ds)).all q=true):(d.weights P t).all q=true/\(DataW.weightsEach P a ds).all q=true:=by
 simpa only[DataW.weightsEach,Yg,zu] using h
theorem q6w{e:TypeId}:∀{E:List (DataW H)} {d:DataW H},(DataW.weightsAll P e E).all q=true->d∈E->(d.weights P e).all q=true
 | [],_,_,hd=>by cases hd
 |c::r,d,h,hd=>by
  simp only[DataW.weightsAll,Yg,zu] at h
  rcases zN.1 hd with rfl|hd
  ·exact h.1
  ·exact q6w h.2 hd
theorem qcH{α:Type}{en:α->jf}{sz:Nat}{Φ:α->Prop}{fuel:Nat}{t e:TypeId}{cs:jf}{x:DataW H×List MemPlace}(O:P.underlying t=some (.slice e))(L:P.cellsOf e=sz)(F:0<sz)
  (K:∀n cs x,DataW.trod enc P w 0 spare held n e cs=some x->(x.1.weights P e).all q=true->∃y,cs=en y/\Φ y) (h:DataW.trod enc P w 0 spare held fuel t cs=some x) (hw:(x.1.weights P t).all q=true):
  ∃a l cap,cs= [.slice a l.length cap]/\RdE en sz w [] a l/\(∀y∈l,Φ y)/\l.length<=cap/\(l= []\/∃k,q ((l.length+k)*P.bytesOf e)=true):=by
 rcases DataW.trod_slice O h with ⟨rfl,_⟩|⟨a,len,cap,elems,rest,n,_,rfl,rfl,_,hl,_,hlen,B,_⟩
 ·exact⟨none,[],0,rfl,RdE.nil,fun _ h=>(by cases h),Yw, .inl rfl⟩
 ·simp only[DataW.weights,O,Ys,Yg,zu,zi] at hw;obtain⟨M,N,_⟩:=hw;have key:∀i,i<len->∃y,(w.cells? 0 (a.add (i*sz)) sz=some (en y))/\Φ y:=fun i C=>by
   have:=B i C;rw[L] at this;have D:i<elems.length:=Yu;rw[z6 D,Option.bind_eq_some_iff] at this;obtain⟨c,m,R⟩:=this;obtain⟨y,rfl,u⟩:=K _ _ _ R (q6w N (Zi (ZO D)));exact⟨y,m,u⟩
  obtain⟨l,E,G⟩:=qfn len key;have f:∀{j k:Nat} {y:α} {v:Value},l[j]? =some y->(en y)[k]? =some v->w.cell? ((a.add (j*sz)).add k)=some v/\(en y).length=sz:=fun{j k y v} u J=>by
   obtain⟨m,_⟩:=G j y u;obtain⟨_,hlen,f⟩:=World.cells?_some m;have hk:=(z7.1 J).1;exact⟨(f k Yu).trans J,hlen⟩
  have g:l≠ []->a.spot=none:=fun A=>by
   cases l with
   |nil=>exact absurd rfl A
   |cons y r=>
    obtain⟨m,_⟩:=G 0 y rfl;obtain⟨_,hlen,f⟩:=World.cells?_some m;have z:=f 0 F;rw[z6 Yu] at z;rw[Nat.zero_mul] at z;have Q:(a.add 0).add 0=a:=by simp[Addr.add]
    rw[Q] at z;unfold World.cell? at z
    split at z
    ·split at z
     ·cases z
     ·rename_i I;simpa using I
    ·cases z
  refine⟨some a,l,cap,by rw[E],⟨fun A=>?_,fun y u=>?_,fun{j k y v} u J=>?_⟩,fun y u=>?_,Yu, .inr ⟨rest.length,by rw[E,<-hlen];exact M⟩⟩
  ·have:=g A;obtain⟨b,o,s⟩:=a;simp only at this;subst this;rfl
  ·obtain⟨i,C⟩:=Zn u;obtain⟨m,_⟩:=G i y C;exact(World.cells?_some m).2.1
  ·obtain⟨m,_⟩:=f u J;have I:=g (by intro e;subst e;simp at u);have he:(a.add (j*sz)).add k=⟨ab (some a),ao (some a)+j*sz+k,none⟩:=by
    obtain⟨b,o,s⟩:=a;simp only at I;subst I;rw[qM,qM];rfl
   rw[he] at m;exact qlI m
  ·obtain⟨i,C⟩:=Zn u;exact(G i y C).2
end
section
variable{H:Type}{enc:TypeId×Value->H}{w:World}{spare:Nat->Bool}{held:Bool}{v:Value}{d:DataW H}{p:List MemPlace}
theorem qkL{cs:jh}{v x:Value}(h:v.cells=cs)(b:cs.toList= [x])(c:∀a,v≠ .agg a):v=x:=by
 unfold Value.cells at h
 split at h
 ·rename_i a;exact absurd rfl (c a)
 ·subst h;simpa using b
theorem q9m{P:Program}{w:World}{b0:Nat}{t e:TypeId}{v:Value}(b:P.underlying t=some (.slice e))(h:Value.okWide P w .any b0 t v):∀a,v≠ .agg a:=by
 intro a e;subst e;simp only[Value.okWide,b,Cell.okWide,Cell.ok] at h
theorem qkA{fuel:Nat}{cs:jf}{x:DataW H×List MemPlace}(h:DataW.trod enc Tryz.prog w 0 spare held fuel 23 cs=some x)(hw:(x.1.weights Tryz.prog 23).all (· <=reachBytes)=true):
  ∃a l cap,cs= [.slice a (List.length l) cap]/\RdE qv 1 w [] a l/\l.length<=17592186043904:=by
 obtain⟨a,l,cap,e,g,_,_,b⟩:=qcH (q:=(· <=reachBytes)) (en:=qv) (sz:=1) (Φ:=fun _=>True) Tryz.underlying23 (by kernel_rfl) Yu (fun n cs x h _=>by
  obtain⟨n,rfl,_⟩:=qk2 Tryz.underlying3 h;exact⟨n,rfl,trivial⟩) h hw
 refine⟨a,l,cap,e,g,?_⟩
 rcases b with rfl|⟨k,b⟩
 ·simp
 ·have c:Tryz.prog.bytesOf 3=8:=by kernel_rfl
  rw[c] at b;have b:=of_decide_eq_true b;have f:reachBytes=140737488351232:=rfl;rw[f] at b;omega
theorem qrO{b0:Nat}(o:Value.okWide Tryz.prog w .any b0 22 v)(m:DataW.Trod enc Tryz.prog w 0 spare held 22 v d p)(hw:(d.weights Tryz.prog 22).all (· <=reachBytes)=true):
  ∃a l cap,v= .slice a (List.length l) cap/\RdE IH.enc 1 w [] a l/\l.length<=17592186043904/\∀h∈l,RdE qv 1 w [] h.a h.l/\h.l.length<=17592186043904:=by
 obtain⟨fuel,h⟩:=m;obtain⟨a,l,cap,e,c,j,_,b⟩:=qcH (q:=(· <=reachBytes)) (en:=IH.enc) (sz:=1) (Φ:=fun y:IH=>RdE qv 1 w [] y.a y.l/\y.l.length<=17592186043904) Tryz.underlying22 (by kernel_rfl) Yu (fun n cs x h hw=>by
  obtain⟨a,l,cap,rfl,c,i⟩:=qkA h hw;exact⟨⟨a,cap,l⟩,rfl,c,i⟩) h hw
 refine⟨a,l,cap,qkL rfl e (q9m Tryz.underlying22 o),c,?_,j⟩
 rcases b with rfl|⟨k,b⟩
 ·simp
 ·have f:Tryz.prog.bytesOf 23=24:=by kernel_rfl
  rw[f] at b;have b:=of_decide_eq_true b;have g:reachBytes=140737488351232:=rfl;rw[g] at b;omega
end
section
variable{H:Type}{enc:TypeId×Value->H}{w:World}{spare:Nat->Bool}{held:Bool}{v:Value}{d:DataW H}{p:List MemPlace}
theorem qpK{b0:Nat}(g:Value.okWide Tryz.prog w .any b0 23 v)(f:DataW.Trod enc Tryz.prog w 0 spare held 23 v d p)(hw:(d.weights Tryz.prog 23).all (· <=reachBytes)=true):
  ∃a l cap,v= .slice a (List.length l) cap/\RdE qv 1 w [] a l/\l.length<=17592186043904:=by
 obtain⟨fuel,h⟩:=f;obtain⟨a,l,cap,e,c,b⟩:=qkA h hw;exact⟨a,l,cap,qkL rfl e (q9m Tryz.underlying23 g),c,b⟩
end
end Go.Proofs.YtikpjajangpdjaaGreatDoor
