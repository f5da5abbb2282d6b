/- What the laws share, part 3. No condition. -/
import Derived.LaidMore
import Derived.Lay
import Derived.LaidByTextLater
import Derived.Stop.Joined
import Derived.SevenTiedAt
import Derived.Laws.FloatBits
import Derived.Test.YtkieffpjjfebjaaGreatDoorChecked
import Derived.Shelf.SlMaps.Clone
import Derived.Shelf.Sort.Plain
import Derived.Shelf.Slices.In.SortNone
import Derived.Shelf.Slices.CompactI
import Derived.Ground.Names2Prog
import Derived.Test.YtkieffpjjfebjaaGreatDoorProg
import Derived.Test.YtkieffpjjfebjaaGreatDoorT2
set_option maxHeartbeats 16000000
set_option maxRecDepth 100000
namespace Go.Proofs.YtkieffpjjfebjaaGreatDoor
open Go Go.ChangeShapes Go.WideShapes Go.ChangeAt Go.RowKit
def qs{H:Type}:Nat→DataW H→Option (List Value)
 |0,_=>none
 |_+1, .lit (.int k n)=>some [.int k n]
 |_+1, .lit (.bool b)=>some [.bool b]
 |_+1, .lit (.string l)=>some [.string ⟨l.toArray⟩]
 |n+1, .agg ds=>(ds.mapM (qs n)).map List.flatten
 |_+1,_=>none
def qn6(P:Program)(f:TypeId→Bool):List Field→Nat→Option Nat
 | [],off=>some off
 |x::r,off=>if x.offset=off∧f x.type=true then qn6 P f r (off+P.cellsOf x.type) else none
def qmg(P:Program):Nat→TypeId→Bool
 |0,_=>false
 |n+1,t=>match P.underlying t with
  |some (.int _)|some .bool|some .string=>true
  |some (.array k e)=>qmg P n e&&decide (P.cellsOf t=k*P.cellsOf e)
  |some (.struct fs)=>qn6 P (qmg P n) fs.toList 0==some (P.cellsOf t)
  |_=>false
theorem qm1{α β:Type}{f:α→Option β}:∀(l:List α) (ys:List β),l.length=ys.length→(∀(i:Nat) x,l[i]? =some x→f x=ys[i]?)→l.mapM f=some ys
 | [],[],_,_=>by simp
 |x::l,y::ys,hl,h=>by
  have h0:=h 0 x rfl
  simp only[List.getElem?_cons_zero] at h0
  have ih:=qm1 l ys (by simpa using hl) (fun i x hx=>by have:=h (i+1) x (by simpa using hx);simpa using this)
  rw[List.mapM_cons,h0,ih]
  rfl
 | [],_::_,hl,_=>by cases hl
 |_::_,[],hl,_=>by cases hl
theorem qlS{cs:List Value}(s:Nat):∀k,((List.range k).map fun i=>(cs.drop (i*s)).take s).flatten=cs.take (k*s)
 |0=>by simp
 |k+1=>by
  rw[List.range_succ,List.map_append,List.flatten_append,qlS s k,Nat.succ_mul,List.take_add]
  simp
theorem qm5{P:Program}{f:TypeId→Bool}{cs:List Value}:∀(l:List Field) (off tot:Nat),qn6 P f l off=some tot→off≤tot∧(l.map fun x=>(cs.drop x.offset).take (P.cellsOf x.type)).flatten=(cs.drop off).take (tot-off)
 | [],off,tot,h=>by
  simp only[qn6,Option.some.injEq] at h
  subst h
  simp
 |x::l,off,tot,h=>by
  unfold qn6 at h
  split at h
  ·rename_i hx
   obtain⟨h1,h2⟩:=qm5 (cs:=cs) l _ tot h
   refine⟨by omega,?_⟩
   rw[List.map_cons,List.flatten_cons,h2,hx.1]
   have e:tot-off=P.cellsOf x.type+(tot-(off+P.cellsOf x.type)):=by omega
   rw[e,List.take_add,List.drop_drop]
  ·cases h
theorem qme{P:Program}{f:TypeId→Bool}:∀(l:List Field) (off tot:Nat),qn6 P f l off=some tot→∀x∈l,f x.type=true
 | [],_,_,_,x,hx=>by cases hx
 |y::l,off,tot,h,x,hx=>by
  unfold qn6 at h
  split at h
  ·rename_i hy
   rcases List.mem_cons.1 hx with rfl|hx
   ·exact hy.2
   ·exact qme l _ _ h x hx
  ·cases h
section
variable{H:Type}{enc:TypeId×Value→H}{P:Program}{w:World}{base:Nat}{spare:Nat→Bool}{held:Bool}
theorem qlU:∀(n fuel:Nat) (t:TypeId) (cs:List Value) (d:DataW H) (p:List MemPlace),qmg P n t=true→DataW.trod enc P w base spare held fuel t cs=some (d,p)→qs n d=some cs
 |0,_,_,_,_,_,h,_=>by simp[qmg] at h
 |n+1,fuel,t,cs,d,p,h,hd=>by
  unfold qmg at h
  split at h
  ·rename_i hu
   obtain⟨m,rfl,hx,_⟩:=DataW.trod_int hu hd
   simp only[Prod.mk.injEq] at hx
   rw[hx.1];rfl
  ·rename_i hu
   obtain⟨m,rfl,hx⟩:=DataW.trod_bool hu hd
   simp only[Prod.mk.injEq] at hx
   rw[hx.1];rfl
  ·rename_i hu
   obtain⟨m,rfl,hx,_⟩:=DataW.trod_string hu hd
   simp only[Prod.mk.injEq] at hx
   rw[hx.1];simp[qs]
  ·rename_i k e hu
   simp only[Bool.and_eq_true,decide_eq_true_eq] at h
   obtain⟨xs,m,_,hx,hl,hxl,hel⟩:=DataW.trod_array hu hd
   simp only[Prod.mk.injEq] at hx
   rw[hx.1]
   have hm:(xs.map (·.1)).mapM (qs n)=some ((List.range k).map fun i=>(cs.drop (i*P.cellsOf e)).take (P.cellsOf e)):=by
    refine qm1 _ _ (by simp[hxl]) fun i x hx=> ?_
    rw[List.getElem?_map] at hx
    obtain⟨y,hy,rfl⟩:=Option.map_eq_some_iff.1 hx
    have hi:i<k:=by rw[←hxl];exact(List.getElem?_eq_some_iff.1 hy).1
    have:=hel i hi
    rw[hy] at this
    rw[qlU n m e _ y.1 y.2 h.1 this]
    simp[hi]
   simp only[qs,hm,Option.map_some]
   rw[qlS,←h.2,←hl,List.take_length]
  ·rename_i fs hu
   simp only[beq_iff_eq] at h
   obtain⟨xs,m,_,hx,hl,hxl,hel⟩:=DataW.trod_struct hu hd
   simp only[Prod.mk.injEq] at hx
   rw[hx.1]
   have hm:(xs.map (·.1)).mapM (qs n)=some (fs.toList.map fun x=>(cs.drop x.offset).take (P.cellsOf x.type)):=by
    refine qm1 _ _ (by simp[hxl]) fun i x hx=> ?_
    rw[List.getElem?_map] at hx
    obtain⟨y,hy,rfl⟩:=Option.map_eq_some_iff.1 hx
    have hi:i<fs.size:=by rw[←hxl];exact(List.getElem?_eq_some_iff.1 hy).1
    have hf:fs[i]? =some fs[i]:=Array.getElem?_eq_getElem hi
    have:=hel i fs[i] hf
    rw[hy] at this
    have hft:=qme fs.toList 0 _ h fs[i] (by simp)
    rw[qlU n m _ _ y.1 y.2 hft this]
    simp[hi]
   simp only[qs,hm,Option.map_some]
   rw[(qm5 (cs:=cs) fs.toList 0 _ h).2]
   simp[←hl]
  ·cases h
end
theorem qmd{P:Program}{w:World}:∀{l:List (String×DataW Unit)} {ps:List MemPlace},DataW.LaidVars P w l ps→∀{n:String} {d:DataW Unit},(n,d)∈l→
  ∃g t cs fuel p,P.globalNamed n=some g∧(P.globals[g]?).map (·.type)=some t∧w.var? P n=some cs∧DataW.trod (fun _=>()) P w 0 (fun _=>true) false fuel t cs.toList=some (d,p)
 | [],_,_,_,_,h=>by cases h
 |(n',d')::r,ps,hL,n,d,h=>by
  obtain⟨g,t,cs,fuel,p,q,h1,h2,h3,h4,h5,_⟩:=hL
  rcases List.mem_cons.1 h with e|h
  ·cases e
   exact⟨g,t,cs,fuel,p,h1,h2,h3,h4⟩
  ·exact qmd h5 h
theorem qmo{P:Program}{w:World}{l:List (String×DataW Unit)}{n:String}{d:DataW Unit}{g:Nat}{t:TypeId}{cs:List Value}(hp:(l.all fun x=>x.2.handleName?.isNone)=true)
  (h:laidMetH P l w) (hm:(n,d)∈l) (hg:P.globalNamed n=some g) (ht:(P.globals[g]?).map (·.type)=some t) (hf:qmg P 6 t=true) (hc:qs 6 d=some cs) (hne:cs≠ []):q1C w g cs:=by
 rw[MakeChecks.laidMetH_plain _ _ _ hp] at h
 obtain⟨ps,hL,_,_⟩:=h
 obtain⟨g',t',cs',fuel,p,h1,h2,h3,h4⟩:=qmd hL hm
 rw[hg] at h1
 obtain rfl:=Option.some.inj h1
 rw[ht] at h2
 obtain rfl:=Option.some.inj h2
 have h5:=qlU 6 fuel t _ d p hf h4
 rw[hc] at h5
 have h5:=(Option.some.inj h5).symm
 have hcell:∀j v,cs[j]? =some v→w.cell? ⟨g,j,none⟩=some v:=fun j v hv=>by
  rw[World.var?_cell hg h3 j,←Array.getElem?_toList,h5,hv]
 refine⟨?_,hcell⟩
 match cs,hne with
 |v::_,_=>
  have:=hcell 0 v rfl
  unfold World.cell? at this
  split at this
  ·rename_i hb
   exact(Array.getElem?_eq_some_iff.1 hb).1
  ·cases this
open Go Go.ChangeShapes Go.WideShapes Go.ChangeAt Go.RowKit
theorem qmp{α:Type}{Q:Nat→α→Prop}:∀n,(∀i,i<n→∃y,Q i y)→∃l:List α,l.length=n∧∀i y,l[i]? =some y→Q i y
 |0,_=>⟨[],rfl,fun i y h=>by simp at h⟩
 |n+1,h=>by
  obtain⟨l,hl,hq⟩:=qmp n (fun i hi=>h i (by omega))
  obtain⟨y,hy⟩:=h n (by omega)
  refine⟨l++ [y],by simp[hl],fun i z hz=> ?_⟩
  by_cases hi:i<l.length
  ·rw[List.getElem?_append_left hi] at hz
   exact hq i z hz
  ·rw[List.getElem?_append_right (by omega)] at hz
   have:i-l.length=0:=by
    by_cases h0:i-l.length=0
    ·exact h0
    ·rw[List.getElem?_eq_none (by simp;omega)] at hz;cases hz
   rw[this] at hz
   simp only[List.getElem?_cons_zero,Option.some.injEq] at hz
   subst hz
   have:i=n:=by omega
   subst this
   exact hy
section
variable{H:Type}{enc:TypeId×Value→H}{P:Program}{w:World}{spare:Nat→Bool}{held:Bool}
theorem qmR{own:Own}{a:Addr}{v:Value}(h:w.cell? a=some v):Kn w own (fun w'=>w'.cell? a=some v):=fun w' hw=>by
 have hb:a.block<w.heap.size:=by
  unfold World.cell? at h
  split at h
  ·rename_i hb;exact(Array.getElem?_eq_some_iff.1 hb).1
  ·cases h
 exact(World.cell?_of_block (w:=w) (hw.base a.block hb)).trans h
theorem qmJ{fuel:Nat}{t:TypeId}{cs:List Value}{x:DataW H×List MemPlace}{k:IntKind}(ht:P.underlying t=some (.int k))(h:DataW.trod enc P w 0 spare held fuel t cs=some x):∃n,cs= [.int k n]∧inK k n:=by
 obtain⟨n,rfl,_,hw⟩:=DataW.trod_int ht h
 refine⟨n,rfl,qmn ?_⟩
 simp only[Lit.wf,Bool.and_eq_true,decide_eq_true_eq] at hw
 exact hw
def qnk(P:Program)(t:TypeId)(i:Nat):Option (Nat×TypeId):=match P.underlying t with
 |some (.struct fs)=>(fs[i]?).map fun f=>(f.offset,f.type)
 |_=>none
end
open Go Go.ChangeShapes Go.WideShapes Go.ChangeAt Go.RowKit
section
variable{H:Type}{enc:TypeId×Value→H}{P:Program}{w:World}{spare:Nat→Bool}{held:Bool}{q:Nat→Bool}
theorem qlL{t:TypeId}{ts:List TypeId}{d:DataW H}{ds:List (DataW H)}(h:(DataW.weightsEach P (t::ts) (d::ds)).all q=true):(d.weights P t).all q=true∧(DataW.weightsEach P ts ds).all q=true:=by
 simpa only[DataW.weightsEach,List.all_append,Bool.and_eq_true] using h
theorem qlV{e:TypeId}:∀{E:List (DataW H)} {d:DataW H},(DataW.weightsAll P e E).all q=true→d∈E→(d.weights P e).all q=true
 | [],_,_,hd=>by cases hd
 |c::r,d,h,hd=>by
  simp only[DataW.weightsAll,List.all_append,Bool.and_eq_true] at h
  rcases List.mem_cons.1 hd with rfl|hd
  ·exact h.1
  ·exact qlV h.2 hd
theorem qmf{α:Type}{en:α→List Value}{sz:Nat}{Φ:α→Prop}{fuel:Nat}{t e:TypeId}{cs:List Value}{x:DataW H×List MemPlace}(ht:P.underlying t=some (.slice e))(hsz:P.cellsOf e=sz)(hpos:0<sz)
  (hel:∀n cs x,DataW.trod enc P w 0 spare held n e cs=some x→(x.1.weights P e).all q=true→∃y,cs=en y∧Φ y) (h:DataW.trod enc P w 0 spare held fuel t cs=some x) (hw:(x.1.weights P t).all q=true):
  ∃a l cap,cs= [.slice a l.length cap]∧RdE en sz w [] a l∧(∀y∈l,Φ y)∧l.length≤cap∧(l= []∨∃k,q ((l.length+k)*P.bytesOf e)=true):=by
 rcases DataW.trod_slice ht h with ⟨rfl,_⟩|⟨a,len,cap,elems,rest,n,_,rfl,rfl,_,hl,_,hlen,hel',_⟩
 ·exact⟨none,[],0,rfl,RdE.nil,fun _ h=>(by cases h),by simp, .inl rfl⟩
 ·simp only[DataW.weights,ht,List.all_cons,List.all_append,Bool.and_eq_true,List.length_map] at hw
  obtain⟨hw1,hw2,_⟩:=hw
  have key:∀i,i<len→∃y,(w.cells? 0 (a.add (i*sz)) sz=some (en y))∧Φ y:=fun i hi=>by
   have:=hel' i hi
   rw[hsz] at this
   have hi':i<elems.length:=by omega
   rw[List.getElem?_eq_getElem hi',Option.bind_eq_some_iff] at this
   obtain⟨c,hc,hx⟩:=this
   obtain⟨y,rfl,hy⟩:=hel _ _ _ hx (qlV hw2 (List.mem_map_of_mem (List.getElem_mem hi')))
   exact⟨y,hc,hy⟩
  obtain⟨l,hll,hq⟩:=qmp len key
  have hget:∀{j k:Nat} {y:α} {v:Value},l[j]? =some y→(en y)[k]? =some v→w.cell? ((a.add (j*sz)).add k)=some v∧(en y).length=sz:=fun{j k y v} hy hv=>by
   obtain⟨hc,_⟩:=hq j y hy
   obtain⟨_,hlen,hget⟩:=World.cells?_some hc
   have hk:=(List.getElem?_eq_some_iff.1 hv).1
   exact⟨(hget k (by omega)).trans hv,hlen⟩
  have hspot:l≠ []→a.spot=none:=fun hne=>by
   cases l with
   |nil=>exact absurd rfl hne
   |cons y r=>
    obtain⟨hc,_⟩:=hq 0 y rfl
    obtain⟨_,hlen,hget⟩:=World.cells?_some hc
    have h0:=hget 0 hpos
    rw[List.getElem?_eq_getElem (by omega)] at h0
    rw[Nat.zero_mul] at h0
    have e0:(a.add 0).add 0=a:=by simp[Addr.add]
    rw[e0] at h0
    unfold World.cell? at h0
    split at h0
    ·split at h0
     ·cases h0
     ·rename_i hs;simpa using hs
    ·cases h0
  refine⟨some a,l,cap,by rw[hll],⟨fun hne=> ?_,fun y hy=> ?_,fun{j k y v} hy hv=> ?_⟩,fun y hy=> ?_,by omega, .inr ⟨rest.length,by rw[hll,←hlen];exact hw1⟩⟩
  ·have:=hspot hne
   obtain⟨b,o,s⟩:=a
   simp only at this
   subst this
   rfl
  ·obtain⟨i,hi⟩:=List.getElem?_of_mem hy
   obtain⟨hc,_⟩:=hq i y hi
   exact(World.cells?_some hc).2.1
  ·obtain⟨hc,_⟩:=hget hy hv
   have hs:=hspot (by intro e;subst e;simp at hy)
   have he:(a.add (j*sz)).add k=⟨ab (some a),ao (some a)+j*sz+k,none⟩:=by
    obtain⟨b,o,s⟩:=a
    simp only at hs
    subst hs
    rw[qJ,qJ]
    rfl
   rw[he] at hc
   exact qmR hc
  ·obtain⟨i,hi⟩:=List.getElem?_of_mem hy
   exact(hq i y hi).2
end
section
variable{H:Type}{enc:TypeId×Value→H}{w:World}{spare:Nat→Bool}{held:Bool}{v:Value}{d:DataW H}{p:List MemPlace}
theorem qnc{cs:Array Value}{v x:Value}(h:v.cells=cs)(hc:cs.toList= [x])(hx:∀a,v≠ .agg a):v=x:=by
 unfold Value.cells at h
 split at h
 ·rename_i a;exact absurd rfl (hx a)
 ·subst h;simpa using hc
theorem qmv{P:Program}{w:World}{b0:Nat}{t e:TypeId}{v:Value}(ht:P.underlying t=some (.slice e))(h:Value.okWide P w .any b0 t v):∀a,v≠ .agg a:=by
 intro a e
 subst e
 simp only[Value.okWide,ht,Cell.okWide,Cell.ok] at h
theorem qnb{fuel:Nat}{cs:List Value}{x:DataW H×List MemPlace}(h:DataW.trod enc Tryz.prog w 0 spare held fuel 23 cs=some x)(hw:(x.1.weights Tryz.prog 23).all (· ≤reachBytes)=true):
  ∃a l cap,cs= [.slice a (List.length l) cap]∧RdE qM 1 w [] a l∧l.length≤17592186043904:=by
 obtain⟨a,l,cap,e,hr,_,_,hk⟩:=qmf (q:=(· ≤reachBytes)) (en:=qM) (sz:=1) (Φ:=fun _=>True) Tryz.underlying23 (by kernel_rfl) (by omega) (fun n cs x h _=>by
  obtain⟨n,rfl,_⟩:=qmJ Tryz.underlying3 h
  exact⟨n,rfl,trivial⟩) h hw
 refine⟨a,l,cap,e,hr,?_⟩
 rcases hk with rfl|⟨k,hk⟩
 ·simp
 ·have h8:Tryz.prog.bytesOf 3=8:=by kernel_rfl
  rw[h8] at hk
  have hk:=of_decide_eq_true hk
  have h9:reachBytes=140737488351232:=rfl
  rw[h9] at hk
  omega
theorem qnl{b0:Nat}(hv:Value.okWide Tryz.prog w .any b0 22 v)(ht:DataW.Trod enc Tryz.prog w 0 spare held 22 v d p)(hw:(d.weights Tryz.prog 22).all (· ≤reachBytes)=true):
  ∃a l cap,v= .slice a (List.length l) cap∧RdE IH.enc 1 w [] a l∧l.length≤17592186043904∧∀h∈l,RdE qM 1 w [] h.a h.l∧h.l.length≤17592186043904:=by
 obtain⟨fuel,h⟩:=ht
 obtain⟨a,l,cap,e,hr,hq,_,hk⟩:=qmf (q:=(· ≤reachBytes)) (en:=IH.enc) (sz:=1) (Φ:=fun y:IH=>RdE qM 1 w [] y.a y.l∧y.l.length≤17592186043904) Tryz.underlying22 (by kernel_rfl) (by omega) (fun n cs x h hw=>by
  obtain⟨a,l,cap,rfl,hr,hl⟩:=qnb h hw
  exact⟨⟨a,cap,l⟩,rfl,hr,hl⟩) h hw
 refine⟨a,l,cap,qnc rfl e (qmv Tryz.underlying22 hv),hr,?_,hq⟩
 rcases hk with rfl|⟨k,hk⟩
 ·simp
 ·have h8:Tryz.prog.bytesOf 23=24:=by kernel_rfl
  rw[h8] at hk
  have hk:=of_decide_eq_true hk
  have h9:reachBytes=140737488351232:=rfl
  rw[h9] at hk
  omega
end
open Go
abbrev qnj(b:Bool):List Value:= [.bool b]
structure DP where
 rb:Nat
 iv:Value
 pa:Option Addr
 pc:Nat
 kv:Value
 da:Option Addr
 dc:Nat
 dD:Own
 ka:Option Addr
 kc:Nat
 kD:Own
 ta:Option Addr
 tc:Nat
 tD:Own
 ea:Option Addr
 ec:Nat
 eD:Own
 L:List EH
 X:Own
 oa:Option Addr
 oc:Nat
 oD:Own
 S:List ObS
abbrev DP.cells(g:DP)(c:Cfg)(np:Nat)(s:GS):List Value:=cfL c [g.iv, .slice g.pa np g.pc,g.kv, .slice g.da s.d.length g.dc, .slice g.ka s.tk.length g.kc, .slice g.ta s.T.length g.tc, .slice g.ea g.L.length g.ec, .slice g.oa g.S.length g.oc, .int .i64 s.n]
abbrev DP.O(g:DP)(c:Cfg)(np:Nat)(s:GS):Own:=(g.rb,fun o=>o=Obj.cells (g.cells c np s).toArray 106 (0,0))::(g.dD++(g.kD++(g.tD++(g.eD++(g.oD++(q5p g.S++g.X))))))
structure DP.ok(g:DP)(W0:World)(Kp:Own)(ps:List PH)(s:GS):Prop where
 d:qr q7i 58 1 g.da g.dc s.d g.dD
 m:qr qnj 4 1 g.ka g.kc s.tk g.kD
 k:RdE PH.enc 1 W0 Kp g.pa ps
 kp:∀h∈ps,RdE Ins.enc 5 W0 Kp h.a h.p
 t:qr Thr.enc 61 11 g.ta g.tc s.T g.tD
 e:qr EH.enc 116 6 g.ea g.ec g.L g.eD
 em:g.L.map EH.m=s.E
 ev:∀e∈g.L,RdE qM 1 W0 g.X e.ra e.rl∧RdE qM 1 W0 g.X e.wa e.wl
 o:qr ObS.enc 124 1 g.oa g.oc g.S g.oD
 os:∀x∈g.S,qr ObM.enc 127 3 x.a x.cap x.l x.D
 ol:g.S.map ObS.l=s.O
theorem DP.ok.ot{g:DP}{W0:World}{Kp:Own}{ps:List PH}{s:GS}(h:g.ok W0 Kp ps s){t:Nat}{x:ObS}(hx:g.S[t]? =some x):s.O.getD t []=x.l:=by
 rw[←h.ol]
 simp[List.getD,hx]
theorem DP.ok.obs{g:DP}{W0:World}{Kp:Own}{ps:List PH}{s:GS}(h:g.ok W0 Kp ps s){t:Nat}{x:ObS}(hx:g.S[t]? =some x){a:Option Addr}{cap:Nat}{D D':Own}{l:List ObM}(hb:qr ObM.enc 127 3 a cap (x.l++l) D)(hb2:qr ObS.enc 124 1 g.oa g.oc (g.S.set t ⟨a,cap,x.l++l,D⟩) D'):
  ({g with oD:=D',S:=g.S.set t ⟨a,cap,x.l++l,D⟩}:DP).ok W0 Kp ps {s with O:=s.O.set t (s.O.getD t []++l)}:=by
 refine⟨h.d,h.m,h.k,h.kp,h.t,h.e,h.em,h.ev,hb2,fun y hy=> ?_,?_⟩
 ·rcases List.mem_or_eq_of_mem_set hy with hy|rfl
  ·exact h.os y hy
  ·exact hb
 ·rw[h.ot hx,←h.ol,List.map_set]
section
variable{W0:World}{Kp:Own}{g:DP}{c:Cfg}{ps:List PH}{s:GS}
theorem qn9{e:Nat×(Obj→Prop)}{D A B C E F S X q:Own}:Ent W0 (D++((e::(A++(B++(C++(E++(F++(S++X)))))))++q)) ((e::(A++(B++(C++(E++(F++(S++(D++X))))))))++q):=qo []
theorem DP.perm_X{D:Own}{q:Own}:Ent W0 (D++(g.O c ps.length s++q)) (({g with X:=D++g.X}:DP).O c ps.length s++q):=by
 dsimp only[DP.O]
 exact qn9
end
open Go
section
variable{W0:World}{Kp:Own}{g:DP}{c:Cfg}{ps:List PH}{s:GS}
theorem DP.ok.x{D:Own}(h:g.ok W0 Kp ps s):({g with X:=D++g.X}:DP).ok W0 Kp ps s:=⟨h.d,h.m,h.k,h.kp,h.t,h.e,h.em,fun e he=>⟨(h.ev e he).1.ent (Ent.app Ent.refl),(h.ev e he).2.ent (Ent.app Ent.refl)⟩,h.o,h.os,h.ol⟩
end
open Go
structure BG where
 xb:Nat
 da:Option Addr
 dc:Nat
 dD:Own
 ka:Option Addr
 kc:Nat
 kD:Own
 ra:Option Addr
 rc:Nat
 rD:Own
 wa:Option Addr
 wc:Nat
 wD:Own
 oa:Option Addr
 oc:Nat
 oD:Own
 aa:Option Addr
 ac:Nat
abbrev BG.pre(g:BG)(b:BM):List Value:= [.slice g.da b.d.length g.dc, .slice g.ka b.tk.length g.kc]
abbrev BG.post(g:BG)(b:BM)(bad:Bool):List Value:= [.slice g.ra b.r.length g.rc, .slice g.wa b.w.length g.wc, .slice g.oa b.o.length g.oc, .slice g.aa b.ad.length g.ac, .bool bad]
abbrev BG.O(g:BG)(b:BM)(bad:Bool):Own:=thB g.xb 174 (g.pre b) (g.post b bad) b.t::(g.dD++(g.kD++(g.rD++(g.wD++g.oD))))
structure BG.ok(g:BG)(W0:World)(K:Own)(b:BM):Prop where
 d:qr q7i 58 1 g.da g.dc b.d g.dD
 m:qr qnj 4 1 g.ka g.kc b.tk g.kD
 a:RdE qM 1 W0 K g.aa b.ad
 al:b.ad.length≤g.ac
 r:qr qM 3 1 g.ra g.rc b.r g.rD
 w:qr qM 3 1 g.wa g.wc b.w g.wD
 o:qr ObM.enc 127 3 g.oa g.oc b.o g.oD
section
variable{W0:World}{own:Own}
theorem qml{a:Nat×(Obj→Prop)}{A Z:Own}:Ent W0 (a::(A++Z)) (A++Z):=qo [a]
theorem qmy{α:Type}{l:List α}{i:Nat}{x:α}(hx:l[i]? =some x):l.take i++ [x]=l.take (i+1):=by
 rw[List.take_add_one,hx];rfl
theorem qm3{a:Option Addr}{l:List Int}{cap:Nat}(hR:RdE q7i 1 W0 own a l)(hl:l.length≤1000000):
  q0E Tryz.prog W0 50 [.slice a l.length cap] own fun v own'=>∃s:Option Addr×Nat×Own,(v= .slice s.1 l.length s.2.1∧qr q7i 58 1 s.1 s.2.1 l s.2.2)∧Ent W0 own' (s.2.2++own):=by
 refine qa qj qlO (by simp[q6]) ?_
 refine q0Z (σ:=Nat×Option Addr×Nat×Own) (fun y=> [(3, .slice y.2.1 (l.take y.1).length y.2.2.1),(4, .int .i64 y.1)]) (fun y=>y.2.2.2++own)
  (fun y=>y.1≤l.length∧qr q7i 58 1 y.2.1 y.2.2.1 (l.take y.1) y.2.2.2) (fun y=>l.length-y.1) (0,none,0,[]) ⟨Nat.zero_le _,qr.nil⟩ (eF) Ent.refl rfl ?_
 rintro⟨i,a1,c1,D1⟩ junk ⟨hi,hB⟩
 dsimp only at hi hB ⊢
 have htl:(l.take i).length=i:=by rw[List.length_take];omega
 by_cases hil:i<l.length
 ·obtain⟨x,hx⟩:∃x,l[i]? =some x:=⟨_,List.getElem?_eq_getElem hil⟩
  have htk:=qmy hx
  have hln:(l.take i).length+1=(l.take (i+1)).length:=by rw[←htk];simp
  repeat'((try(conv=>whnf));first|(refine fF ?_)|(apply q6h (enc:=q7i) (T:=58) x hB;(exact rfl);(exact rfl);(omega);(exact rfl);(exact rfl);(omega);intro a2 c2 D2 hb2)|((with_reducible show Ld _ _ _ _);first|(refine q1N hR hx rfl ?_))|((with_reducible show IxS _ _ _ _ _);first|((refine ixE hR hx ?_ ?_;(first|rfl|omega))))|(refine fB ?_)|(refine qc (fun bk hbk=> ?_)))
  rw[htk] at hb2
  rw[hln]
  exact⟨(i+1,a2,c2,D2),⟨hil,hb2⟩,(by show l.length-(i+1)<l.length-i;omega),(eF),qml⟩
 ·have hiN:i=l.length:=by omega
  subst hiN
  repeat'((try(conv=>whnf));first|(refine fG ?_))
  rw[List.take_length] at hB
  exact⟨(a1,c1,D1),⟨by rw[htl];rfl,hB⟩,Ent.refl⟩
theorem qm9{a:Option Addr}{l:List Int}{cap:Nat}(hR:RdE qM 1 W0 own a l)(hl:l.length≤1000000):
  q0E Tryz.prog W0 51 [.slice a l.length cap] own fun v own'=>∃s:Option Addr×Nat×Own,(v= .slice s.1 l.length s.2.1∧qr qM 3 1 s.1 s.2.1 l s.2.2)∧Ent W0 own' (s.2.2++own):=by
 refine qa qj qlQ (by simp[q7]) ?_
 refine q0Z (σ:=Nat×Option Addr×Nat×Own) (fun y=> [(3, .slice y.2.1 (l.take y.1).length y.2.2.1),(4, .int .i64 y.1)]) (fun y=>y.2.2.2++own)
  (fun y=>y.1≤l.length∧qr qM 3 1 y.2.1 y.2.2.1 (l.take y.1) y.2.2.2) (fun y=>l.length-y.1) (0,none,0,[]) ⟨Nat.zero_le _,qr.nil⟩ (eF) Ent.refl rfl ?_
 rintro⟨i,a1,c1,D1⟩ junk ⟨hi,hB⟩
 dsimp only at hi hB ⊢
 have htl:(l.take i).length=i:=by rw[List.length_take];omega
 by_cases hil:i<l.length
 ·obtain⟨x,hx⟩:∃x,l[i]? =some x:=⟨_,List.getElem?_eq_getElem hil⟩
  have htk:=qmy hx
  have hln:(l.take i).length+1=(l.take (i+1)).length:=by rw[←htk];simp
  repeat'((try(conv=>whnf));first|(refine fF ?_)|(apply q6h (enc:=qM) (T:=3) x hB;(exact rfl);(exact rfl);(omega);(exact rfl);(exact rfl);(omega);intro a2 c2 D2 hb2)|((with_reducible show Ld _ _ _ _);first|(refine q1N hR hx rfl ?_))|((with_reducible show IxS _ _ _ _ _);first|((refine ixE hR hx ?_ ?_;(first|rfl|omega))))|(refine fB ?_)|(refine qc (fun bk hbk=> ?_)))
  rw[htk] at hb2
  rw[hln]
  exact⟨(i+1,a2,c2,D2),⟨hil,hb2⟩,(by show l.length-(i+1)<l.length-i;omega),(eF),qml⟩
 ·have hiN:i=l.length:=by omega
  subst hiN
  repeat'((try(conv=>whnf));first|(refine fG ?_))
  rw[List.take_length] at hB
  exact⟨(a1,c1,D1),⟨by rw[htl];rfl,hB⟩,Ent.refl⟩
theorem qlY{a:Option Addr}{l:List Ins}{cap:Nat}(hR:RdE Ins.enc 5 W0 own a l)(hl:l.length≤1000000):
  q0E Tryz.prog W0 52 [.slice a l.length cap] own fun v own'=>∃s:Option Addr×Nat×Own,(v= .slice s.1 l.length s.2.1∧qr Ins.enc 69 5 s.1 s.2.1 l s.2.2)∧Ent W0 own' (s.2.2++own):=by
 refine qa qj q10 (by simp[q4]) ?_
 refine q0Z (σ:=Nat×Option Addr×Nat×Own) (fun y=> [(3, .slice y.2.1 (l.take y.1).length y.2.2.1),(4, .int .i64 y.1)]) (fun y=>y.2.2.2++own)
  (fun y=>y.1≤l.length∧qr Ins.enc 69 5 y.2.1 y.2.2.1 (l.take y.1) y.2.2.2) (fun y=>l.length-y.1) (0,none,0,[]) ⟨Nat.zero_le _,qr.nil⟩ (eF) Ent.refl rfl ?_
 rintro⟨i,a1,c1,D1⟩ junk ⟨hi,hB⟩
 dsimp only at hi hB ⊢
 have htl:(l.take i).length=i:=by rw[List.length_take];omega
 by_cases hil:i<l.length
 ·obtain⟨x,hx⟩:∃x,l[i]? =some x:=⟨_,List.getElem?_eq_getElem hil⟩
  have htk:=qmy hx
  obtain⟨op,ia,ib,ic,imm⟩:=x
  have hln:(l.take i).length+1=(l.take (i+1)).length:=by rw[←htk];simp
  repeat'((try(conv=>whnf));first|(refine fF ?_)|(apply q6h (enc:=Ins.enc) (T:=69) ⟨op,ia,ib,ic,imm⟩ hB;(exact rfl);(exact rfl);(omega);(exact rfl);(exact rfl);(omega);intro a2 c2 D2 hb2)|((with_reducible show IxS _ _ _ _ _);first|((refine ixE hR hx ?_ ?_;(first|rfl|omega))))|((with_reducible show LdN _ _ _ _ _);first|(refine q2f hR hx rfl ?_))|(refine fB ?_)|(refine qc (fun bk hbk=> ?_)))
  rw[htk] at hb2
  rw[hln]
  exact⟨(i+1,a2,c2,D2),⟨hil,hb2⟩,(by show l.length-(i+1)<l.length-i;omega),(eF),qml⟩
 ·have hiN:i=l.length:=by omega
  subst hiN
  repeat'((try(conv=>whnf));first|(refine fG ?_))
  rw[List.take_length] at hB
  exact⟨(a1,c1,D1),⟨by rw[htl];rfl,hB⟩,Ent.refl⟩
end
open Go
theorem qm8:∀(ps:List PH) (t:Nat),(∀h∈ps,qx h.p=(0,0))→psG ps t=none
 | [],_,_=>rfl
 |x::l,t,h=>by
  unfold psG
  rw[h x List.mem_cons_self,if_neg (by simp)]
  exact qm8 l (t+1) fun y hy=>h y (List.mem_cons_of_mem _ hy)
theorem MS.ok.cs0{m:MS}{st:Bool}(h:m.ok st):csM m.c m.il.length (m.ps.map PB.h) []=(0,0,0):=by
 unfold csM
 have hp:=h.pl
 rw[if_neg (by rw[h.c0];simp),if_neg (by rw[List.length_map];omega),if_neg (by rw[h.il];simp),qm8 _ _ fun y hy=>by
  obtain⟨x,hx,rfl⟩:=List.mem_map.1 hy
  exact(h.q x hx).2]
 rfl
section
variable{W0:World}{m:MS}{st:Bool}
theorem MS.ok.rp(h:m.ok st):RdE PH.enc 1 W0 (m.O) m.pa (m.ps.map PB.h):=h.p.rd.ent (qo (m.Dk++(q9Z m.ps++m.Di)) fun a=>by simp only[MS.O,q2m];omega)
theorem MS.ok.ri(h:m.ok st):RdE q7i 1 W0 (m.O) m.ia m.il:=h.i.rd.ent (qo (m.Dk++(m.Dp++q9Z m.ps)) fun a=>by simp only[MS.O,q2m];omega)
theorem MS.ok.rq(h:m.ok st):∀x∈m.ps.map PB.h,RdE Ins.enc 5 W0 (m.O) x.a x.p:=fun y hy=>by
 obtain⟨x,hx,rfl⟩:=List.mem_map.1 hy
 have:=qie (kD:= []) hx ((h.q x hx).1.rd (W0:=W0))
 exact this.ent (qo (m.Dk++(m.Dp++m.Di)) fun a=>by simp only[MS.O,q2m,q7a];omega)
end
open Go
section
variable{α:Type}{g:SS→α→SS}
theorem qm0(hg:∀x a,x.stop=true→g x a=x):∀(l:List α) (x:SS),(l.foldl g x).stop=false→x.stop=false∧∀a∈l,∃y,y.stop=false∧(g y a).stop=false
 | [],_,h=>⟨h,fun _ h=>(by cases h)⟩
 |a::l,x,h=>by
  rw[List.foldl_cons] at h
  obtain⟨h1,h2⟩:=qm0 hg l (g x a) h
  have hx:x.stop=false:=by
   cases hs:x.stop with
   |false=>rfl
   |true=>rw[hg x a hs,hs] at h1;cases h1
  refine⟨hx,fun b hb=> ?_⟩
  rcases List.mem_cons.1 hb with rfl|hb
  ·exact⟨x,hx,h1⟩
  ·exact h2 b hb
theorem qm7(hg:∀x a,x.stop=true→g x a=x):∀(l:List α) (x:SS),x.stop=false→(l.foldl g x).stop=true→∃a∈l,∃y,y.stop=false∧g y a=l.foldl g x
 | [],x,hx,h=>by rw[List.foldl_nil,hx] at h;cases h
 |a::l,x,hx,h=>by
  rw[List.foldl_cons] at h ⊢
  cases hs:(g x a).stop with
  |true=>exact⟨a,List.mem_cons_self,x,hx,(q2y hg l _ hs).symm⟩
  |false=>
   obtain⟨b,hb,y,hy,he⟩:=qm7 hg l (g x a) hs h
   exact⟨b,List.mem_cons_of_mem _ hb,y,hy,he⟩
end
theorem qm4{x:SS}(h:x.racy=true):x.stop=true:=by unfold SS.stop;rw[h];rfl
section
variable{rc:List EvM→Bool}{c:Cfg}{P:List (List Ins)}{fo:List Int}{lim:Int}
theorem qm2:∀(n:Nat) (s:GS) (l:List ChM) (x:SS),x.stop=false→(q7w rc c P fo lim n s l x).racy=true→∃s',qey c P fo s l s' (q7w rc c P fo lim n s l x).found∧rc s'.E=true
 |0,s,l,x,hx,h=>by
  have h':x.racy=true:=h
  rw[(q5L hx).1] at h'
  cases h'
 |n+1,s,l,x,hx,h=>by
  unfold q7w at h ⊢
  by_cases hd:q7g s=true
  ·rw[if_pos hd] at h ⊢
   unfold qex at h ⊢
   split at h
   ·have h':x.racy=true:=h
    rw[(q5L hx).1] at h'
    cases h'
   ·rename_i hl
    rw[if_neg hl]
    split at h
    ·rename_i hr
     rw[if_pos hr]
     exact⟨s, .done hd,hr⟩
    ·have h':x.racy=true:=h
     rw[(q5L hx).1] at h'
     cases h'
  ·rw[if_neg hd] at h ⊢
   obtain⟨t,ht,y,hy,he⟩:=qm7 (fun x a hs=>by rw[if_pos hs]) _ x hx (qm4 h)
   rw[←he] at h ⊢
   have htl:=List.mem_range.1 ht
   rw[if_neg (by rw[hy];simp)] at h ⊢
   split at h
   ·rw[(q5L hy).1] at h
    cases h
   ·rename_i hdn
    rw[if_neg hdn]
    have hdn':dnB s t=false:=by simpa using hdn
    split at h
    ·rename_i ha
     rw[if_pos ha]
     obtain⟨s',h1,h2⟩:=qm2 n _ _ y hy h
     exact⟨s', .loc htl hdn' ha h1,h2⟩
    ·rename_i ha
     rw[if_neg ha]
     have ha':dnB (q1t c P t 64 s l).1 t=false:=by simpa using ha
     obtain⟨k,hk,z,hz,he2⟩:=qm7 (fun x a hs=>by rw[if_pos hs]) _ y hy (qm4 h)
     rw[←he2] at h ⊢
     rw[if_neg (by rw[hz];simp)] at h ⊢
     obtain⟨s',h1,h2⟩:=qm2 n _ _ z hz h
     exact⟨s', .step htl hdn' ha' hk h1,h2⟩
theorem qma(hna:qeR P)(hfo:∀k∈fo,3≤k∧k≤6):∀(n:Nat) (s:GS) (l:List ChM) (x:SS),GOk c P s→q1o P s<n→(q7w rc c P fo lim n s l x).stop=false→∀s' l',qey c P fo s l s' l'→rc s'.E=false
 |0,_,_,_,_,hn,_,_,_,_=>absurd hn (by omega)
 |n+1,s,l,x,hG,hn,h,s',l',hL=>by
  unfold q7w at h
  cases hL with
  |done hd=>
   rw[if_pos hd] at h
   unfold qex at h
   split at h
   ·have:=(q5L h).2
    cases this
   ·split at h
    ·have:=(q5L h).1
     cases this
    ·rename_i hr
     simpa using hr
  | @loc _ _ _ _ t ht hd ha hL=>
   rw[if_neg (by rw[qfW ht hd];simp)] at h
   obtain⟨-,h2⟩:=qm0 (fun x a hs=>by rw[if_pos hs]) _ x h
   obtain⟨y,hy,h3⟩:=h2 t (List.mem_range.2 ht)
   rw[if_neg (by rw[hy];simp),if_neg (by rw[hd];simp),if_pos ha] at h3
   obtain⟨g1,g2,g3,g4, -⟩:=qg2 (t:=t) hna 64 s l hG
   refine qma hna hfo n _ _ y g1 ?_ h3 s' l' hL
   rcases g4 with g4|g4
   ·rw[g4] at ha
    rw[hd] at ha
    cases ha
   ·omega
  | @step _ _ _ _ t k ht hd ha hk hL=>
   rw[if_neg (by rw[qfW ht hd];simp)] at h
   obtain⟨-,h2⟩:=qm0 (fun x a hs=>by rw[if_pos hs]) _ x h
   obtain⟨y,hy,h3⟩:=h2 t (List.mem_range.2 ht)
   rw[if_neg (by rw[hy];simp),if_neg (by rw[hd];simp),if_neg (by rw[ha];simp)] at h3
   obtain⟨-,h4⟩:=qm0 (fun x a hs=>by rw[if_pos hs]) _ y h3
   obtain⟨z,hz,h5⟩:=h4 k hk
   rw[if_neg (by rw[hz];simp)] at h5
   obtain⟨g1,g2,g3,g4, -⟩:=qg2 (t:=t) hna 64 s l hG
   obtain⟨i,hi⟩:=qhd g1 ha
   obtain⟨-,m1,m2,m3,m4,m5⟩:=q48 g1 hna hi (k:=k) (by
    rcases qan hfo hk with hk|⟨j,hj,h7,hk⟩
    ·exact .inl hk
    ·rw[hi] at hj
     obtain rfl:=Option.some.inj hj
     exact .inr ⟨h7,hk⟩)
   refine qma hna hfo n _ _ z m1 ?_ h5 s' l' hL
   rcases g4 with g4|g4
   ·rw[g4] at m5 ⊢;exact Nat.lt_of_lt_of_le m5 (Nat.le_of_lt_succ hn)
   ·omega
end
open Go
def rvE(N:Nat)(e:EvM):EvM:={e with t:=(N:Int)-1-e.t}
def rvS(s:GS):GS:={s with T:=s.T.reverse,E:=s.E.map (rvE s.T.length),O:=s.O.reverse}
def rvC(N:Nat)(x:ChM):ChM:={x with t:=(N:Int)-1-x.t}
section
variable{c:Cfg}{P:List (List Ins)}{s s':GS}{t N:Nat}{th:Thr}{p:List Ins}{i:Ins}{f:Int}{ad:List Int}{fo:List Int}
theorem qmr{α:Type}{l:List α}{t:Nat}{x:α}(h:t<l.length):(l.set t x).reverse=l.reverse.set (l.length-1-t) x:=by
 apply List.ext_getElem?
 intro j
 by_cases hj:j<l.length
 ·rw[List.getElem?_reverse (by rw[List.length_set];exact hj),List.length_set]
  by_cases he:l.length-1-t=j
  ·rw[he,List.getElem?_set_self (by rw[List.length_reverse];exact hj),show l.length-1-j=t by omega,List.getElem?_set_self h]
  ·rw[List.getElem?_set_ne he,List.getElem?_reverse hj,List.getElem?_set_ne (by omega)]
 ·rw[List.getElem?_eq_none (by simp;omega),List.getElem?_eq_none (by simp;omega)]
theorem qlP{α:Type}{l:List α}{t:Nat}(h:t<l.length):l.reverse[l.length-1-t]? =l[t]? :=by
 rw[List.getElem?_reverse (by omega),show l.length-1-(l.length-1-t)=t by omega]
theorem qlT{l:List ObM}(hT:s.T.length=N)(hO:s.O.length=N)(ht:t<N):rvS (s.fin t th l)=(rvS s).fin (N-1-t) th l:=by
 unfold rvS GS.fin
 dsimp only
 have h1:=qmr (l:=s.T) (x:=th) (show t<s.T.length by omega)
 have h2:=qmr (l:=s.O) (x:=s.O.getD t []++l) (show t<s.O.length by omega)
 have h3:s.O.reverse.getD (N-1-t) []=s.O.getD t []:=by
  rw[List.getD_eq_getElem?_getD,List.getD_eq_getElem?_getD,←hO,qlP (by omega)]
 rw[h1,h2,hT,hO,h3,List.length_set,hT]
theorem qmu{l:List ObM}{d:List Int}{tk:List Bool}{E:List EvM}(hT:s.T.length=N)(hO:s.O.length=N)(ht:t<N):rvS (((s.mem d tk).ev E).fin t th l)=(rvS ((s.mem d tk).ev E)).fin (N-1-t) th l:=qlT (s:=(s.mem d tk).ev E) hT hO ht
theorem qn4{l l':List EvM}(hl:l.map (rvE s.T.length)=l'):rvS (s.ev l)=(rvS s).ev l':=by
 unfold rvS GS.ev
 dsimp only
 rw[List.map_append,hl]
theorem qmO{l l':List EvM}{d:List Int}{tk:List Bool}(hl:l.map (rvE s.T.length)=l'):rvS ((s.mem d tk).ev l)=(rvS (s.mem d tk)).ev l':=qn4 hl
theorem qmP{d:List Int}{tk:List Bool}:rvS (s.mem d tk)=(rvS s).mem d tk:=rfl
theorem qmM{n:Nat}{k a:Int}(ht:t<N):(plE c n t k a).map (rvE N)=plE c n (N-1-t:Nat) k a:=by
 have e:((N-1-t:Nat):Int)=(N:Int)-1-t:=by omega
 unfold plE
 rw[e]
 split <;>rfl
theorem qno(hT:s.T.length=N)(hO:s.O.length=N)(ht:t<N):sgM c p (rvS s) th (N-1-t) f i=(sgM c p s th t f i).map rvS:=by
 unfold sgM
 generalize adr th.rg (if i.op=12 then i.b else i.a) i.imm=a
 dsimp only
 have hd:(rvS s).d=s.d:=rfl
 have hk:(rvS s).tk=s.tk:=rfl
 have hn:(rvS s).n=s.n:=rfl
 have hp:=qmM (c:=c) (n:=s.n) (t:=t) (N:=N) ht (k:=1) (a:=a)
 have hq:=qmM (c:=c) (n:=s.n) (t:=t) (N:=N) ht (k:=2) (a:=a)
 rw[←hT] at hp hq
 rw[hd,hk,hn]
 split
 ·split
  ·split
   ·simp only[Option.map_some,qlT hT hO ht]
   ·rfl
  ·split
   ·simp only[Option.map_some,qlT hT hO ht]
   ·split
    ·rw[Option.map_some,qlT (s:=s.ev _) hT hO ht,qn4 hp,hT]
    ·rw[Option.map_some,qmu hT hO ht,qmO hq,qmP,hT]
 ·split
  ·rfl
  ·simp only[Option.map_some,qlT hT hO ht]
theorem qnp(hT:s.T.length=N)(hO:s.O.length=N)(ht:t<N):txM c p (rvS s) th (N-1-t) f ad=(txM c p s th t f ad).map rvS:=by
 unfold txM
 have hd:(rvS s).d=s.d:=rfl
 have hk:(rvS s).tk=s.tk:=rfl
 have hn:(rvS s).n=s.n:=rfl
 have e:((N-1-t:Nat):Int)=(s.T.length:Int)-1-t:=by omega
 rw[hd,hk,hn]
 split
 ·split
  ·simp only[Option.map_some,qlT hT hO ht]
  ·rfl
 ·generalize q5a c p p.length _=r
  obtain⟨b,o⟩:=r
  dsimp only
  split
  ·rfl
  ·split
   ·rw[Option.map_some,qmu hT hO ht,qmO rfl,qmP,e]
    rfl
   ·rw[Option.map_some,qlT (s:=s.ev _) hT hO ht,qn4 rfl,e]
    rfl
theorem qnn(hT:s.T.length=N)(hO:s.O.length=N)(hP:P.length=N)(ht:t<N):chM c P.reverse (rvS s) ⟨(N-1-t:Nat),f,ad⟩=(chM c P s ⟨t,f,ad⟩).map rvS:=by
 unfold chM
 dsimp only
 have h1:(rvS s).T[N-1-t]? =s.T[t]? :=by rw[←hT];exact qlP (l:=s.T) (by omega)
 have h2:P.reverse[N-1-t]? =P[t]? :=by rw[←hP];exact qlP (l:=P) (by omega)
 rw[if_neg (by omega),if_neg (by omega),Int.toNat_natCast,Int.toNat_natCast,h1,h2]
 cases s.T[t]? with
 |none=>rfl
 |some th=>
  cases P[t]? with
  |none=>rfl
  |some p=>
   dsimp only
   split
   ·rfl
   ·cases p[th.pc]? with
    |none=>rfl
    |some i=>
     dsimp only
     split
     ·exact qnp hT hO ht
     ·split
      ·exact qno hT hO ht
      ·rfl
theorem qnf(hT:s.T.length=N)(hO:s.O.length=N)(hP:P.length=N)(ht:t<N):doM c P.reverse (rvS s) ⟨(N-1-t:Nat),f,ad⟩=((doM c P s ⟨t,f,ad⟩).1,rvS (doM c P s ⟨t,f,ad⟩).2):=by
 unfold doM
 rw[qnn hT hO hP ht]
 cases chM c P s ⟨t,f,ad⟩ with
 |none=>rfl
 |some s1=>rfl
theorem qnh(hT:s.T.length=N)(hP:P.length=N)(ht:t<N):nxM P.reverse (rvS s) (N-1-t)=nxM P s t:=by
 have h1:(rvS s).T[N-1-t]? =s.T[t]? :=by rw[←hT];exact qlP (l:=s.T) (by omega)
 have h2:P.reverse[N-1-t]? =P[t]? :=by rw[←hP];exact qlP (l:=P) (by omega)
 unfold nxM
 rw[h1,h2]
theorem qmH(hT:s.T.length=N)(ht:t<N):dnB (rvS s) (N-1-t)=dnB s t:=by
 have h1:(rvS s).T[N-1-t]? =s.T[t]? :=by rw[←hT];exact qlP (l:=s.T) (by omega)
 unfold dnB
 rw[h1]
theorem qn3:q7g (rvS s)=q7g s:=by
 unfold q7g rvS
 simp
theorem qmt(hP:P.length=N)(ht:t<N):∀(n:Nat) (s:GS) (l:List ChM),GOk c P s→q1t c P.reverse (N-1-t) n (rvS s) (l.map (rvC N))=(rvS (q1t c P t n s l).1,(q1t c P t n s l).2.map (rvC N))
 |0,_,_,_=>rfl
 |n+1,s,l,hG=>by
  have hT:=hG.tl.trans hP
  have hO:=hG.ol.trans hP
  unfold q1t
  have hl:q7j P.reverse (rvS s) (N-1-t)=q7j P s t:=by unfold q7j;rw[qnh hT hP ht]
  rw[hl]
  split
  ·have h1:=qnf (c:=c) (P:=P) (f:=0) (ad:= []) hT hO hP ht
   have h2: [ch0 (N-1-t)]= [ch0 t].map (rvC N):=by
    show [(⟨((N-1-t:Nat):Int),0,[]⟩:ChM)]= [⟨(N:Int)-1-t,0,[]⟩]
    rw[show((N-1-t:Nat):Int)=(N:Int)-1-t by omega]
   rw[h1,h2,←List.map_append]
   exact qmt hP ht n _ _ (qfm hG (fun _ h=>(by cases h)))
  ·rfl
theorem qey.rv(hP:P.length=N){l l':List ChM}(h:qey c P fo s l s' l'):GOk c P s→qey c P.reverse fo (rvS s) (l.map (rvC N)) (rvS s') (l'.map (rvC N)):=by
 induction h with
 |done h=>exact fun _=> .done (qn3.trans h)
 | @loc s s' l l' t ht hd ha _ ih=>
  intro hG
  have hT:=hG.tl.trans hP
  have htN:t<N:=by omega
  have hadv:=qmt (c:=c) (t:=t) hP htN 64 s l hG
  have hg:=qhD t 64 s l hG
  refine .loc (t:=N-1-t) (by show _<s.T.reverse.length;rw[List.length_reverse];omega) ((qmH hT htN).trans hd) (by rw[hadv];exact(qmH (hg.tl.trans hP) htN).trans ha) ?_
  rw[hadv]
  exact ih hg
 | @step s s' l l' t k ht hd ha hk _ ih=>
  intro hG
  have hT:=hG.tl.trans hP
  have htN:t<N:=by omega
  have hadv:=qmt (c:=c) (t:=t) hP htN 64 s l hG
  have hg:=qhD t 64 s l hG
  have hgT:=hg.tl.trans hP
  refine .step (t:=N-1-t) (k:=k) (by show _<s.T.reverse.length;rw[List.length_reverse];omega) ((qmH hT htN).trans hd) (by rw[hadv];exact(qmH hgT htN).trans ha) (by rw[hadv];dsimp only;rw[qnh hgT hP htN];exact hk) ?_
  rw[hadv]
  dsimp only
  rw[qnf hgT (hg.ol.trans hP) hP htN]
  have h2: [(⟨((N-1-t:Nat):Int),k,[]⟩:ChM)]= [⟨t,k,[]⟩].map (rvC N):=by
   show [(⟨((N-1-t:Nat):Int),k,[]⟩:ChM)]= [⟨(N:Int)-1-t,k,[]⟩]
   rw[show((N-1-t:Nat):Int)=(N:Int)-1-t by omega]
  rw[h2,←List.map_append]
  exact ih (qfm hg (fun _ h=>(by cases h)))
theorem qng{il:List Int}:q7G c il P.reverse=rvS (q7G c il P):=by
 unfold q7G rvS
 simp
end
open Go
structure EvS(s:GS):Prop where
 st:s.E.Pairwise (fun a b=>a.ev≤b.ev)
 le:∀e∈s.E,e.ev≤s.n
section
variable{c:Cfg}{P:List (List Ins)}{s s':GS}{t:Nat}{th:Thr}{p:List Ins}{i:Ins}{f:Int}{ad:List Int}{fo:List Int}
def qn7(s s':GS):Prop:=∃F,s'.E=s.E++F∧∀e∈F,e.ev=s.n
theorem qmD{l:List ObM}{E:List EvM}{d:List Int}{tk:List Bool}(h:some (((s.mem d tk).ev E).fin t th l)=some s')(hE:∀e∈E,e.ev=s.n):qn7 s s':=by
 obtain rfl:=Option.some.inj h
 exact⟨E,rfl,hE⟩
theorem qmc{l:List ObM}(h:some (s.fin t th l)=some s'):qn7 s s':=by
 obtain rfl:=Option.some.inj h
 exact⟨[],(List.append_nil _).symm,fun _ h=>(by cases h)⟩
theorem qmL{n:Nat}{k a:Int}:∀e∈plE c n t k a,e.ev=n:=by
 unfold plE
 split
 ·intro e he
  simp only[List.mem_cons,List.not_mem_nil,or_false] at he
  rcases he with rfl|rfl <;>rfl
 ·intro e he
  rw[List.mem_singleton.1 he]
theorem qnu(h:sgM c p s th t f i=some s'):qn7 s s':=by
 unfold sgM at h
 generalize adr th.rg (if i.op=12 then i.b else i.a) i.imm=a at h
 dsimp only at h
 split at h
 ·split at h
  ·split at h
   ·exact qmc h
   ·cases h
  ·split at h
   ·exact qmc h
   ·split at h
    ·exact qmD (d:=s.d) (tk:=s.tk) h qmL
    ·exact qmD h qmL
 ·split at h
  ·cases h
  ·exact qmc h
theorem qmQ{n:Nat}{r w:List Int}:∀e∈ [(⟨n,t,3,0,[],[]⟩:EvM),⟨n,t,4,0,r,w⟩],e.ev=n:=by
 intro e he
 simp only[List.mem_cons,List.not_mem_nil,or_false] at he
 rcases he with rfl|rfl <;>rfl
theorem qnw(h:txM c p s th t f ad=some s'):qn7 s s':=by
 unfold txM at h
 split at h
 ·split at h
  ·exact qmc h
  ·cases h
 ·generalize q5a c p p.length _=r at h
  obtain⟨b,o⟩:=r
  dsimp only at h
  split at h
  ·cases h
  ·split at h
   ·exact qmD h qmQ
   ·exact qmD (d:=s.d) (tk:=s.tk) h qmQ
theorem qmK(h:EvS s)(ch:ChM):EvS (doM c P s ch).2:=by
 unfold doM
 cases ha:chM c P s ch with
 |none=>exact h
 |some s'=>
  have hn:qn7 s s':=by
   unfold chM at ha
   split at ha
   ·cases ha
   ·split at ha
    ·split at ha
     ·cases ha
     ·split at ha
      ·split at ha
       ·exact qnw ha
       ·split at ha
        ·exact qnu ha
        ·cases ha
      ·cases ha
    ·cases ha
  obtain⟨F,hE,hF⟩:=hn
  refine⟨?_,fun e he=> ?_⟩
  ·show s'.E.Pairwise _
   rw[hE]
   refine List.pairwise_append.2 ⟨h.st,?_,fun a ha b hb=>by rw[hF b hb];exact h.le a ha⟩
   refine List.Pairwise.imp_of_mem ?_ (List.pairwise_of_forall (R:=fun _ _=>True) fun _ _=>trivial)
   intro a b ha hb _
   rw[hF a ha,hF b hb]
   exact Int.le_refl _
  ·have he':e∈s.E++F:=hE ▸ he
   show e.ev≤((s.n+1:Nat):Int)
   rcases List.mem_append.1 he' with he|he
   ·have:=h.le e he;omega
   ·rw[hF e he];omega
theorem qmY{il:List Int}:EvS (q7G c il P):=⟨List.Pairwise.nil,fun _ h=>(by cases h)⟩
theorem qm6(t:Nat):∀(n:Nat) (s:GS) (l:List ChM),EvS s→EvS (q1t c P t n s l).1
 |0,_,_,h=>h
 |n+1,s,l,h=>by
  unfold q1t
  split
  ·exact qm6 t n _ _ (qmK h _)
  ·exact h
theorem qey.evS{l l':List ChM}(h:qey c P fo s l s' l'):EvS s→EvS s':=by
 induction h with
 |done h=>exact fun h=>h
 |loc ht hd ha _ ih=>exact fun h=>ih (qm6 _ _ _ _ h)
 |step ht hd ha hk _ ih=>exact fun h=>ih (qmK (qm6 _ _ _ _ h) _)
end
open Go
section
variable{W0:World}{own:Own}{m:MS}{st:Bool}{ca:Option Addr}{cc:Nat}{cl:List CH}
theorem MS.ok.ilu(h:m.ok st):∀x∈m.il,okU x:=fun x hx=>by have:=h.iw x hx;exact⟨by omega,by omega⟩
theorem MS.ok.il5(h:m.ok st):m.il.length≤500000:=by
 have h1:=h.il
 have h2:=(q1R h.c0).1
 unfold okW at h2
 omega
end
open Go
theorem qmb{n:Nat}{ρ:Int→Int}(hρ:∀a b,ρ a=ρ b→a=b)(hr:∀t,(0≤ρ t∧ρ t<n)↔(0≤t∧t<n)):∀(l l':List EH) (i:Nat) (pa pa':Int) (last last':List Int),qgq ρ l l'→l.Pairwise (fun a b=>a.ev≤b.ev)→l'.Pairwise (fun a b=>a.ev≤b.ev)→(∀e∈l,i=0∨pa≤e.ev)→(∀e∈l',i=0∨pa'≤e.ev)→
  last.length=n→last'.length=n→(∀t:Int,0≤t→t<n→last'.getD (ρ t).toNat 0=last.getD t.toNat 0)→qbu n l' i pa' last'=qbu n l i pa last
 | [],[],_,_,_,_,_,_,_,_,_,_,_,_,_=>rfl
 |e::l,e'::l',i,pa,pa',last,last',⟨⟨h1,h2,h3,h4,h5⟩,h⟩,hs,hs',hp,hp',hl,hl',hla=>by
  have hf:q1m n (i==0) pa' (last'.getD e'.t.toNat 0) e'=q1m n (i==0) pa (last.getD e.t.toNat 0) e:=by
   unfold q1m
   rw[h1,h2,h3,h4,h5]
   have ha:((i==0)=true∨pa≤e.ev):=by
    rcases hp e List.mem_cons_self with h|h
    ·exact .inl (by rw[h];rfl)
    ·exact .inr h
   have hb:((i==0)=true∨pa'≤e'.ev):=by
    rcases hp' e' List.mem_cons_self with h|h
    ·exact .inl (by rw[h];rfl)
    ·exact .inr h
   by_cases ht:0≤e.t∧e.t<n
   ·rw[hla e.t ht.1 ht.2]
    have:=(hr e.t).2 ht
    congr 3
    apply decide_eq_decide.2
    constructor
    ·rintro⟨_,_,a,b,_,c⟩;exact⟨ht.1,ht.2,a,b,ha,c⟩
    ·rintro⟨_,_,a,b,_,c⟩;exact⟨this.1,this.2,a,b,hb,c⟩
   ·have hn:¬(0≤ρ e.t∧ρ e.t<n):=fun h=>ht ((hr e.t).1 h)
    rw[decide_eq_false (p:=0≤e.t∧_) fun h=>ht ⟨h.1,h.2.1⟩,decide_eq_false (p:=0≤ρ e.t∧_) fun h=>hn ⟨h.1,h.2.1⟩]
    simp
  unfold qbu
  rw[hf]
  split
  ·rename_i hfit
   have hin:0≤e.t∧e.t<n:=by
    unfold q1m at hfit
    simp only[Bool.and_eq_true,decide_eq_true_eq] at hfit
    exact⟨hfit.1.1.1.1,hfit.1.1.1.2.1⟩
   rw[List.pairwise_cons] at hs hs'
   refine qmb hρ hr l l' (i+1) e.ev e'.ev _ _ h hs.2 hs'.2 (fun x hx=> .inr (hs.1 x hx)) (fun x hx=> .inr (hs'.1 x hx)) (by rw[List.length_set];exact hl) (by rw[List.length_set];exact hl') fun t h0 hn=> ?_
   have hre:=(hr e.t).2 hin
   have hrt:=(hr t).2 ⟨h0,hn⟩
   rw[h1,h2,List.getD_eq_getElem?_getD,List.getD_eq_getElem?_getD]
   by_cases ht:t=e.t
   ·subst ht
    rw[List.getElem?_set_self (by omega),List.getElem?_set_self (by omega)]
   ·have hne:ρ e.t≠ρ t:=fun e2=>ht (hρ _ _ e2).symm
    rw[List.getElem?_set_ne (by omega),List.getElem?_set_ne (by omega)]
    have:=hla t h0 hn
    rw[List.getD_eq_getElem?_getD,List.getD_eq_getElem?_getD] at this
    exact this
  ·rfl
theorem qna{n:Nat}{ρ:Int→Int}(hρ:∀a b,ρ a=ρ b→a=b)(hr:∀t,(0≤ρ t∧ρ t<n)↔(0≤t∧t<n)){l l':List EH}(h:qgq ρ l l')(hs:l.Pairwise (fun a b=>a.ev≤b.ev))(hs':l'.Pairwise (fun a b=>a.ev≤b.ev)):Ord.frR l' n=Ord.frR l n:=by
 have hc:q7t l' n=q7t l n:=by
  unfold q7t
  rw[h.len,Int.toNat_natCast,qmb hρ hr l l' 0 0 0 (List.replicate n 0) (List.replicate n 0) h hs hs' (fun _ _=> .inl rfl) (fun _ _=> .inl rfl) List.length_replicate List.length_replicate fun t h0 hn=>by
   have:=(hr t).2 ⟨h0,hn⟩
   rw[List.getD_eq_getElem?_getD,List.getD_eq_getElem?_getD,List.getElem?_replicate,List.getElem?_replicate,if_pos (by omega),if_pos (by omega)]]
 unfold Ord.frR
 rw[hc,(h.sim hρ).frst]
theorem qmN{E:List EvM}(h:E.Pairwise (fun a b=>a.ev≤b.ev)):(E.map evH).Pairwise (fun a b=>a.ev≤b.ev):=List.pairwise_map.2 h
theorem qmq(N:Nat):∀E:List EvM,qgq (fun t=>(N:Int)-1-t) (E.map evH) ((E.map (rvE N)).map evH)
 | []=>trivial
 |_::E=>⟨⟨rfl,rfl,rfl,rfl,rfl⟩,qmq N E⟩
theorem qnm{N:Nat}{E:List EvM}(h:E.Pairwise (fun a b=>a.ev≤b.ev)):rcC N (E.map (rvE N))=rcC N E:=by
 rw[qiS,qiS,qna (ρ:=fun t=>(N:Int)-1-t) (fun _ _ h=>by omega) (fun _=>by omega) (qmq N E) (qmN h) (qmN (List.pairwise_map.2 h))]
section
variable{W0:World}{own:Own}{la:Option Addr}{lc:Nat}{ls:List IH}
theorem qn5(hL:RdE IH.enc 1 W0 own la ls)(hll:ls.length≤17592186043904)(hQ:∀h∈ls,h.l.length≤17592186043904):
  q0E Tryz.prog W0 9 [.slice la ls.length lc] own fun v own'=>∃z:Bool,(v= .bool z∧(z=false→ls.length≤3∧∀h∈ls,h.l.length≤24))∧Ent W0 own' own:=by
 refine qa qj qlW (by simp[q9]) ?_
 refine q0Z (σ:=Nat×Int) (fun y=> [(3, .int .i64 y.2),(4, .int .i64 y.1)]) (fun _=>own)
  (fun y=>y.1≤ls.length∧qku ls y.1 y.2) (fun y=>ls.length-y.1) (0,0) ⟨Nat.zero_le _,fun _=>⟨Int.le_refl _,by simp,fun _ h=>(by cases h)⟩⟩ (eF) Ent.refl rfl ?_
 rintro⟨i,n⟩ junk ⟨hi,hS⟩
 dsimp only at hi hS ⊢
 by_cases hil:i<ls.length
 ·obtain⟨x,hx⟩:∃x,ls[i]? =some x:=⟨_,List.getElem?_eq_getElem hil⟩
  have hxl:=hQ x (List.mem_of_getElem? hx)
  have hSn:=hS.next hx hxl
  obtain⟨xa,xc,xl⟩:=x
  repeat'((try(conv=>whnf));first|(refine fF ?_)|(refine fB ?_)|(refine arw ?_)|((with_reducible show Ld _ _ _ _);first|(refine q1N hL hx rfl ?_))|((with_reducible show IxS _ _ _ _ _);first|((refine ixE hL hx ?_ ?_;(first|rfl|omega)))))
  exact⟨(i+1,_),⟨hil,hSn⟩,(by show ls.length-(i+1)<ls.length-i;omega),(eF),Ent.refl⟩
 ·have hiN:i=ls.length:=by omega
  subst hiN
  by_cases hc:(3:Int)<ls.length
  ·repeat'((try(conv=>whnf));first|(refine fI ?_)|(refine fG ?_)|(refine fJ ?_))
   all_goals exact⟨true,⟨rfl,fun h=>(by cases h)⟩,(eC)⟩
  ·obtain⟨hn0, -,hn2⟩:=hS (by omega)
   repeat'((try(conv=>whnf));first|(refine fH ?_)|(refine fG ?_)|(refine fK ?_))
   all_goals exact⟨decide (24<n),⟨rfl,fun hz=>by
    have hn:¬24<n:=of_decide_eq_false hz
    exact⟨by omega,fun h hh=>by have:=hn2 h (by rw[List.take_of_length_le (by omega)];exact hh);omega⟩⟩,(eC)⟩
end
end Go.Proofs.YtkieffpjjfebjaaGreatDoor
