/- What the laws share, part 7. No condition. -/
import Derived.Laws.FloatBits
import Derived.Test.YtkieffpjjfebjaaGreatDoorChecked
import Derived.Shelf.SlMaps.Clone
import Derived.Test.YtkieffpjjfebjaaGreatDoorC6
set_option maxHeartbeats 16000000
set_option maxRecDepth 100000
namespace Go.Proofs.YtkieffpjjfebjaaGreatDoor
open Go
theorem qmS(W0:World)(own:Own)(c:Cfg)(b:Int):qD Tryz.prog W0 135 [c.v, .int .i64 b] own (.int .i64 (q3K c b)):=by
 refine qe (qa qj qne (by simp[qm6]) ?_)
 by_cases h0:0≤b∧b<qy c
 ·have hp:=q7T h0.1 h0.2
  have hbd:=q4Z hp.1
  repeat'((try(conv=>whnf));first|(apply qg (q8f _ _ c))|(refine q55 5 ?_)|(refine qC ?_)|(refine q0D ?_)|(refine q3M ?_)|(refine fB ?_)|(refine ix0 rfl ?_)|(refine ix1 rfl ?_)|(refine ix2 rfl ?_)|(refine ix3 rfl ?_)|(apply ixj;omega)|(apply qH;(exact eM);exact rfl)|(apply qX;(exact eM);exact rfl)|(refine qc (fun bk hbk=> ?_))|(refine q2p (fun hc=> ?_) (fun hc=> ?_))|(refine q5Z (fun hc=> ?_) (fun hc=> ?_)))
  all_goals first|(exfalso;omega)|(refine⟨q0N (vi ?_),eB⟩;simp only[q3K,hp.1,h0,and_self,if_true];repeat'(first|omega|(rw[if_pos (by omega)])|(rw[if_neg (by omega)])))
 ·repeat'((try(conv=>whnf));first|(apply qg (q8f _ _ c))|(refine qC ?_)|(refine q0D ?_)|(refine q3M ?_)|(apply qX;(exact eM);exact rfl)|(refine qc (fun bk hbk=> ?_))|(refine q2p (fun hc=> ?_) (fun hc=> ?_))|(refine q5Z (fun hc=> ?_) (fun hc=> ?_)))
  all_goals first|(exfalso;omega)|exact⟨q0N (vi (qoC h0)),eB⟩
theorem sp_rfirst(W0:World)(own:Own)(c:Cfg)(b:Int):qD Tryz.prog W0 136 [c.v, .int .i64 b] own (.int .i64 (q2K c b)):=by
 refine qe (qa qj qnf (by simp[qm7]) ?_)
 have hB:=q6w c
 by_cases h0:0≤b∧b<qy c
 ·have hp:=q7T h0.1 h0.2
  have hbd:=q4Z hp.1
  repeat'((try(conv=>whnf));first|(apply qg (q8f _ _ c))|(refine qC ?_)|(refine q0D ?_)|(refine q3M ?_)|(apply qH;(exact eM);exact rfl)|(apply qX;(exact eM);exact rfl)|(refine qc (fun bk hbk=> ?_))|(refine q2p (fun hc=> ?_) (fun hc=> ?_))|(refine q5Z (fun hc=> ?_) (fun hc=> ?_)))
  ·omega
  ·refine q1N (σ:=Int) (fun i=> [(6, .int .i64 i),(5, .int .i64 (qnK c i))]) (fun i=>0≤i∧i≤b) (fun i=>(b-i).toNat) 0 ⟨by omega,by omega⟩ ?_ rfl ?_
   ·have e:qnK c 0=c.base:=by unfold qnK;rw[if_pos (by omega)];omega
    rw[e]
    exact(eF)
   ·rintro i junk ⟨hi0,hi⟩
    by_cases hlt:i<b
    ·have hq:=qqW hi0 (by omega) hp.1
     rcases qpu hi0 (show i<qy c by omega) with ⟨hcl,hs⟩|⟨hcl,hs⟩|⟨hcl,hs⟩|⟨hcl,hs⟩
     all_goals
      have hP:∀own,qD Tryz.prog W0 135 [c.v, .int .i64 i] own (.int .i64 (q3K c i)):=fun own=>qmS W0 own c i
      rw[hcl] at hP
      repeat'((try(conv=>whnf));first|(apply qg (hP _))|(refine fB ?_)|(apply qX;(exact eM);exact rfl)|(refine q5Z (fun hc=> ?_) (fun hc=> ?_))|(refine qkQ ?_ ?_;omega)|(refine qkR ?_ ?_;omega)|(refine qkS ?_ ?_;omega)|(refine qkT ?_ ?_;omega))
      ·refine⟨i+1,⟨by omega,by omega⟩,by omega,?_,Ent.refl⟩
       rw[hs]
       exact(eF)
      ·omega
    ·repeat'((try(conv=>whnf));first|(apply qg (qmS _ _ c i))|(apply qX;(exact eM);exact rfl)|(refine q5Z (fun hc=> ?_) (fun hc=> ?_)))
     ·omega
     ·refine⟨q0N (vi ?_),eB⟩
      have e:i=b:=by omega
      rw[e,qoU h0.1 h0.2]
  ·omega
 ·repeat'((try(conv=>whnf));first|(apply qg (q8f _ _ c))|(refine qC ?_)|(refine q0D ?_)|(refine q3M ?_)|(apply qH;(exact eM);exact rfl)|(apply qX;(exact eM);exact rfl)|(refine qc (fun bk hbk=> ?_))|(refine q2p (fun hc=> ?_) (fun hc=> ?_))|(refine q5Z (fun hc=> ?_) (fun hc=> ?_)))
  all_goals first|(exfalso;omega)|exact⟨q0N (vi (qoK h0)),eB⟩
theorem qn6(W0:World)(own:Own)(c:Cfg)(a:Int):qD Tryz.prog W0 134 [c.v, .int .u64 a] own (.int .i64 (q0a c a)):=by
 refine qe (qa qj qnq (by simp[qme]) ?_)
 have hB:=q6w c
 repeat'((try(conv=>whnf));first|(refine qc (fun bk hbk=> ?_)))
 refine q1N (σ:=Int) (fun k=> [(5, .int .i64 k)]) (fun k=>0≤k∧k≤qy c∧q7r c a (qy c-k).toNat k=q0a c a) (fun k=>(qy c-k).toNat) 0 ⟨by omega,by omega,by simp[q0a]⟩ (eF) rfl ?_
 rintro k junk ⟨hk0,hk1,hk⟩
 by_cases hlt:k<qy c
 ·have hf:=qf6 hk0 hlt
  have e:(qy c-k).toNat=(qy c-(k+1)).toNat+1:=by omega
  rw[e,q7r] at hk
  repeat'((try(conv=>whnf));first|(apply qg (q8f _ _ c))|(apply qg (sp_rfirst _ _ c k))|(refine fB ?_)|(refine fC ?_)|(apply qX;(exact eM);exact rfl)|(refine q5Z (fun hc=> ?_) (fun hc=> ?_)))
  ·rw[if_pos (by assumption)] at hk
   exact⟨q0N (vi hk),eB⟩
  ·rw[if_neg (by assumption)] at hk
   exact⟨k+1,⟨by omega,by omega,hk⟩,by omega,(eF),Ent.refl⟩
  ·omega
 ·repeat'((try(conv=>whnf));first|(apply qg (q8f _ _ c))|(apply qg (sp_rfirst _ _ c k))|(refine fB ?_)|(refine fC ?_)|(apply qX;(exact eM);exact rfl)|(refine q5Z (fun hc=> ?_) (fun hc=> ?_)))
  ·omega
  ·omega
  ·have e:(qy c-k).toNat=0:=by omega
   rw[e,q7r] at hk
   exact⟨q0N (vi hk),eB⟩
open Go Go.ChangeShapes Go.WideShapes Go.ChangeAt Go.RowKit
theorem qoO{α:Type}{Q:Nat→α→Prop}:∀n,(∀i,i<n→∃y,Q i y)→∃l:List α,l.length=n∧∀i y,l[i]? =some y→Q i y
 |0,_=>⟨[],rfl,fun i y h=>by simp at h⟩
 |n+1,h=>by
  obtain⟨l,hl,hq⟩:=qoO n (fun i hi=>h i (by omega))
  obtain⟨y,hy⟩:=h n (by omega)
  refine⟨l++ [y],by simp[hl],fun i z hz=> ?_⟩
  by_cases hi:i<l.length
  ·rw[List.getElem?_append_left hi] at hz
   exact hq i z hz
  ·rw[List.getElem?_append_right (by omega)] at hz
   have:i-l.length=0:=by
    by_cases h0:i-l.length=0
    ·exact h0
    ·rw[List.getElem?_eq_none (by simp;omega)] at hz;cases hz
   rw[this] at hz
   simp only[List.getElem?_cons_zero,Option.some.injEq] at hz
   subst hz
   have:i=n:=by omega
   subst this
   exact hy
section
variable{H:Type}{enc:TypeId×Value→H}{P:Program}{w:World}{spare:Nat→Bool}{held:Bool}
theorem qpT{own:Own}{a:Addr}{v:Value}(h:w.cell? a=some v):Kn w own (fun w'=>w'.cell? a=some v):=fun w' hw=>by
 have hb:a.block<w.heap.size:=by
  unfold World.cell? at h
  split at h
  ·rename_i hb;exact(Array.getElem?_eq_some_iff.1 hb).1
  ·cases h
 exact(World.cell?_of_block (w:=w) (hw.base a.block hb)).trans h
theorem qpG{fuel:Nat}{t:TypeId}{cs:List Value}{x:DataW H×List MemPlace}{k:IntKind}(ht:P.underlying t=some (.int k))(h:DataW.trod enc P w 0 spare held fuel t cs=some x):∃n,cs= [.int k n]∧inK k n:=by
 obtain⟨n,rfl,_,hw⟩:=DataW.trod_int ht h
 refine⟨n,rfl,qoM ?_⟩
 simp only[Lit.wf,Bool.and_eq_true,decide_eq_true_eq] at hw
 exact hw
def qrh(P:Program)(t:TypeId)(i:Nat):Option (Nat×TypeId):=match P.underlying t with
 |some (.struct fs)=>(fs[i]?).map fun f=>(f.offset,f.type)
 |_=>none
end
open Go Go.ChangeShapes Go.WideShapes Go.ChangeAt Go.RowKit
section
variable{H:Type}{enc:TypeId×Value→H}{P:Program}{w:World}{spare:Nat→Bool}{held:Bool}{q:Nat→Bool}
theorem qlX{t:TypeId}{ts:List TypeId}{d:DataW H}{ds:List (DataW H)}(h:(DataW.weightsEach P (t::ts) (d::ds)).all q=true):(d.weights P t).all q=true∧(DataW.weightsEach P ts ds).all q=true:=by
 simpa only[DataW.weightsEach,List.all_append,Bool.and_eq_true] using h
theorem qnm{e:TypeId}:∀{E:List (DataW H)} {d:DataW H},(DataW.weightsAll P e E).all q=true→d∈E→(d.weights P e).all q=true
 | [],_,_,hd=>by cases hd
 |c::r,d,h,hd=>by
  simp only[DataW.weightsAll,List.all_append,Bool.and_eq_true] at h
  rcases List.mem_cons.1 hd with rfl|hd
  ·exact h.1
  ·exact qnm h.2 hd
theorem qoq{α:Type}{en:α→List Value}{sz:Nat}{Φ:α→Prop}{fuel:Nat}{t e:TypeId}{cs:List Value}{x:DataW H×List MemPlace}(ht:P.underlying t=some (.slice e))(hsz:P.cellsOf e=sz)(hpos:0<sz)
  (hel:∀n cs x,DataW.trod enc P w 0 spare held n e cs=some x→(x.1.weights P e).all q=true→∃y,cs=en y∧Φ y) (h:DataW.trod enc P w 0 spare held fuel t cs=some x) (hw:(x.1.weights P t).all q=true):
  ∃a l cap,cs= [.slice a l.length cap]∧RdE en sz w [] a l∧(∀y∈l,Φ y)∧l.length≤cap∧(l= []∨∃k,q ((l.length+k)*P.bytesOf e)=true):=by
 rcases DataW.trod_slice ht h with ⟨rfl,_⟩|⟨a,len,cap,elems,rest,n,_,rfl,rfl,_,hl,_,hlen,hel',_⟩
 ·exact⟨none,[],0,rfl,RdE.nil,fun _ h=>(by cases h),by simp, .inl rfl⟩
 ·simp only[DataW.weights,ht,List.all_cons,List.all_append,Bool.and_eq_true,List.length_map] at hw
  obtain⟨hw1,hw2,_⟩:=hw
  have key:∀i,i<len→∃y,(w.cells? 0 (a.add (i*sz)) sz=some (en y))∧Φ y:=fun i hi=>by
   have:=hel' i hi
   rw[hsz] at this
   have hi':i<elems.length:=by omega
   rw[List.getElem?_eq_getElem hi',Option.bind_eq_some_iff] at this
   obtain⟨c,hc,hx⟩:=this
   obtain⟨y,rfl,hy⟩:=hel _ _ _ hx (qnm hw2 (List.mem_map_of_mem (List.getElem_mem hi')))
   exact⟨y,hc,hy⟩
  obtain⟨l,hll,hq⟩:=qoO len key
  have hget:∀{j k:Nat} {y:α} {v:Value},l[j]? =some y→(en y)[k]? =some v→w.cell? ((a.add (j*sz)).add k)=some v∧(en y).length=sz:=fun{j k y v} hy hv=>by
   obtain⟨hc,_⟩:=hq j y hy
   obtain⟨_,hlen,hget⟩:=World.cells?_some hc
   have hk:=(List.getElem?_eq_some_iff.1 hv).1
   exact⟨(hget k (by omega)).trans hv,hlen⟩
  have hspot:l≠ []→a.spot=none:=fun hne=>by
   cases l with
   |nil=>exact absurd rfl hne
   |cons y r=>
    obtain⟨hc,_⟩:=hq 0 y rfl
    obtain⟨_,hlen,hget⟩:=World.cells?_some hc
    have h0:=hget 0 hpos
    rw[List.getElem?_eq_getElem (by omega)] at h0
    rw[Nat.zero_mul] at h0
    have e0:(a.add 0).add 0=a:=by simp[Addr.add]
    rw[e0] at h0
    unfold World.cell? at h0
    split at h0
    ·split at h0
     ·cases h0
     ·rename_i hs;simpa using hs
    ·cases h0
  refine⟨some a,l,cap,by rw[hll],⟨fun hne=> ?_,fun y hy=> ?_,fun{j k y v} hy hv=> ?_⟩,fun y hy=> ?_,by omega, .inr ⟨rest.length,by rw[hll,←hlen];exact hw1⟩⟩
  ·have:=hspot hne
   obtain⟨b,o,s⟩:=a
   simp only at this
   subst this
   rfl
  ·obtain⟨i,hi⟩:=List.getElem?_of_mem hy
   obtain⟨hc,_⟩:=hq i y hi
   exact(World.cells?_some hc).2.1
  ·obtain⟨hc,_⟩:=hget hy hv
   have hs:=hspot (by intro e;subst e;simp at hy)
   have he:(a.add (j*sz)).add k=⟨ab (some a),ao (some a)+j*sz+k,none⟩:=by
    obtain⟨b,o,s⟩:=a
    simp only at hs
    subst hs
    rw[qI,qI]
    rfl
   rw[he] at hc
   exact qpT hc
  ·obtain⟨i,hi⟩:=List.getElem?_of_mem hy
   exact(hq i y hi).2
end
section
variable{H:Type}{enc:TypeId×Value→H}{w:World}{spare:Nat→Bool}{held:Bool}{v:Value}{d:DataW H}{p:List MemPlace}
theorem qpK{cs:Array Value}{v x:Value}(h:v.cells=cs)(hc:cs.toList= [x])(hx:∀a,v≠ .agg a):v=x:=by
 unfold Value.cells at h
 split at h
 ·rename_i a;exact absurd rfl (hx a)
 ·subst h;simpa using hc
theorem qnM{P:Program}{w:World}{b0:Nat}{t e:TypeId}{v:Value}(ht:P.underlying t=some (.slice e))(h:Value.okWide P w .any b0 t v):∀a,v≠ .agg a:=by
 intro a e
 subst e
 simp only[Value.okWide,ht,Cell.okWide,Cell.ok] at h
theorem qpJ{fuel:Nat}{cs:List Value}{x:DataW H×List MemPlace}(h:DataW.trod enc Tryz.prog w 0 spare held fuel 23 cs=some x)(hw:(x.1.weights Tryz.prog 23).all (· ≤reachBytes)=true):
  ∃a l cap,cs= [.slice a (List.length l) cap]∧RdE qM 1 w [] a l∧l.length≤17592186043904:=by
 obtain⟨a,l,cap,e,hr,_,_,hk⟩:=qoq (q:=(· ≤reachBytes)) (en:=qM) (sz:=1) (Φ:=fun _=>True) Tryz.underlying23 (by kernel_rfl) (by omega) (fun n cs x h _=>by
  obtain⟨n,rfl,_⟩:=qpG Tryz.underlying3 h
  exact⟨n,rfl,trivial⟩) h hw
 refine⟨a,l,cap,e,hr,?_⟩
 rcases hk with rfl|⟨k,hk⟩
 ·simp
 ·have h8:Tryz.prog.bytesOf 3=8:=by kernel_rfl
  rw[h8] at hk
  have hk:=of_decide_eq_true hk
  have h9:reachBytes=140737488351232:=rfl
  rw[h9] at hk
  omega
theorem qri{b0:Nat}(hv:Value.okWide Tryz.prog w .any b0 22 v)(ht:DataW.Trod enc Tryz.prog w 0 spare held 22 v d p)(hw:(d.weights Tryz.prog 22).all (· ≤reachBytes)=true):
  ∃a l cap,v= .slice a (List.length l) cap∧RdE IH.enc 1 w [] a l∧l.length≤17592186043904∧∀h∈l,RdE qM 1 w [] h.a h.l∧h.l.length≤17592186043904:=by
 obtain⟨fuel,h⟩:=ht
 obtain⟨a,l,cap,e,hr,hq,_,hk⟩:=qoq (q:=(· ≤reachBytes)) (en:=IH.enc) (sz:=1) (Φ:=fun y:IH=>RdE qM 1 w [] y.a y.l∧y.l.length≤17592186043904) Tryz.underlying22 (by kernel_rfl) (by omega) (fun n cs x h hw=>by
  obtain⟨a,l,cap,rfl,hr,hl⟩:=qpJ h hw
  exact⟨⟨a,cap,l⟩,rfl,hr,hl⟩) h hw
 refine⟨a,l,cap,qpK rfl e (qnM Tryz.underlying22 hv),hr,?_,hq⟩
 rcases hk with rfl|⟨k,hk⟩
 ·simp
 ·have h8:Tryz.prog.bytesOf 23=24:=by kernel_rfl
  rw[h8] at hk
  have hk:=of_decide_eq_true hk
  have h9:reachBytes=140737488351232:=rfl
  rw[h9] at hk
  omega
end
open Go Go.ChangeShapes Go.WideShapes Go.ChangeAt Go.RowKit
section
variable{H:Type}{enc:TypeId×Value→H}{w:World}{spare:Nat→Bool}{held:Bool}{v:Value}{d:DataW H}{p:List MemPlace}
theorem qqU{b0:Nat}(hv:Value.okWide Tryz.prog w .any b0 23 v)(ht:DataW.Trod enc Tryz.prog w 0 spare held 23 v d p)(hw:(d.weights Tryz.prog 23).all (· ≤reachBytes)=true):
  ∃a l cap,v= .slice a (List.length l) cap∧RdE qM 1 w [] a l∧l.length≤17592186043904:=by
 obtain⟨fuel,h⟩:=ht
 obtain⟨a,l,cap,e,hr,hl⟩:=qpJ h hw
 exact⟨a,l,cap,qpK rfl e (qnM Tryz.underlying23 hv),hr,hl⟩
end
open Go
section
variable{W0:World}{own:Own}
variable{a:Option Addr}{l:List Int}{cap:Nat}
theorem qnO(hR:RdE qM 1 W0 own a l)(hl:l.length≤1000000000)(x:Int):qD Tryz.prog W0 112 [.slice a l.length cap, .int .i64 x] own (.bool (decide (x∈l))):=by
 refine qe (qa qj qnu (by simp[qmz]) ?_)
 have hm:=qbg x l 0
 generalize hres:qeB x l 0=res at*
 refine q1N (σ:=Nat) (fun k=> [(5, .int .i64 k)]) (fun k=>k≤l.length∧qeB x (l.drop k) k=res) (fun k=>l.length-k) 0 ⟨by omega,hres⟩ (eF) rfl ?_
 rintro k junk ⟨hk,hI⟩
 by_cases hlt:k<l.length
 ·obtain⟨y,hy⟩:∃y,l[k]? =some y:=⟨_,List.getElem?_eq_getElem hlt⟩
  have hlt':(k:Int)<l.length:=by omega
  rw[q4I hy,qeB] at hI
  by_cases he:x=y
  ·rw[if_pos he] at hI
   have he':y=x:=he.symm
   repeat'((try(conv=>whnf));first|(refine fF ?_)|((with_reducible show Ld _ _ _ _);first|(refine q1M hR hy rfl ?_))|((with_reducible show IxS _ _ _ _ _);first|((refine ixE hR hy ?_ ?_;(first|rfl|omega)))))
   exact⟨q0N (vb (dt (hm.1 (by omega)))),(eC)⟩
  ·rw[if_neg he] at hI
   have he':¬y=x:=fun h=>he h.symm
   repeat'((try(conv=>whnf));first|(refine fF ?_)|(refine fG ?_)|((with_reducible show Ld _ _ _ _);first|(refine q1M hR hy rfl ?_))|((with_reducible show IxS _ _ _ _ _);first|((refine ixE hR hy ?_ ?_;(first|rfl|omega))))|(refine fB ?_))
   exact⟨k+1,⟨by omega,hI⟩,by omega,(eF),Ent.refl⟩
 ·have hlt':¬(k:Int)<l.length:=by omega
  obtain rfl:k=l.length:=by omega
  rw[List.drop_length,qeB] at hI
  repeat'((try(conv=>whnf));first|(refine fG ?_))
  exact⟨q0N (vb (df (fun h=>by have:=hm.2 h;omega))),(eC)⟩
end
open Go
theorem qpY{c:Cfg}{P:List (List Ins)}{s:GS}{ch:ChM}(h:(doM c P s ch).1≠0):doM c P s ch=(70,s):=by
 unfold doM at h ⊢
 split at h
 ·exact absurd rfl h
 ·rfl
theorem qrs{c:Cfg}{P:List (List Ins)}{s:GS}{ch:ChM}(h:(doM c P s ch).1=0):(doM c P s ch).2.n=s.n+1:=by
 unfold doM at h ⊢
 cases hs:chM c P s ch with
 |none=>rw[hs] at h;exact absurd (show(70:Int)=0 from h) (by decide)
 |some s'=>rfl
abbrev qrb:Value:= .agg #[.slice none 0 0, .slice none 0 0, .slice none 0 0, .slice none 0 0]
theorem qqt{W0:World}{b d:Nat×(Obj→Prop)}{A Z:Own}:Ent W0 (b::(d::(A++Z))) ([b,d]++(A++Z)):=Ent.refl
theorem qqu{W0:World}{b d:Nat×(Obj→Prop)}{R A B Z:Own}:Ent W0 (b::(d::((R++A)++(B++Z)))) (R++Z):=qo (b::d::(A++B))
theorem qqv{W0:World}{b d:Nat×(Obj→Prop)}{Z:Own}:Ent W0 (b::(d::Z)) ([b,d]++Z):=Ent.refl
theorem qqw{W0:World}{b d:Nat×(Obj→Prop)}{A B Z:Own}:Ent W0 (A++(B++([b,d]++Z))) (b::(d::(A++(B++Z)))):=qo []
theorem qo4:∀(ps:List PH) (t:Nat),(∀h∈ps,qx h.p=(0,0))→psG ps t=none
 | [],_,_=>rfl
 |x::l,t,h=>by
  unfold psG
  rw[h x List.mem_cons_self,if_neg (by simp)]
  exact qo4 l (t+1) fun y hy=>h y (List.mem_cons_of_mem _ hy)
theorem MS.ok.cs0{m:MS}{st:Bool}(h:m.ok st):csM m.c m.il.length (m.ps.map PB.h) []=(0,0,0):=by
 unfold csM
 have hp:=h.pl
 rw[if_neg (by rw[h.c0];simp),if_neg (by rw[List.length_map];omega),if_neg (by rw[h.il];simp),qo4 _ _ fun y hy=>by
  obtain⟨x,hx,rfl⟩:=List.mem_map.1 hy
  exact(h.q x hx).2]
 rfl
theorem MS.ok.pl16{m:MS}{st:Bool}(h:m.ok st):m.P.length≤16:=by
 have hp:=h.pl
 simp only[List.length_map]
 omega
section
variable{W0:World}{m:MS}{st:Bool}
theorem MS.ok.rp(h:m.ok st):RdE PH.enc 1 W0 (m.O) m.pa (m.ps.map PB.h):=h.p.rd.ent (qo (m.Dk++(q9L m.ps++m.Di)) fun a=>by simp only[MS.O,q2k];omega)
theorem MS.ok.ri(h:m.ok st):RdE q7j 1 W0 (m.O) m.ia m.il:=h.i.rd.ent (qo (m.Dk++(m.Dp++q9L m.ps)) fun a=>by simp only[MS.O,q2k];omega)
theorem MS.ok.rq(h:m.ok st):∀x∈m.ps.map PB.h,RdE Ins.enc 5 W0 (m.O) x.a x.p:=fun y hy=>by
 obtain⟨x,hx,rfl⟩:=List.mem_map.1 hy
 have:=qhO (kD:= []) hx ((h.q x hx).1.rd (W0:=W0))
 exact this.ent (qo (m.Dk++(m.Dp++m.Di)) fun a=>by simp only[MS.O,q2k,q6C];omega)
end
open Go
section
variable{α:Type}{g:SS→α→SS}
theorem qny(hg:∀x a,x.stop=true→g x a=x):∀(l:List α) (x:SS),(l.foldl g x).stop=false→x.stop=false∧∀a∈l,∃y,y.stop=false∧(g y a).stop=false
 | [],_,h=>⟨h,fun _ h=>(by cases h)⟩
 |a::l,x,h=>by
  rw[List.foldl_cons] at h
  obtain⟨h1,h2⟩:=qny hg l (g x a) h
  have hx:x.stop=false:=by
   cases hs:x.stop with
   |false=>rfl
   |true=>rw[hg x a hs,hs] at h1;cases h1
  refine⟨hx,fun b hb=> ?_⟩
  rcases List.mem_cons.1 hb with rfl|hb
  ·exact⟨x,hx,h1⟩
  ·exact h2 b hb
theorem qo1(hg:∀x a,x.stop=true→g x a=x):∀(l:List α) (x:SS),x.stop=false→(l.foldl g x).stop=true→∃a∈l,∃y,y.stop=false∧g y a=l.foldl g x
 | [],x,hx,h=>by rw[List.foldl_nil,hx] at h;cases h
 |a::l,x,hx,h=>by
  rw[List.foldl_cons] at h ⊢
  cases hs:(g x a).stop with
  |true=>exact⟨a,List.mem_cons_self,x,hx,(q2w hg l _ hs).symm⟩
  |false=>
   obtain⟨b,hb,y,hy,he⟩:=qo1 hg l (g x a) hs h
   exact⟨b,List.mem_cons_of_mem _ hb,y,hy,he⟩
end
theorem qnV{x:SS}(h:x.racy=true):x.stop=true:=by unfold SS.stop;rw[h];rfl
section
variable{rc:List EvM→Bool}{c:Cfg}{P:List (List Ins)}{fo:List Int}{lim:Int}
theorem qnG:∀(n:Nat) (s:GS) (l:List ChM) (x:SS),x.stop=false→(q7L rc c P fo lim n s l x).racy=true→∃s',qex c P fo s l s' (q7L rc c P fo lim n s l x).found∧rc s'.E=true
 |0,s,l,x,hx,h=>by
  have h':x.racy=true:=h
  rw[(q5T hx).1] at h'
  cases h'
 |n+1,s,l,x,hx,h=>by
  unfold q7L at h ⊢
  by_cases hd:q6E s=true
  ·rw[if_pos hd] at h ⊢
   unfold qey at h ⊢
   split at h
   ·have h':x.racy=true:=h
    rw[(q5T hx).1] at h'
    cases h'
   ·rename_i hl
    rw[if_neg hl]
    split at h
    ·rename_i hr
     rw[if_pos hr]
     exact⟨s, .done hd,hr⟩
    ·have h':x.racy=true:=h
     rw[(q5T hx).1] at h'
     cases h'
  ·rw[if_neg hd] at h ⊢
   obtain⟨t,ht,y,hy,he⟩:=qo1 (fun x a hs=>by rw[if_pos hs]) _ x hx (qnV h)
   rw[←he] at h ⊢
   have htl:=List.mem_range.1 ht
   rw[if_neg (by rw[hy];simp)] at h ⊢
   split at h
   ·rw[(q5T hy).1] at h
    cases h
   ·rename_i hdn
    rw[if_neg hdn]
    have hdn':dnB s t=false:=by simpa using hdn
    split at h
    ·rename_i ha
     rw[if_pos ha]
     obtain⟨s',h1,h2⟩:=qnG n _ _ y hy h
     exact⟨s', .loc htl hdn' ha h1,h2⟩
    ·rename_i ha
     rw[if_neg ha]
     have ha':dnB (q1t c P t 64 s l).1 t=false:=by simpa using ha
     obtain⟨k,hk,z,hz,he2⟩:=qo1 (fun x a hs=>by rw[if_pos hs]) _ y hy (qnV h)
     rw[←he2] at h ⊢
     rw[if_neg (by rw[hz];simp)] at h ⊢
     obtain⟨s',h1,h2⟩:=qnG n _ _ z hz h
     exact⟨s', .step htl hdn' ha' hk h1,h2⟩
theorem qoc(hna:qfn P)(hfo:∀k∈fo,3≤k∧k≤6):∀(n:Nat) (s:GS) (l:List ChM) (x:SS),GOk c P s→q1n P s<n→(q7L rc c P fo lim n s l x).stop=false→∀s' l',qex c P fo s l s' l'→rc s'.E=false
 |0,_,_,_,_,hn,_,_,_,_=>absurd hn (by omega)
 |n+1,s,l,x,hG,hn,h,s',l',hL=>by
  unfold q7L at h
  cases hL with
  |done hd=>
   rw[if_pos hd] at h
   unfold qey at h
   split at h
   ·have:=(q5T h).2
    cases this
   ·split at h
    ·have:=(q5T h).1
     cases this
    ·rename_i hr
     simpa using hr
  | @loc _ _ _ _ t ht hd ha hL=>
   rw[if_neg (by rw[qfo ht hd];simp)] at h
   obtain⟨-,h2⟩:=qny (fun x a hs=>by rw[if_pos hs]) _ x h
   obtain⟨y,hy,h3⟩:=h2 t (List.mem_range.2 ht)
   rw[if_neg (by rw[hy];simp),if_neg (by rw[hd];simp),if_pos ha] at h3
   obtain⟨g1,g2,g3,g4, -⟩:=qg3 (t:=t) hna 64 s l hG
   refine qoc hna hfo n _ _ y g1 ?_ h3 s' l' hL
   rcases g4 with g4|g4
   ·rw[g4] at ha
    rw[hd] at ha
    cases ha
   ·omega
  | @step _ _ _ _ t k ht hd ha hk hL=>
   rw[if_neg (by rw[qfo ht hd];simp)] at h
   obtain⟨-,h2⟩:=qny (fun x a hs=>by rw[if_pos hs]) _ x h
   obtain⟨y,hy,h3⟩:=h2 t (List.mem_range.2 ht)
   rw[if_neg (by rw[hy];simp),if_neg (by rw[hd];simp),if_neg (by rw[ha];simp)] at h3
   obtain⟨-,h4⟩:=qny (fun x a hs=>by rw[if_pos hs]) _ y h3
   obtain⟨z,hz,h5⟩:=h4 k hk
   rw[if_neg (by rw[hz];simp)] at h5
   obtain⟨g1,g2,g3,g4, -⟩:=qg3 (t:=t) hna 64 s l hG
   obtain⟨i,hi⟩:=qh2 g1 ha
   obtain⟨-,m1,m2,m3,m4,m5⟩:=q3Z g1 hna hi (k:=k) (by
    rcases qag hfo hk with hk|⟨j,hj,h7,hk⟩
    ·exact .inl hk
    ·rw[hi] at hj
     obtain rfl:=Option.some.inj hj
     exact .inr ⟨h7,hk⟩)
   refine qoc hna hfo n _ _ z m1 ?_ h5 s' l' hL
   rcases g4 with g4|g4
   ·rw[g4] at m5 ⊢;exact Nat.lt_of_lt_of_le m5 (Nat.le_of_lt_succ hn)
   ·omega
end
open Go
def Val(c:Cfg)(P:List (List Ins)):GS→List Nat→Prop
 |_,[]=>True
 |s,t::l=>(∃i,nxM P s t=some i)∧Val c P (doM c P s (ch0 t)).2 l
section
variable{c:Cfg}{P:List (List Ins)}{s s1:GS}{t x:Nat}
theorem qnL{l:List Nat}:qfA c P s (t::l)=qfA c P (doM c P s (ch0 t)).2 l:=rfl
theorem qn5{l m:List Nat}:qfA c P s (l++m)=qfA c P (qfA c P s l) m:=List.foldl_append ..
theorem qpX{F:List Thr→List Thr}(h:Sz s s1 F)(hF:Fx F t):dnB s1 t=dnB s t:=by unfold dnB;rw[h.T,hF.get]
theorem qpb:∀(l:List Nat) (s s1:GS),EqS s s1→Val c P s l→Val c P s1 l
 | [],_,_,_,_=>trivial
 |_::l,_,_,h,⟨⟨i,hi⟩,h2⟩=>⟨⟨i,(qkL h qhw).trans hi⟩,qpb l _ _ (h.do qhw).2 h2⟩
theorem qmy:∀(l:List Nat) (s:GS),qiH c P s l→Val c P s l
 | [],_,_=>trivial
 |t::l,s,⟨h1,h2⟩=>by
  obtain⟨i,hi, -⟩:=q86 h1
  exact⟨⟨i,hi⟩,qmy l _ h2⟩
theorem qnF:∀(l m:List Nat) (s:GS),Val c P s (l++m)↔Val c P s l∧Val c P (qfA c P s l) m
 | [],_,_=>⟨fun h=>⟨trivial,h⟩,fun h=>h.2⟩
 |t::l,m,s=>by
  show(_∧Val c P _ (l++m))↔(_∧Val c P _ l)∧_
  rw[qnF l m,and_assoc]
  rfl
theorem qpI{h:Thr}:∀(l:List Nat) (s s1:GS),(∀t∈l,t≠x)→Sz s s1 (fun T=>T.set x h)→qiH c P s1 l→qiH c P s l
 | [],_,_,_,_,_=>trivial
 |t::l,_,_,hl,h,⟨h1,h2⟩=>⟨(qjx h (qjr (hl t List.mem_cons_self))).symm.trans h1,qpI l _ _ (fun u hu=>hl u (List.mem_cons_of_mem _ hu)) (h.do (qjr (hl t List.mem_cons_self))).2 h2⟩
theorem qrr(h:s1.T[x]? =s.T[x]?):dnB s1 x=dnB s x:=by unfold dnB;rw[h]
theorem qrj(t:Nat):∀(u:List Nat) (s:GS),qiH c P s u→qiH c P s (u.filter (· ==t))∧EqS (qfA c P s u) (qfA c P (qfA c P s (u.filter (· ==t))) (u.filter (· !=t)))∧qiH c P (qfA c P s (u.filter (· ==t))) (u.filter (· !=t))
 | [],s,_=>⟨trivial,EqS.refl,trivial⟩
 |x::u,s,⟨h1,h2⟩=>by
  obtain⟨g1,g2,g3⟩:=qrj t u _ h2
  by_cases hx:x=t
  ·subst hx
   simp only[List.filter_cons,beq_self_eq_true,if_true,bne_self_eq_false,Bool.false_eq_true,if_false]
   exact⟨⟨h1,g1⟩,g2,g3⟩
  ·have hb:(x==t)=false:=by simpa using hx
   have hb2:(x !=t)=true:=by simpa using hx
   simp only[List.filter_cons,hb,hb2,if_true,Bool.false_eq_true,if_false]
   have hl:∀y∈u.filter (· ==t),y≠x:=fun y hy e=>by
    have:=(List.mem_filter.1 hy).2
    simp only[beq_iff_eq] at this
    exact hx (e.symm.trans this)
   have hc:=qlw (c:=c) h1 _ hl
   obtain⟨i,hi,hL⟩:=q86 h1
   obtain⟨th,p,hth,hp,hd,hix⟩:=qat hi
   refine⟨qpI _ _ _ hl (qgr (c:=c) hth hp hd hix hL) g1,g2.trans (qdN _ _ _ hc),?_,qcJ _ _ _ hc g3⟩
   rw[qkK (qjK _ s hl)]
   exact h1
theorem qok:∀(l:List Nat) (s:GS),Val c P s l→qiH c P s l∨∃u t w,l=u++t::w∧qiH c P s u∧q7u P (qfA c P s u) t=false
 | [],_,_=> .inl trivial
 |x::l,s,⟨h1,h2⟩=>by
  cases hx:q7u P s x with
  |false=>exact .inr ⟨[],x,l,rfl,trivial,hx⟩
  |true=>
   rcases qok l _ h2 with h|⟨u,t,w,he,h3,h4⟩
   ·exact .inl ⟨hx,h⟩
   ·exact .inr ⟨x::u,t,w,by rw[he];rfl,⟨hx,h3⟩,h4⟩
theorem qnZ(t:Nat):∀(n:Nat) (s:GS) (l:List ChM),∃m,q1t c P t n s l=(qfA c P s (List.replicate m t),l++List.replicate m (ch0 t))∧qiH c P s (List.replicate m t)
 |0,s,l=>⟨0,by simp[q1t,qfA],trivial⟩
 |n+1,s,l=>by
  unfold q1t
  cases hb:q7u P s t with
  |false=>exact⟨0,by simp[qfA],trivial⟩
  |true=>
   rw[if_pos rfl]
   obtain⟨m,h1,h2⟩:=qnZ t n (doM c P s (ch0 t)).2 (l++ [ch0 t])
   refine⟨m+1,?_,hb,h2⟩
   rw[h1,List.replicate_succ,List.replicate_succ,qnL]
   simp
theorem qnk(t:Nat):∀(m k:Nat) (s:GS),qiH c P s (List.replicate m t)→qiH c P s (List.replicate k t)→q7u P (qfA c P s (List.replicate m t)) t=false→q7u P (qfA c P s (List.replicate k t)) t=false→m=k
 |0,0,_,_,_,_,_=>rfl
 |0,k+1,s,_,⟨h1,_⟩,h2,_=>by rw[show q7u P s t=false from h2] at h1;cases h1
 |m+1,0,s,⟨h1,_⟩,_,_,h2=>by rw[show q7u P s t=false from h2] at h1;cases h1
 |m+1,k+1,s,⟨_,h1⟩,⟨_,h2⟩,h3,h4=>by rw[qnk t m k _ h1 h2 h3 h4]
theorem qoi(t:Nat)(u:List Nat):∃m,u.filter (· ==t)=List.replicate m t:=⟨_,List.eq_replicate_iff.2 ⟨rfl,fun y hy=>by have:=(List.mem_filter.1 hy).2;simpa using this⟩⟩
end
open Go
section
variable{c:Cfg}{P:List (List Ins)}{fo:List Int}
theorem qpe{o:Option Ins}:(0:Int)∈q52 fo o:=by
 unfold q52
 split
 ·split
  ·exact List.mem_cons_self
  ·exact List.mem_singleton.2 rfl
 ·exact List.mem_singleton.2 rfl
theorem qmC(hna:qfn P):∀(l:List Nat) (s:GS),GOk c P s→Val c P s l→GOk c P (qfA c P s l)∧(qfA c P s l).n+q1n P (qfA c P s l)≤s.n+q1n P s∧q1n P (qfA c P s l)+l.length≤q1n P s
 | [],_,hG,_=>⟨hG,Nat.le_refl _,Nat.le_refl _⟩
 |t::l,s,hG,⟨⟨i,hi⟩,h2⟩=>by
  obtain⟨-,g1,g2, -,g4,g5⟩:(doM c P s (ch0 t)).1=0∧GOk c P (doM c P s (ch0 t)).2∧(doM c P s (ch0 t)).2.n=s.n+1∧q6q P (doM c P s (ch0 t)).2 t<q6q P s t∧(doM c P s (ch0 t)).2.n+q1n P (doM c P s (ch0 t)).2≤s.n+q1n P s∧q1n P (doM c P s (ch0 t)).2<q1n P s:=q3Z hG hna hi (.inl rfl)
  obtain⟨h3,h4,h5⟩:=qmC hna l _ g1 h2
  exact⟨h3,Nat.le_trans h4 g4,by rw[List.length_cons];show q1n P (qfA c P (doM c P s (ch0 t)).2 l)+(l.length+1)≤_;omega⟩
theorem qo0{s s1:GS}(h:EqS s s1):q6E s1=q6E s:=by unfold q6E;rw[h.T];rfl
theorem qpZ{s:GS}(h:q6E s=true)(t:Nat):dnB s t=true:=by
 unfold dnB
 cases hT:s.T[t]? with
 |none=>rfl
 |some th=>exact List.all_eq_true.1 h th (List.mem_of_getElem? hT)
theorem qqV{s:GS}{t:Nat}{i:Ins}(h:nxM P s t=some i):t<s.T.length:=by
 obtain⟨th,p,hth, -⟩:=qat h
 exact(List.getElem?_eq_some_iff.1 hth).1
theorem qqY{m t:Nat}{l:List Nat}(h:l=List.replicate m t)(hm:t∈l):m≠0:=by
 intro e
 subst e
 subst h
 cases hm
theorem qpW(hna:qfn P):∀(n:Nat) (s:GS) (l:List Nat),GOk c P s→q1n P s<n→Val c P s l→q6E (qfA c P s l)=true→∀s1 l1,EqS s s1→GOk c P s1→∃s' l',qex c P fo s1 l1 s' l'∧EqS (qfA c P s l) s'
 |0,_,_,_,hn,_,_,_,_,_,_=>absurd hn (by omega)
 |n+1,s,[],_,_,_,hd,s1,l1,he,_=>⟨s1,l1, .done ((qo0 he).trans hd),he⟩
 |n+1,s,x::l,hG,hn,hv,hd,s1,l1,he,hG1=>by
  rcases qok _ _ hv with hall|⟨u,t,w,hl,hu,hnl⟩
  · --all steps are local:those of the thread x come first
   obtain⟨p1,p2,p3⟩:=qrj x _ _ hall
   obtain⟨m,hm⟩:=qoi x (x::l)
   rw[hm] at p1 p2 p3
   have hm0:m≠0:=qqY hm (List.mem_filter.2 ⟨List.mem_cons_self,by simp⟩)
   obtain⟨i,hi⟩:=hv.1
   have ht1:x<s1.T.length:=by rw[he.T];exact qqV hi
   have hdn:dnB s1 x=false:=by
    rw[qpX he qhw]
    cases hb:dnB s x with
    |false=>rfl
    |true=>rw[(q8W hG).2 hb] at hi;cases hi
   have hend:dnB (qfA c P s (List.replicate m x)) x=true:=by
    rw[←qrr (qjK (x:=x) ((x::l).filter (· !=x)) (c:=c) (P:=P) _ (fun y hy e=>by have:=(List.mem_filter.1 hy).2;simp[e] at this)),←qpX p2.symm qhw]
    exact qpZ hd x
   obtain⟨k,hk,hka⟩:=qnZ (c:=c) (P:=P) x 64 s1 l1
   obtain⟨a1,a2,a3,a4,a5⟩:=qg3 (t:=x) hna 64 s1 l1 hG1
   have hstop:=a5 (qgE hG1)
   rw[hk] at hstop a1 a2 a4
   have hrun:=qdN (c:=c) (P:=P) (List.replicate m x) _ _ he
   have hl0:q7u P (qfA c P s1 (List.replicate m x)) x=false:=by
    rw[qjx hrun qhw]
    unfold q7u
    rw[(q8W (qmC hna _ _ hG (qmy _ _ p1)).1).2 hend]
   obtain rfl:=qnk x _ _ _ (qcJ _ _ _ he p1) hka hl0 hstop
   have hmeas:q1n P (qfA c P s (List.replicate m x))<n:=by
    have:=(qmC hna _ _ hG (qmy _ _ p1)).2.2
    rw[List.length_replicate] at this
    omega
   obtain⟨s',l',h1,h2⟩:=qpW hna n (qfA c P s (List.replicate m x)) ((x::l).filter (· !=x)) (qmC hna _ _ hG (qmy _ _ p1)).1 hmeas (qmy _ _ p3) ((qo0 p2).trans hd) (qfA c P s1 (List.replicate m x)) (l1++List.replicate m (ch0 x)) hrun a1
   exact⟨s',l', .loc ht1 hdn (by rw[hk];exact(qpX hrun qhw).trans hend) (by rw[hk];exact h1),p2.trans h2⟩
  · --the first step that is not local,of the thread t,comes first,behind the local ones of t
   rw[hl] at hv hd ⊢
   obtain⟨hvu,⟨⟨i,hi⟩,hvw⟩⟩:=(qnF u (t::w) s).1 hv
   obtain⟨p1,p2,p3⟩:=qrj t _ _ hu
   obtain⟨m,hm⟩:=qoi t u
   rw[hm] at p1 p2 p3
   have hune:∀y∈u.filter (· !=t),y≠t:=fun y hy e=>by have:=(List.mem_filter.1 hy).2;simp[e] at this
   obtain⟨q1,q2⟩:=push (c:=c) (P:=P) t _ _ hune p3
   have hGm:=(qmC hna _ _ hG (qmy _ _ p1))
   have hTm:(qfA c P (qfA c P s (List.replicate m t)) (u.filter (· !=t))).T[t]? =(qfA c P s (List.replicate m t)).T[t]? :=qjK _ _ hune
   have him:nxM P (qfA c P s (List.replicate m t)) t=some i:=by rw[←qlB hTm,qkL p2 qhw];exact hi
   have hlm:q7u P (qfA c P s (List.replicate m t)) t=false:=by rw[←qkK hTm,qjx p2 qhw];exact hnl
   have hrun:=qdN (c:=c) (P:=P) (List.replicate m t) _ _ he
   obtain⟨k,hk,hka⟩:=qnZ (c:=c) (P:=P) t 64 s1 l1
   obtain⟨a1,a2,a3,a4,a5⟩:=qg3 (t:=t) hna 64 s1 l1 hG1
   have hstop:=a5 (qgE hG1)
   rw[hk] at hstop a1
   obtain rfl:=qnk t _ _ _ (qcJ _ _ _ he p1) hka ((qjx hrun qhw).trans hlm) hstop
   have hnz:∀{z:GS},GOk c P z→nxM P z t=some i→dnB z t=false:=fun{z} hz hzi=>by
    cases hb:dnB z t with
    |false=>rfl
    |true=>rw[(q8W hz).2 hb] at hzi;cases hzi
   have him1:nxM P (qfA c P s1 (List.replicate m t)) t=some i:=(qkL hrun qhw).trans him
   have ht1:t<s1.T.length:=by
    rw[he.T]
    have h0:=qqV hi
    have h1:=(qmC hna _ _ hG (qmy _ _ hu)).1.tl
    have h2:=hG.tl
    show t<s.T.length
    omega
   have hds:dnB s1 t=false:=by
    cases hb:dnB s1 t with
    |false=>rfl
    |true=>
     --a thread that is done stays done
     have hn1:=(q8W hG1).2 hb
     cases m with
     |zero=>rw[show qfA c P s1 (List.replicate 0 t)=s1 from rfl] at him1;rw[hn1] at him1;cases him1
     |succ m=>
      have:=hka.1
      unfold q7u at this
      rw[hn1] at this
      cases this
   obtain⟨-,g1,g2, -,g4,g5⟩:(doM c P (qfA c P s (List.replicate m t)) (ch0 t)).1=0∧GOk c P (doM c P (qfA c P s (List.replicate m t)) (ch0 t)).2∧_∧_∧_∧q1n P (doM c P (qfA c P s (List.replicate m t)) (ch0 t)).2<q1n P (qfA c P s (List.replicate m t)):=q3Z hGm.1 hna him (.inl rfl)
   have hmeas:q1n P (doM c P (qfA c P s (List.replicate m t)) (ch0 t)).2<n:=by
    have:=hGm.2.2
    omega
   have hstep:EqS (doM c P (qfA c P s u) (ch0 t)).2 (qfA c P (doM c P (qfA c P s (List.replicate m t)) (ch0 t)).2 (u.filter (· !=t))):=EqS.trans (p2.do qhw).2 q1
   have hw:=qdN (c:=c) (P:=P) w _ _ hstep
   have hval:Val c P (doM c P (qfA c P s (List.replicate m t)) (ch0 t)).2 (u.filter (· !=t)++w):=(qnF _ _ _).2 ⟨qmy _ _ q2,qpb _ _ _ hstep hvw⟩
   have hfin:qfA c P s (u++t::w)=qfA c P (doM c P (qfA c P s u) (ch0 t)).2 w:=by rw[qn5,qnL]
   rw[hfin] at hd ⊢
   have hG1d:=qeY a1 (ch:=ch0 t) (fun _ h=>(by cases h))
   obtain⟨s',l',h1,h2⟩:=qpW hna n (doM c P (qfA c P s (List.replicate m t)) (ch0 t)).2 (u.filter (· !=t)++w) g1 hmeas hval (by rw[qn5];exact(qo0 hw).trans hd) (doM c P (qfA c P s1 (List.replicate m t)) (ch0 t)).2 (l1++List.replicate m (ch0 t)++ [ch0 t]) (hrun.do qhw).2 hG1d
   rw[qn5] at h2
   exact⟨s',l', .step (t:=t) (k:=0) ht1 hds (by rw[hk];exact hnz a1 him1) qpe (by rw[hk];exact h1),hw.trans h2⟩
end
open Go
structure EvS(s:GS):Prop where
 st:s.E.Pairwise (fun a b=>a.ev≤b.ev)
 le:∀e∈s.E,e.ev≤s.n
section
variable{c:Cfg}{P:List (List Ins)}{s s':GS}{t:Nat}{th:Thr}{p:List Ins}{i:Ins}{f:Int}{ad:List Int}{fo:List Int}
def qqk(s s':GS):Prop:=∃F,s'.E=s.E++F∧∀e∈F,e.ev=s.n
theorem qps{l:List ObM}{E:List EvM}{d:List Int}{tk:List Bool}(h:some (((s.mem d tk).ev E).fin t th l)=some s')(hE:∀e∈E,e.ev=s.n):qqk s s':=by
 obtain rfl:=Option.some.inj h
 exact⟨E,rfl,hE⟩
theorem qoj{l:List ObM}(h:some (s.fin t th l)=some s'):qqk s s':=by
 obtain rfl:=Option.some.inj h
 exact⟨[],(List.append_nil _).symm,fun _ h=>(by cases h)⟩
theorem qpL{n:Nat}{k a:Int}:∀e∈plE c n t k a,e.ev=n:=by
 unfold plE
 split
 ·intro e he
  simp only[List.mem_cons,List.not_mem_nil,or_false] at he
  rcases he with rfl|rfl <;>rfl
 ·intro e he
  rw[List.mem_singleton.1 he]
theorem qry(h:sgM c p s th t f i=some s'):qqk s s':=by
 unfold sgM at h
 generalize adr th.rg (if i.op=12 then i.b else i.a) i.imm=a at h
 dsimp only at h
 split at h
 ·split at h
  ·split at h
   ·exact qoj h
   ·cases h
  ·split at h
   ·exact qoj h
   ·split at h
    ·exact qps (d:=s.d) (tk:=s.tk) h qpL
    ·exact qps h qpL
 ·split at h
  ·cases h
  ·exact qoj h
theorem qpR{n:Nat}{r w:List Int}:∀e∈ [(⟨n,t,3,0,[],[]⟩:EvM),⟨n,t,4,0,r,w⟩],e.ev=n:=by
 intro e he
 simp only[List.mem_cons,List.not_mem_nil,or_false] at he
 rcases he with rfl|rfl <;>rfl
theorem qrA(h:txM c p s th t f ad=some s'):qqk s s':=by
 unfold txM at h
 split at h
 ·split at h
  ·exact qoj h
  ·cases h
 ·generalize q5e c p p.length _=r at h
  obtain⟨b,o⟩:=r
  dsimp only at h
  split at h
  ·cases h
  ·split at h
   ·exact qps h qpR
   ·exact qps (d:=s.d) (tk:=s.tk) h qpR
theorem qoF(h:EvS s)(ch:ChM):EvS (doM c P s ch).2:=by
 unfold doM
 cases ha:chM c P s ch with
 |none=>exact h
 |some s'=>
  have hn:qqk s s':=by
   unfold chM at ha
   split at ha
   ·cases ha
   ·split at ha
    ·split at ha
     ·cases ha
     ·split at ha
      ·split at ha
       ·exact qrA ha
       ·split at ha
        ·exact qry ha
        ·cases ha
      ·cases ha
    ·cases ha
  obtain⟨F,hE,hF⟩:=hn
  refine⟨?_,fun e he=> ?_⟩
  ·show s'.E.Pairwise _
   rw[hE]
   refine List.pairwise_append.2 ⟨h.st,?_,fun a ha b hb=>by rw[hF b hb];exact h.le a ha⟩
   refine List.Pairwise.imp_of_mem ?_ (List.pairwise_of_forall (R:=fun _ _=>True) fun _ _=>trivial)
   intro a b ha hb _
   rw[hF a ha,hF b hb]
   exact Int.le_refl _
  ·have he':e∈s.E++F:=hE ▸ he
   show e.ev≤((s.n+1:Nat):Int)
   rcases List.mem_append.1 he' with he|he
   ·have:=h.le e he;omega
   ·rw[hF e he];omega
theorem qoP{il:List Int}:EvS (q7G c il P):=⟨List.Pairwise.nil,fun _ h=>(by cases h)⟩
theorem qnY(t:Nat):∀(n:Nat) (s:GS) (l:List ChM),EvS s→EvS (q1t c P t n s l).1
 |0,_,_,h=>h
 |n+1,s,l,h=>by
  unfold q1t
  split
  ·exact qnY t n _ _ (qoF h _)
  ·exact h
theorem qoX:∀(l:List Nat) (s:GS),EvS s→EvS (qfA c P s l)
 | [],_,h=>h
 |_::l,_,h=>qoX l _ (qoF h _)
theorem qex.evS{l l':List ChM}(h:qex c P fo s l s' l'):EvS s→EvS s':=by
 induction h with
 |done h=>exact fun h=>h
 |loc ht hd ha _ ih=>exact fun h=>ih (qnY _ _ _ _ h)
 |step ht hd ha hk _ ih=>exact fun h=>ih (qoF (qnY _ _ _ _ h) _)
end
open Go
section
variable{W0:World}{own:Own}{b o:Nat}{T:TypeId}{pre post:List Value}{t:Thr}
theorem qmE{off n:Nat}{v:Int}{K:Own→Prop}{C:(Obj→Prop)→Own} [m:UpC b (fun o=>o=Obj.cells (pre++(t.enc++post)).toArray T (0,0)) own C](hv:v=n)(ho:off=pre.length)
  (h:K (C fun o=>o=Obj.cells (pre++(({t with pc:=n}:Thr).enc++post)).toArray T (0,0))):StT W0 own ⟨b,off,none⟩ (.int .i64 v) K:=by
 subst hv
 exact qjZ (t:=t) (k:=0) {t with pc:=n} (by omega) rfl rfl (by omega) h
theorem q9{x:Ins}(hl:isL x=false)(r:Own):qD Tryz.prog W0 108 [.pointer (some ⟨b,o,none⟩),x.v] r (.bool false):=by
 refine qe (qa qj qmB (by simp[qlT]) ?_)
 obtain⟨op,a,b',c,imm⟩:=x
 have h:=of_decide_eq_false hl
 dsimp only at h
 have h0:op≠0:=by omega
 have h1:op≠1:=by omega
 have h2:op≠2:=by omega
 have h3:op≠3:=by omega
 have h4:op≠4:=by omega
 have h5:op≠5:=by omega
 have h6:op≠6:=by omega
 have h17:op≠17:=by omega
 clear hl h
 dsimp only[Ins.v] at*
 repeat'((try(conv=>whnf));first|(refine fG ?_)|(refine fA ?_)|(refine qc (fun bk hbk=> ?_)))
 exact⟨rfl,(eC)⟩
theorem qnj{x:Ins}(hx:qv x=0)(hl:isL x=true)(ht:t.rg.ok)(hp:t.pc≤64)(ho:o=pre.length)(r:Own):
  q0E Tryz.prog W0 108 [.pointer (some ⟨b,o,none⟩),x.v] ([thB b T pre post t]++r) fun v own'=>∃_:Unit,v= .bool true∧Ent W0 own' ([thB b T pre post (q6a t x)]++r):=by
 refine qil (qa qj qmB (by simp[qlT]) ?_)
 subst ho
 obtain⟨h0,hA,hB,hC,hI,_⟩:=q2l hx
 clear hx
 have hlo:=of_decide_eq_true hl
 clear hl
 obtain⟨op,a,b',c,imm⟩:=x
 dsimp only[Ins.v] at*
 have hu:=fun k=>ht k
 by_cases h1:op=1
 ·subst h1
  have ha:=hA rfl
  have ha':a.toNat<8:=by omega
  clear hA hB hC hI hlo
  repeat'((try(conv=>whnf));first|(refine fE ?_)|(refine fD ?_)|(refine arw (k:= .u64) ?_)|(refine qa1 (t:=t) ha' ?_ ?_;omega)|(refine q8F (t:={t with rg:=t.rg.set a.toNat (qcy imm)}) (k:=0) (v:= .int .i64 t.pc) rfl ?_ ?_;omega)|(refine qmE (t:={t with rg:=t.rg.set a.toNat (qcy imm)}) (n:=t.pc+1) ?_ ?_ ?_;(omega);(omega))|(refine fB ?_)|(refine fP ?_)|(refine fA ?_)|(refine qc (fun bk hbk=> ?_)))
  exact⟨rfl,(eC)⟩
 by_cases h2:op=2
 ·subst h2
  have ha:=hA rfl
  have ha':a.toNat<8:=by omega
  have hb:=hB rfl
  have hb':b'.toNat<8:=by omega
  clear hA hB hC hI hlo
  repeat'((try(conv=>whnf));first|(refine fE ?_)|(refine fD ?_)|(refine q4D (t:=t) hb' ?_ ?_;omega)|(refine qa1 (t:=t) ha' ?_ ?_;omega)|(refine q8F (t:={t with rg:=t.rg.set a.toNat (t.rg.get b'.toNat)}) (k:=0) (v:= .int .i64 t.pc) rfl ?_ ?_;omega)|(refine qmE (t:={t with rg:=t.rg.set a.toNat (t.rg.get b'.toNat)}) (n:=t.pc+1) ?_ ?_ ?_;(omega);(omega))|(refine fB ?_)|(refine fP ?_)|(refine fA ?_)|(refine qc (fun bk hbk=> ?_)))
  exact⟨rfl,(eC)⟩
 by_cases h3:op=3
 ·subst h3
  have ha:=hA rfl
  have ha':a.toNat<8:=by omega
  have hb:=hB rfl
  have hb':b'.toNat<8:=by omega
  have hc:=hC rfl
  have hc':c.toNat<8:=by omega
  clear hA hB hC hI hlo
  have hap:=fun own=>Alu.sp_rapply W0 own imm (t.rg.get b'.toNat) (t.rg.get c.toNat) (ht _) (ht _)
  repeat'((try(conv=>whnf));first|(refine fE ?_)|(refine fD ?_)|(refine q4D (t:=t) hb' ?_ ?_;omega)|(refine q4D (t:=t) hc' ?_ ?_;omega)|(refine qa1 (t:=t) ha' ?_ ?_;omega)|(refine q8F (t:={t with rg:=t.rg.set a.toNat (Alu.applyW imm (t.rg.get b'.toNat) (t.rg.get c.toNat))}) (k:=0) (v:= .int .i64 t.pc) rfl ?_ ?_;omega)|(refine qmE (t:={t with rg:=t.rg.set a.toNat (Alu.applyW imm (t.rg.get b'.toNat) (t.rg.get c.toNat))}) (n:=t.pc+1) ?_ ?_ ?_;(omega);(omega))|((with_reducible show q0b _ _ _ _ _ _);first|((refine q4G (fun _=>hap _) ?_ ?_ ?_;(exact rfl);exact rfl)))|(refine fB ?_)|(refine fO ?_)|(refine fP ?_)|(refine fA ?_)|(refine qc (fun bk hbk=> ?_)))
  exact⟨rfl,(eC)⟩
 by_cases h17:op=17
 ·subst h17
  have ha:=hA rfl
  have ha':a.toNat<8:=by omega
  clear hA hB hC hI hlo
  repeat'((try(conv=>whnf));first|(refine fE ?_)|(refine fD ?_)|(refine arw (k:= .u64) ?_)|(refine q8F (t:=t) (k:=9) rfl ?_ ?_;omega)|(refine qa1 (t:=t) ha' ?_ ?_;omega)|(refine q8F (t:={t with rg:=t.rg.set a.toNat (qcy t.oc)}) (k:=0) (v:= .int .i64 t.pc) rfl ?_ ?_;omega)|(refine qmE (t:={t with rg:=t.rg.set a.toNat (qcy t.oc)}) (n:=t.pc+1) ?_ ?_ ?_;(omega);(omega))|(refine fB ?_)|(refine fP ?_)|(refine fA ?_)|(refine qc (fun bk hbk=> ?_)))
  exact⟨rfl,(eC)⟩
 have hR:q85 t ⟨op,a,b',c,imm⟩=t.rg:=by unfold q85;rw[if_neg h1,if_neg h2,if_neg h3,if_neg h17]
 by_cases h4:op=4
 ·subst h4
  have hi:=hI (.inl rfl)
  clear hA hB hC hI hlo
  repeat'((try(conv=>whnf));first|(refine fE ?_)|(refine fD ?_)|(refine q8F (t:=t) (k:=0) (v:= .int .i64 t.pc) rfl ?_ ?_;omega)|(refine qmE (t:=t) (n:=t.pc+1+imm.toNat) ?_ ?_ ?_;(omega);(omega))|(refine fB ?_)|(refine fA ?_)|(refine qc (fun bk hbk=> ?_)))
  exact⟨rfl,(eC)⟩
 by_cases h56:op=5∨op=6
 ·have hi:=hI (.inr h56)
  have ha:0≤a∧a<8:=hA (by rcases h56 with rfl|rfl <;>rfl)
  have ha':a.toNat<8:=by omega
  clear hA hB hC hI hlo
  have hP:q6a t ⟨op,a,b',c,imm⟩={t with pc:=if(op=5∧t.rg.get a.toNat=0)∨(op=6∧t.rg.get a.toNat≠0) then t.pc+1+imm.toNat else t.pc+1}:=by unfold q6a;rw[hR];unfold q60;simp[h4]
  rw[hP]
  by_cases hz:t.rg.get a.toNat=0
  all_goals
   rcases h56 with rfl|rfl
   all_goals
    simp only[hz,ne_eq,not_true_eq_false,not_false_eq_true,and_true,and_false,or_false,or_true,if_true,if_false,Int.reduceEq]
    repeat'((try(conv=>whnf));first|(refine fE ?_)|(refine fD ?_)|(refine fF ?_)|(refine fG ?_)|(refine q4D (t:=t) ha' ?_ ?_;omega)|(refine q8F (t:=t) (k:=0) (v:= .int .i64 t.pc) rfl ?_ ?_;omega)|(refine qmE (t:=t) (n:=t.pc+1+imm.toNat) ?_ ?_ ?_;(omega);(omega))|(refine qmE (t:=t) (n:=t.pc+1) ?_ ?_ ?_;(omega);(omega))|(refine fB ?_)|(refine fP ?_)|(refine fA ?_)|(refine qc (fun bk hbk=> ?_)))
    exact⟨rfl,(eC)⟩
 ·have h0':op=0:=by omega
  subst h0'
  clear hA hB hC hI hlo
  repeat'((try(conv=>whnf));first|(refine fE ?_)|(refine q8F (t:=t) (k:=0) (v:= .int .i64 t.pc) rfl ?_ ?_;omega)|(refine qmE (t:=t) (n:=t.pc+1) ?_ ?_ ?_;(omega);(omega))|(refine fB ?_)|(refine fA ?_)|(refine qc (fun bk hbk=> ?_)))
  exact⟨rfl,(eC)⟩
end
end Go.Proofs.YtkieffpjjfebjaaGreatDoor
