/- What the laws share, part 7. No condition. -/
import Derived.Laws.FloatBits
import Derived.Test.YtkieffpjjfebjaaGreatDoorChecked
import Derived.Shelf.SlMaps.Clone
import Derived.Test.YtkieffpjjfebjaaGreatDoorW6
set_option maxHeartbeats 16000000
set_option maxRecDepth 100000
namespace Go.Proofs.YtkieffpjjfebjaaGreatDoor
open Go
theorem qmO(W0:World)(own:Own)(c:Cfg)(b:Int):qD Tryz.prog W0 135 [c.v, .int .i64 b] own (.int .i64 (q3K c b)):=by
 refine qe (qa qj qn7 (by simp[qm3]) ?_)
 by_cases h0:0≤b∧b<qy c
 ·have hp:=q7T h0.1 h0.2
  have hbd:=q4Z hp.1
  repeat'((try(conv=>whnf));first|(apply qg (q8f _ _ c))|(refine q55 5 ?_)|(refine qC ?_)|(refine q0D ?_)|(refine q3M ?_)|(refine fB ?_)|(refine ix0 rfl ?_)|(refine ix1 rfl ?_)|(refine ix2 rfl ?_)|(refine ix3 rfl ?_)|(apply ixj;omega)|(apply qH;(exact eM);exact rfl)|(apply qX;(exact eM);exact rfl)|(refine qc (fun bk hbk=> ?_))|(refine q2p (fun hc=> ?_) (fun hc=> ?_))|(refine q5Z (fun hc=> ?_) (fun hc=> ?_)))
  all_goals first|(exfalso;omega)|(refine⟨q0N (vi ?_),eB⟩;simp only[q3K,hp.1,h0,and_self,if_true];repeat'(first|omega|(rw[if_pos (by omega)])|(rw[if_neg (by omega)])))
 ·repeat'((try(conv=>whnf));first|(apply qg (q8f _ _ c))|(refine qC ?_)|(refine q0D ?_)|(refine q3M ?_)|(apply qX;(exact eM);exact rfl)|(refine qc (fun bk hbk=> ?_))|(refine q2p (fun hc=> ?_) (fun hc=> ?_))|(refine q5Z (fun hc=> ?_) (fun hc=> ?_)))
  all_goals first|(exfalso;omega)|exact⟨q0N (vi (qoj h0)),eB⟩
theorem sp_rfirst(W0:World)(own:Own)(c:Cfg)(b:Int):qD Tryz.prog W0 136 [c.v, .int .i64 b] own (.int .i64 (q2K c b)):=by
 refine qe (qa qj qn8 (by simp[qm4]) ?_)
 have hB:=q6w c
 by_cases h0:0≤b∧b<qy c
 ·have hp:=q7T h0.1 h0.2
  have hbd:=q4Z hp.1
  repeat'((try(conv=>whnf));first|(apply qg (q8f _ _ c))|(refine qC ?_)|(refine q0D ?_)|(refine q3M ?_)|(apply qH;(exact eM);exact rfl)|(apply qX;(exact eM);exact rfl)|(refine qc (fun bk hbk=> ?_))|(refine q2p (fun hc=> ?_) (fun hc=> ?_))|(refine q5Z (fun hc=> ?_) (fun hc=> ?_)))
  ·omega
  ·refine q1N (σ:=Int) (fun i=> [(6, .int .i64 i),(5, .int .i64 (qnB c i))]) (fun i=>0≤i∧i≤b) (fun i=>(b-i).toNat) 0 ⟨by omega,by omega⟩ ?_ rfl ?_
   ·have e:qnB c 0=c.base:=by unfold qnB;rw[if_pos (by omega)];omega
    rw[e]
    exact(eF)
   ·rintro i junk ⟨hi0,hi⟩
    by_cases hlt:i<b
    ·have hq:=qqc hi0 (by omega) hp.1
     rcases qp3 hi0 (show i<qy c by omega) with ⟨hcl,hs⟩|⟨hcl,hs⟩|⟨hcl,hs⟩|⟨hcl,hs⟩
     all_goals
      have hP:∀own,qD Tryz.prog W0 135 [c.v, .int .i64 i] own (.int .i64 (q3K c i)):=fun own=>qmO W0 own c i
      rw[hcl] at hP
      repeat'((try(conv=>whnf));first|(apply qg (hP _))|(refine fB ?_)|(apply qX;(exact eM);exact rfl)|(refine q5Z (fun hc=> ?_) (fun hc=> ?_))|(refine qkQ ?_ ?_;omega)|(refine qkR ?_ ?_;omega)|(refine qkS ?_ ?_;omega)|(refine qkT ?_ ?_;omega))
      ·refine⟨i+1,⟨by omega,by omega⟩,by omega,?_,Ent.refl⟩
       rw[hs]
       exact(eF)
      ·omega
    ·repeat'((try(conv=>whnf));first|(apply qg (qmO _ _ c i))|(apply qX;(exact eM);exact rfl)|(refine q5Z (fun hc=> ?_) (fun hc=> ?_)))
     ·omega
     ·refine⟨q0N (vi ?_),eB⟩
      have e:i=b:=by omega
      rw[e,qoz h0.1 h0.2]
  ·omega
 ·repeat'((try(conv=>whnf));first|(apply qg (q8f _ _ c))|(refine qC ?_)|(refine q0D ?_)|(refine q3M ?_)|(apply qH;(exact eM);exact rfl)|(apply qX;(exact eM);exact rfl)|(refine qc (fun bk hbk=> ?_))|(refine q2p (fun hc=> ?_) (fun hc=> ?_))|(refine q5Z (fun hc=> ?_) (fun hc=> ?_)))
  all_goals first|(exfalso;omega)|exact⟨q0N (vi (qoq h0)),eB⟩
theorem qmZ(W0:World)(own:Own)(c:Cfg)(a:Int):qD Tryz.prog W0 134 [c.v, .int .u64 a] own (.int .i64 (q0a c a)):=by
 refine qe (qa qj qni (by simp[qmb]) ?_)
 have hB:=q6w c
 repeat'((try(conv=>whnf));first|(refine qc (fun bk hbk=> ?_)))
 refine q1N (σ:=Int) (fun k=> [(5, .int .i64 k)]) (fun k=>0≤k∧k≤qy c∧q7r c a (qy c-k).toNat k=q0a c a) (fun k=>(qy c-k).toNat) 0 ⟨by omega,by omega,by simp[q0a]⟩ (eF) rfl ?_
 rintro k junk ⟨hk0,hk1,hk⟩
 by_cases hlt:k<qy c
 ·have hf:=qf6 hk0 hlt
  have e:(qy c-k).toNat=(qy c-(k+1)).toNat+1:=by omega
  rw[e,q7r] at hk
  repeat'((try(conv=>whnf));first|(apply qg (q8f _ _ c))|(apply qg (sp_rfirst _ _ c k))|(refine fB ?_)|(refine fC ?_)|(apply qX;(exact eM);exact rfl)|(refine q5Z (fun hc=> ?_) (fun hc=> ?_)))
  ·rw[if_pos (by assumption)] at hk
   exact⟨q0N (vi hk),eB⟩
  ·rw[if_neg (by assumption)] at hk
   exact⟨k+1,⟨by omega,by omega,hk⟩,by omega,(eF),Ent.refl⟩
  ·omega
 ·repeat'((try(conv=>whnf));first|(apply qg (q8f _ _ c))|(apply qg (sp_rfirst _ _ c k))|(refine fB ?_)|(refine fC ?_)|(apply qX;(exact eM);exact rfl)|(refine q5Z (fun hc=> ?_) (fun hc=> ?_)))
  ·omega
  ·omega
  ·have e:(qy c-k).toNat=0:=by omega
   rw[e,q7r] at hk
   exact⟨q0N (vi hk),eB⟩
open Go Go.ChangeShapes Go.WideShapes Go.ChangeAt Go.RowKit
theorem qou{α:Type}{Q:Nat→α→Prop}:∀n,(∀i,i<n→∃y,Q i y)→∃l:List α,l.length=n∧∀i y,l[i]? =some y→Q i y
 |0,_=>⟨[],rfl,fun i y h=>by simp at h⟩
 |n+1,h=>by
  obtain⟨l,hl,hq⟩:=qou n (fun i hi=>h i (by omega))
  obtain⟨y,hy⟩:=h n (by omega)
  refine⟨l++ [y],by simp[hl],fun i z hz=> ?_⟩
  by_cases hi:i<l.length
  ·rw[List.getElem?_append_left hi] at hz
   exact hq i z hz
  ·rw[List.getElem?_append_right (by omega)] at hz
   have:i-l.length=0:=by
    by_cases h0:i-l.length=0
    ·exact h0
    ·rw[List.getElem?_eq_none (by simp;omega)] at hz;cases hz
   rw[this] at hz
   simp only[List.getElem?_cons_zero,Option.some.injEq] at hz
   subst hz
   have:i=n:=by omega
   subst this
   exact hy
section
variable{H:Type}{enc:TypeId×Value→H}{P:Program}{w:World}{spare:Nat→Bool}{held:Bool}
theorem qph{own:Own}{a:Addr}{v:Value}(h:w.cell? a=some v):Kn w own (fun w'=>w'.cell? a=some v):=fun w' hw=>by
 have hb:a.block<w.heap.size:=by
  unfold World.cell? at h
  split at h
  ·rename_i hb;exact(Array.getElem?_eq_some_iff.1 hb).1
  ·cases h
 exact(World.cell?_of_block (w:=w) (hw.base a.block hb)).trans h
theorem qpd{fuel:Nat}{t:TypeId}{cs:List Value}{x:DataW H×List MemPlace}{k:IntKind}(ht:P.underlying t=some (.int k))(h:DataW.trod enc P w 0 spare held fuel t cs=some x):∃n,cs= [.int k n]∧inK k n:=by
 obtain⟨n,rfl,_,hw⟩:=DataW.trod_int ht h
 refine⟨n,rfl,qos ?_⟩
 simp only[Lit.wf,Bool.and_eq_true,decide_eq_true_eq] at hw
 exact hw
def qqv(P:Program)(t:TypeId)(i:Nat):Option (Nat×TypeId):=match P.underlying t with
 |some (.struct fs)=>(fs[i]?).map fun f=>(f.offset,f.type)
 |_=>none
end
open Go Go.ChangeShapes Go.WideShapes Go.ChangeAt Go.RowKit
section
variable{H:Type}{enc:TypeId×Value→H}{P:Program}{w:World}{spare:Nat→Bool}{held:Bool}{q:Nat→Bool}
theorem qmI{t:TypeId}{ts:List TypeId}{d:DataW H}{ds:List (DataW H)}(h:(DataW.weightsEach P (t::ts) (d::ds)).all q=true):(d.weights P t).all q=true∧(DataW.weightsEach P ts ds).all q=true:=by
 simpa only[DataW.weightsEach,List.all_append,Bool.and_eq_true] using h
theorem qne{e:TypeId}:∀{E:List (DataW H)} {d:DataW H},(DataW.weightsAll P e E).all q=true→d∈E→(d.weights P e).all q=true
 | [],_,_,hd=>by cases hd
 |c::r,d,h,hd=>by
  simp only[DataW.weightsAll,List.all_append,Bool.and_eq_true] at h
  rcases List.mem_cons.1 hd with rfl|hd
  ·exact h.1
  ·exact qne h.2 hd
theorem qo8{α:Type}{en:α→List Value}{sz:Nat}{Φ:α→Prop}{fuel:Nat}{t e:TypeId}{cs:List Value}{x:DataW H×List MemPlace}(ht:P.underlying t=some (.slice e))(hsz:P.cellsOf e=sz)(hpos:0<sz)
  (hel:∀n cs x,DataW.trod enc P w 0 spare held n e cs=some x→(x.1.weights P e).all q=true→∃y,cs=en y∧Φ y) (h:DataW.trod enc P w 0 spare held fuel t cs=some x) (hw:(x.1.weights P t).all q=true):
  ∃a l cap,cs= [.slice a l.length cap]∧RdE en sz w [] a l∧(∀y∈l,Φ y)∧l.length≤cap∧(l= []∨∃k,q ((l.length+k)*P.bytesOf e)=true):=by
 rcases DataW.trod_slice ht h with ⟨rfl,_⟩|⟨a,len,cap,elems,rest,n,_,rfl,rfl,_,hl,_,hlen,hel',_⟩
 ·exact⟨none,[],0,rfl,RdE.nil,fun _ h=>(by cases h),by simp, .inl rfl⟩
 ·simp only[DataW.weights,ht,List.all_cons,List.all_append,Bool.and_eq_true,List.length_map] at hw
  obtain⟨hw1,hw2,_⟩:=hw
  have key:∀i,i<len→∃y,(w.cells? 0 (a.add (i*sz)) sz=some (en y))∧Φ y:=fun i hi=>by
   have:=hel' i hi
   rw[hsz] at this
   have hi':i<elems.length:=by omega
   rw[List.getElem?_eq_getElem hi',Option.bind_eq_some_iff] at this
   obtain⟨c,hc,hx⟩:=this
   obtain⟨y,rfl,hy⟩:=hel _ _ _ hx (qne hw2 (List.mem_map_of_mem (List.getElem_mem hi')))
   exact⟨y,hc,hy⟩
  obtain⟨l,hll,hq⟩:=qou len key
  have hget:∀{j k:Nat} {y:α} {v:Value},l[j]? =some y→(en y)[k]? =some v→w.cell? ((a.add (j*sz)).add k)=some v∧(en y).length=sz:=fun{j k y v} hy hv=>by
   obtain⟨hc,_⟩:=hq j y hy
   obtain⟨_,hlen,hget⟩:=World.cells?_some hc
   have hk:=(List.getElem?_eq_some_iff.1 hv).1
   exact⟨(hget k (by omega)).trans hv,hlen⟩
  have hspot:l≠ []→a.spot=none:=fun hne=>by
   cases l with
   |nil=>exact absurd rfl hne
   |cons y r=>
    obtain⟨hc,_⟩:=hq 0 y rfl
    obtain⟨_,hlen,hget⟩:=World.cells?_some hc
    have h0:=hget 0 hpos
    rw[List.getElem?_eq_getElem (by omega)] at h0
    rw[Nat.zero_mul] at h0
    have e0:(a.add 0).add 0=a:=by simp[Addr.add]
    rw[e0] at h0
    unfold World.cell? at h0
    split at h0
    ·split at h0
     ·cases h0
     ·rename_i hs;simpa using hs
    ·cases h0
  refine⟨some a,l,cap,by rw[hll],⟨fun hne=> ?_,fun y hy=> ?_,fun{j k y v} hy hv=> ?_⟩,fun y hy=> ?_,by omega, .inr ⟨rest.length,by rw[hll,←hlen];exact hw1⟩⟩
  ·have:=hspot hne
   obtain⟨b,o,s⟩:=a
   simp only at this
   subst this
   rfl
  ·obtain⟨i,hi⟩:=List.getElem?_of_mem hy
   obtain⟨hc,_⟩:=hq i y hi
   exact(World.cells?_some hc).2.1
  ·obtain⟨hc,_⟩:=hget hy hv
   have hs:=hspot (by intro e;subst e;simp at hy)
   have he:(a.add (j*sz)).add k=⟨ab (some a),ao (some a)+j*sz+k,none⟩:=by
    obtain⟨b,o,s⟩:=a
    simp only at hs
    subst hs
    rw[qI,qI]
    rfl
   rw[he] at hc
   exact qph hc
  ·obtain⟨i,hi⟩:=List.getElem?_of_mem hy
   exact(hq i y hi).2
end
section
variable{H:Type}{enc:TypeId×Value→H}{w:World}{spare:Nat→Bool}{held:Bool}{v:Value}{d:DataW H}{p:List MemPlace}
theorem qqb{cs:Array Value}{v x:Value}(h:v.cells=cs)(hc:cs.toList= [x])(hx:∀a,v≠ .agg a):v=x:=by
 unfold Value.cells at h
 split at h
 ·rename_i a;exact absurd rfl (hx a)
 ·subst h;simpa using hc
theorem qoC{P:Program}{w:World}{b0:Nat}{t e:TypeId}{v:Value}(ht:P.underlying t=some (.slice e))(h:Value.okWide P w .any b0 t v):∀a,v≠ .agg a:=by
 intro a e
 subst e
 simp only[Value.okWide,ht,Cell.okWide,Cell.ok] at h
theorem qqa{fuel:Nat}{cs:List Value}{x:DataW H×List MemPlace}(h:DataW.trod enc Tryz.prog w 0 spare held fuel 23 cs=some x)(hw:(x.1.weights Tryz.prog 23).all (· ≤reachBytes)=true):
  ∃a l cap,cs= [.slice a (List.length l) cap]∧RdE qM 1 w [] a l∧l.length≤17592186043904:=by
 obtain⟨a,l,cap,e,hr,_,_,hk⟩:=qo8 (q:=(· ≤reachBytes)) (en:=qM) (sz:=1) (Φ:=fun _=>True) Tryz.underlying23 (by kernel_rfl) (by omega) (fun n cs x h _=>by
  obtain⟨n,rfl,_⟩:=qpd Tryz.underlying3 h
  exact⟨n,rfl,trivial⟩) h hw
 refine⟨a,l,cap,e,hr,?_⟩
 rcases hk with rfl|⟨k,hk⟩
 ·simp
 ·have h8:Tryz.prog.bytesOf 3=8:=by kernel_rfl
  rw[h8] at hk
  have hk:=of_decide_eq_true hk
  have h9:reachBytes=140737488351232:=rfl
  rw[h9] at hk
  omega
theorem qqw{b0:Nat}(hv:Value.okWide Tryz.prog w .any b0 22 v)(ht:DataW.Trod enc Tryz.prog w 0 spare held 22 v d p)(hw:(d.weights Tryz.prog 22).all (· ≤reachBytes)=true):
  ∃a l cap,v= .slice a (List.length l) cap∧RdE IH.enc 1 w [] a l∧l.length≤17592186043904∧∀h∈l,RdE qM 1 w [] h.a h.l∧h.l.length≤17592186043904:=by
 obtain⟨fuel,h⟩:=ht
 obtain⟨a,l,cap,e,hr,hq,_,hk⟩:=qo8 (q:=(· ≤reachBytes)) (en:=IH.enc) (sz:=1) (Φ:=fun y:IH=>RdE qM 1 w [] y.a y.l∧y.l.length≤17592186043904) Tryz.underlying22 (by kernel_rfl) (by omega) (fun n cs x h hw=>by
  obtain⟨a,l,cap,rfl,hr,hl⟩:=qqa h hw
  exact⟨⟨a,cap,l⟩,rfl,hr,hl⟩) h hw
 refine⟨a,l,cap,qqb rfl e (qoC Tryz.underlying22 hv),hr,?_,hq⟩
 rcases hk with rfl|⟨k,hk⟩
 ·simp
 ·have h8:Tryz.prog.bytesOf 23=24:=by kernel_rfl
  rw[h8] at hk
  have hk:=of_decide_eq_true hk
  have h9:reachBytes=140737488351232:=rfl
  rw[h9] at hk
  omega
end
open Go
section
variable{W0:World}{own:Own}
variable{a:Option Addr}{l:List Int}{cap:Nat}
theorem qnD(hR:RdE qM 1 W0 own a l)(hl:l.length≤1000000000)(x:Int):qD Tryz.prog W0 112 [.slice a l.length cap, .int .i64 x] own (.bool (decide (x∈l))):=by
 refine qe (qa qj qnm (by simp[qmw]) ?_)
 have hm:=qbg x l 0
 generalize hres:qeB x l 0=res at*
 refine q1N (σ:=Nat) (fun k=> [(5, .int .i64 k)]) (fun k=>k≤l.length∧qeB x (l.drop k) k=res) (fun k=>l.length-k) 0 ⟨by omega,hres⟩ (eF) rfl ?_
 rintro k junk ⟨hk,hI⟩
 by_cases hlt:k<l.length
 ·obtain⟨y,hy⟩:∃y,l[k]? =some y:=⟨_,List.getElem?_eq_getElem hlt⟩
  have hlt':(k:Int)<l.length:=by omega
  rw[q4I hy,qeB] at hI
  by_cases he:x=y
  ·rw[if_pos he] at hI
   have he':y=x:=he.symm
   repeat'((try(conv=>whnf));first|(refine fF ?_)|((with_reducible show Ld _ _ _ _);first|(refine q1M hR hy rfl ?_))|((with_reducible show IxS _ _ _ _ _);first|((refine ixE hR hy ?_ ?_;(first|rfl|omega)))))
   exact⟨q0N (vb (dt (hm.1 (by omega)))),(eC)⟩
  ·rw[if_neg he] at hI
   have he':¬y=x:=fun h=>he h.symm
   repeat'((try(conv=>whnf));first|(refine fF ?_)|(refine fG ?_)|((with_reducible show Ld _ _ _ _);first|(refine q1M hR hy rfl ?_))|((with_reducible show IxS _ _ _ _ _);first|((refine ixE hR hy ?_ ?_;(first|rfl|omega))))|(refine fB ?_))
   exact⟨k+1,⟨by omega,hI⟩,by omega,(eF),Ent.refl⟩
 ·have hlt':¬(k:Int)<l.length:=by omega
  obtain rfl:k=l.length:=by omega
  rw[List.drop_length,qeB] at hI
  repeat'((try(conv=>whnf));first|(refine fG ?_))
  exact⟨q0N (vb (df (fun h=>by have:=hm.2 h;omega))),(eC)⟩
end
open Go
theorem qpk{c:Cfg}{P:List (List Ins)}{s:GS}{ch:ChM}(h:(doM c P s ch).1≠0):doM c P s ch=(70,s):=by
 unfold doM at h ⊢
 split at h
 ·exact absurd rfl h
 ·rfl
theorem qqE{c:Cfg}{P:List (List Ins)}{s:GS}{ch:ChM}(h:(doM c P s ch).1=0):(doM c P s ch).2.n=s.n+1:=by
 unfold doM at h ⊢
 cases hs:chM c P s ch with
 |none=>rw[hs] at h;exact absurd (show(70:Int)=0 from h) (by decide)
 |some s'=>rfl
abbrev qqp:Value:= .agg #[.slice none 0 0, .slice none 0 0, .slice none 0 0, .slice none 0 0]
theorem qpK{W0:World}{b d:Nat×(Obj→Prop)}{A Z:Own}:Ent W0 (b::(d::(A++Z))) ([b,d]++(A++Z)):=Ent.refl
theorem qpL{W0:World}{b d:Nat×(Obj→Prop)}{R A B Z:Own}:Ent W0 (b::(d::((R++A)++(B++Z)))) (R++Z):=qo (b::d::(A++B))
theorem qpM{W0:World}{b d:Nat×(Obj→Prop)}{Z:Own}:Ent W0 (b::(d::Z)) ([b,d]++Z):=Ent.refl
theorem qpN{W0:World}{b d:Nat×(Obj→Prop)}{A B Z:Own}:Ent W0 (A++(B++([b,d]++Z))) (b::(d::(A++(B++Z)))):=qo []
theorem qnQ:∀(ps:List PH) (t:Nat),(∀h∈ps,qx h.p=(0,0))→psG ps t=none
 | [],_,_=>rfl
 |x::l,t,h=>by
  unfold psG
  rw[h x List.mem_cons_self,if_neg (by simp)]
  exact qnQ l (t+1) fun y hy=>h y (List.mem_cons_of_mem _ hy)
theorem MS.ok.cs0{m:MS}{st:Bool}(h:m.ok st):csM m.c m.il.length (m.ps.map PB.h) []=(0,0,0):=by
 unfold csM
 have hp:=h.pl
 rw[if_neg (by rw[h.c0];simp),if_neg (by rw[List.length_map];omega),if_neg (by rw[h.il];simp),qnQ _ _ fun y hy=>by
  obtain⟨x,hx,rfl⟩:=List.mem_map.1 hy
  exact(h.q x hx).2]
 rfl
theorem MS.ok.pl16{m:MS}{st:Bool}(h:m.ok st):m.P.length≤16:=by
 have hp:=h.pl
 simp only[List.length_map]
 omega
section
variable{W0:World}{m:MS}{st:Bool}
theorem MS.ok.rp(h:m.ok st):RdE PH.enc 1 W0 (m.O) m.pa (m.ps.map PB.h):=h.p.rd.ent (qo (m.Dk++(q9L m.ps++m.Di)) fun a=>by simp only[MS.O,q2k];omega)
theorem MS.ok.ri(h:m.ok st):RdE q7j 1 W0 (m.O) m.ia m.il:=h.i.rd.ent (qo (m.Dk++(m.Dp++q9L m.ps)) fun a=>by simp only[MS.O,q2k];omega)
theorem MS.ok.rq(h:m.ok st):∀x∈m.ps.map PB.h,RdE Ins.enc 5 W0 (m.O) x.a x.p:=fun y hy=>by
 obtain⟨x,hx,rfl⟩:=List.mem_map.1 hy
 have:=qhO (kD:= []) hx ((h.q x hx).1.rd (W0:=W0))
 exact this.ent (qo (m.Dk++(m.Dp++m.Di)) fun a=>by simp only[MS.O,q2k,q6C];omega)
end
open Go
section
variable{α:Type}{g:SS→α→SS}
theorem qnq(hg:∀x a,x.stop=true→g x a=x):∀(l:List α) (x:SS),(l.foldl g x).stop=false→x.stop=false∧∀a∈l,∃y,y.stop=false∧(g y a).stop=false
 | [],_,h=>⟨h,fun _ h=>(by cases h)⟩
 |a::l,x,h=>by
  rw[List.foldl_cons] at h
  obtain⟨h1,h2⟩:=qnq hg l (g x a) h
  have hx:x.stop=false:=by
   cases hs:x.stop with
   |false=>rfl
   |true=>rw[hg x a hs,hs] at h1;cases h1
  refine⟨hx,fun b hb=> ?_⟩
  rcases List.mem_cons.1 hb with rfl|hb
  ·exact⟨x,hx,h1⟩
  ·exact h2 b hb
theorem qnN(hg:∀x a,x.stop=true→g x a=x):∀(l:List α) (x:SS),x.stop=false→(l.foldl g x).stop=true→∃a∈l,∃y,y.stop=false∧g y a=l.foldl g x
 | [],x,hx,h=>by rw[List.foldl_nil,hx] at h;cases h
 |a::l,x,hx,h=>by
  rw[List.foldl_cons] at h ⊢
  cases hs:(g x a).stop with
  |true=>exact⟨a,List.mem_cons_self,x,hx,(q2w hg l _ hs).symm⟩
  |false=>
   obtain⟨b,hb,y,hy,he⟩:=qnN hg l (g x a) hs h
   exact⟨b,List.mem_cons_of_mem _ hb,y,hy,he⟩
end
theorem qnK{x:SS}(h:x.racy=true):x.stop=true:=by unfold SS.stop;rw[h];rfl
section
variable{rc:List EvM→Bool}{c:Cfg}{P:List (List Ins)}{fo:List Int}{lim:Int}
theorem qnx:∀(n:Nat) (s:GS) (l:List ChM) (x:SS),x.stop=false→(q7L rc c P fo lim n s l x).racy=true→∃s',qex c P fo s l s' (q7L rc c P fo lim n s l x).found∧rc s'.E=true
 |0,s,l,x,hx,h=>by
  have h':x.racy=true:=h
  rw[(q5T hx).1] at h'
  cases h'
 |n+1,s,l,x,hx,h=>by
  unfold q7L at h ⊢
  by_cases hd:q6E s=true
  ·rw[if_pos hd] at h ⊢
   unfold qey at h ⊢
   split at h
   ·have h':x.racy=true:=h
    rw[(q5T hx).1] at h'
    cases h'
   ·rename_i hl
    rw[if_neg hl]
    split at h
    ·rename_i hr
     rw[if_pos hr]
     exact⟨s, .done hd,hr⟩
    ·have h':x.racy=true:=h
     rw[(q5T hx).1] at h'
     cases h'
  ·rw[if_neg hd] at h ⊢
   obtain⟨t,ht,y,hy,he⟩:=qnN (fun x a hs=>by rw[if_pos hs]) _ x hx (qnK h)
   rw[←he] at h ⊢
   have htl:=List.mem_range.1 ht
   rw[if_neg (by rw[hy];simp)] at h ⊢
   split at h
   ·rw[(q5T hy).1] at h
    cases h
   ·rename_i hdn
    rw[if_neg hdn]
    have hdn':dnB s t=false:=by simpa using hdn
    split at h
    ·rename_i ha
     rw[if_pos ha]
     obtain⟨s',h1,h2⟩:=qnx n _ _ y hy h
     exact⟨s', .loc htl hdn' ha h1,h2⟩
    ·rename_i ha
     rw[if_neg ha]
     have ha':dnB (q1t c P t 64 s l).1 t=false:=by simpa using ha
     obtain⟨k,hk,z,hz,he2⟩:=qnN (fun x a hs=>by rw[if_pos hs]) _ y hy (qnK h)
     rw[←he2] at h ⊢
     rw[if_neg (by rw[hz];simp)] at h ⊢
     obtain⟨s',h1,h2⟩:=qnx n _ _ z hz h
     exact⟨s', .step htl hdn' ha' hk h1,h2⟩
theorem qnY(hna:qfn P)(hfo:∀k∈fo,3≤k∧k≤6):∀(n:Nat) (s:GS) (l:List ChM) (x:SS),GOk c P s→q1n P s<n→(q7L rc c P fo lim n s l x).stop=false→∀s' l',qex c P fo s l s' l'→rc s'.E=false
 |0,_,_,_,_,hn,_,_,_,_=>absurd hn (by omega)
 |n+1,s,l,x,hG,hn,h,s',l',hL=>by
  unfold q7L at h
  cases hL with
  |done hd=>
   rw[if_pos hd] at h
   unfold qey at h
   split at h
   ·have:=(q5T h).2
    cases this
   ·split at h
    ·have:=(q5T h).1
     cases this
    ·rename_i hr
     simpa using hr
  | @loc _ _ _ _ t ht hd ha hL=>
   rw[if_neg (by rw[qfo ht hd];simp)] at h
   obtain⟨-,h2⟩:=qnq (fun x a hs=>by rw[if_pos hs]) _ x h
   obtain⟨y,hy,h3⟩:=h2 t (List.mem_range.2 ht)
   rw[if_neg (by rw[hy];simp),if_neg (by rw[hd];simp),if_pos ha] at h3
   obtain⟨g1,g2,g3,g4, -⟩:=qg3 (t:=t) hna 64 s l hG
   refine qnY hna hfo n _ _ y g1 ?_ h3 s' l' hL
   rcases g4 with g4|g4
   ·rw[g4] at ha
    rw[hd] at ha
    cases ha
   ·omega
  | @step _ _ _ _ t k ht hd ha hk hL=>
   rw[if_neg (by rw[qfo ht hd];simp)] at h
   obtain⟨-,h2⟩:=qnq (fun x a hs=>by rw[if_pos hs]) _ x h
   obtain⟨y,hy,h3⟩:=h2 t (List.mem_range.2 ht)
   rw[if_neg (by rw[hy];simp),if_neg (by rw[hd];simp),if_neg (by rw[ha];simp)] at h3
   obtain⟨-,h4⟩:=qnq (fun x a hs=>by rw[if_pos hs]) _ y h3
   obtain⟨z,hz,h5⟩:=h4 k hk
   rw[if_neg (by rw[hz];simp)] at h5
   obtain⟨g1,g2,g3,g4, -⟩:=qg3 (t:=t) hna 64 s l hG
   obtain⟨i,hi⟩:=qh2 g1 ha
   obtain⟨-,m1,m2,m3,m4,m5⟩:=q3Z g1 hna hi (k:=k) (by
    rcases qag hfo hk with hk|⟨j,hj,h7,hk⟩
    ·exact .inl hk
    ·rw[hi] at hj
     obtain rfl:=Option.some.inj hj
     exact .inr ⟨h7,hk⟩)
   refine qnY hna hfo n _ _ z m1 ?_ h5 s' l' hL
   rcases g4 with g4|g4
   ·rw[g4] at m5 ⊢;exact Nat.lt_of_lt_of_le m5 (Nat.le_of_lt_succ hn)
   ·omega
end
open Go
section
variable{W0:World}{own:Own}{b o:Nat}{T:TypeId}{pre post:List Value}{t:Thr}
theorem qmA{off n:Nat}{v:Int}{K:Own→Prop}{C:(Obj→Prop)→Own} [m:UpC b (fun o=>o=Obj.cells (pre++(t.enc++post)).toArray T (0,0)) own C](hv:v=n)(ho:off=pre.length)
  (h:K (C fun o=>o=Obj.cells (pre++(({t with pc:=n}:Thr).enc++post)).toArray T (0,0))):StT W0 own ⟨b,off,none⟩ (.int .i64 v) K:=by
 subst hv
 exact qjZ (t:=t) (k:=0) {t with pc:=n} (by omega) rfl rfl (by omega) h
theorem q8{x:Ins}(hl:isL x=false)(r:Own):qD Tryz.prog W0 108 [.pointer (some ⟨b,o,none⟩),x.v] r (.bool false):=by
 refine qe (qa qj qmy (by simp[qlS]) ?_)
 obtain⟨op,a,b',c,imm⟩:=x
 have h:=of_decide_eq_false hl
 dsimp only at h
 have h0:op≠0:=by omega
 have h1:op≠1:=by omega
 have h2:op≠2:=by omega
 have h3:op≠3:=by omega
 have h4:op≠4:=by omega
 have h5:op≠5:=by omega
 have h6:op≠6:=by omega
 have h17:op≠17:=by omega
 clear hl h
 dsimp only[Ins.v] at*
 repeat'((try(conv=>whnf));first|(refine fG ?_)|(refine fA ?_)|(refine qc (fun bk hbk=> ?_)))
 exact⟨rfl,(eC)⟩
theorem qnc{x:Ins}(hx:qv x=0)(hl:isL x=true)(ht:t.rg.ok)(hp:t.pc≤64)(ho:o=pre.length)(r:Own):
  q0E Tryz.prog W0 108 [.pointer (some ⟨b,o,none⟩),x.v] ([thB b T pre post t]++r) fun v own'=>∃_:Unit,v= .bool true∧Ent W0 own' ([thB b T pre post (q6a t x)]++r):=by
 refine qil (qa qj qmy (by simp[qlS]) ?_)
 subst ho
 obtain⟨h0,hA,hB,hC,hI,_⟩:=q2l hx
 clear hx
 have hlo:=of_decide_eq_true hl
 clear hl
 obtain⟨op,a,b',c,imm⟩:=x
 dsimp only[Ins.v] at*
 have hu:=fun k=>ht k
 by_cases h1:op=1
 ·subst h1
  have ha:=hA rfl
  have ha':a.toNat<8:=by omega
  clear hA hB hC hI hlo
  repeat'((try(conv=>whnf));first|(refine fE ?_)|(refine fD ?_)|(refine arw (k:= .u64) ?_)|(refine qa1 (t:=t) ha' ?_ ?_;omega)|(refine q8F (t:={t with rg:=t.rg.set a.toNat (qcy imm)}) (k:=0) (v:= .int .i64 t.pc) rfl ?_ ?_;omega)|(refine qmA (t:={t with rg:=t.rg.set a.toNat (qcy imm)}) (n:=t.pc+1) ?_ ?_ ?_;(omega);(omega))|(refine fB ?_)|(refine fP ?_)|(refine fA ?_)|(refine qc (fun bk hbk=> ?_)))
  exact⟨rfl,(eC)⟩
 by_cases h2:op=2
 ·subst h2
  have ha:=hA rfl
  have ha':a.toNat<8:=by omega
  have hb:=hB rfl
  have hb':b'.toNat<8:=by omega
  clear hA hB hC hI hlo
  repeat'((try(conv=>whnf));first|(refine fE ?_)|(refine fD ?_)|(refine q4D (t:=t) hb' ?_ ?_;omega)|(refine qa1 (t:=t) ha' ?_ ?_;omega)|(refine q8F (t:={t with rg:=t.rg.set a.toNat (t.rg.get b'.toNat)}) (k:=0) (v:= .int .i64 t.pc) rfl ?_ ?_;omega)|(refine qmA (t:={t with rg:=t.rg.set a.toNat (t.rg.get b'.toNat)}) (n:=t.pc+1) ?_ ?_ ?_;(omega);(omega))|(refine fB ?_)|(refine fP ?_)|(refine fA ?_)|(refine qc (fun bk hbk=> ?_)))
  exact⟨rfl,(eC)⟩
 by_cases h3:op=3
 ·subst h3
  have ha:=hA rfl
  have ha':a.toNat<8:=by omega
  have hb:=hB rfl
  have hb':b'.toNat<8:=by omega
  have hc:=hC rfl
  have hc':c.toNat<8:=by omega
  clear hA hB hC hI hlo
  have hap:=fun own=>Alu.sp_rapply W0 own imm (t.rg.get b'.toNat) (t.rg.get c.toNat) (ht _) (ht _)
  repeat'((try(conv=>whnf));first|(refine fE ?_)|(refine fD ?_)|(refine q4D (t:=t) hb' ?_ ?_;omega)|(refine q4D (t:=t) hc' ?_ ?_;omega)|(refine qa1 (t:=t) ha' ?_ ?_;omega)|(refine q8F (t:={t with rg:=t.rg.set a.toNat (Alu.applyW imm (t.rg.get b'.toNat) (t.rg.get c.toNat))}) (k:=0) (v:= .int .i64 t.pc) rfl ?_ ?_;omega)|(refine qmA (t:={t with rg:=t.rg.set a.toNat (Alu.applyW imm (t.rg.get b'.toNat) (t.rg.get c.toNat))}) (n:=t.pc+1) ?_ ?_ ?_;(omega);(omega))|((with_reducible show q0b _ _ _ _ _ _);first|((refine q4G (fun _=>hap _) ?_ ?_ ?_;(exact rfl);exact rfl)))|(refine fB ?_)|(refine fO ?_)|(refine fP ?_)|(refine fA ?_)|(refine qc (fun bk hbk=> ?_)))
  exact⟨rfl,(eC)⟩
 by_cases h17:op=17
 ·subst h17
  have ha:=hA rfl
  have ha':a.toNat<8:=by omega
  clear hA hB hC hI hlo
  repeat'((try(conv=>whnf));first|(refine fE ?_)|(refine fD ?_)|(refine arw (k:= .u64) ?_)|(refine q8F (t:=t) (k:=9) rfl ?_ ?_;omega)|(refine qa1 (t:=t) ha' ?_ ?_;omega)|(refine q8F (t:={t with rg:=t.rg.set a.toNat (qcy t.oc)}) (k:=0) (v:= .int .i64 t.pc) rfl ?_ ?_;omega)|(refine qmA (t:={t with rg:=t.rg.set a.toNat (qcy t.oc)}) (n:=t.pc+1) ?_ ?_ ?_;(omega);(omega))|(refine fB ?_)|(refine fP ?_)|(refine fA ?_)|(refine qc (fun bk hbk=> ?_)))
  exact⟨rfl,(eC)⟩
 have hR:q85 t ⟨op,a,b',c,imm⟩=t.rg:=by unfold q85;rw[if_neg h1,if_neg h2,if_neg h3,if_neg h17]
 by_cases h4:op=4
 ·subst h4
  have hi:=hI (.inl rfl)
  clear hA hB hC hI hlo
  repeat'((try(conv=>whnf));first|(refine fE ?_)|(refine fD ?_)|(refine q8F (t:=t) (k:=0) (v:= .int .i64 t.pc) rfl ?_ ?_;omega)|(refine qmA (t:=t) (n:=t.pc+1+imm.toNat) ?_ ?_ ?_;(omega);(omega))|(refine fB ?_)|(refine fA ?_)|(refine qc (fun bk hbk=> ?_)))
  exact⟨rfl,(eC)⟩
 by_cases h56:op=5∨op=6
 ·have hi:=hI (.inr h56)
  have ha:0≤a∧a<8:=hA (by rcases h56 with rfl|rfl <;>rfl)
  have ha':a.toNat<8:=by omega
  clear hA hB hC hI hlo
  have hP:q6a t ⟨op,a,b',c,imm⟩={t with pc:=if(op=5∧t.rg.get a.toNat=0)∨(op=6∧t.rg.get a.toNat≠0) then t.pc+1+imm.toNat else t.pc+1}:=by unfold q6a;rw[hR];unfold q60;simp[h4]
  rw[hP]
  by_cases hz:t.rg.get a.toNat=0
  all_goals
   rcases h56 with rfl|rfl
   all_goals
    simp only[hz,ne_eq,not_true_eq_false,not_false_eq_true,and_true,and_false,or_false,or_true,if_true,if_false,Int.reduceEq]
    repeat'((try(conv=>whnf));first|(refine fE ?_)|(refine fD ?_)|(refine fF ?_)|(refine fG ?_)|(refine q4D (t:=t) ha' ?_ ?_;omega)|(refine q8F (t:=t) (k:=0) (v:= .int .i64 t.pc) rfl ?_ ?_;omega)|(refine qmA (t:=t) (n:=t.pc+1+imm.toNat) ?_ ?_ ?_;(omega);(omega))|(refine qmA (t:=t) (n:=t.pc+1) ?_ ?_ ?_;(omega);(omega))|(refine fB ?_)|(refine fP ?_)|(refine fA ?_)|(refine qc (fun bk hbk=> ?_)))
    exact⟨rfl,(eC)⟩
 ·have h0':op=0:=by omega
  subst h0'
  clear hA hB hC hI hlo
  repeat'((try(conv=>whnf));first|(refine fE ?_)|(refine q8F (t:=t) (k:=0) (v:= .int .i64 t.pc) rfl ?_ ?_;omega)|(refine qmA (t:=t) (n:=t.pc+1) ?_ ?_ ?_;(omega);(omega))|(refine fB ?_)|(refine fA ?_)|(refine qc (fun bk hbk=> ?_)))
  exact⟨rfl,(eC)⟩
end
open Go
abbrev qmu(b:Bool):List Value:= [.bool b]
structure DP where
 rb:Nat
 iv:Value
 pa:Option Addr
 pc:Nat
 kv:Value
 da:Option Addr
 dc:Nat
 dD:Own
 ka:Option Addr
 kc:Nat
 kD:Own
 ta:Option Addr
 tc:Nat
 tD:Own
 ea:Option Addr
 ec:Nat
 eD:Own
 L:List EH
 X:Own
 oa:Option Addr
 oc:Nat
 oD:Own
 S:List ObS
abbrev DP.cells(g:DP)(c:Cfg)(np:Nat)(s:GS):List Value:=cfL c [g.iv, .slice g.pa np g.pc,g.kv, .slice g.da s.d.length g.dc, .slice g.ka s.tk.length g.kc, .slice g.ta s.T.length g.tc, .slice g.ea g.L.length g.ec, .slice g.oa g.S.length g.oc, .int .i64 s.n]
abbrev DP.O(g:DP)(c:Cfg)(np:Nat)(s:GS):Own:=(g.rb,fun o=>o=Obj.cells (g.cells c np s).toArray 106 (0,0))::(g.dD++(g.kD++(g.tD++(g.eD++(g.oD++(q5q g.S++g.X))))))
structure DP.ok(g:DP)(W0:World)(Kp:Own)(ps:List PH)(s:GS):Prop where
 d:qr q7j 58 1 g.da g.dc s.d g.dD
 m:qr qmu 4 1 g.ka g.kc s.tk g.kD
 k:RdE PH.enc 1 W0 Kp g.pa ps
 kp:∀h∈ps,RdE Ins.enc 5 W0 Kp h.a h.p
 t:qr Thr.enc 61 11 g.ta g.tc s.T g.tD
 e:qr EH.enc 116 6 g.ea g.ec g.L g.eD
 em:g.L.map EH.m=s.E
 ev:∀e∈g.L,RdE qM 1 W0 g.X e.ra e.rl∧RdE qM 1 W0 g.X e.wa e.wl
 o:qr ObS.enc 124 1 g.oa g.oc g.S g.oD
 os:∀x∈g.S,qr ObM.enc 127 3 x.a x.cap x.l x.D
 ol:g.S.map ObS.l=s.O
theorem DP.ok.ot{g:DP}{W0:World}{Kp:Own}{ps:List PH}{s:GS}(h:g.ok W0 Kp ps s){t:Nat}{x:ObS}(hx:g.S[t]? =some x):s.O.getD t []=x.l:=by
 rw[←h.ol]
 simp[List.getD,hx]
theorem DP.ok.obs{g:DP}{W0:World}{Kp:Own}{ps:List PH}{s:GS}(h:g.ok W0 Kp ps s){t:Nat}{x:ObS}(hx:g.S[t]? =some x){a:Option Addr}{cap:Nat}{D D':Own}{l:List ObM}(hb:qr ObM.enc 127 3 a cap (x.l++l) D)(hb2:qr ObS.enc 124 1 g.oa g.oc (g.S.set t ⟨a,cap,x.l++l,D⟩) D'):
  ({g with oD:=D',S:=g.S.set t ⟨a,cap,x.l++l,D⟩}:DP).ok W0 Kp ps {s with O:=s.O.set t (s.O.getD t []++l)}:=by
 refine⟨h.d,h.m,h.k,h.kp,h.t,h.e,h.em,h.ev,hb2,fun y hy=> ?_,?_⟩
 ·rcases List.mem_or_eq_of_mem_set hy with hy|rfl
  ·exact h.os y hy
  ·exact hb
 ·rw[h.ot hx,←h.ol,List.map_set]
section
variable{W0:World}{Kp:Own}{g:DP}{c:Cfg}{ps:List PH}{s:GS}
theorem qmz(h:g.ok W0 Kp ps s){t:Nat}(ht:t<g.S.length)(hl:∀l∈s.O,l.length≤1000000)(pc:Nat)(k v:Int)(q:Own):
  q0E Tryz.prog W0 105 [.pointer (some ⟨g.rb,0,none⟩), .int .i64 t, .int .i64 pc, .int .i64 k, .int .u64 v] (g.O c ps.length s++q) fun _ own'=>∃g':DP,
   (g'.ok W0 Kp ps {s with O:=s.O.set t (s.O.getD t []++ [⟨pc,k,v⟩])}∧g'={g with oD:=g'.oD,S:=g'.S}∧g'.S.length=g.S.length)∧Ent W0 own' (g'.O c ps.length {s with O:=s.O.set t (s.O.getD t []++ [⟨pc,k,v⟩])}++q):=by
 obtain⟨x,hx⟩:∃x,g.S[t]? =some x:=⟨_,List.getElem?_eq_getElem ht⟩
 have hxm:=List.mem_of_getElem? hx
 have hB:=h.os x hxm
 have hxl:x.l.length≤1000000:=hl x.l (by rw[←h.ol];exact List.mem_map_of_mem hxm)
 have hO:=h.o
 have hOR:=hO.rd (W0:=W0)
 refine qa qj qmC (by simp[q11]) ?_
 dsimp only[DP.O]
 rw[q3k hx]
 repeat'((try(conv=>whnf));first|(apply q69 (enc:=ObM.enc) (T:=127) ⟨pc,k,v⟩ hB;(exact rfl);(exact rfl);(omega);(exact rfl);(exact rfl);(omega);intro a1 c1 D1 hb1)|(apply q5Q (enc:=ObS.enc) (T:=124) (j:=t) (k:=0) ⟨a1,c1,x.l++ [⟨pc,k,v⟩],D1⟩ hO hx;(exact rfl);(omega);(simp only[ObS.enc,List.length_append,List.length_cons,List.length_nil,Nat.zero_add];exact rfl);(exact rfl);intro D2 hb2)|((with_reducible show Ld _ _ _ _);first|(refine q1M hOR hx rfl ?_))|((with_reducible show IxS _ _ _ _ _);first|((refine ixE hOR hx ?_ ?_;(first|rfl|omega))))|(refine fA ?_)|(refine qc (fun bk hbk=> ?_))|(refine q4T.mk ?_ ?_))
 all_goals
  refine⟨{g with oD:=D2,S:=g.S.set t ⟨a1,c1,x.l++ [⟨pc,k,v⟩],D1⟩},⟨h.obs hx hb1 hb2,rfl,List.length_set ..⟩,?_⟩
  dsimp only[DP.O,DP.cells]
  rw[qbr hx,List.length_set]
  exact(eC)
theorem qpY{e:Nat×(Obj→Prop)}{D A B C E F S X q:Own}:Ent W0 (D++((e::(A++(B++(C++(E++(F++(S++X)))))))++q)) ((e::(A++(B++(C++(E++(F++(S++(D++X))))))))++q):=qo []
theorem DP.perm_X{D:Own}{q:Own}:Ent W0 (D++(g.O c ps.length s++q)) (({g with X:=D++g.X}:DP).O c ps.length s++q):=by
 dsimp only[DP.O]
 exact qpY
theorem qmo(h:g.ok W0 Kp ps s)(t k w:Int){ra wa:Option Addr}{rl wl:List Int}{rc wc:Nat}(h1:RdE qM 1 W0 g.X ra rl)(h2:RdE qM 1 W0 g.X wa wl)(hl:s.E.length≤1000000)(q:Own):
  q0E Tryz.prog W0 107 [.pointer (some ⟨g.rb,0,none⟩), .int .i64 t, .int .i64 k, .int .i64 w, .slice ra rl.length rc, .slice wa wl.length wc] (g.O c ps.length s++q) fun _ own'=>∃g':DP,
   (g'.ok W0 Kp ps (s.ev [⟨s.n,t,k,w,rl,wl⟩])∧g'={g with ea:=g'.ea,ec:=g'.ec,eD:=g'.eD,L:=g'.L})∧Ent W0 own' (g'.O c ps.length (s.ev [⟨s.n,t,k,w,rl,wl⟩])++q):=by
 refine qa qj qms (by simp[qs]) ?_
 have hE:=h.e
 have hLl:g.L.length≤1000000:=by rw[←h.em,List.length_map] at hl;exact hl
 dsimp only[DP.O]
 repeat'((try(conv=>whnf));first|(apply q69 (enc:=EH.enc) (T:=116) ⟨s.n,t,k,w,ra,rl,rc,wa,wl,wc⟩ hE;(exact rfl);(exact rfl);(omega);(exact rfl);(exact rfl);(omega);intro a1 c1 D1 hb1)|(refine fA ?_)|(refine fN ?_)|(refine qc (fun bk hbk=> ?_)))
 refine⟨{g with ea:=a1,ec:=c1,eD:=D1,L:=g.L++ [⟨s.n,t,k,w,ra,rl,rc,wa,wl,wc⟩]},⟨⟨h.d,h.m,h.k,h.kp,h.t,hb1,?_,fun y hy=> ?_,h.o,h.os,h.ol⟩,rfl⟩,?_⟩
 ·rw[List.map_append,h.em];rfl
 ·rcases List.mem_append.1 hy with hy|hy
  ·exact h.ev y hy
  ·rw[List.mem_singleton.1 hy];exact⟨h1,h2⟩
 ·dsimp only[DP.O,DP.cells,GS.ev]
  simp only[List.length_append,List.length_cons,List.length_nil,Nat.zero_add]
  exact(eC)
end
open Go
section
variable{W0:World}{Kp:Own}{g:DP}{c:Cfg}{ps:List PH}{s:GS}
theorem DP.ok.x{D:Own}(h:g.ok W0 Kp ps s):({g with X:=D++g.X}:DP).ok W0 Kp ps s:=⟨h.d,h.m,h.k,h.kp,h.t,h.e,h.em,fun e he=>⟨(h.ev e he).1.ent (Ent.app Ent.refl),(h.ev e he).2.ent (Ent.app Ent.refl)⟩,h.o,h.os,h.ol⟩
theorem qnH(h:g.ok W0 Kp ps s)(hl:s.E.length≤900000)(t a:Nat){k:Int}(hk:k=1∨k=2)(q:Own):
  q0E Tryz.prog W0 109 [.pointer (some ⟨g.rb,0,none⟩), .int .i64 t, .int .i64 k, .int .i64 a] (g.O c ps.length s++q) fun _ own'=>∃g':DP,
   (g'.ok W0 Kp ps (s.ev (plE c s.n t k a))∧g'={g with ea:=g'.ea,ec:=g'.ec,eD:=g'.eD,L:=g'.L,X:=g'.X})∧Ent W0 own' (g'.O c ps.length (s.ev (plE c s.n t k a))++q):=by
 refine qa qj qmt (by simp[qR]) ?_
 cases hs:c.strong with
 |false=>
  have he:=qmo (c:=c) h t k a (ra:=none) (wa:=none) (rc:=0) (wc:=0) RdE.nil RdE.nil (by omega) q
  have hp:plE c s.n t k a= [⟨s.n,t,k,a,[],[]⟩]:=by unfold plE;rw[hs];rfl
  rw[hp]
  have hsv:(!c.strong)=true:=by rw[hs];rfl
  repeat'((try(conv=>whnf));first|(refine q5s hsv ?_)|((with_reducible show qf _ _ _ _ _ _);first|((refine qm he ?_ ?_ ?_ (fun g' v hg=> ?_);(exact(eC));(exact rfl);(exact rfl))))|(refine fA ?_))
  exact⟨g',⟨hg.1,by rw[hg.2]⟩,Ent.refl⟩
 |true=>
  have hsv:(!c.strong)=false:=by rw[hs];rfl
  have he:=fun q=>qmo (c:=c) h t 3 0 (ra:=none) (wa:=none) (rc:=0) (wc:=0) RdE.nil RdE.nil (by omega) q
  rcases hk with rfl|rfl
  ·have hp:plE c s.n t 1 a= [⟨s.n,t,3,0,[],[]⟩]++ [⟨s.n,t,4,0,[(a:Int)],[]⟩]:=by unfold plE;rw[hs];rfl
   rw[hp,←qjl]
   repeat'((try(conv=>whnf));first|(refine qgU hsv ?_)|((with_reducible show qf _ _ _ _ _ _);first|((refine qm (he q) ?_ ?_ ?_ (fun g1 v hg1=> ?_);(exact(eC));(exact rfl);(exact rfl);(apply Stop.h))))|(refine fA ?_))
   obtain⟨hk1,hg1⟩:=hg1
   refine Stop.mk ?_
   repeat'((try(conv=>whnf));first|(refine fE ?_)|(refine qc (fun b8 hb8=> ?_);(apply Stop.h)))
   dsimp only[List.set]
   have hk2:=hk1.x (D:= [(b8,fun o=>o=Obj.cells #[.int .i64 a] 3 (0,0))])
   have he2:=qmo (c:=c) hk2 t 4 0 (ra:=some ⟨b8,0,none⟩) (rl:= [(a:Int)]) (rc:=1) (wa:=none) (wc:=0) (q4E (List.Mem.head _) (fun _ _=>rfl) rfl) RdE.nil (by simp[GS.ev];omega) q
   have hrb:g1.rb=g.rb:=by rw[hg1]
   rw[←hrb]
   refine Stop.mk ?_
   repeat'((try(conv=>whnf));first|((with_reducible show qf _ _ _ _ _ _);first|((refine qm he2 ?_ ?_ ?_ (fun g2 v hg2=> ?_);(exact DP.perm_X (D:= [(b8,fun o=>o=Obj.cells #[.int .i64 a] 3 (0,0))]));(exact rfl);(exact rfl)))))
   exact⟨g2,⟨hg2.1,by rw[hg2.2,hg1]⟩,Ent.refl⟩
  ·have hp:plE c s.n t 2 a= [⟨s.n,t,3,0,[],[]⟩]++ [⟨s.n,t,4,0,[],[(a:Int)]⟩]:=by unfold plE;rw[hs];rfl
   rw[hp,←qjl]
   repeat'((try(conv=>whnf));first|(refine qgU hsv ?_)|((with_reducible show qf _ _ _ _ _ _);first|((refine qm (he q) ?_ ?_ ?_ (fun g1 v hg1=> ?_);(exact(eC));(exact rfl);(exact rfl);(apply Stop.h))))|(refine fA ?_))
   obtain⟨hk1,hg1⟩:=hg1
   refine Stop.mk ?_
   repeat'((try(conv=>whnf));first|(refine fD ?_)|(refine qc (fun b8 hb8=> ?_);(apply Stop.h)))
   dsimp only[List.set]
   have hk2:=hk1.x (D:= [(b8,fun o=>o=Obj.cells #[.int .i64 a] 3 (0,0))])
   have he2:=qmo (c:=c) hk2 t 4 0 (ra:=none) (rc:=0) (wa:=some ⟨b8,0,none⟩) (wl:= [(a:Int)]) (wc:=1) RdE.nil (q4E (List.Mem.head _) (fun _ _=>rfl) rfl) (by simp[GS.ev];omega) q
   have hrb:g1.rb=g.rb:=by rw[hg1]
   rw[←hrb]
   refine Stop.mk ?_
   repeat'((try(conv=>whnf));first|((with_reducible show qf _ _ _ _ _ _);first|((refine qm he2 ?_ ?_ ?_ (fun g2 v hg2=> ?_);(exact DP.perm_X (D:= [(b8,fun o=>o=Obj.cells #[.int .i64 a] 3 (0,0))]));(exact rfl);(exact rfl)))))
   exact⟨g2,⟨hg2.1,by rw[hg2.2,hg1]⟩,Ent.refl⟩
end
open Go
theorem qnO{x:Ins}(h:qv x=0):(0≤x.a∧x.a<8)∧0≤x.b∧x.b<8:=by
 unfold qv at h
 split at h
 ·cases h
 ·split at h
  ·rename_i hr
   obtain⟨h1,h2, -⟩:=hr
   unfold q2o at h1 h2
   constructor
   ·split at h1 <;>omega
   ·split at h2 <;>omega
  ·cases h
section
variable{W0:World}{Kp:Own}{g:DP}{c:Cfg}{ps:List PH}{s:GS}
theorem qoe{t:Nat}{th:Thr}(h:g.ok W0 Kp ps s)(hth:s.T[t]? =some th){x:Ins}(hx:qv x=0)(hl:isL x=true)(hrg:th.rg.ok)(hpc:th.pc≤64)(q:Own):
  q0E Tryz.prog W0 108 [.pointer (some ⟨ab g.ta,ao g.ta+t*11,none⟩),x.v] (g.O c ps.length s++q) fun v own'=>∃g':DP,
   (v= .bool true∧g'.ok W0 Kp ps {s with T:=s.T.set t (q6a th x)}∧g'={g with tD:=g'.tD})∧Ent W0 own' (g'.O c ps.length {s with T:=s.T.set t (q6a th x)}++q):=by
 obtain⟨tb,pre,post,hta,htD,hpl,hset⟩:=qcW h.t hth
 obtain⟨rb,iv,pa,pc,kv,da,dc,dD,ka,kc,kD,ta,tc,tD,ea,ec,eD,L,X,oa,oc,oD,S⟩:=g
 dsimp only at hta htD hset
 subst hta;subst htD
 have hl:=qik (own:=(DP.mk rb iv pa pc kv da dc dD ka kc kD (some ⟨tb,0,none⟩) tc [thB tb 61 pre post th] ea ec eD L X oa oc oD S).O c ps.length s++q) (qnc (W0:=W0) (b:=tb) (T:=61) (pre:=pre) (post:=post) (t:=th) (o:=0+t*11) hx hl hrg hpc (by omega) _)
 intro w hw
 refine(hl w hw).mono fun _ _ ⟨v,o,a,b,_,hv,hE⟩=>⟨v,o,a,b,⟨rb,iv,pa,pc,kv,da,dc,dD,ka,kc,kD,some ⟨tb,0,none⟩,tc,[thB tb 61 pre post (q6a th x)],ea,ec,eD,L,X,oa,oc,oD,S⟩,⟨hv,⟨h.d,h.m,h.k,h.kp,hset _,h.e,h.em,h.ev,h.o,h.os,h.ol⟩,rfl⟩,hE.trans ?_⟩
 dsimp only[DP.O,DP.cells]
 rw[List.length_set]
 exact qj1
theorem qn2{a b:Nat×(Obj→Prop)}{G q:Own}:Ent W0 (a::(b::(G++q))) (G++([a,b]++q)):=qo []
theorem qn3{a b:Nat×(Obj→Prop)}{G q:Own}:Ent W0 (G++([a,b]++q)) (G++q):=qo [a,b]
abbrev exS(s1:GS)(t n:Nat)(th1:Thr):GS:={s1 with T:=s1.T.set t {th1 with dn:=decide (th1.pc=n)}}
theorem qoF{t:Nat}{th:Thr}{ph:PH}(hT:qk7 c ps s t th ph)(h:g.ok W0 Kp ps s){x:Ins}(hx:qv x=0)(hop:x.op=16)(hpc:th.pc<ph.p.length∧ph.p.length≤64)(aa:Option Addr)(al ac:Nat)(q:Own):
  q0E Tryz.prog W0 75 [.pointer (some ⟨g.rb,0,none⟩),chV t 0 aa al ac,x.v] (g.O c ps.length s++q) fun v own'=>∃g1:DP,
   (v= .bool true∧g1.ok W0 Kp ps {s with T:=s.T.set t {th with pc:=th.pc+1},O:=s.O.set t (s.O.getD t []++ [⟨th.pc,6,0⟩])}∧g1.rb=g.rb)∧Ent W0 own' (g1.O c ps.length {s with T:=s.T.set t {th with pc:=th.pc+1},O:=s.O.set t (s.O.getD t []++ [⟨th.pc,6,0⟩])}++q):=by
 refine qa qj q6 (by simp[q4]) ?_
 have hT0:=h.t
 have hTR:=hT0.rd (W0:=W0)
 have hth:=hT.hth
 obtain⟨ha,hb⟩:=qnO hx
 have hb':x.b.toNat<8:=by omega
 have gb:th.enc[1+x.b.toNat]? =some (.int .u64 (th.rg.get x.b.toNat)):=Thr.enc_get hb'
 have hwd:=(q1R hT.c0).1
 unfold okW at hwd
 have htS:t<g.S.length:=by
  have h1:=congrArg List.length h.ol
  rw[List.length_map] at h1
  have:=(List.getElem?_eq_some_iff.1 hth).1
  have:=hT.tl
  omega
 have hob9:∀l∈s.O,l.length≤1000000:=fun l hl=>by have:=hT.ob l hl;omega
 have hln:=fun own=>q8 (W0:=W0) (b:=ab g.ta) (o:=ao g.ta+t*11) (x:=x) (by simp[isL,hop]) own
 have hse:=fun E=>qmz (c:=c) h htS hob9 th.pc 6 0 (E++q)
 obtain⟨op,a,b',c',imm⟩:=x
 dsimp only[Ins.v] at*
 subst hop
 repeat'((try(conv=>whnf));first|(refine fE ?_)|(refine fD ?_)|(refine ldE (k:=1+b'.toNat) (RdE.up hTR) hth ?_ gb ?_;omega)|(refine arw (k:= .u64) ?_)|((with_reducible show Ld _ _ _ _);first|(refine q1M hTR hth rfl ?_))|((with_reducible show IxS _ _ _ _ _);first|((refine ixE hTR hth ?_ ?_;(first|rfl|omega))))|((with_reducible show qf _ _ _ _ _ _);first|((refine qh (hln _) ?_ ?_ ?_;(exact rfl);exact rfl))|(((apply Stop.h))))|(refine fP ?_)|(refine fA ?_)|(refine fL ?_)|(refine qc (fun bk hbk=> ?_)))
 rename_i b4 h4
 have hse2:=hse [(bk,fun o=>o=Obj.cells #[.int .i64 16, .int .i64 a, .int .i64 b', .int .i64 c', .int .i64 imm] 69 (0,0)),(b4,fun o=>o=Obj.cells #[.int .i64 t, .int .i64 0, .slice aa al ac] 79 (0,0))]
 refine Stop.mk ?_
 repeat'((try(conv=>whnf));first|((with_reducible show qf _ _ _ _ _ _);first|((refine qm hse2 qn2 ?_ ?_ (fun g1 v hv=> ?_);(exact rfl);(exact rfl);(apply Stop.h)))))
 obtain⟨hk1,hg1, -⟩:=hv
 have hta:g1.ta=g.ta:=by rw[hg1]
 have hT1:=hk1.t
 have hR1:=hT1.rd (W0:=W0)
 rw[←hta]
 refine Stop.mk ?_
 repeat'((try(conv=>whnf));first|(refine ldE (k:=0) (v:= .int .i64 th.pc) (RdE.up hR1) hth ?_ rfl ?_;omega)|(apply q5Q (enc:=Thr.enc) (T:=61) (j:=t) (k:=0) {th with pc:=th.pc+1} hT1 hth;(omega);(omega);(exact rfl);(exact rfl);intro D1 hb1)|(refine fB ?_))
 refine⟨{g1 with tD:=D1},⟨rfl,⟨hk1.d,hk1.m,hk1.k,hk1.kp,hb1,hk1.e,hk1.em,hk1.ev,hk1.o,hk1.os,hk1.ol⟩,by show g1.rb=g.rb;rw[hg1]⟩,?_⟩
 dsimp only[DP.O,DP.cells]
 rw[List.length_set]
 exact qn3
end
end Go.Proofs.YtkieffpjjfebjaaGreatDoor
