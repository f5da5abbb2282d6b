/- What the laws share, part 3. No condition. -/
import Derived.LaidMore
import Derived.Lay
import Derived.LaidByTextLater
import Derived.Stop.Joined
import Derived.SevenTiedAt
import Derived.Lib.SlicesCompact
import Derived.Laws.FloatBits
import Derived.Test.YtbhbldllneadeaaGreatDoorB2
set_option maxHeartbeats 4000000
set_option maxRecDepth 10000
namespace Go.Proofs.YtbhbldllneadeaaGreatDoor
open Go Go.ChangeShapes Go.WideShapes Go.ChangeAt Go.RowKit
def q2{H:Type}:Nat→DataW H→Option (List Value)
 |0,_=>none
 |_+1, .lit (.int k n)=>some [.int k n]
 |_+1, .lit (.bool b)=>some [.bool b]
 |_+1, .lit (.string l)=>some [.string ⟨l.toArray⟩]
 |n+1, .agg ds=>(ds.mapM (q2 n)).map List.flatten
 |_+1,_=>none
def qp2(P:Program)(f:TypeId→Bool):List Field→Nat→Option Nat
 | [],off=>some off
 |x::r,off=>if x.offset=off∧f x.type=true then qp2 P f r (off+P.cellsOf x.type) else none
def qof(P:Program):Nat→TypeId→Bool
 |0,_=>false
 |n+1,t=>match P.underlying t with
  |some (.int _)|some .bool|some .string=>true
  |some (.array k e)=>qof P n e&&decide (P.cellsOf t=k*P.cellsOf e)
  |some (.struct fs)=>qp2 P (qof P n) fs.toList 0==some (P.cellsOf t)
  |_=>false
theorem qnT{α β:Type}{f:α→Option β}:∀(l:List α) (ys:List β),l.length=ys.length→(∀(i:Nat) x,l[i]? =some x→f x=ys[i]?)→l.mapM f=some ys
 | [],[],_,_=>by simp
 |x::l,y::ys,hl,h=>by
  have h0:=h 0 x rfl;simp only[Zw] at h0;have ih:=qnT l ys (by simpa using hl) (fun i x hx=>by have:=h (i+1) x (by simpa using hx);simpa using this);rw[List.mapM_cons,h0,ih];rfl
 | [],_::_,hl,_=>by cases hl
 |_::_,[],hl,_=>by cases hl
theorem q8{cs:List Value}(s:Nat):∀k,((List.range k).map fun i=>(cs.drop (i*s)).take s).flatten=cs.take (k*s)
 |0=>by simp
 |k+1=>by
  rw[ZX,zH,zY,q8 s k,Zz,List.take_add];simp
theorem qo3{P:Program}{f:TypeId→Bool}{cs:List Value}:∀(l:List Field) (off tot:Nat),qp2 P f l off=some tot→off≤tot∧(l.map fun x=>(cs.drop x.offset).take (P.cellsOf x.type)).flatten=(cs.drop off).take (tot-off)
 | [],off,tot,h=>by
  simp only[qp2,Option.some.injEq] at h;subst h;simp
 |x::l,off,tot,h=>by
  unfold qp2 at h
  split at h
  ·rename_i hx;obtain⟨h1,h2⟩:=qo3 (cs:=cs) l _ tot h;refine⟨Y6,?_⟩;rw[zF,Z2,h2,hx.1];have e:tot-off=P.cellsOf x.type+(tot-(off+P.cellsOf x.type)):=Y6;rw[e,List.take_add,yD]
  ·cases h
theorem qod{P:Program}{f:TypeId→Bool}:∀(l:List Field) (off tot:Nat),qp2 P f l off=some tot→∀x∈l,f x.type=true
 | [],_,_,_,x,hx=>by cases hx
 |y::l,off,tot,h,x,hx=>by
  unfold qp2 at h
  split at h
  ·rename_i hy
   rcases zQ.1 hx with rfl|hx
   ·exact hy.2
   ·exact qod l _ _ h x hx
  ·cases h
section
variable{H:Type}{enc:TypeId×Value→H}{P:Program}{w:World}{base:Nat}{spare:Nat→Bool}{held:Bool}
theorem qc:∀(n fuel:Nat) (t:TypeId) (cs:List Value) (d:DataW H) (p:List MemPlace),qof P n t=true→DataW.trod enc P w base spare held fuel t cs=some (d,p)→q2 n d=some cs
 |0,_,_,_,_,_,h,_=>by simp[qof] at h
 |n+1,fuel,t,cs,d,p,h,hd=>by
  unfold qof at h
  split at h
  ·rename_i hu;obtain⟨m,rfl,hx,_⟩:=DataW.trod_int hu hd;simp only[Prod.mk.injEq] at hx;rw[hx.1];rfl
  ·rename_i hu;obtain⟨m,rfl,hx⟩:=DataW.trod_bool hu hd;simp only[Prod.mk.injEq] at hx;rw[hx.1];rfl
  ·rename_i hu;obtain⟨m,rfl,hx,_⟩:=DataW.trod_string hu hd;simp only[Prod.mk.injEq] at hx;rw[hx.1];simp[q2]
  ·rename_i k e hu;simp only[zx,decide_eq_true_eq] at h;obtain⟨xs,m,_,hx,hl,hxl,hel⟩:=DataW.trod_array hu hd;simp only[Prod.mk.injEq] at hx;rw[hx.1];have hm:(xs.map (·.1)).mapM (q2 n)=some ((List.range k).map fun i=>(cs.drop (i*P.cellsOf e)).take (P.cellsOf e)):=by
    refine qnT _ _ (by simp[hxl]) fun i x hx=> ?_
    rw[zI] at hx;obtain⟨y,hy,rfl⟩:=Zc.1 hx;have hi:i<k:=by rw[←hxl];exact(z7.1 hy).1
    have:=hel i hi;rw[hy] at this;rw[qc n m e _ y.1 y.2 h.1 this];simp[hi]
   simp only[q2,hm,Zu];rw[q8,←h.2,←hl,Z4]
  ·rename_i fs hu;simp only[beq_iff_eq] at h;obtain⟨xs,m,_,hx,hl,hxl,hel⟩:=DataW.trod_struct hu hd;simp only[Prod.mk.injEq] at hx;rw[hx.1];have hm:(xs.map (·.1)).mapM (q2 n)=some (fs.toList.map fun x=>(cs.drop x.offset).take (P.cellsOf x.type)):=by
    refine qnT _ _ (by simp[hxl]) fun i x hx=> ?_
    rw[zI] at hx;obtain⟨y,hy,rfl⟩:=Zc.1 hx;have hi:i<fs.size:=by rw[←hxl];exact(z7.1 hy).1
    have hf:fs[i]? =some fs[i]:=ZC hi;have:=hel i fs[i] hf;rw[hy] at this;have hft:=qod fs.toList 0 _ h fs[i] Y8;rw[qc n m _ _ y.1 y.2 hft this];simp[hi]
   simp only[q2,hm,Zu];rw[(qo3 (cs:=cs) fs.toList 0 _ h).2];simp[←hl]
  ·cases h
end
theorem qo9{P:Program}{w:World}:∀{l:List (String×DataW Unit)} {ps:List MemPlace},DataW.LaidVars P w l ps→∀{n:String} {d:DataW Unit},(n,d)∈l→
  ∃g t cs fuel p,P.globalNamed n=some g∧(P.globals[g]?).map (·.type)=some t∧w.var? P n=some cs∧DataW.trod (fun _=>()) P w 0 (fun _=>true) false fuel t cs.toList=some (d,p)
 | [],_,_,_,_,h=>by cases h
 |(n',d')::r,ps,hL,n,d,h=>by
  obtain⟨g,t,cs,fuel,p,q,h1,h2,h3,h4,h5,_⟩:=hL
  rcases zQ.1 h with e|h
  ·cases e;exact⟨g,t,cs,fuel,p,h1,h2,h3,h4⟩
  ·exact qo9 h5 h
theorem qor{P:Program}{w:World}{l:List (String×DataW Unit)}{n:String}{d:DataW Unit}{g:Nat}{t:TypeId}{cs:List Value}(hp:(l.all fun x=>x.2.handleName?.isNone)=true)
  (h:laidMetH P l w) (hm:(n,d)∈l) (hg:P.globalNamed n=some g) (ht:(P.globals[g]?).map (·.type)=some t) (hf:qof P 6 t=true) (hc:q2 6 d=some cs) (hne:cs≠ []):q12 w g cs:=by
 rw[MakeChecks.laidMetH_plain _ _ _ hp] at h;obtain⟨ps,hL,_,_⟩:=h;obtain⟨g',t',cs',fuel,p,h1,h2,h3,h4⟩:=qo9 hL hm;rw[hg] at h1;obtain rfl:=Option.some.inj h1;rw[ht] at h2;obtain rfl:=Option.some.inj h2;have h5:=qc 6 fuel t _ d p hf h4;rw[hc] at h5;have h5:=(Option.some.inj h5).symm;have hcell:∀j v,cs[j]? =some v→w.cell? ⟨g,j,none⟩=some v:=fun j v hv=>by
  rw[World.var?_cell hg h3 j,←Z1,h5,hv]
 refine⟨?_,hcell⟩
 match cs,hne with
 |v::_,_=>
  have:=hcell 0 v rfl;unfold World.cell? at this
  split at this
  ·rename_i hb;exact(Zo.1 hb).1
  ·cases this
open Go
def qoI(c:Int):List UInt8→Bool
 | []=>false
 |x::l=>if(x.toNat:Int)=c then true else qoI c l
theorem qo7(W0:World)(own:Own)(s:ByteArray)(c:Int)(hs:s.size≤9223372036854775807):qE Tryz.prog W0 88 [.string s, .int .u8 c] own (.bool (qoI c s.data.toList)):=by
 refine qg (sH [] ?_);have hsz:s.data.toList.length=s.size:=Y8;refine q1O (σ:=Nat) (fun k=> [(5, .int .i64 k)]) (fun k=>k≤s.size∧qoI c (s.data.toList.drop k)=qoI c s.data.toList) (fun k=>s.size-k) 0 ⟨Y6,rfl⟩ (eF) rfl ?_;rintro k junk ⟨hk,hI⟩
 by_cases hlt:k<s.size
 ·obtain⟨x,hx⟩:∃x,s.data.toList[k]? =some x:=⟨_,z6 Y6⟩
  have hd:s.data.toList.drop k=x::s.data.toList.drop (k+1):=by
   rw[ZE Y6]
   congr 1
   exact(z7.1 hx).2
  rw[hd,qoI] at hI
  repeat'((try(conv=>whnf));first|(refine q14 Y6 ?_)|(refine⟨k,x,rfl,hx,?_⟩)|(refine fB ?_)|(refine q54 (fun hc=> ?_) (fun hc=> ?_)))
  ·rw[if_pos hc] at hI;exact⟨q0J (vb hI),eB⟩
  ·rw[if_neg hc] at hI;exact⟨k+1,⟨Y6,hI⟩,Y6,(eF),Ent.refl⟩
 ·have:k=s.data.toList.length:=Y6;rw[this,ZQ] at hI
  repeat'((try(conv=>whnf));first|(refine q1H Y6 ?_))
  exact⟨q0J (vb hI),eB⟩
def qot:List ByteArray:= [⟨#[]⟩,⟨#[114,105]⟩,⟨#[114,115]⟩,⟨#[114,115,116,102]⟩,⟨#[106]⟩,⟨#[114,106]⟩,⟨#[114,106]⟩,⟨#[97]⟩,⟨#[]⟩,⟨#[]⟩,⟨#[114,115,105]⟩,⟨#[114,115,105]⟩,⟨#[114,115,105]⟩,⟨#[114,115,105]⟩,⟨#[114,99]⟩,⟨#[114]⟩,⟨#[]⟩,⟨#[114]⟩]
def qog(op:Int):ByteArray:=qot.getD op.toNat ⟨#[]⟩
theorem qoc(W0:World)(own:Own)(op:Int)(h:0≤op∧op<18):qE Tryz.prog W0 86 [.int .i64 op] own (.string (qog op)):=by
 refine qg (sH [] ?_);have hl:qot.length=18:=rfl;have hk:(qot.map Value.string)[0+op.toNat*1]? =some (.string (qog op)):=by
  have e:0+op.toNat*1=op.toNat:=Y6;rw[e];have:op.toNat<18:=Y6;simp[qog,hl,this]
 repeat'((try(conv=>whnf));first|(refine q0b _ (List.Mem.head _) hk ?_)|(refine qoT ?_ ?_;omega)|(refine qf (fun bk hbk=> ?_)))
 all_goals exact⟨rfl,eB⟩
theorem qo2(W0:World)(own:Own)(r:Int)(u:Bool):qE Tryz.prog W0 87 [.int .i64 r, .bool u] own (.bool (decide (q42 u r))):=by
 refine qg (sH [] ?_);cases u
 all_goals
  repeat'((try(conv=>whnf));first|(refine qQ ?_)|(refine q2V ?_)|(refine q2B ?_)|(refine q3u ?_)|(refine q6L (fun hc=> ?_) (fun hc=> ?_))|(exact Ent.refl)|(refine And.intro rfl ?_))
  all_goals(refine⟨q0J (vb ?_),eB⟩)
  all_goals first|(refine dd ?_;simp[q42];try omega)|(refine df ?_;simp[q42];try omega)|(refine dt ?_;simp[q42];try omega)
theorem qoP{W0:World}{own:Own}{s:ByteArray}{c:Int}{K:Value→Prop}(b:Bool)(hb:qoI c s.data.toList=b)(hs:Nat.ble s.size 10=true)(h:K (.bool b)):q59 Tryz.prog W0 own 88 [.string s, .int .u8 c] K:=
 q5v (fun _=>qo7 _ _ s c (by have:=Nat.le_of_ble_eq_true hs;omega)) (by rw[hb];exact h)
theorem qoN{W0:World}{own:Own}{s:ByteArray}{c:Int}{K:Value→Own→Prop}(b:Bool)(hb:qoI c s.data.toList=b)(hs:Nat.ble s.size 10=true)(h:K (.bool b) own):q0w Tryz.prog W0 own 88 [.string s, .int .u8 c] K:=
 qp (qo7 _ _ s c (by have:=Nat.le_of_ble_eq_true hs;omega)) (by rw[hb];exact h)
theorem qoh(W0:World)(own:Own)(op a b c imm:Int):
  qE Tryz.prog W0 50 [.agg #[.int .i64 op, .int .i64 a, .int .i64 b, .int .i64 c, .int .i64 imm]] own (.int .i64 (qS ⟨op,a,b,c,imm⟩)):=by
 refine qg (sH [3,5,7,9,11,13,15,17,19,21,23,25,27,29,31,33,35,37,39,41,43,45,0] ?_);simp only[qS]
 by_cases hop:op<0∨18≤op
 ·rw[if_pos hop]
  repeat'((try(conv=>whnf));first|(refine qQ ?_)|(refine q0g ?_)|(refine q2B ?_)|(refine q14 Y6 ?_)|(apply q0b;(exact eM);exact rfl)|(refine qf (fun bk hbk=> ?_))|(refine q1p (fun hc=> ?_) (fun hc=> ?_))|(exact Ent.refl)|(refine Ent.cons ?_)|(refine And.intro rfl ?_))
  all_goals first|exact⟨rfl,eB⟩|(exfalso;omega)
 ·rw[if_neg hop];have hw:op=0∨op=1∨op=2∨op=3∨op=4∨op=5∨op=6∨op=7∨op=8∨op=9∨op=10∨op=11∨op=12∨op=13∨op=14∨op=15∨op=16∨op=17:=Y6
  by_cases h1:q42 (qlX op) a <;>by_cases h2:q42 (qlY op) b <;>by_cases h3:q42 (qlZ op) c
  all_goals rcases hw with rfl|rfl|rfl|rfl|rfl|rfl|rfl|rfl|rfl|rfl|rfl|rfl|rfl|rfl|rfl|rfl|rfl|rfl
  all_goals
   repeat'((try(conv=>whnf));first|(refine qQ ?_)|(refine q0g ?_)|(refine q2B ?_)|(refine q3u ?_)|(refine qgl h1 ?_)|(refine qgk h1 ?_)|(refine qgl h2 ?_)|(refine qgk h2 ?_)|(refine q96 h3 ?_)|(refine qbr h3 ?_)|(apply qp (qoc _ _ _ Y7))|(refine qoP true rfl rfl ?_)|(refine qoP false rfl rfl ?_)|(refine qoN true rfl rfl ?_)|(refine qoN false rfl rfl ?_)|(apply q5v (fun _=>qo2 _ _ _ _))|(apply q0b;(exact eM);exact rfl)|(refine qf (fun bk hbk=> ?_))|(refine q1p (fun hc=> ?_) (fun hc=> ?_))|(refine q54 (fun hc=> ?_) (fun hc=> ?_)))
   all_goals(refine⟨q0J (vi ?_),eB⟩;simp[h1,h2,h3,q5g];try omega)
theorem qa(W0:World)(own:Own)(i:Ins):qE Tryz.prog W0 50 [i.v] own (.int .i64 (qS i)):=qoh W0 own i.op i.a i.b i.c i.imm
theorem qov(W0:World)(own:Own)(i:Ins):qE Tryz.prog W0 51 [i.v] own (.int .i64 (q1M i)):=by
 refine qg (sH [] ?_);have hc:=fun own=>qa W0 own i
 unfold q1M;generalize qS i=z at*
 repeat'((try(conv=>whnf));first|(refine q14 Y6 ?_)|(apply qp (hc _))|(apply q0b;(exact eM);exact rfl)|(apply q0e;(exact eM);exact rfl)|(refine qf (fun bk hbk=> ?_))|(refine q54 (fun hc=> ?_) (fun hc=> ?_)))
 all_goals(refine⟨q0J (vi ?_),eB⟩;(repeat' split) <;>first|rfl|omega)
theorem qow(W0:World)(own:Own)(i:Ins):qE Tryz.prog W0 52 [i.v] own (.tuple #[.int .i64 (qax i), .bool (q1z i)]):=by
 refine qg (sH [] ?_);have hc:=fun own=>qa W0 own i
 unfold qax q1z
 by_cases h0:qS i=0
 ·have hop:¬(i.op<0∨18≤i.op):=by
   intro h;unfold qS at h0;rw[if_pos h] at h0;omega
  have hf:=fun own=>qoc W0 own i.op Y6
  have hh:qoI 106 (qog i.op).data.toList=decide (i.op=4∨i.op=5∨i.op=6):=by
   obtain⟨op,hop2⟩:∃op,op=i.op:=⟨_,rfl⟩
   rw[←hop2] at hop ⊢;have hw:op=0∨op=1∨op=2∨op=3∨op=4∨op=5∨op=6∨op=7∨op=8∨op=9∨op=10∨op=11∨op=12∨op=13∨op=14∨op=15∨op=16∨op=17:=Y6
   rcases hw with rfl|rfl|rfl|rfl|rfl|rfl|rfl|rfl|rfl|rfl|rfl|rfl|rfl|rfl|rfl|rfl|rfl|rfl <;>decide+kernel
  have hsz:(qog i.op).size≤10:=by
   obtain⟨op,hop2⟩:∃op,op=i.op:=⟨_,rfl⟩
   rw[←hop2] at hop ⊢;have hw:op=0∨op=1∨op=2∨op=3∨op=4∨op=5∨op=6∨op=7∨op=8∨op=9∨op=10∨op=11∨op=12∨op=13∨op=14∨op=15∨op=16∨op=17:=Y6
   rcases hw with rfl|rfl|rfl|rfl|rfl|rfl|rfl|rfl|rfl|rfl|rfl|rfl|rfl|rfl|rfl|rfl|rfl|rfl <;>decide+kernel
  have hq:=fun own=>qo7 W0 own (qog i.op) 106 Y6
  rw[hh] at hq;rw[h0] at hc ⊢
  repeat'((try(conv=>whnf));first|(refine qQ ?_)|(apply qp (hc _))|(apply qp (hf _))|(apply qp (hq _))|(apply q0b;(exact eM);exact rfl)|(apply q0e;(exact eM);exact rfl)|(refine qf (fun bk hbk=> ?_))|(refine qhv (fun hc=> ?_) (fun hc=> ?_)))
  all_goals(refine⟨qf7 (vi ?_) (vb ?_),eB⟩)
  all_goals first|rfl|(simp[*];done)|(simp;omega)|(symm;simp;omega)
 ·generalize qS i=z at*
  repeat'((try(conv=>whnf));first|(refine q0g ?_)|(refine q2B ?_)|(refine q6M Y6 ?_)|(apply qp (hc _))|(apply q0e;(exact eM);exact rfl)|(refine qf (fun bk hbk=> ?_)))
  all_goals(refine⟨qf7 (vi ?_) (vb ?_),eB⟩)
  all_goals first|rfl|(simp[*];done)|(simp;omega)|(symm;simp;omega)
theorem qok(W0:World)(own:Own)(a b c:Int):qE Tryz.prog W0 54 [.int .i64 a, .int .i64 b, .int .i64 c] own (.bool (decide (b≤a∧a≤c))):=by
 refine qg (sH [] ?_)
 repeat'((try(conv=>whnf));first|(refine qQ ?_)|(refine q2V ?_)|(refine q6L (fun hc=> ?_) (fun hc=> ?_)))
 all_goals(refine⟨q0J (vb ?_),eB⟩;(first|rfl|(refine dd ?_;omega)|(refine df ?_;omega)|(refine dt ?_;omega)|(refine dn ?_;omega)))
theorem qnQ(W0:World)(own:Own)(c:Cfg):qE Tryz.prog W0 29 [c.v] own (.int .i64 (qH c)):=by
 refine qg (sH [] ?_)
 repeat'((try(conv=>whnf));first|(apply qp (qok _ _ _ _ _))|(refine q1P 5 ?_)|(refine qQ ?_)|(refine q0g ?_)|(refine q2B ?_)|(refine q3u ?_)|(refine fB ?_)|(refine ix0 rfl ?_)|(refine ix1 rfl ?_)|(refine ix2 rfl ?_)|(refine ix3 rfl ?_)|(apply q0b;(exact eM);exact rfl)|(refine qf (fun bk hbk=> ?_))|(refine q1p (fun hc=> ?_) (fun hc=> ?_))|(refine q4i (fun hc=> ?_) (fun hc=> ?_))|(refine q54 (fun hc=> ?_) (fun hc=> ?_))|(refine qhv (fun hc=> ?_) (fun hc=> ?_))|(refine qnv ?_ ?_;omega)|(refine qnw ?_ ?_;omega)|(refine qnx ?_ ?_;omega)|(refine qny ?_ ?_;omega))
 all_goals refine⟨q0J (vi ?_),eB⟩
 all_goals first|exact qnl (by unfold okW;omega)|exact qnm (by unfold okW;omega) (by unfold okH okC nB nW;omega)|exact qnn (by unfold okW;omega) (by unfold okH okC nB nW;omega) (by unfold okL;omega)|exact qno (by unfold okW;omega) (by unfold okH okC nB nW;omega) (by unfold okL;omega) (by unfold okK;omega)|exact cm0 (by unfold okW;omega) (by unfold okH okC nB nW;omega) (by unfold okL;omega) (by unfold okK;omega)
theorem qW(W0:World)(own:Own)(c:Cfg):qE Tryz.prog W0 17 [c.v] own (.int .i64 (qA c)):=by
 refine qg (sH [] ?_)
 by_cases h0:qH c=0
 ·have hb:=q35 h0
  repeat'((try(conv=>whnf));first|(apply qp (qnQ _ _ c))|(refine fB ?_)|(refine ix0 rfl ?_)|(refine ix1 rfl ?_)|(refine ix2 rfl ?_)|(refine ix3 rfl ?_)|(apply q0b;(exact eM);exact rfl)|(apply q0e;(exact eM);exact rfl)|(refine qf (fun bk hbk=> ?_))|(refine q54 (fun hc=> ?_) (fun hc=> ?_)))
  all_goals first|(exfalso;omega)|(refine⟨q0J (vi ?_),eB⟩;simp only[qA,h0,if_true,nB])
 ·repeat'((try(conv=>whnf));first|(apply qp (qnQ _ _ c))|(refine fB ?_)|(refine ix0 rfl ?_)|(refine ix1 rfl ?_)|(refine ix2 rfl ?_)|(refine ix3 rfl ?_)|(apply q0b;(exact eM);exact rfl)|(apply q0e;(exact eM);exact rfl)|(refine qf (fun bk hbk=> ?_))|(refine q54 (fun hc=> ?_) (fun hc=> ?_)))
  all_goals first|(exfalso;omega)|(refine⟨q0J (vi ?_),eB⟩;simp only[qA,h0,if_false])
open Go Go.RowKit
section
variable{W0:World}{own:Own}{a:Option Addr}{cap:Nat}{p:List Ins}
theorem qp0(hR:RdE Ins.enc 5 W0 own a p)(hl:p.length≤1099511627776)(t:Nat):
  qE Tryz.prog W0 89 [.slice a p.length cap, .int .i64 t] own (.tuple #[.int .i64 (qjN p t).1, .int .i64 (qjN p t).2]):=by
 refine qg (sH [] ?_);unfold qjN;generalize hres:q19 p.length t p 0 (-1)=res;refine q1O (σ:=Nat×Int) (fun s=> [(7, .int .i64 s.1),(6, .int .i64 s.2)]) (fun s=>s.1≤p.length∧(s.2= -1∨(0≤s.2∧s.2<s.1))∧q19 p.length t (p.drop s.1) s.1 s.2=res) (fun s=>p.length-s.1) (0, -1) ⟨Y8,Y8,hres⟩ (eF) rfl ?_;rintro⟨k,b⟩ junk ⟨hk,hb,hI⟩;simp only[] at hk hb hI
 by_cases hlt:k<p.length
 ·obtain⟨x,hx⟩:∃x,p[k]? =some x:=⟨_,z6 hlt⟩
  rw[q0C hx,q19] at hI
  by_cases h7:b<0∧x.op=7
  ·rw[if_pos h7] at hI
   repeat'((try(conv=>whnf));first|(refine fH ?_)|(refine fF ?_)|(refine fJ ?_)|((apply gLd);first|(refine q0r hR hx rfl ?_))|((apply qJ);first|((refine ixE hR hx ?_ ?_;(first|rfl|omega))))|(refine fB ?_))
   all_goals exact⟨(k+1,(k:Int)),⟨by simp;omega,by simp;omega,hI⟩,by simp;omega,(eF),(eC)⟩
  ·rw[if_neg h7] at hI
   by_cases h8:0≤b∧x.op=8
   ·rw[if_pos h8] at hI
    by_cases hin:b≤t∧t≤k
    ·rw[if_pos hin] at hI
     repeat'((try(conv=>whnf));first|(refine fH ?_)|(refine fI ?_)|(refine fD ?_)|(refine fF ?_)|(refine fJ ?_)|(refine fK ?_)|((apply gLd);first|(refine q0r hR hx rfl ?_))|((apply qJ);first|((refine ixE hR hx ?_ ?_;(first|rfl|omega)))))
     all_goals(rw[←hI];exact⟨rfl,(eC)⟩)
    ·rw[if_neg hin] at hI
     repeat'((try(conv=>whnf));first|(refine fH ?_)|(refine fI ?_)|(refine fD ?_)|(refine fF ?_)|(refine fG ?_)|(refine fJ ?_)|(refine fK ?_)|((apply gLd);first|(refine q0r hR hx rfl ?_))|((apply qJ);first|((refine ixE hR hx ?_ ?_;(first|rfl|omega))))|(refine fB ?_)|(apply q53;(exact rfl);(exact rfl);all_goals intro hc))
     all_goals exact⟨(k+1, -1),⟨by simp;omega,Y8,hI⟩,by simp;omega,(eF),(eC)⟩
   ·rw[if_neg h8] at hI
    repeat'((try(conv=>whnf));first|(refine fH ?_)|(refine fI ?_)|(refine fD ?_)|(refine fF ?_)|(refine fG ?_)|(refine fJ ?_)|(refine fK ?_)|((apply gLd);first|(refine q0r hR hx rfl ?_))|((apply qJ);first|((refine ixE hR hx ?_ ?_;(first|rfl|omega))))|(refine fB ?_)|(apply q53;(exact rfl);(exact rfl);all_goals intro hc))
    all_goals exact⟨(k+1,b),⟨by simp;omega,by simp;omega,hI⟩,by simp;omega,(eF),(eC)⟩
 ·have hk':k=p.length:=Y6;subst hk';rw[ZQ,q19] at hI
  by_cases h0:0≤b∧b≤t∧t<p.length
  ·rw[if_pos h0] at hI
   repeat'((try(conv=>whnf));first|(refine fH ?_)|(refine fF ?_)|(refine fG ?_)|(refine fJ ?_))
   all_goals(rw[←hI];exact⟨rfl,(eC)⟩)
  ·rw[if_neg h0] at hI
   repeat'((try(conv=>whnf));first|(refine fH ?_)|(refine fI ?_)|(refine fD ?_)|(refine fG ?_)|(apply q53;(exact rfl);(exact rfl);all_goals intro hc))
   all_goals(rw[←hI];exact⟨rfl,(eC)⟩)
theorem qoi(hR:RdE Ins.enc 5 W0 own a p)(hl:p.length≤1099511627776)(k t:Nat):
  qE Tryz.prog W0 53 [.slice a p.length cap, .int .i64 k, .int .i64 t] own (.bool (q1Z p k t)):=by
 refine qg (sH [] ?_);have hs:=fun t=>qp0 (cap:=cap) hR hl t
 unfold q1Z
 by_cases h1:p.length<t
 ·rw[if_pos h1]
  repeat'((try(conv=>whnf));first|(refine fF ?_))
  all_goals exact⟨rfl,(eC)⟩
 ·rw[if_neg h1]
  by_cases h2:0≤(qjN p k).1
  ·rw[if_pos h2]
   repeat'((try(conv=>whnf));first|(refine fF ?_)|(refine fG ?_)|((apply qe);first|((refine qd (hs k) ?_)))|(refine fO ?_))
   all_goals exact⟨rfl,(eC)⟩
  ·rw[if_neg h2]
   by_cases h3:(qjN p t).1<0
   ·repeat'((try(conv=>whnf));first|(refine fI ?_)|(refine fG ?_)|(refine fJ ?_)|((apply qe);first|((refine qd (hs k) ?_))|((refine qd (hs t) ?_)))|(refine fO ?_))
    all_goals exact⟨q0J (vb (by symm;rw[decide_eq_true_eq];exact .inl h3)),(eC)⟩
   ·repeat'((try(conv=>whnf));first|(refine fH ?_)|(refine fG ?_)|(refine fK ?_)|((apply qe);first|((refine qd (hs k) ?_))|((refine qd (hs t) ?_)))|(refine fO ?_))
    all_goals(refine⟨q0J (vb ?_),(eC)⟩;exact dd ⟨fun h=> .inr h,fun h=>h.elim (fun h=>absurd h h3) id⟩)
theorem qoj(hR:RdE Ins.enc 5 W0 own a p):
  qE Tryz.prog W0 28 [.slice a p.length cap] own (.tuple #[.int .i64 (qbx p).1, .int .i64 (qbx p).2]):=by
 refine qg (sH [] ?_);unfold qbx
 by_cases h64:64<p.length
 ·rw[if_pos h64]
  repeat'((try(conv=>whnf));first|(refine fF ?_))
  all_goals first|exact⟨rfl,(eC)⟩|(exfalso;omega)
 ·rw[if_neg h64];generalize hres:q0i (fun k _ x=>q3d p k x) p 0 (-1)=res
  repeat'((try(conv=>whnf));first|(refine fG ?_))
  refine q1O (σ:=Nat×Int) (fun s=> [(5, .int .i64 s.1),(4, .int .i64 s.2)]) (fun s=>s.1≤p.length∧(s.2= -1∨(0≤s.2∧s.2<s.1))∧q0i (fun k _ x=>q3d p k x) (p.drop s.1) s.1 s.2=res) (fun s=>p.length-s.1) (0, -1) ⟨Y8,Y8,hres⟩ (eF) rfl ?_;rintro⟨k,b⟩ junk ⟨hk,hb,hI⟩;simp only[] at hk hb hI
  by_cases hlt:k<p.length
  ·obtain⟨x,hx⟩:∃x,p[k]? =some x:=⟨_,z6 hlt⟩
   rw[q0C hx,q0i] at hI;have hc:=fun own=>qa W0 own x
   have hp:=fun own=>qov W0 own x
   have hs:=fun own=>qow W0 own x
   have hre:=fun(t:Nat) (own':Own) (h:Ent W0 own' own)=>qoi (cap:=cap) (hR.ent h) Y6 k t
   have hnb:q18 x k b= -1∨(0≤q18 x k b∧q18 x k b<(k+1:Nat)):=by unfold q18;(repeat' split) <;>omega
   have hso:=fun h=>q3j (x:=x) h
   have hsi:q1z x=true→qax x=x.imm:=fun h=>by unfold qax;rw[h];rfl
   unfold q7P q3d at hI;generalize qS x=z at*;generalize q1M x=q at*
   by_cases hz:z=0
   ·subst hz;simp only[ne_eq,not_true_eq_false,if_false] at hI
    by_cases h40:(x.op=7∧0≤b)∨(x.op=8∧b<0)
    ·rw[if_pos h40] at hI
     repeat'((try(conv=>whnf));first|(refine fH ?_)|(refine fI ?_)|(refine fE ?_)|(refine fD ?_)|(refine fF ?_)|(refine fJ ?_)|((apply qJ);first|((refine ixE hR hx ?_ ?_;(first|rfl|omega))))|((apply q2H);first|(refine q1h hR hx rfl ?_))|((apply qe);first|((refine qd (hc _) ?_)))|(refine fA ?_)|(refine fL ?_)|(refine fM ?_)|(refine qf (fun bk hbk=> ?_))|(apply q53;(exact rfl);(exact rfl);all_goals intro hc))
     all_goals(rw[←hI];exact⟨rfl,(eC)⟩)
    ·rw[if_neg h40] at hI
     by_cases h41:(q=1∧b<0)∨(q=2∧0≤b)
     ·rw[if_pos h41] at hI
      repeat'((try(conv=>whnf));first|(refine fH ?_)|(refine fI ?_)|(refine fE ?_)|(refine fD ?_)|(refine fF ?_)|(refine fG ?_)|(refine fJ ?_)|(refine fK ?_)|((apply qJ);first|((refine ixE hR hx ?_ ?_;(first|rfl|omega))))|((apply q2H);first|(refine q1h hR hx rfl ?_))|((apply qe);first|((refine qd (hc _) ?_))|((refine qd (hp _) ?_)))|(refine fA ?_)|(refine fL ?_)|(refine fM ?_)|(refine qf (fun bk hbk=> ?_))|(apply q53;(exact rfl);(exact rfl);all_goals intro hc))
      all_goals(rw[←hI];exact⟨rfl,(eC)⟩)
     ·rw[if_neg h41] at hI;cases hsk:q1z x
      ·rw[hsk] at hs hI;simp only[zO,if_false,not_true_eq_false] at hI;unfold q18 at hI hnb
       by_cases h7:x.op=7
       ·rw[if_pos h7] at hI hnb
        repeat'((try(conv=>whnf));first|(refine fH ?_)|(refine fI ?_)|(refine fD ?_)|(refine fF ?_)|(refine fG ?_)|(refine fJ ?_)|(refine fK ?_)|((apply qJ);first|((refine ixE hR hx ?_ ?_;(first|rfl|omega))))|((apply q2H);first|(refine q1h hR hx rfl ?_))|((apply qe);first|((refine qd (hc _) ?_))|((refine qd (hp _) ?_))|((refine qd (hs _) ?_)))|(refine fB ?_)|(refine fO ?_)|(refine fA ?_)|(refine fL ?_)|(refine fM ?_)|(refine qf (fun bk hbk=> ?_))|(apply q53;(exact rfl);(exact rfl);all_goals intro hc))
        all_goals exact⟨(k+1,(k:Int)),⟨by simp;omega,hnb,hI⟩,by simp;omega,(eF),(eC)⟩
       ·by_cases h8:x.op=8
        ·rw[if_neg h7,if_pos h8] at hI hnb
         repeat'((try(conv=>whnf));first|(refine fH ?_)|(refine fI ?_)|(refine fD ?_)|(refine fF ?_)|(refine fG ?_)|(refine fJ ?_)|(refine fK ?_)|((apply qJ);first|((refine ixE hR hx ?_ ?_;(first|rfl|omega))))|((apply q2H);first|(refine q1h hR hx rfl ?_))|((apply qe);first|((refine qd (hc _) ?_))|((refine qd (hp _) ?_))|((refine qd (hs _) ?_)))|(refine fB ?_)|(refine fO ?_)|(refine fA ?_)|(refine fL ?_)|(refine fM ?_)|(refine qf (fun bk hbk=> ?_))|(apply q53;(exact rfl);(exact rfl);all_goals intro hc))
         all_goals exact⟨(k+1, -1),⟨by simp;omega,hnb,hI⟩,by simp;omega,(eF),(eC)⟩
        ·rw[if_neg h7,if_neg h8] at hI hnb
         repeat'((try(conv=>whnf));first|(refine fH ?_)|(refine fI ?_)|(refine fD ?_)|(refine fF ?_)|(refine fG ?_)|(refine fK ?_)|((apply qJ);first|((refine ixE hR hx ?_ ?_;(first|rfl|omega))))|((apply q2H);first|(refine q1h hR hx rfl ?_))|((apply qe);first|((refine qd (hc _) ?_))|((refine qd (hp _) ?_))|((refine qd (hs _) ?_)))|(refine fB ?_)|(refine fO ?_)|(refine fA ?_)|(refine fL ?_)|(refine fM ?_)|(refine qf (fun bk hbk=> ?_))|(apply q53;(exact rfl);(exact rfl);all_goals intro hc))
         all_goals exact⟨(k+1,b),⟨by simp;omega,hnb,hI⟩,by simp;omega,(eF),(eC)⟩
      ·obtain⟨hop,hi0,hi1⟩:=hso hsk;rw[hsk,hsi hsk] at hs;rw[hsk] at hI;simp only[if_true] at hI;obtain⟨t,ht⟩:∃t:Nat,(t:Int)=k+1+x.imm:=⟨k+1+x.imm.toNat,Y6⟩
       have ht':k+1+x.imm.toNat=t:=Y6;rw[ht'] at hI;have hre':=hre t;rw[ht] at hre';have h7:¬x.op=7:=Y6;have h8:¬x.op=8:=Y6;cases hv:q1Z p k t
       ·rw[hv] at hI hre';simp only[zO,if_false,Int.reduceEq,not_false_eq_true,if_true] at hI
        repeat'((try(conv=>whnf));first|(refine fH ?_)|(refine fI ?_)|(refine fE ?_)|(refine fD ?_)|(refine fF ?_)|(refine fG ?_)|(refine fK ?_)|((apply qJ);first|((refine ixE hR hx ?_ ?_;(first|rfl|omega))))|((apply q2H);first|(refine q1h hR hx rfl ?_))|((apply qe);first|((refine qd (hc _) ?_))|((refine qd (hp _) ?_))|((refine qd (hs _) ?_))|((refine qd (hre' _ qmA) ?_)))|(refine fB ?_)|(refine fO ?_)|(refine fA ?_)|(refine fL ?_)|(refine fM ?_)|(refine qf (fun bk hbk=> ?_))|(apply q53;(exact rfl);(exact rfl);all_goals intro hc))
        all_goals(rw[←hI];exact⟨rfl,(eC)⟩)
       ·rw[hv] at hI hre';simp only[if_true,not_true_eq_false,if_false] at hI;unfold q18 at hI hnb;rw[if_neg h7,if_neg h8] at hI hnb
        repeat'((try(conv=>whnf));first|(refine fH ?_)|(refine fI ?_)|(refine fD ?_)|(refine fF ?_)|(refine fG ?_)|(refine fK ?_)|((apply qJ);first|((refine ixE hR hx ?_ ?_;(first|rfl|omega))))|((apply q2H);first|(refine q1h hR hx rfl ?_))|((apply qe);first|((refine qd (hc _) ?_))|((refine qd (hp _) ?_))|((refine qd (hs _) ?_))|((refine qd (hre' _ qmA) ?_)))|(refine fB ?_)|(refine fO ?_)|(refine fA ?_)|(refine fL ?_)|(refine fM ?_)|(refine qf (fun bk hbk=> ?_))|(apply q53;(exact rfl);(exact rfl);all_goals intro hc))
        all_goals exact⟨(k+1,b),⟨by simp;omega,hnb,hI⟩,by simp;omega,(eF),(eC)⟩
   ·rw[if_pos (by rw[if_pos hz];exact hz),if_pos hz] at hI
    repeat'((try(conv=>whnf));first|(refine fF ?_)|((apply qJ);first|((refine ixE hR hx ?_ ?_;(first|rfl|omega))))|((apply q2H);first|(refine q1h hR hx rfl ?_))|((apply qe);first|((refine qd (hc _) ?_)))|(refine fL ?_)|(refine fM ?_)|(refine qf (fun bk hbk=> ?_)))
    all_goals(rw[←hI];exact⟨rfl,(eC)⟩)
  ·have hk':k=p.length:=Y6;subst hk';rw[ZQ,q0i] at hI;rw[←hI]
   repeat'((try(conv=>whnf));first|(refine fG ?_)|(apply qee;(exact rfl);all_goals intro hc))
   all_goals(refine⟨qf7 (vi ?_) (vi ?_),(eC)⟩ <;>split <;>first|rfl|(exfalso;omega))
end
open Go Go.RowKit
theorem qoL{W0:World}{own:Own}{b off:Nat}{cs:Array Value}{T:TypeId}{fz:Nat×Nat}{K:Value→Prop}(hm:(b,fun o=>o=Obj.cells cs T fz)∈own)(ho:off<cs.toList.length)(h:qjP K cs.toList):
  Ld W0 own ⟨b,off,none⟩ K:=q0b cs.toList[off] hm (z6 ho) (h.mem _ (yo ho))
theorem PI.jump{heap:Bool}{n:Nat}{most:Int}{s:PS}(h:PI heap n most s)(hi:s.i<n)(hl:(s.p.length:Int)+1<most){y:Ins}(hf:qmC s.o y.op)(hc:qS y=0)(hj:y.op=4∨y.op=5∨y.op=6)(hz:y.imm=0)
  {a:Option Addr} {cap:Nat} {D:Own} (hb:qu Ins.enc 40 5 a cap (s.p++ [y]) D) {a2:Option Addr} {cap2:Nat} {D2:Own} (hb2:qu qnG 3 1 a2 cap2 (s.js++ [s.p.length]) D2):
  PI heap n most ⟨s.i+1,s.o,s.b,s.p++ [y],a,cap,D,s.js++ [s.p.length],a2,cap2,D2⟩:=by
 have h1:=h.next hi hl hf hc (fun _=>hz) ⟨by rw[hz];exact⟨Y7,Y7⟩,fun h=>by omega⟩ hb (o:=s.o) (by rw[if_neg Y6,if_neg Y6]);have hn:q18 y s.p.length s.b=s.b:=by unfold q18;rw[if_neg Y6,if_neg Y6]
 have hlt:∀j∈s.js,j<s.p.length:=fun j hj=>by
  obtain⟨x,hx,_⟩:=h.zer j hj;exact(z7.1 hx).1
 refine⟨h1.le,h.ob,by have:=h1.mkd;simp only[hn] at this;exact this,hb,hb2,h1.lp,?_,?_,fun j hj=> ?_,h1.rng⟩
 ·have:=h.lj;simp;omega
 ·rw[List.pairwise_append];exact⟨h.asc,yA _ _,fun j hj k hk=>by rw[zf.1 hk];exact hlt j hj⟩
 ·rcases zz.1 hj with hj|hj
  ·exact h1.zer j hj
  ·rw[zf.1 hj];exact⟨y,Y8,hz⟩
theorem qp5{α:Type}{enc:α→List Value}{sz:Nat}{W0:World}{own:Own}{a:Option Addr}{l:List α}{i:Int}{n:Nat}{K:Addr→Prop}{j:Nat}{x:α}(h:RdE enc sz W0 own a l)(hx:l[j]? =some x)(hn:n=l.length)(hi:i=j)(hk:K ⟨ab a,ao a+j*sz,none⟩):IxS a sz i n K:=by
 subst hn;exact ixE h hx hi hk
open Go
def qoa(a n:Int):Int:=IntKind.u64.wrap a % n
theorem qoH(a:Int):0≤IntKind.u64.wrap a∧IntKind.u64.wrap a≤18446744073709551615:=by
 unfold IntKind.wrap;have h3:((2:Int) ^ IntKind.u64.bits)=18446744073709551616:=rfl;simp only[h3,IntKind.signed,yX,zO,if_false];omega
theorem qob(a:Int){n:Int}(h:0<n):0≤qoa a n∧qoa a n<n:=⟨Int.emod_nonneg _ Y6,Y3 _ h⟩
theorem qop(W0:World)(own:Own)(a n:Int)(hn:0<n∧n≤9223372036854775807):qE Tryz.prog W0 8 [.int .i64 a, .int .i64 n] own (.int .i64 (qoa a n)):=by
 refine qg (sH [] ?_);have hw:=qoH a;have hp:=qob a hn.1;unfold qoa at hp
 repeat'((try(conv=>whnf));first|(refine arw (k:= .u64) (e:=a) ?_)|(refine fB ?_)|(refine fC ?_)|(refine q8A ?_ ?_;omega)|(exact Ent.refl)|(refine And.intro rfl ?_))
 all_goals exact⟨q0J rfl,eB⟩
theorem qo4{W0:World}{own:Own}{a n:Int}{K:Value→Prop}(hn:0<n∧n≤9223372036854775807)(h:∀p,0≤p∧p<n→K (.int .i64 p)):
  q59 Tryz.prog W0 own 8 [.int .i64 a, .int .i64 n] K:=q5v (fun _=>qop _ _ _ _ hn) (h _ (qob a hn.1))
namespace Pv
abbrev smI(x:Ins):Prop:=(0≤x.imm∧x.imm≤64)∧(0≤x.a∧x.a≤3)∧(x.op=10∨x.op=11→x.imm≤4)
def qpi(op:Int)(x:Ins):Prop:=x.op=op∧qS x=0∧(op=4∨op=5∨op=6→x.imm=0)∧smI x
theorem qoD{op a b c imm:Int}(h:0≤op∧op<18)(ha:q42 (qlX op) a)(hb:q42 (qlY op) b)(hc:q42 (qlZ op) c)(hi:q5g op imm):qS ⟨op,a,b,c,imm⟩=0:=by
 unfold qS;rw[if_neg (by simp only;omega),if_pos ⟨ha,hb,hc⟩,if_pos hi]
theorem qoE{op:Int}(h:op=0∨op=4∨op=5∨op=6∨op=8∨op=9∨op=16):qS ⟨op,0,0,0,0⟩=0:=by
 rcases h with rfl|rfl|rfl|rfl|rfl|rfl|rfl <;>rfl
theorem qoZ(W0:World)(own:Own)(op n:Int)(h:0≤op∧op<18)(hn:0≤n∧n≤18446744073709551615):
  qt Tryz.prog W0 27 [.int .i64 op, .int .u64 n] own fun v own'=>∃x:Ins,v=x.v∧qpi op x∧Ent W0 own' own:=by
 refine sH [] ?_
 repeat'((try(conv=>whnf));first|(refine fF ?_)|(refine qmS ?_ ?_;omega)|(apply qoL;(exact eN);(simp;omega))|(exact qjP.nil)|(refine qjP.cons ?_ ?_)|(refine fB ?_)|(refine qoT ?_ ?_;omega)|(refine fL ?_)|(refine fM ?_)|(refine qf (fun bk hbk=> ?_))|(apply qee;(exact rfl);all_goals intro hc)|(refine q8A ?_ ?_;omega))
 all_goals refine⟨⟨_,_,_,_,_⟩,rfl,?_,(eC)⟩
 all_goals(try subst op)
 all_goals refine⟨rfl,?_,fun h=> ?_,⟨?_,?_⟩,⟨?_,?_⟩,fun h=> ?_⟩
 all_goals first
  |(dsimp only;omega)
  |rfl
  |(exfalso;omega)
  |(dsimp only at h ⊢;omega)
  |(refine qoD h ?_ ?_ ?_ ?_ <;>simp[q42,qlX,qlY,qlZ,q5g] <;>omega)
  |exact qoE Y6
theorem qpg{e:Int}{K:Int→Prop}(h:∀m,0≤m∧m≤18446744073709551615→K m):q58 .u64 e K:=by
 refine⟨h _ ?_⟩;have:IntKind.u64.wrap e=e % 18446744073709551616:=by
  simp[IntKind.wrap,IntKind.signed,IntKind.bits]
 rw[this];omega
theorem qoy{α:Type}{en:α→Value}{Φ:α→Prop}{P:Program}{W0:World}{own:Own}{k:FuncId}{args:List Value}{K:Value→Own→Prop}(h:qt P W0 k args own fun v own'=>∃x,v=en x∧Φ x∧Ent W0 own' own)(hk:∀x,Φ x→K (en x) own):q0w P W0 own k args K:=
 ⟨fun w hw=>(h w hw).mono fun _ _ ⟨_,_,he,hs,x,hv,hx,hE⟩=>⟨_,own,by rw[he,hv],hE _ hs,hk x hx⟩⟩
abbrev qoz(n:Nat):List Value:= [.int .i64 n]
structure PSV where
 i:Nat
 o:Bool
 b:Int
 p:List Ins
 a:Option Addr
 cap:Nat
 D:Own
 js:List Nat
 a2:Option Addr
 cap2:Nat
 D2:Own
abbrev rngPV(heap:Bool)(x:Ins):Prop:=smI x∧(x.op=14∨x.op=15→heap=true)
structure PIV(heap:Bool)(n:Nat)(most:Int)(s:PSV):Prop where
 le:s.i≤n
 ob:s.o=decide (0≤s.b)
 mkd:Mk s.p s.b
 bp:qu Ins.enc 40 5 s.a s.cap s.p s.D
 bj:qu qoz 3 1 s.a2 s.cap2 s.js s.D2
 lp:s.p.length+1≤most
 lj:s.js.length≤s.p.length
 asc:s.js.Pairwise (· < ·)
 zer:∀j∈s.js,∃x,s.p[j]? =some x∧x.imm=0
 rng:∀x∈s.p,rngPV heap x
theorem qoq{y:Ins}(h:qS y=0)(ho:y.op=5∨y.op=6){m:Int}(hm:0≤m∧m<8):qS ⟨y.op,m,y.b,y.c,y.imm⟩=0:=by
 unfold qS at*;rw[if_neg Y6] at h;rw[if_neg (by simp only;omega)]
 split at h
 ·rename_i hr;have ha:q42 (qlX y.op) m:=by rcases ho with e|e <;>rw[e] <;>simpa [q42,qlX] using hm
  rw[if_pos ⟨ha,hr.2⟩];exact h
 ·cases h
theorem PIV.next{heap:Bool}{n:Nat}{most:Int}{s:PSV}(h:PIV heap n most s)(hi:s.i<n)(hl:(s.p.length:Int)+1<most){y:Ins}(hf:qmC s.o y.op)(hc:qS y=0)(hz:y.op=4∨y.op=5∨y.op=6→y.imm=0)(hr:rngPV heap y)
  {a:Option Addr} {cap:Nat} {D:Own} (hb:qu Ins.enc 40 5 a cap (s.p++ [y]) D) {o:Bool} (ho:o=if y.op=7 then true else if y.op=8 then false else s.o):
  PIV heap n most ⟨s.i+1,o,q18 y s.p.length s.b,s.p++ [y],a,cap,D,s.js,s.a2,s.cap2,s.D2⟩:=by
 refine⟨by simp only;omega,?_,h.mkd.snoc (q9n hf hc h.ob) (fun hs=>hz (q3j hs).1),hb,h.bj,by simp;omega,?_,h.asc,fun j hj=> ?_,fun x hx=>by
  rcases zz.1 hx with hx|hx
  ·exact h.rng x hx
  ·rw[zf.1 hx];exact hr⟩
 ·simp only;rw[ho];unfold q18
  split
  ·exact(decide_eq_true Y6).symm
  ·split
   ·exact(decide_eq_false Y6).symm
   ·exact h.ob
 ·have:=h.lj;simp;omega
 ·obtain⟨x,hx,h0⟩:=h.zer j hj;exact⟨x,by rw[zy (z7.1 hx).1];exact hx,h0⟩
theorem PIV.jump{heap:Bool}{n:Nat}{most:Int}{s:PSV}(h:PIV heap n most s)(hi:s.i<n)(hl:(s.p.length:Int)+1<most){y:Ins}(hf:qmC s.o y.op)(hc:qS y=0)(hj:y.op=4∨y.op=5∨y.op=6)(hz:y.imm=0)(hsm:smI y)
  {a:Option Addr} {cap:Nat} {D:Own} (hb:qu Ins.enc 40 5 a cap (s.p++ [y]) D) {a2:Option Addr} {cap2:Nat} {D2:Own} (hb2:qu qoz 3 1 a2 cap2 (s.js++ [s.p.length]) D2):
  PIV heap n most ⟨s.i+1,s.o,s.b,s.p++ [y],a,cap,D,s.js++ [s.p.length],a2,cap2,D2⟩:=by
 have h1:=h.next hi hl hf hc (fun _=>hz) ⟨hsm,fun h=>by omega⟩ hb (o:=s.o) (by rw[if_neg Y6,if_neg Y6]);have hn:q18 y s.p.length s.b=s.b:=by unfold q18;rw[if_neg Y6,if_neg Y6]
 have hlt:∀j∈s.js,j<s.p.length:=fun j hj=>by
  obtain⟨x,hx,_⟩:=h.zer j hj;exact(z7.1 hx).1
 refine⟨h1.le,h.ob,by have:=h1.mkd;simp only[hn] at this;exact this,hb,hb2,h1.lp,?_,?_,fun j hj=> ?_,h1.rng⟩
 ·have:=h.lj;simp;omega
 ·rw[List.pairwise_append];exact⟨h.asc,yA _ _,fun j hj k hk=>by rw[zf.1 hk];exact hlt j hj⟩
 ·rcases zz.1 hj with hj|hj
  ·exact h1.zer j hj
  ·rw[zf.1 hj];exact⟨y,Y8,hz⟩
theorem PIV.commit{heap:Bool}{n:Nat}{most:Int}{s:PSV}(h:PIV heap n most s)(ho:s.o=true):Mk (s.p++ [⟨8,0,0,0,0⟩]) (q18 ⟨8,0,0,0,0⟩ s.p.length s.b)∧q18 ⟨8,0,0,0,0⟩ s.p.length s.b<0∧∀j∈s.js,∃x,(s.p++ [⟨8,0,0,0,0⟩])[j]? =some x∧x.imm=0:=by
 refine⟨h.mkd.snoc (q9n (o:=s.o) (by rw[ho];simp[qmC]) rfl h.ob) (fun _=>rfl),by simp[q18],fun j hj=> ?_⟩;obtain⟨x,hx,h0⟩:=h.zer j hj;exact⟨x,by rw[zy (z7.1 hx).1];exact hx,h0⟩
theorem qoK{α:Type}{enc:α→List Value}{sz:Nat}{W0:World}{own:Own}{a:Option Addr}{l:List α}{i:Int}{n:Nat}{K:Addr→Prop}{j:Nat}{x:α}(h:RdE enc sz W0 own a l)(hx:l[j]? =some x)(hn:n=l.length)(hi:i=j)(hk:K ⟨ab a,ao a+j*sz,none⟩):IxS a sz i n K:=by
 subst hn;exact ixE h hx hi hk
theorem qou{l:List Ins}{j:Nat}{x y:Ins}(hx:l[j]? =some x)(h0:x.imm=0):(l.set j y).set j ⟨x.op,x.a,x.b,x.c,0⟩=l:=by
 obtain⟨hj,he⟩:=z7.1 hx;rw[yc];have:(⟨x.op,x.a,x.b,x.c,0⟩:Ins)=l[j]:=by rw[he,←h0]
 rw[this,yH]
theorem qoQ{l:List Nat}(h:l.Pairwise (· < ·)){a b i j:Nat}(hi:l[a]? =some i)(hj:l[b]? =some j)(hab:a<b):i≠j:=by
 obtain⟨h1,e1⟩:=z7.1 hi;obtain⟨h2,e2⟩:=z7.1 hj;have:=(Zr.1 h) a b h1 h2 hab;omega
theorem q7(tgt:Nat→Int→Ins→Int):∀(l:List Ins) (k:Nat) (b:Int),(q0i tgt l k b).2=0→q0i tgt l k b=(0,0)
 | [],k,b,h=>by
  unfold q0i at*
  split at h
  ·cases h
  ·rename_i hb;rw[if_neg hb]
 |x::l,k,b,h=>by
  unfold q0i at*
  split at h
  ·rename_i h1;exact absurd h h1
  ·rename_i h1;rw[if_neg h1];exact q7 tgt l (k+1) _ h
theorem qnZ{p:List Ins}(h:(qbx p).2=0):qbx p=(0,0):=by
 unfold qbx at*
 split at h
 ·cases h
 ·rename_i h1;rw[if_neg h1];exact q7 _ _ _ _ h
section
variable{W0:World}{own:Own}{la:Option Addr}{lc:Nat}{l:List Int}
theorem q9(most:Int)(heap plain:Bool)(hL:RdE (fun n=> [.int .i64 n]) 1 W0 own la l)(hl:l.length≤1000000)(hm:1≤most∧most≤64):
  qt Tryz.prog W0 16 [.slice la l.length lc, .int .i64 most, .bool heap, .bool plain] own fun v own'=>
   ∃a cap D p,v= .slice a (List.length p) cap∧qu Ins.enc 40 5 a cap p D∧Ent W0 own' (D++own)∧qbx p=(0,0)∧(p.length:Int)≤most∧∀x∈p,rngPV heap x:=by
 refine sC [17,744,804,948] [] ?_
 (try(conv=>whnf))
 refine qX (σ:=PSV) (fun s=> [(9, .slice s.a s.p.length s.cap),(10, .bool s.o),(11, .slice s.a2 s.js.length s.cap2),(12, .int .i64 s.i)]) (fun s=>s.D++(s.D2++own)) (PIV heap l.length most) (fun s=>l.length-s.i) ⟨0,false, -1,[],none,0,[],[],none,0,[]⟩
  ⟨Y8,rfl,Mk.nil,qu.nil,qu.nil,by simp;omega,Y8,List.Pairwise.nil,fun _ h=>(by cases h),fun _ h=>(by cases h)⟩ (eF) Ent.refl rfl ?_
 ·rintro s junk hPI;have hPI':=hPI;obtain⟨hi,hob,hmk,hbp,hbj,hlp,hlj,hasc,hzer,hrng⟩:=hPI'
  by_cases hlt:s.i<l.length∧(s.p.length:Int)+1<most
  ·obtain⟨x,hx⟩:∃x,l[s.i]? =some x:=⟨_,z6 hlt.1⟩
   have hh1:(s.i:Int)<l.length:=Y6;have hh2:(s.p.length:Int)<most-1:=Y6
   repeat'((try(conv=>whnf));first|(refine fH ?_)|(refine fF ?_)|(refine fJ ?_)|(refine qpg (fun m hm=> ?_))|(refine qmS ?_ ?_;omega)|((apply gLd);first|(refine q0r hL hx rfl ?_))|((apply qJ);first|((refine ixE hL hx ?_ ?_;(first|rfl|omega))))|(refine fB ?_)|(refine q8A ?_ ?_;omega))
   refine q3z (σ:=Int×Int) 2658455991569831745807605324467707904 (fun r=> [(13, .int .u64 r.2),(15, .int .i64 r.1)]) (fun _=>s.D++(s.D2++own)) (fun r=>(0≤r.2∧r.2≤18446744073709551615)∧qmC s.o r.1∧(r.1=14∨r.1=15→heap=true)) rfl ?_ ?_
   ·clear hbp hbj hasc hzer hmk hlj hi;obtain⟨o,ho⟩:∃o,s.o=o:=⟨_,rfl⟩
    rw[ho];cases o <;>cases heap <;>cases plain
    all_goals as_aux_lemma=>
     repeat'((try(conv=>whnf));first|(refine fH ?_)|(refine fI ?_)|(refine fE ?_)|(refine fD ?_)|(refine fF ?_)|(refine fG ?_)|(refine fJ ?_)|(refine fK ?_)|(refine qmS ?_ ?_;omega)|(apply qoL;(exact eN);(simp;omega))|(exact qjP.nil)|(refine qjP.cons ?_ ?_)|(refine qoT ?_ ?_;omega)|(refine qf (fun bk hbk=> ?_))|(apply q53;(exact rfl);(exact rfl);all_goals intro hc)|(apply qee;(exact rfl);all_goals intro hc)|(refine q8A ?_ ?_;omega))
     all_goals refine⟨(_,_),⟨?_,?_,?_⟩,(eF),(eC)⟩
     all_goals first|(simp only[];omega)|simp[qmC]
   ·rintro⟨op,m2⟩ junk2 ⟨hm2,hf,hna⟩;simp only at hm2 hf hna;have h18:0≤op∧op<18:=by unfold qmC at hf;omega
    have hins:=fun ex=>qoZ W0 ex op m2 h18 hm2
    as_aux_lemma=>
     refine qoy (hins _) (fun y hy=> ?_);obtain⟨hy1,hy2,hy3,hy4⟩:=hy;subst hy1;have h6':(y.op=5∨y.op=6)∨y.op=4∨(y.op≠4∧y.op≠5∧y.op≠6):=Y6
     rcases h6' with h6|h6|h6
     ·rcases h6 with h6|h6
      all_goals
       repeat'((try(conv=>whnf));first|(refine fH ?_)|(refine fI ?_)|(refine fE ?_)|(refine fF ?_)|(refine fG ?_)|(refine fJ ?_)|(refine fK ?_)|(refine qms (enc:=qoz) s.p.length hbj (by(repeat(first|exact At.head|apply At.tail|apply At.skip))) (eN) rfl rfl Y6 rfl rfl Y6 (fun a1 c1 D1 hb1=> ?_))|(refine qms (enc:=Ins.enc) ⟨y.op,m2 % 4,y.b,y.c,y.imm⟩ hbp (by(repeat(first|exact At.head|apply At.tail|apply At.skip))) (eN) rfl rfl Y6 rfl rfl Y6 (fun a3 c3 D3 hb3=> ?_))|(refine fB ?_)|(refine fL ?_)|(refine fN ?_)|(refine fM ?_)|(refine qf (fun bk hbk=> ?_))|(refine q8A ?_ ?_;omega)|(refine qon ?_))
      all_goals refine⟨⟨s.i+1,s.o,s.b,s.p++ [⟨y.op,m2 % 4,y.b,y.c,y.imm⟩],a3,c3,D3,s.js++ [s.p.length],a1,c1,D1⟩,hPI.jump (y:=⟨y.op,m2 % 4,y.b,y.c,y.imm⟩) hlt.1 hlt.2 hf (qoq (y:=y) hy2 Y6 Y6) (by first|omega|(simp only;omega)) (hy3 Y6) ⟨hy4.1,(by first|omega|(simp only;omega)),fun h=>absurd h (by first|omega|(simp only;omega))⟩ hb3 hb1,by simp only;omega,?_,(eC)⟩
      all_goals(simp only[z8,zG,zM,zD];exact(eF))
     ·repeat'((try(conv=>whnf));first|(refine fH ?_)|(refine fF ?_)|(refine fG ?_)|(refine fK ?_)|(refine qms (enc:=qoz) s.p.length hbj (by(repeat(first|exact At.head|apply At.tail|apply At.skip))) (eN) rfl rfl Y6 rfl rfl Y6 (fun a1 c1 D1 hb1=> ?_))|(refine qms (enc:=Ins.enc) y hbp (by(repeat(first|exact At.head|apply At.tail|apply At.skip))) (eN) rfl rfl Y6 rfl rfl Y6 (fun a3 c3 D3 hb3=> ?_))|(refine fB ?_)|(refine fL ?_)|(refine fM ?_)|(refine qf (fun bk hbk=> ?_))|(refine qon ?_))
      refine⟨⟨s.i+1,s.o,s.b,s.p++ [y],a3,c3,D3,s.js++ [s.p.length],a1,c1,D1⟩,hPI.jump hlt.1 hlt.2 hf hy2 Y6 (hy3 Y6) hy4 hb3 hb1,by simp only;omega,?_,(eC)⟩
      (simp only[z8,zG,zM,zD];exact(eF))
     ·have h7:y.op=7∨y.op=8∨(y.op≠7∧y.op≠8):=Y6
      rcases h7 with h7|h7|h7
      ·repeat'((try(conv=>whnf));first|(refine fH ?_)|(refine fF ?_)|(refine fG ?_)|(refine fK ?_)|(refine qms (enc:=Ins.enc) y hbp (by(repeat(first|exact At.head|apply At.tail|apply At.skip))) (eN) rfl rfl Y6 rfl rfl Y6 (fun a3 c3 D3 hb3=> ?_))|(refine fB ?_)|(refine fL ?_)|(refine fM ?_)|(refine qf (fun bk hbk=> ?_))|(refine qon ?_))
       refine⟨⟨s.i+1,true,q18 y s.p.length s.b,s.p++ [y],a3,c3,D3,s.js,s.a2,s.cap2,s.D2⟩,hPI.next hlt.1 hlt.2 hf hy2 hy3 ⟨hy4,hna⟩ hb3 (by rw[if_pos h7]),by simp only;omega,?_,(eC)⟩
       (simp only[z8,zG,zM,zD];exact(eF))
      ·repeat'((try(conv=>whnf));first|(refine fH ?_)|(refine fF ?_)|(refine fG ?_)|(refine fK ?_)|(refine qms (enc:=Ins.enc) y hbp (by(repeat(first|exact At.head|apply At.tail|apply At.skip))) (eN) rfl rfl Y6 rfl rfl Y6 (fun a3 c3 D3 hb3=> ?_))|(refine fB ?_)|(refine fL ?_)|(refine fM ?_)|(refine qf (fun bk hbk=> ?_))|(refine qon ?_))
       refine⟨⟨s.i+1,false,q18 y s.p.length s.b,s.p++ [y],a3,c3,D3,s.js,s.a2,s.cap2,s.D2⟩,hPI.next hlt.1 hlt.2 hf hy2 hy3 ⟨hy4,hna⟩ hb3 (by rw[if_neg Y6,if_pos h7]),by simp only;omega,?_,(eC)⟩
       (simp only[z8,zG,zM,zD];exact(eF))
      ·repeat'((try(conv=>whnf));first|(refine fH ?_)|(refine fG ?_)|(refine fK ?_)|(refine qms (enc:=Ins.enc) y hbp (by(repeat(first|exact At.head|apply At.tail|apply At.skip))) (eN) rfl rfl Y6 rfl rfl Y6 (fun a3 c3 D3 hb3=> ?_))|(refine fB ?_)|(refine fL ?_)|(refine fM ?_)|(refine qf (fun bk hbk=> ?_))|(refine qon ?_))
       refine⟨⟨s.i+1,s.o,q18 y s.p.length s.b,s.p++ [y],a3,c3,D3,s.js,s.a2,s.cap2,s.D2⟩,hPI.next hlt.1 hlt.2 hf hy2 hy3 ⟨hy4,hna⟩ hb3 (by rw[if_neg h7.1,if_neg h7.2]),by simp only;omega,?_,(eC)⟩
       (simp only[z8,zG,zM,zD];exact(eF))
  ·have hx1:¬(s.i:Int)<l.length∨((s.i:Int)<l.length∧¬(s.p.length:Int)<most-1):=Y6
   rcases hx1 with hx1|⟨hx0,hx1⟩
   all_goals
    repeat'((try(conv=>whnf));first|(refine fH ?_)|(refine fI ?_)|(refine fD ?_)|(refine fG ?_)|(refine fJ ?_)|(refine fK ?_)|(refine fB ?_))
    refine q3z (σ:=List Ins×Option Addr×Nat×Own) 11326637689314497616078557453551193402333477208576 (fun q=> [(9, .slice q.2.1 q.1.length q.2.2.1)]) (fun q=>q.2.2.2++(s.D2++own)) (fun q=>qu Ins.enc 40 5 q.2.1 q.2.2.1 q.1 q.2.2.2∧qbx q.1=(0,0)∧(q.1.length:Int)≤most∧(∀j∈s.js,∃x,q.1[j]? =some x∧x.imm=0)∧∀x∈q.1,rngPV heap x) rfl ?_ ?_
    ·repeat'((try(conv=>whnf));first|(refine qph (fun hs=> ?_) (fun hs=> ?_))|(refine qms (enc:=Ins.enc) ⟨8,0,0,0,0⟩ hbp (by(repeat(first|exact At.head|apply At.tail|apply At.skip))) (eN) rfl rfl Y6 rfl rfl Y6 (fun a3 c3 D3 hb3=> ?_))|(refine qf (fun bk hbk=> ?_)))
     ·have hcm:=hPI.commit hs;refine⟨(s.p++ [⟨8,0,0,0,0⟩],a3,c3,D3),⟨hb3,hcm.1.ok hcm.2.1 (by simp;omega),by simp;omega,hcm.2.2,fun x hx=>by
       rcases zz.1 hx with hx|hx
       ·exact hrng x hx
       ·rw[zf.1 hx];exact⟨⟨⟨Y7,Y7⟩,⟨Y7,Y7⟩,fun _=>by decide⟩,fun h=>by simp at h⟩⟩,?_,(eC)⟩
      (simp only[z8,zG,zM,zD];exact(eF))
     ·rw[hs] at hob;exact⟨(s.p,s.a,s.cap,s.D),⟨hbp,hmk.ok (by simpa using hob.symm) Y6,by simp only;omega,hzer,hrng⟩,(eF),(eC)⟩
    ·rintro q junk3 ⟨hq1,hq2,hq3,hq4,hq5⟩
     (try(conv=>whnf))
     refine qX (σ:=Nat×List Ins×Own) (fun r=> [(17, .int .i64 r.1)]) (fun r=>r.2.2++(s.D2++own)) (fun r=>(r.1≤s.js.length∧r.2.1.length=q.1.length)∧qu Ins.enc 40 5 q.2.1 q.2.2.1 r.2.1 r.2.2∧qbx r.2.1=(0,0)∧(∀m j,r.1≤m→s.js[m]? =some j→∃x,r.2.1[j]? =some x∧x.imm=0)∧∀x∈r.2.1,rngPV heap x)
      (fun r=>s.js.length-r.1) (0,q.1,q.2.2.2) ⟨⟨Y8,rfl⟩,hq1,hq2,fun m j _ hj=>hq4 j (zg hj),hq5⟩ (eF) Ent.refl rfl ?_
     rintro r junk4 ⟨⟨hr1,hr2⟩,hr3,hr4,hr5,hr6⟩
     by_cases hlt2:r.1<s.js.length
     ·obtain⟨j,hj⟩:∃j,s.js[r.1]? =some j:=⟨_,z6 hlt2⟩
      obtain⟨x,hx,hx0⟩:=hr5 r.1 j (zu _) hj;have hJ:=hbj.rd (W0:=W0);have hP:=hr3.rd (W0:=W0);have hh:(r.1:Int)<s.js.length:=Y6;have hjl:j<r.2.1.length:=(z7.1 hx).1;have hx1:(r.2.1.set j ⟨x.op,x.a,x.b,x.c,1⟩)[j]? =some ⟨x.op,x.a,x.b,x.c,1⟩:=Ze hjl;have hl1:(r.2.1.set j ⟨x.op,x.a,x.b,x.c,1⟩).length=q.1.length:=by rw[zj,hr2]
      have hback:(r.2.1.set j ⟨x.op,x.a,x.b,x.c,1⟩).set j ⟨x.op,x.a,x.b,x.c,0⟩=r.2.1:=qou hx hx0;have hck:∀D1,qu Ins.enc 40 5 q.2.1 q.2.2.1 (r.2.1.set j ⟨x.op,x.a,x.b,x.c,1⟩) D1→∀own',Ent W0 own' D1→qE Tryz.prog W0 28 [.slice q.2.1 q.1.length q.2.2.1] own' (.tuple #[.int .i64 (qbx (r.2.1.set j ⟨x.op,x.a,x.b,x.c,1⟩)).1, .int .i64 (qbx (r.2.1.set j ⟨x.op,x.a,x.b,x.c,1⟩)).2]):=fun D1 h own' he=>by
       have:=qoj (cap:=q.2.2.1) ((h.rd (W0:=W0)).ent he)
       rwa[hl1] at this
      have hnx:∀m j',r.1+1≤m→s.js[m]? =some j'→∃x',(r.2.1.set j ⟨x.op,x.a,x.b,x.c,1⟩)[j']? =some x'∧x'.imm=0:=fun m j' hm hj'=>by
       obtain⟨x',h1,h2⟩:=hr5 m j' Y6 hj';exact⟨x',by rw[List.getElem?_set_ne (qoQ hasc hj hj' Y6)];exact h1,h2⟩
      by_cases he:(qbx (r.2.1.set j ⟨x.op,x.a,x.b,x.c,1⟩)).2=0
      ·have hz:=qnZ he
       repeat'((try(conv=>whnf));first|(refine fF ?_)|(refine fG ?_)|(refine qoK (hP.ent (eB)) hx Y6 rfl ?_)|(refine stE (k:=4) ⟨x.op,x.a,x.b,x.c,1⟩ hr3 (by(repeat(first|exact At.head|apply At.tail|apply At.skip))) hx rfl Y6 rfl rfl (fun D1 hb1=> ?_))|(refine qp (hck _ hb1 _ (eB)) ?_)|((apply gLd);first|(refine q0r hJ hj rfl ?_))|((apply qJ);first|((refine ixE hJ hj ?_ ?_;(first|rfl|omega))))|(refine fB ?_)|(refine fO ?_))
       exact⟨(r.1+1,_,D1),⟨⟨by simp only;omega,hl1⟩,hb1,hz,hnx,fun y hy=>by
        rcases Zh hy with hy|rfl
        ·exact hr6 y hy
        ·exact⟨⟨⟨(by decide:(0:Int)≤1),(by decide:(1:Int)≤64)⟩,(hr6 x (zg hx)).1.2.1,fun _=>(by decide:(1:Int)≤4)⟩,(hr6 x (zg hx)).2⟩⟩,by simp only;omega,(eF),(eC)⟩
      ·repeat'((try(conv=>whnf));first|(refine fF ?_)|(refine qoK (hP.ent (eB)) hx Y6 rfl ?_)|(refine stE (k:=4) ⟨x.op,x.a,x.b,x.c,0⟩ hb1 (by(repeat(first|exact At.head|apply At.tail|apply At.skip))) hx1 rfl Y6 rfl rfl (fun D2 hb2=> ?_))|(refine stE (k:=4) ⟨x.op,x.a,x.b,x.c,1⟩ hr3 (by(repeat(first|exact At.head|apply At.tail|apply At.skip))) hx rfl Y6 rfl rfl (fun D1 hb1=> ?_))|(refine qp (hck _ hb1 _ (eB)) ?_)|((apply gLd);first|(refine q0r hJ hj rfl ?_))|((apply qJ);first|((refine ixE hJ hj ?_ ?_;(first|rfl|omega))))|(refine fB ?_)|(refine fO ?_))
       rw[hback] at hb2;exact⟨(r.1+1,r.2.1,D2),⟨⟨by simp only;omega,hr2⟩,hb2,hr4,fun m j' hm hj'=>hr5 m j' (by simp only at hm;omega) hj',hr6⟩,by simp only;omega,(eF),(eC)⟩
     ·repeat'((try(conv=>whnf));first|(refine fG ?_))
      exact⟨q.2.1,q.2.2.1,r.2.2,r.2.1,by rw[hr2];rfl,hr3,Ent.of_sub ((ZD s.D2 own).append_left r.2.2),hr4,Y6,hr6⟩
end
end Pv
open Go Go.ChangeShapes Go.WideShapes Go.ChangeAt Go.RowKit
theorem qos{α:Type}{Q:Nat→α→Prop}:∀n,(∀i,i<n→∃y,Q i y)→∃l:List α,l.length=n∧∀i y,l[i]? =some y→Q i y
 |0,_=>⟨[],rfl,fun i y h=>by simp at h⟩
 |n+1,h=>by
  obtain⟨l,hl,hq⟩:=qos n (fun i hi=>h i Y6);obtain⟨y,hy⟩:=h n Y6;refine⟨l++ [y],by simp[hl],fun i z hz=> ?_⟩
  by_cases hi:i<l.length
  ·rw[zy hi] at hz;exact hq i z hz
  ·rw[zP Y6] at hz;have:i-l.length=0:=by
    by_cases h0:i-l.length=0
    ·exact h0
    ·rw[zX (by simp;omega)] at hz;cases hz
   rw[this] at hz;simp only[Zw,Option.some.injEq] at hz;subst hz;have:i=n:=Y6;subst this;exact hy
section
variable{H:Type}{enc:TypeId×Value→H}{P:Program}{w:World}{spare:Nat→Bool}{held:Bool}
theorem qoR{own:Own}{a:Addr}{v:Value}(h:w.cell? a=some v):Kn w own (fun w'=>w'.cell? a=some v):=fun w' hw=>by
 have hb:a.block<w.heap.size:=by
  unfold World.cell? at h
  split at h
  ·rename_i hb;exact(Zo.1 hb).1
  ·cases h
 exact(World.cell?_of_block (w:=w) (hw.base a.block hb)).trans h
theorem qoG{fuel:Nat}{t:TypeId}{cs:List Value}{x:DataW H×List MemPlace}{k:IntKind}(ht:P.underlying t=some (.int k))(h:DataW.trod enc P w 0 spare held fuel t cs=some x):∃n,cs= [.int k n]∧inK k n:=by
 obtain⟨n,rfl,_,hw⟩:=DataW.trod_int ht h;refine⟨n,rfl,qoS ?_⟩;simp only[Lit.wf,zx,decide_eq_true_eq] at hw;exact hw
def qpc(P:Program)(t:TypeId)(i:Nat):Option (Nat×TypeId):=match P.underlying t with
 |some (.struct fs)=>(fs[i]?).map fun f=>(f.offset,f.type)
 |_=>none
end
open Go
theorem qol{P:Program}{W0:World}{own:Own}{k:FuncId}{args:List Value}{T:TypeId}{Φ:List Ins→Prop}{K:Value→Own→Prop}
  (h:qt P W0 k args own fun v own'=>∃a cap D p,v= .slice a (List.length p) cap∧qu Ins.enc T 5 a cap p D∧Ent W0 own' (D++own)∧Φ p)
  (hk:∀a cap D p,qu Ins.enc T 5 a cap p D→Φ p→K (.slice a (List.length p) cap) (D++own)):q0w P W0 own k args K:=
 ⟨fun w hw=>(h w hw).mono fun _ _ ⟨_,_,he,hs,a,cap,D,p,hv,hB,hE,hΦ⟩=>⟨_,_,by rw[he,hv],hE _ hs,hk a cap D p hB hΦ⟩⟩
theorem qo8{W0:World}{e b:Nat×(Obj→Prop)}{D1 D3 L R:Own}:Ent W0 (e::(D1++(b::(D3++(L++R))))) (b::(D3++((L++D1)++R))):=by
 refine Ent.cons (Ent.of_perm ?_);refine Zb.trans (List.Perm.cons b ?_);refine(Zm D1 D3 (L++R)).trans (List.Perm.append_left D3 ?_);rw[zd];exact Zm D1 L R
abbrev qp3:Value:= .slice none 0 0
abbrev qp1(b14 b7:Nat)(c:Cfg)(own:Own):Own:=(b14,fun o=>o=Obj.cells (qh8 ⟨0,0,0,0,0,0,0,0,0,0,0,0,false⟩ qp3 qp3 qp3) 31)::(b7,fun o=>o=Obj.cells c.cs 27)::own
end Go.Proofs.YtbhbldllneadeaaGreatDoor
