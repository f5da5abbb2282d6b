/- What the laws share, part 2. No condition. -/
import Derived.LaidMore
import Derived.Lay
import Derived.LaidByTextLater
import Derived.Stop.Joined
import Derived.SevenTiedAt
import Derived.Lib.SlicesCompact
import Derived.Laws.FloatBits
import Derived.Test.YtbhbldllneadeaaGreatDoorChecked
import Derived.Shelf.SlMaps.Clone
import Derived.Shelf.Sort.Plain
import Derived.Shelf.Slices.In.SortNone
import Derived.Shelf.Slices.CompactI
import Derived.Ground.Names2Prog
import Derived.Test.YtbhbldllneadeaaGreatDoorProg
import Derived.Test.YtbhbldllneadeaaGreatDoorJ1
set_option maxRecDepth 10000
namespace Go.Proofs.YtbhbldllneadeaaGreatDoor
open Go Go.ChangeShapes Go.WideShapes Go.ChangeAt Go.RowKit
def qb{H:Type}:Nat→DataW H→Option (List Value)
 |0,_=>none
 |_+1, .lit (.int k n)=>some [.int k n]
 |_+1, .lit (.bool b)=>some [.bool b]
 |_+1, .lit (.string l)=>some [.string ⟨l.toArray⟩]
 |n+1, .agg ds=>(ds.mapM (qb n)).map List.flatten
 |_+1,_=>none
def qoO(P:Program)(f:TypeId→Bool):List Field→Nat→Option Nat
 | [],off=>some off
 |x::r,off=>if x.offset=off∧f x.type=true then qoO P f r (off+P.cellsOf x.type) else none
def qoa(P:Program):Nat→TypeId→Bool
 |0,_=>false
 |n+1,t=>match P.underlying t with
  |some (.int _)|some .bool|some .string=>true
  |some (.array k e)=>qoa P n e&&decide (P.cellsOf t=k*P.cellsOf e)
  |some (.struct fs)=>qoO P (qoa P n) fs.toList 0==some (P.cellsOf t)
  |_=>false
theorem qnY{α β:Type}{f:α→Option β}:∀(l:List α) (ys:List β),l.length=ys.length→(∀(i:Nat) x,l[i]? =some x→f x=ys[i]?)→l.mapM f=some ys
 | [],[],_,_=>by simp
 |x::l,y::ys,hl,h=>by
  have h0:=h 0 x rfl;simp only[Zw] at h0;have ih:=qnY l ys (by simpa using hl) (fun i x hx=>by have:=h (i+1) x (by simpa using hx);simpa using this);rw[List.mapM_cons,h0,ih];rfl
 | [],_::_,hl,_=>by cases hl
 |_::_,[],hl,_=>by cases hl
theorem qnS{cs:List Value}(s:Nat):∀k,((List.range k).map fun i=>(cs.drop (i*s)).take s).flatten=cs.take (k*s)
 |0=>by simp
 |k+1=>by
  rw[ZX,zH,zY,qnS s k,Zz,List.take_add];simp
theorem qnZ{P:Program}{f:TypeId→Bool}{cs:List Value}:∀(l:List Field) (off tot:Nat),qoO P f l off=some tot→off≤tot∧(l.map fun x=>(cs.drop x.offset).take (P.cellsOf x.type)).flatten=(cs.drop off).take (tot-off)
 | [],off,tot,h=>by
  simp only[qoO,Option.some.injEq] at h;subst h;simp
 |x::l,off,tot,h=>by
  unfold qoO at h
  split at h
  ·rename_i hx;obtain⟨h1,h2⟩:=qnZ (cs:=cs) l _ tot h;refine⟨Y6,?_⟩;rw[zF,Z2,h2,hx.1];have e:tot-off=P.cellsOf x.type+(tot-(off+P.cellsOf x.type)):=Y6;rw[e,List.take_add,yD]
  ·cases h
theorem qo9{P:Program}{f:TypeId→Bool}:∀(l:List Field) (off tot:Nat),qoO P f l off=some tot→∀x∈l,f x.type=true
 | [],_,_,_,x,hx=>by cases hx
 |y::l,off,tot,h,x,hx=>by
  unfold qoO at h
  split at h
  ·rename_i hy
   rcases zQ.1 hx with rfl|hx
   ·exact hy.2
   ·exact qo9 l _ _ h x hx
  ·cases h
section
variable{H:Type}{enc:TypeId×Value→H}{P:Program}{w:World}{base:Nat}{spare:Nat→Bool}{held:Bool}
theorem qnW:∀(n fuel:Nat) (t:TypeId) (cs:List Value) (d:DataW H) (p:List MemPlace),qoa P n t=true→DataW.trod enc P w base spare held fuel t cs=some (d,p)→qb n d=some cs
 |0,_,_,_,_,_,h,_=>by simp[qoa] at h
 |n+1,fuel,t,cs,d,p,h,hd=>by
  unfold qoa at h
  split at h
  ·rename_i hu;obtain⟨m,rfl,hx,_⟩:=DataW.trod_int hu hd;simp only[Prod.mk.injEq] at hx;rw[hx.1];rfl
  ·rename_i hu;obtain⟨m,rfl,hx⟩:=DataW.trod_bool hu hd;simp only[Prod.mk.injEq] at hx;rw[hx.1];rfl
  ·rename_i hu;obtain⟨m,rfl,hx,_⟩:=DataW.trod_string hu hd;simp only[Prod.mk.injEq] at hx;rw[hx.1];simp[qb]
  ·rename_i k e hu;simp only[zx,decide_eq_true_eq] at h;obtain⟨xs,m,_,hx,hl,hxl,hel⟩:=DataW.trod_array hu hd;simp only[Prod.mk.injEq] at hx;rw[hx.1];have hm:(xs.map (·.1)).mapM (qb n)=some ((List.range k).map fun i=>(cs.drop (i*P.cellsOf e)).take (P.cellsOf e)):=by
    refine qnY _ _ (by simp[hxl]) fun i x hx=> ?_
    rw[zI] at hx;obtain⟨y,hy,rfl⟩:=Zc.1 hx;have hi:i<k:=by rw[←hxl];exact(z7.1 hy).1
    have:=hel i hi;rw[hy] at this;rw[qnW n m e _ y.1 y.2 h.1 this];simp[hi]
   simp only[qb,hm,Zu];rw[qnS,←h.2,←hl,Z4]
  ·rename_i fs hu;simp only[beq_iff_eq] at h;obtain⟨xs,m,_,hx,hl,hxl,hel⟩:=DataW.trod_struct hu hd;simp only[Prod.mk.injEq] at hx;rw[hx.1];have hm:(xs.map (·.1)).mapM (qb n)=some (fs.toList.map fun x=>(cs.drop x.offset).take (P.cellsOf x.type)):=by
    refine qnY _ _ (by simp[hxl]) fun i x hx=> ?_
    rw[zI] at hx;obtain⟨y,hy,rfl⟩:=Zc.1 hx;have hi:i<fs.size:=by rw[←hxl];exact(z7.1 hy).1
    have hf:fs[i]? =some fs[i]:=ZC hi;have:=hel i fs[i] hf;rw[hy] at this;have hft:=qo9 fs.toList 0 _ h fs[i] Y8;rw[qnW n m _ _ y.1 y.2 hft this];simp[hi]
   simp only[qb,hm,Zu];rw[(qnZ (cs:=cs) fs.toList 0 _ h).2];simp[←hl]
  ·cases h
end
theorem qo7{P:Program}{w:World}:∀{l:List (String×DataW Unit)} {ps:List MemPlace},DataW.LaidVars P w l ps→∀{n:String} {d:DataW Unit},(n,d)∈l→
  ∃g t cs fuel p,P.globalNamed n=some g∧(P.globals[g]?).map (·.type)=some t∧w.var? P n=some cs∧DataW.trod (fun _=>()) P w 0 (fun _=>true) false fuel t cs.toList=some (d,p)
 | [],_,_,_,_,h=>by cases h
 |(n',d')::r,ps,hL,n,d,h=>by
  obtain⟨g,t,cs,fuel,p,q,h1,h2,h3,h4,h5,_⟩:=hL
  rcases zQ.1 h with e|h
  ·cases e;exact⟨g,t,cs,fuel,p,h1,h2,h3,h4⟩
  ·exact qo7 h5 h
theorem qok{P:Program}{w:World}{l:List (String×DataW Unit)}{n:String}{d:DataW Unit}{g:Nat}{t:TypeId}{cs:List Value}(hp:(l.all fun x=>x.2.handleName?.isNone)=true)
  (h:laidMetH P l w) (hm:(n,d)∈l) (hg:P.globalNamed n=some g) (ht:(P.globals[g]?).map (·.type)=some t) (hf:qoa P 6 t=true) (hc:qb 6 d=some cs) (hne:cs≠ []):q12 w g cs:=by
 rw[MakeChecks.laidMetH_plain _ _ _ hp] at h;obtain⟨ps,hL,_,_⟩:=h;obtain⟨g',t',cs',fuel,p,h1,h2,h3,h4⟩:=qo7 hL hm;rw[hg] at h1;obtain rfl:=Option.some.inj h1;rw[ht] at h2;obtain rfl:=Option.some.inj h2;have h5:=qnW 6 fuel t _ d p hf h4;rw[hc] at h5;have h5:=(Option.some.inj h5).symm;have hcell:∀j v,cs[j]? =some v→w.cell? ⟨g,j,none⟩=some v:=fun j v hv=>by
  rw[World.var?_cell hg h3 j,←Z1,h5,hv]
 refine⟨?_,hcell⟩
 match cs,hne with
 |v::_,_=>
  have:=hcell 0 v rfl;unfold World.cell? at this
  split at this
  ·rename_i hb;exact(Zo.1 hb).1
  ·cases this
open Go Go.ChangeShapes Go.WideShapes Go.ChangeAt Go.RowKit
theorem qol{α:Type}{Q:Nat→α→Prop}:∀n,(∀i,i<n→∃y,Q i y)→∃l:List α,l.length=n∧∀i y,l[i]? =some y→Q i y
 |0,_=>⟨[],rfl,fun i y h=>by simp at h⟩
 |n+1,h=>by
  obtain⟨l,hl,hq⟩:=qol n (fun i hi=>h i Y6);obtain⟨y,hy⟩:=h n Y6;refine⟨l++ [y],by simp[hl],fun i z hz=> ?_⟩
  by_cases hi:i<l.length
  ·rw[zy hi] at hz;exact hq i z hz
  ·rw[zP Y6] at hz;have:i-l.length=0:=by
    by_cases h0:i-l.length=0
    ·exact h0
    ·rw[zX (by simp;omega)] at hz;cases hz
   rw[this] at hz;simp only[Zw,Option.some.injEq] at hz;subst hz;have:i=n:=Y6;subst this;exact hy
section
variable{H:Type}{enc:TypeId×Value→H}{P:Program}{w:World}{spare:Nat→Bool}{held:Bool}
theorem qoE{own:Own}{a:Addr}{v:Value}(h:w.cell? a=some v):Kn w own (fun w'=>w'.cell? a=some v):=fun w' hw=>by
 have hb:a.block<w.heap.size:=by
  unfold World.cell? at h
  split at h
  ·rename_i hb;exact(Zo.1 hb).1
  ·cases h
 exact(World.cell?_of_block (w:=w) (hw.base a.block hb)).trans h
theorem qox{fuel:Nat}{t:TypeId}{cs:List Value}{x:DataW H×List MemPlace}{k:IntKind}(ht:P.underlying t=some (.int k))(h:DataW.trod enc P w 0 spare held fuel t cs=some x):∃n,cs= [.int k n]∧inK k n:=by
 obtain⟨n,rfl,_,hw⟩:=DataW.trod_int ht h;refine⟨n,rfl,qoj ?_⟩;simp only[Lit.wf,zx,decide_eq_true_eq] at hw;exact hw
def qpe(P:Program)(t:TypeId)(i:Nat):Option (Nat×TypeId):=match P.underlying t with
 |some (.struct fs)=>(fs[i]?).map fun f=>(f.offset,f.type)
 |_=>none
end
open Go Go.Proofs.YtbhbldllneadeaaGreatDoor.Ord
section
variable{n:Nat}
theorem qW{e:EH}{w:Int}(h:toB e w=true):((e.k=1∨e.k=2)∧e.w=w)∨(e.k=4∧(w∈e.rl∨w∈e.wl)):=by
 unfold toB wrB at h;simp only[ZB,zx,decide_eq_true_eq,ZU] at h
 rcases h with (⟨h1,h2⟩|⟨h1,h2⟩)|⟨h1,h2⟩|⟨h1,h2⟩
 ·exact .inl ⟨.inr h1,h2⟩
 ·exact .inr ⟨h1, .inr h2⟩
 ·exact .inl ⟨.inl h1,h2⟩
 ·exact .inr ⟨h1, .inl h2⟩
end
open Go
theorem q7{v w:Int}:∀(k q j:Nat),q<k→j<24→(q2c v w k)[24*q+j]? =(iF v w)[j]?
 |0,q,j,h,_=>absurd h (Nat.not_lt_zero _)
 |k+1,0,j,_,hj=>by
  rw[q2c,zy (by rw[show(iF v w).length=24 from rfl];omega),Nat.mul_zero,zD]
 |k+1,q+1,j,hq,hj=>by
  rw[q2c,zP (by rw[show(iF v w).length=24 from rfl];omega),show(iF v w).length=24 from rfl,show 24*(q+1)+j-24=24*q+j by omega];exact q7 k q j Y6 hj
theorem qod:∀(n:Nat) (l:List Ins) (k:Nat),(∀j,j<n→∃x,l[j]? =some x∧x.op≠8)→(∃x,l[n]? =some x∧x.op=8)→q1k l k=k+n
 |0,l,k,_,⟨x,hx,h8⟩=>by
  cases l with
  |nil=>cases hx
  |cons y l=>cases hx;rw[q1k,if_pos h8,Zy]
 |n+1,l,k,h,⟨x,hx,h8⟩=>by
  cases l with
  |nil=>cases hx
  |cons y l=>
   obtain⟨z,hz,hz8⟩:=h 0 Y6;cases hz;rw[q1k,if_neg hz8,qod n l (k+1) (fun j hj=>by
    obtain⟨z,hz,h⟩:=h (j+1) Y6;exact⟨z,hz,h⟩) ⟨x,hx,h8⟩]
   omega
theorem qpb{v w:Int}{k q b n:Nat}(hq:q<k)(hb:(b=2∧n=4)∨(b=14∧n=1)∨(b=17∧n=5)):q0t (q2c v w k) (24*q+b)=24*q+b+1+n:=by
 unfold q0t;refine qod n _ _ (fun j hj=> ?_) ?_
 ·rw[yw,show 24*q+b+1+j=24*q+(b+1+j) by omega,q7 k q _ hq Y6];have:(b=2∧(j=0∨j=1∨j=2∨j=3))∨(b=14∧j=0)∨(b=17∧(j=0∨j=1∨j=2∨j=3∨j=4)):=Y6
  rcases this with ⟨rfl,rfl|rfl|rfl|rfl⟩|⟨rfl,rfl⟩|⟨rfl,rfl|rfl|rfl|rfl|rfl⟩ <;>exact⟨_,rfl,Y8⟩
 ·rw[yw,show 24*q+b+1+n=24*q+(b+1+n) by omega,q7 k q _ hq Y6]
  rcases hb with ⟨rfl,rfl⟩|⟨rfl,rfl⟩|⟨rfl,rfl⟩ <;>exact⟨_,rfl,rfl⟩
theorem qoS{rg:Rg}(h0:rg.r0=0){imm:Int}(h:0≤imm∧imm≤1000):adr rg 0 imm=imm:=by
 unfold adr;rw[show rg.get (0:Int).toNat=rg.r0 from rfl,h0,Int.zero_add,q27 ⟨h.1,Y6⟩,q27 ⟨h.1,Y6⟩]
section
variable{b:BM}
theorem qpj(h0:b.t.rg.r0=0){a w:Int}(hw:0≤w∧w≤3):q07 cfF b ⟨10,a,0,0,w⟩=((rdM b w.toNat).put a 1 (b.d.getD w.toNat 0),0):=by
 unfold q07;dsimp only;rw[if_pos rfl,qoS h0 Y6,if_neg (by show ¬(4:Int)≤w;omega)]
theorem qpk(h0:b.t.rg.r0=0){s w:Int}(hw:0≤w∧w≤3):q07 cfF b ⟨11,0,s,0,w⟩=((wrM b w.toNat (b.t.rg.get s.toNat)).go,0):=by
 unfold q07;dsimp only;rw[if_neg Y7,if_pos rfl,qoS h0 Y6,if_neg (by show ¬(4:Int)≤w;omega)]
theorem qph:q07 cfF b ⟨8,0,0,0,0⟩=(b.go,1):=rfl
theorem qpi{x:Ins}(h:0≤x.op∧x.op≤6):q07 cfF b x=({b with t:=q1q b.t x},0):=by
 unfold q07;rw[if_neg Y6,if_neg Y6,if_neg Y6,if_neg Y6,if_neg Y6,if_neg Y6]
theorem qc{p:List Ins}{n:Nat}{x:Ins}{b':BM}(hx:p[b.t.pc]? =some x)(h:q07 cfF b x=(b',0)):q3U cfF p (n+1) b=q3U cfF p n b':=by
 rw[q3U,hx];dsimp only;rw[if_pos (by rw[h]),h]
theorem qnT{p:List Ins}{n:Nat}{x:Ins}{b':BM}{o:Int}(hx:p[b.t.pc]? =some x)(h:q07 cfF b x=(b',o))(ho:o≠0):q3U cfF p (n+1) b=(b',o):=by
 rw[q3U,hx];dsimp only;rw[if_neg (by rw[h];exact ho),h]
structure BAt(b:BM)(d:List Int)(tk:List Bool)(rg:Rg)(pc:Nat)(wl rl:List Int):Prop where
 d:b.d=d
 tk:b.tk=tk
 rg:b.t.rg=rg
 pc:b.t.pc=pc
 wl:b.w=wl
 ad:b.ad= []
 rl:b.r=rl
def rdL(wl rl:List Int)(w:Int):List Int:=if w∈wl∨w∈rl then rl else rl++ [w]
theorem qon{wl rl:List Int}{w z:Int}(h:z∈rdL wl rl w):z∈rl∨z=w:=by
 unfold rdL at h
 split at h
 ·exact .inl h
 ·rcases zz.1 h with h|h
  ·exact .inl h
  ·exact .inr (zf.1 h)
variable{d:List Int}{tk:List Bool}{rg:Rg}{pc:Nat}{wl rl:List Int}{p:List Ins}
theorem BAt.rd(h:BAt b d tk rg pc wl rl){a w:Int}(hx:p[pc]? =some ⟨10,a,0,0,w⟩)(h0:rg.r0=0)(hw:0≤w∧w≤3):∃b' x,p[b.t.pc]? =some x∧q07 cfF b x=(b',0)∧BAt b' d tk (rg.set a.toNat (d.getD w.toNat 0)) (pc+1) wl (rdL wl rl w):=by
 refine⟨_,_,by rw[h.pc];exact hx,qpj (by rw[h.rg];exact h0) hw,?_⟩;exact⟨h.d,h.tk,by show b.t.rg.set a.toNat (b.d.getD w.toNat 0)=_;rw[h.rg,h.d],by show b.t.pc+1=_;rw[h.pc],h.wl,h.ad,by show(if((w.toNat:Nat):Int)∈b.w∨((w.toNat:Nat):Int)∈b.r then b.r else b.r++ [((w.toNat:Nat):Int)])=_;rw[h.wl,h.rl,Z6 hw.1];rfl⟩
theorem BAt.wr(h:BAt b d tk rg pc wl rl){s w:Int}(hx:p[pc]? =some ⟨11,0,s,0,w⟩)(h0:rg.r0=0)(hw:0≤w∧w≤3):∃b' x,p[b.t.pc]? =some x∧q07 cfF b x=(b',0)∧BAt b' (d.set w.toNat (rg.get s.toNat)) tk rg (pc+1) (q1G wl w) rl:=by
 refine⟨_,_,by rw[h.pc];exact hx,qpk (by rw[h.rg];exact h0) hw,?_⟩;exact⟨by show b.d.set w.toNat (b.t.rg.get s.toNat)=_;rw[h.rg,h.d],h.tk,h.rg,by show b.t.pc+1=_;rw[h.pc],by show q1G b.w ((w.toNat:Nat):Int)=_;rw[h.wl,Z6 hw.1],h.ad,h.rl⟩
theorem BAt.lc(h:BAt b d tk rg pc wl rl){x:Ins}(hx:p[pc]? =some x)(hop:0≤x.op∧x.op≤6):∃b' y,p[b.t.pc]? =some y∧q07 cfF b y=(b',0)∧BAt b' d tk (q3S ⟨pc,rg,b.t.oc,b.t.dn⟩ x) (q1o ⟨pc,rg,b.t.oc,b.t.dn⟩ x) wl rl:=by
 have e:b.t=⟨pc,rg,b.t.oc,b.t.dn⟩:=by
  obtain⟨d0,tk0,⟨pc0,rg0,oc0,dn0⟩,r0,w0,o0,ad0⟩:=b;have h1:pc0=pc:=h.pc;have h2:rg0=rg:=h.rg;subst h1;subst h2;rfl
 refine⟨_,x,by rw[h.pc];exact hx,qpi hop,?_⟩;exact⟨h.d,h.tk,by show q3S b.t x=_;rw[←e],by show q1o b.t x=_;rw[←e],h.wl,h.ad,h.rl⟩
theorem BAt.cm(h:BAt b d tk rg pc wl rl)(hx:p[pc]? =some ⟨8,0,0,0,0⟩):∃b' x,p[b.t.pc]? =some x∧q07 cfF b x=(b',1)∧BAt b' d tk rg (pc+1) wl rl:=
 ⟨_,_,by rw[h.pc];exact hx,qph,h.d,h.tk,h.rg,by show b.t.pc+1=_;rw[h.pc],h.wl,h.ad,h.rl⟩
end
section
variable{v w:Int}{k q:Nat}{d:List Int}{tk:List Bool}{rg:Rg}{b:BM}
theorem tx1(hq:q<k)(h:BAt b d tk rg (24*q+3) [] [])(h0:rg.r0=0){n:Nat}(hn:8≤n):∃b',q3U cfF (q2c v w k) n b=(b',1)∧b'.ad= []∧b'.tk=tk∧b'.r= [0]∧b'.t.rg.r0=0∧b'.t.rg.r2=rg.r2∧((d.getD 0 0≠0∧b'.d=d∧b'.w= []∧b'.t.rg.r1=rg.r1)∨(d.getD 0 0=0∧b'.d=d.set 0 rg.r2∧b'.w= [0]∧b'.t.rg.r1=1)):=by
 obtain⟨m,rfl⟩:∃m,n=m+8:=⟨n-8,Y6⟩
 have at':=fun j (hj:j<24)=>q7 (v:=v) (w:=w) k q j hq hj
 obtain⟨b1,x1,a1,s1,h1⟩:=h.rd (at' 3 Y6) h0 Y6;obtain⟨b2,x2,a2,s2,h2⟩:=h1.lc (at' 4 Y6) Y7;rw[qc a1 s1,qc a2 s2]
 by_cases hd:d.getD 0 0=0
 ·have hp:q1o ⟨24*q+3+1,rg.set (3:Int).toNat (d.getD (0:Int).toNat 0),b1.t.oc,b1.t.dn⟩ ⟨6,3,0,0,2⟩=24*q+5:=by
   unfold q1o;rw[if_neg];rintro(h|⟨h,_⟩|⟨_,h⟩)
   ·exact absurd h Y7
   ·exact absurd h Y7
   ·exact h hd
  rw[hp] at h2;obtain⟨b3,x3,a3,s3,h3⟩:=h2.wr (at' 5 Y6) h0 Y6;obtain⟨b4,x4,a4,s4,h4⟩:=h3.lc (at' 6 Y6) Y7;obtain⟨b5,x5,a5,s5,h5⟩:=h4.cm (at' 7 Y6);rw[qc a3 s3];rw[qc a4 s4,qnT a5 s5 Y7];exact⟨b5,rfl,h5.ad,h5.tk,h5.rl,by rw[h5.rg];exact h0,by rw[h5.rg];rfl, .inr ⟨hd,h5.d,h5.wl,by rw[h5.rg];rfl⟩⟩
 ·have hp:q1o ⟨24*q+3+1,rg.set (3:Int).toNat (d.getD (0:Int).toNat 0),b1.t.oc,b1.t.dn⟩ ⟨6,3,0,0,2⟩=24*q+7:=by
   unfold q1o;rw[if_pos (.inr (.inr ⟨rfl,hd⟩))];rfl
  rw[hp] at h2;obtain⟨b5,x5,a5,s5,h5⟩:=h2.cm (at' 7 Y6);rw[qnT a5 s5 Y7];exact⟨b5,rfl,h5.ad,h5.tk,h5.rl,by rw[h5.rg];exact h0,by rw[h5.rg];rfl, .inl ⟨hd,h5.d,h5.wl,by rw[h5.rg];rfl⟩⟩
theorem tx2(hq:q<k)(h:BAt b d tk rg (24*q+15) [] [])(h0:rg.r0=0){n:Nat}(hn:8≤n):∃b',q3U cfF (q2c v w k) n b=(b',1)∧b'.ad= []∧b'.tk=tk∧b'.r= []∧b'.t.rg=rg∧b'.d=d.set 0 rg.r5∧b'.w= [0]:=by
 obtain⟨m,rfl⟩:∃m,n=m+8:=⟨n-8,Y6⟩
 have at':=fun j (hj:j<24)=>q7 (v:=v) (w:=w) k q j hq hj
 obtain⟨b1,x1,a1,s1,h1⟩:=h.wr (at' 15 Y6) h0 Y6;obtain⟨b5,x5,a5,s5,h5⟩:=h1.cm (at' 16 Y6);rw[qc a1 s1,qnT a5 s5 Y7];exact⟨b5,rfl,h5.ad,h5.tk,h5.rl,h5.rg,h5.d,h5.wl⟩
theorem tx3(hq:q<k)(hw:1≤w∧w≤3)(h:BAt b d tk rg (24*q+18) [] [])(h0:rg.r0=0){n:Nat}(hn:8≤n):∃b',q3U cfF (q2c v w k) n b=(b',1)∧b'.ad= []∧b'.tk=tk∧b'.t.rg.r0=0∧b'.t.rg.r2=rg.r2∧((d.getD 0 0≠0∧b'.d=d∧b'.w= []∧b'.r= [0])∨(d.getD 0 0=0∧(∃z,b'.d=d.set w.toNat z)∧b'.w= [w]∧∀z∈b'.r,z=0∨z=w)):=by
 obtain⟨m,rfl⟩:∃m,n=m+8:=⟨n-8,Y6⟩
 have at':=fun j (hj:j<24)=>q7 (v:=v) (w:=w) k q j hq hj
 obtain⟨b1,x1,a1,s1,h1⟩:=h.rd (at' 18 Y6) h0 Y6;obtain⟨b2,x2,a2,s2,h2⟩:=h1.lc (at' 19 Y6) Y7;rw[qc a1 s1,qc a2 s2]
 by_cases hd:d.getD 0 0=0
 ·have hp:q1o ⟨24*q+18+1,rg.set (3:Int).toNat (d.getD (0:Int).toNat 0),b1.t.oc,b1.t.dn⟩ ⟨6,3,0,0,3⟩=24*q+20:=by
   unfold q1o;rw[if_neg];rintro(h|⟨h,_⟩|⟨_,h⟩)
   ·exact absurd h Y7
   ·exact absurd h Y7
   ·exact h hd
  rw[hp] at h2;obtain⟨b3,x3,a3,s3,h3⟩:=h2.rd (at' 20 Y6) h0 Y6;obtain⟨b4,x4,a4,s4,h4⟩:=h3.lc (at' 21 Y6) Y7;obtain⟨b5,x5,a5,s5,h5⟩:=h4.wr (at' 22 Y6) h0 Y6;obtain⟨b6,x6,a6,s6,h6⟩:=h5.cm (at' 23 Y6);rw[qc a3 s3,qc a4 s4,qc a5 s5,qnT a6 s6 Y7];exact⟨b6,rfl,h6.ad,h6.tk,by rw[h6.rg];exact h0,by rw[h6.rg];rfl, .inr ⟨hd,⟨_,h6.d⟩,h6.wl,fun z hz=>by
   rw[h6.rl] at hz
   rcases qon hz with h|h
   ·rcases qon h with h|h
    ·cases h
    ·exact .inl h
   ·exact .inr h⟩⟩
 ·have hp:q1o ⟨24*q+18+1,rg.set (3:Int).toNat (d.getD (0:Int).toNat 0),b1.t.oc,b1.t.dn⟩ ⟨6,3,0,0,3⟩=24*q+23:=by
   unfold q1o;rw[if_pos (.inr (.inr ⟨rfl,hd⟩))];rfl
  rw[hp] at h2;obtain⟨b5,x5,a5,s5,h5⟩:=h2.cm (at' 23 Y6);rw[qnT a5 s5 Y7];exact⟨b5,rfl,h5.ad,h5.tk,by rw[h5.rg];exact h0,by rw[h5.rg];rfl, .inl ⟨hd,h5.d,h5.wl,h5.rl⟩⟩
end
open Go
structure ST(v:Int)(th:Thr)(d0:Int):Prop where
 r0:th.rg.r0=0
 ps:th.pc % 24=0∨th.pc % 24=1∨th.pc % 24=2∨th.pc % 24=8∨(9≤th.pc % 24∧th.pc % 24≤14)∨th.pc % 24=17
 r2:th.pc % 24≠0→th.rg.r2=v
 r1:th.pc % 24=2→th.rg.r1=0
 r8:th.pc % 24=8→th.rg.r1=0∨th.rg.r1=1
 r5:th.pc % 24=14→th.rg.r5=0
 own:(th.pc % 24=8∧th.rg.r1=1)∨(9≤th.pc % 24∧th.pc % 24≤14)→d0=v
def GI(ps:List (List Ins))(g:GS):Prop:=g.d.length=4∧∀(t:Nat) th p,g.T[t]? =some th→ps[t]? =some p→ST ((t:Int)+1) th (g.d.getD 0 0)
section
variable{ps:List (List Ins)}{g g':GS}{v w:Int}{k:Nat}{th th':Thr}{d0:Int}
theorem GI.zero{il:List Int}(hl:il.length=4):GI ps (q4a cfF il ps):=by
 refine⟨hl,fun t th p ht hp=> ?_⟩;unfold q4a at ht;dsimp only at ht;rw[zI] at ht;obtain⟨q,_,rfl⟩:=Zc.1 ht;exact⟨rfl, .inl rfl,fun h=>absurd rfl h,fun h=>absurd h (by show ¬0 % 24=2;decide),fun h=>absurd h (by show ¬0 % 24=8;decide),fun h=>absurd h (by show ¬0 % 24=14;decide),fun h=>by
  rcases h with ⟨h,_⟩|⟨h,_⟩
  ·exact absurd h (by show ¬0 % 24=8;decide)
  ·exact absurd h (by show ¬9≤0 % 24;decide)⟩
structure qoT(t:Nat)(th th':Thr)(d d':List Int):Prop where
 st:ST ((t:Int)+1) th' (d'.getD 0 0)
 d0:d'.getD 0 0=d.getD 0 0∨(d.getD 0 0=0∧d'.getD 0 0=(t:Int)+1)∨(d.getD 0 0=(t:Int)+1∧d'.getD 0 0=0)
 dl:d'.length=4
theorem qoN{d:List Int}{w:Int}(hw:1≤w)(z:Int):(d.set w.toNat z).getD 0 0=d.getD 0 0:=by
 rw[zh,zh,List.getElem?_set_ne Y6]
theorem GI.put(h:GI ps g){t:Nat}{p:List Ins}(ht:g.T[t]? =some th)(hp:ps[t]? =some p)(hs:qoT t th th' g.d g'.d)(hT:g'.T=g.T.set t th'):GI ps g':=by
 refine⟨hs.dl,fun u z q hz hq=> ?_⟩;rw[hT] at hz
 by_cases hu:u=t
 ·subst hu;rw[zv,if_pos rfl,if_pos (z7.1 ht).1] at hz;cases hz;exact hs.st
 ·rw[zv,if_neg (fun e=>hu e.symm)] at hz;have hS:=h.2 u z q hz hq;refine⟨hS.r0,hS.ps,hS.r2,hS.r1,hS.r8,hS.r5,fun ho=> ?_⟩;have e:=hS.own ho
  rcases hs.d0 with h1|⟨h1,_⟩|⟨h1,_⟩
  ·rw[h1];exact e
  ·omega
  ·omega
theorem qpf{t q:Nat}(hs:ST ((t:Int)+1) th (g.d.getD 0 0))(hl:g.d.length=4)(ht:t≤2){j:Nat}{x:Ins}(hpc:th.pc=24*q+j)(hx:(iF ((t:Int)+1) w)[j]? =some x)(hj:j=0∨j=1∨j=8∨j=9∨j=11∨j=13)(hd:th'.rg=q3S th x∧th'.pc=q1o th x):qoT t th th' g.d g.d:=by
 refine⟨?_, .inl rfl,hl⟩;have h0:=hs.r0;have hr2:=hs.r2;have hr8:=hs.r8;have hown:=hs.own;obtain⟨e1,e2⟩:=hd;have hw:qM ((t:Int)+1)=(t:Int)+1:=q27 ⟨Y6,Y6⟩
 rcases hj with rfl|rfl|rfl|rfl|rfl|rfl
 ·obtain rfl:(⟨1,2,0,0,(t:Int)+1⟩:Ins)=x:=Option.some.inj hx;have e3:th'.pc=24*q+1:=by rw[e2,←show th.pc+1=24*q+1 by omega];rfl
  have e4:th'.rg.r2=(t:Int)+1:=by rw[e1];exact hw
  exact⟨by rw[e1];exact h0,Y6,fun _=>e4,fun h=>by omega,fun h=>by omega,fun h=>by omega,fun h=>by omega⟩
 ·obtain rfl:(⟨1,1,0,0,0⟩:Ins)=x:=Option.some.inj hx;have e3:th'.pc=24*q+2:=by rw[e2,←show th.pc+1=24*q+2 by omega];rfl
  exact⟨by rw[e1];exact h0,Y6,fun _=>by rw[e1];exact hr2 Y6,fun _=>by rw[e1];exact(show qM 0=0 by decide),fun h=>by omega,fun h=>by omega,fun h=>by omega⟩
 ·obtain rfl:(⟨5,1,0,0,8⟩:Ins)=x:=Option.some.inj hx
  by_cases h1:th.rg.r1=0
  ·have e3:th'.pc=24*q+17:=by
    rw[e2];unfold q1o;rw[if_pos (.inr (.inl ⟨rfl,h1⟩))];show th.pc+1+8=_;omega
   exact⟨by rw[e1];exact h0,Y6,fun _=>by rw[e1];exact hr2 Y6,fun h=>by omega,fun h=>by omega,fun h=>by omega,fun h=>by omega⟩
  ·have e3:th'.pc=24*q+9:=by
    rw[e2];unfold q1o;rw[if_neg (by
     rintro(h|⟨_,h⟩|⟨h,_⟩)
     ·exact absurd h Y7
     ·exact h1 h
     ·exact absurd h Y7)]
    omega
   have h8:th.rg.r1=1:=(hr8 Y6).resolve_left h1;exact⟨by rw[e1];exact h0,Y6,fun _=>by rw[e1];exact hr2 Y6,fun h=>by omega,fun h=>by omega,fun h=>by omega,fun _=>hown (.inl ⟨Y6,h8⟩)⟩
 ·obtain rfl:(⟨16,0,0,0,0⟩:Ins)=x:=Option.some.inj hx;have e3:th'.pc=24*q+10:=by rw[e2,←show th.pc+1=24*q+10 by omega];rfl
  exact⟨by rw[e1];exact h0,Y6,fun _=>by rw[e1];exact hr2 Y6,fun h=>by omega,fun h=>by omega,fun h=>by omega,fun _=>hown (.inr Y6)⟩
 ·obtain rfl:(⟨3,4,4,2,0⟩:Ins)=x:=Option.some.inj hx;have e3:th'.pc=24*q+12:=by rw[e2,←show th.pc+1=24*q+12 by omega];rfl
  exact⟨by rw[e1];exact h0,Y6,fun _=>by rw[e1];exact hr2 Y6,fun h=>by omega,fun h=>by omega,fun h=>by omega,fun _=>hown (.inr Y6)⟩
 ·obtain rfl:(⟨1,5,0,0,0⟩:Ins)=x:=Option.some.inj hx;have e3:th'.pc=24*q+14:=by rw[e2,←show th.pc+1=24*q+14 by omega];rfl
  exact⟨by rw[e1];exact h0,Y6,fun _=>by rw[e1];exact hr2 Y6,fun h=>by omega,fun h=>by omega,fun _=>by rw[e1];exact(show qM 0=0 by decide),fun _=>hown (.inr Y6)⟩
theorem qoX{t q:Nat}{d':List Int}(hs:ST ((t:Int)+1) th (g.d.getD 0 0))(hl:g.d.length=4){j:Nat}(hpc:th.pc=24*q+j)(hj:j=10∨j=12)(h0':th'.rg.r0=0)(h2':th'.rg.r2=th.rg.r2)(hp:th'.pc=th.pc+1)(hw:1≤w)(hd:d'=g.d∨∃z,d'=g.d.set w.toNat z):qoT t th th' g.d d':=by
 have hr2:=hs.r2;have hown:=hs.own;have e0:d'.getD 0 0=g.d.getD 0 0∧d'.length=4:=by
  rcases hd with rfl|⟨z,rfl⟩
  ·exact⟨rfl,hl⟩
  ·exact⟨qoN hw z,by rw[zj];exact hl⟩
 refine⟨?_, .inl e0.1,e0.2⟩;rw[e0.1];exact⟨h0',Y6,fun _=>by rw[h2'];exact hr2 Y6,fun h=>by omega,fun h=>by omega,fun h=>by omega,fun _=>hown (.inr Y6)⟩
theorem qpg{t q:Nat}(hs:ST ((t:Int)+1) th (g.d.getD 0 0))(hl:g.d.length=4){j j':Nat}(hpc:th.pc=24*q+j)(hj:(j=2∧j'=8)∨(j=14∧j'=17)∨(j=17∧j'=24))(hr:th'.rg=th.rg)(hp:th'.pc=24*q+j'):qoT t th th' g.d g.d:=by
 have hr2:=hs.r2;have hr1:=hs.r1;refine⟨⟨by rw[hr];exact hs.r0,Y6,fun _=>by rw[hr];exact hr2 Y6,fun h=>by omega,fun _=> .inl (by rw[hr];exact hr1 Y6),fun h=>by omega,fun h=> ?_⟩, .inl rfl,hl⟩
 rcases h with ⟨h,h1⟩|h
 ·rw[hr,hr1 Y6] at h1;exact absurd h1 Y7
 ·omega
theorem qs{d:List Int}(h:0<d.length)(z:Int):(d.set 0 z).getD 0 0=z:=by
 rw[zh,zv,if_pos rfl,if_pos h];rfl
theorem qoY{t q:Nat}(hs:ST ((t:Int)+1) th (g.d.getD 0 0))(hl:g.d.length=4)(hw:1≤w∧w≤3)(hq:q<k){j j':Nat}(hpc:th.pc=24*q+j)(hj:(j=2∧j'=8)∨(j=14∧j'=17)∨(j=17∧j'=24)){n:Nat}(hn:8≤n):
  ∃b,q3U cfF (q2c ((t:Int)+1) w k) n ⟨g.d,g.tk,{th with pc:=th.pc+1},[],[],[],[]⟩=(b,1)∧b.ad= []∧(∀th':Thr,th'.rg=b.t.rg→th'.pc=24*q+j'→qoT t th th' g.d b.d)∧
   ((j=2∧b.w= []∧b.r= [0]∧b.d=g.d)∨(j=2∧b.w= [0]∧b.r= [0]∧g.d.getD 0 0=0∧b.d.getD 0 0=(t:Int)+1)∨(j=14∧b.w= [0]∧b.r= []∧g.d.getD 0 0=(t:Int)+1∧b.d.getD 0 0=0)∨(j=17∧b.w= []∧b.r= [0]∧b.d=g.d)∨(j=17∧b.w= [w]∧(∀z∈b.r,z=0∨z=w)∧g.d.getD 0 0=0∧b.d.getD 0 0=0)):=by
 have h0:=hs.r0;have hr2:=hs.r2;have hr1:=hs.r1;have hr5:=hs.r5;have hown:=hs.own;have hB:∀c,th.pc+1=c→BAt ⟨g.d,g.tk,{th with pc:=th.pc+1},[],[],[],[]⟩ g.d g.tk th.rg c [] []:=fun c hc=>⟨rfl,rfl,rfl,hc,rfl,rfl,rfl⟩
 rcases hj with ⟨rfl,rfl⟩|⟨rfl,rfl⟩|⟨rfl,rfl⟩
 ·obtain⟨b,e1,e2,_,e4,e5,e6,e7⟩:=tx1 (v:=(t:Int)+1) (w:=w) hq (hB (24*q+3) Y6) h0 hn;refine⟨b,e1,e2,fun th' hr hp=> ?_,?_⟩
  ·have r2':th'.rg.r2=(t:Int)+1:=by rw[hr,e6];exact hr2 Y6
   rcases e7 with ⟨f1,f2,f3,f4⟩|⟨f1,f2,f3,f4⟩
   ·rw[f2];refine⟨⟨by rw[hr];exact e5,Y6,fun _=>r2',fun h=>by omega,fun _=> .inl (by rw[hr,f4];exact hr1 Y6),fun h=>by omega,fun h=> ?_⟩, .inl rfl,hl⟩
    rcases h with ⟨h,h1⟩|h
    ·rw[hr,f4,hr1 Y6] at h1;exact absurd h1 Y7
    ·omega
   ·have ev:b.d.getD 0 0=(t:Int)+1:=by rw[f2,qs Y6];exact hr2 Y6
    exact⟨⟨by rw[hr];exact e5,Y6,fun _=>r2',fun h=>by omega,fun _=> .inr (by rw[hr];exact f4),fun h=>by omega,fun _=>ev⟩, .inr (.inl ⟨f1,ev⟩),by rw[f2,zj];exact hl⟩
  ·rcases e7 with ⟨f1,f2,f3,f4⟩|⟨f1,f2,f3,f4⟩
   ·exact .inl ⟨rfl,f3,e4,f2⟩
   ·exact .inr (.inl ⟨rfl,f3,e4,f1,by rw[f2,qs Y6];exact hr2 Y6⟩)
 ·obtain⟨b,e1,e2,_,e4,e5,e6,e7⟩:=tx2 (v:=(t:Int)+1) (w:=w) hq (hB (24*q+15) Y6) h0 hn;have ev:b.d.getD 0 0=0:=by rw[e6,qs Y6];exact hr5 Y6
  have ho:=hown (.inr Y6);exact⟨b,e1,e2,fun th' hr hp=>⟨⟨by rw[hr,e5];exact h0,Y6,fun _=>by rw[hr,e5];exact hr2 Y6,fun h=>by omega,fun h=>by omega,fun h=>by omega,fun h=>by omega⟩, .inr (.inr ⟨ho,ev⟩),by rw[e6,zj];exact hl⟩, .inr (.inr (.inl ⟨rfl,e7,e4,ho,ev⟩))⟩
 ·obtain⟨b,e1,e2,_,e5,e6,e7⟩:=tx3 (v:=(t:Int)+1) hq hw (hB (24*q+18) Y6) h0 hn;refine⟨b,e1,e2,fun th' hr hp=> ?_,?_⟩
  ·have e0:b.d.getD 0 0=g.d.getD 0 0∧b.d.length=4:=by
    rcases e7 with ⟨_,f2,_⟩|⟨_,⟨z,f2⟩,_⟩
    ·rw[f2];exact⟨rfl,hl⟩
    ·rw[f2,zj];exact⟨qoN hw.1 z,hl⟩
   exact⟨⟨by rw[hr];exact e5,Y6,fun h=>by omega,fun h=>by omega,fun h=>by omega,fun h=>by omega,fun h=>by omega⟩, .inl e0.1,e0.2⟩
  ·rcases e7 with ⟨f1,f2,f3,f4⟩|⟨f1,⟨z,f2⟩,f3,f4⟩
   ·exact .inr (.inr (.inr (.inl ⟨rfl,f3,f4,f2⟩)))
   ·exact .inr (.inr (.inr (.inr ⟨rfl,f3,f4,f1,by rw[f2,qoN hw.1];exact f1⟩)))
theorem qoH{j:Nat}{x:Ins}(hx:(iF v w)[j]? =some x):j<24∧(x.op=7↔j=2∨j=14∨j=17)∧(x.op=12↔j=10)∧(x.op=13↔j=12):=by
 have hj:=(z7.1 hx).1;have hj:j<24:=hj;refine⟨hj,?_⟩
 match j,hj with
 |0,_|1,_|2,_|3,_|4,_|5,_|6,_|7,_|8,_|9,_|10,_|11,_|12,_|13,_|14,_|15,_|16,_|17,_|18,_|19,_|20,_|21,_|22,_|23,_=>cases hx;simp
theorem qoK{t:Nat}{p:List Ins}{pc:Nat}{x:Ins}(hp:PgF t p)(hx:p[pc]? =some x):∃(w:Int) (k q j:Nat),(1≤w∧w≤3)∧(1≤k∧k≤2)∧p=q2c ((t:Int)+1) w k∧q<k∧j<24∧pc=24*q+j∧(iF ((t:Int)+1) w)[j]? =some x:=by
 obtain⟨w,k,hw,hk,rfl⟩:=hp;have hlt:=(z7.1 hx).1;rw[q4n] at hlt;refine⟨w,k,pc/24,pc % 24,hw,hk,rfl,Y6,ya _ Y7,Y6,?_⟩;rw[←q7 k (pc/24) (pc % 24) Y6 (ya _ Y7),show 24*(pc/24)+pc % 24=pc by omega];exact hx
theorem GI.step(hn:ps.length≤3)(hP:∀(t:Nat) p,ps[t]? =some p→PgF t p)(h:GI ps g){ch:ChM}(had:ch.ad= [])(hc:chM cfF ps g ch=some g'):GI ps g':=by
 unfold chM at hc
 split at hc
 ·cases hc
 ·split at hc
  ·rename_i th p hth hp
   split at hc
   ·cases hc
   ·split at hc
    ·rename_i x hx;have htn:=(z7.1 hp).1;have hs:=h.2 _ th p hth hp;have hl:=h.1;obtain⟨w,k,q,j,hw,hk,rfl,hq,hj,hpc,hxj⟩:=qoK (hP _ p hp) hx;obtain⟨_,o7,o12,o13⟩:=qoH hxj;have hps:=hs.ps;generalize ch.t.toNat=t at*;have ht2:t≤2:=Y6
     split at hc
     ·rename_i h7;have hj3:∃j',(j=2∧j'=8)∨(j=14∧j'=17)∨(j=17∧j'=24):=by
       rcases o7.1 h7 with e|e|e
       ·exact⟨8, .inl ⟨e,rfl⟩⟩
       ·exact⟨17, .inr (.inl ⟨e,rfl⟩)⟩
       ·exact⟨24, .inr (.inr ⟨e,rfl⟩)⟩
      obtain⟨j',hj'⟩:=hj3;have hend:q0t (q2c ((t:Int)+1) w k) th.pc+1=24*q+j':=by
       rw[hpc]
       rcases hj' with ⟨rfl,rfl⟩|⟨rfl,rfl⟩|⟨rfl,rfl⟩
       ·rw[qpb (n:=4) hq (.inl ⟨rfl,rfl⟩)]
       ·rw[qpb (n:=1) hq (.inr (.inl ⟨rfl,rfl⟩))]
       ·rw[qpb (n:=5) hq (.inr (.inr ⟨rfl,rfl⟩))]
      unfold txM at hc
      split at hc
      ·split at hc
       ·cases hc;refine h.put hth hp ?_ rfl;exact qpg hs hl hpc hj' rfl hend
       ·cases hc
      ·obtain⟨b,e1,e2,e3,_⟩:=qoY hs hl hw hq hpc hj' (n:=(q2c ((t:Int)+1) w k).length) (by rw[q4n];omega);rw[had,e1] at hc;dsimp only at hc;rw[if_neg (by rw[e2];simp),if_pos rfl] at hc;cases hc;refine h.put hth hp ?_ rfl;exact e3 _ rfl hend
     ·rename_i h7;unfold sgM at hc
      split at hc
      ·rename_i hop;have hjj:j=10∨j=12:=hop.imp o12.1 o13.1;have hx2:(j=10∧x=⟨12,4,0,0,w⟩)∨(j=12∧x=⟨13,0,4,0,w⟩):=by
        rcases hjj with rfl|rfl
        ·exact .inl ⟨rfl,(Option.some.inj hxj).symm⟩
        ·exact .inr ⟨rfl,(Option.some.inj hxj).symm⟩
       have ha:adr th.rg (if x.op=12 then x.b else x.a) x.imm=w:=by
        rcases hx2 with ⟨_,rfl⟩|⟨_,rfl⟩ <;>exact qoS hs.r0 (imm:=w) ⟨Y6,Y6⟩
       rw[ha] at hc;dsimp only at hc
       by_cases hf:ch.f≠0
       ·rw[if_pos hf,if_neg (by rintro⟨_,h,_⟩;exact absurd h Y7)] at hc;cases hc
       ·rw[if_neg hf,if_neg (by show ¬(4:Int)≤w;omega)] at hc
        rcases hx2 with ⟨rfl,rfl⟩|⟨rfl,rfl⟩
        ·rw[if_pos rfl] at hc;cases hc;refine h.put hth hp ?_ rfl;exact qoX hs hl hpc (.inl rfl) hs.r0 rfl rfl hw.1 (.inl rfl)
        ·rw[if_neg (show ¬(13:Int)=12 by decide)] at hc;cases hc;refine h.put hth hp ?_ rfl;exact qoX hs hl hpc (.inr rfl) hs.r0 rfl rfl hw.1 (.inr ⟨_,rfl⟩)
      ·rename_i hop
       split at hc
       ·cases hc
       ·cases hc;have hj6:j=0∨j=1∨j=8∨j=9∨j=11∨j=13:=by
         have a1:¬(j=2∨j=14∨j=17):=fun e=>h7 (o7.2 e)
         have a2:¬j=10:=fun e=>hop (.inl (o12.2 e))
         have a3:¬j=12:=fun e=>hop (.inr (o13.2 e))
         omega
        refine h.put hth hp ?_ rfl;exact qpf hs hl ht2 hpc hxj hj6 ⟨rfl,rfl⟩
    ·cases hc
  ·cases hc
end
open Go
section
variable{c:Cfg}{t:Nat}{m:MS}{a:AT}
theorem qoq{l:List Int}{v w:Int}(h:w∈l):w∈q1G l v:=by
 unfold q1G
 split
 ·exact h
 ·exact zN _ h
theorem qob{l:List Int}{v:Int}:v∈q1G l v:=by
 unfold q1G
 split
 ·rename_i h;exact h
 ·exact zR _ (zf.2 rfl)
theorem qo8{w:Int}(h:w∈a.seen):w∈(qh c t m a).2.1.seen:=by
 have hrs:∀y:AT,y.rest.seen=y.seen:=fun y=>by unfold AT.rest;split <;>rfl
 have hen:∀(y:AT) q,(y.endA c q).seen=y.seen:=fun y q=>by unfold AT.endA;split <;>rfl
 have hko:∀(y:AT) q,(y.kont c q).seen=y.seen:=fun y q=>by
  cases q with
  |en q=>exact hen y q
  |tk v=>rfl
  |wr w v=>
   unfold AT.kont;dsimp only
   split
   ·exact hen y 7
   ·split <;>rfl
 unfold qh;cases e:a.ph with
 |idle=>exact h
 |loc q=>dsimp only;rw[hko];exact h
 |ent j=>dsimp only;(repeat' split) <;>exact h
 |rd j b v=>
  dsimp only
  split
  ·split <;>exact h
  ·split
   ·exact h
   ·split
    ·exact h
    ·split <;>exact qoq h
 |lk s ld=>dsimp only;(repeat' split) <;>exact h
 |tn b=>dsimp only;(repeat' split) <;>exact h
 |ck l=>
  dsimp only
  split
  ·rw[hrs];exact h
  ·split <;>exact h
 |dc=>
  dsimp only
  split
  ·rw[hrs];exact h
  ·split
   ·exact h
   ·rw[hrs];exact h
 |wr A V=>dsimp only;split <;>exact h
 |rl A V=>dsimp only;split <;>exact h
 |sp=>exact h
 |ps=>exact h
 |lv=>exact h
theorem qow{q:Int×Int}(hq:q∈fl a)(hb:(qh c t m a).2.1.busy=false):q.1∈(qh c t m a).2.1.seen:=by
 unfold fl at hq
 split at hq
 ·rename_i j b v e
  split at hq
  ·cases hq
  ·rename_i hj;rw[zf.1 hq];unfold qh at hb ⊢;rw[e] at hb ⊢;dsimp only at hb ⊢;rw[if_neg (fun e=>hj (.inl e)),if_neg (fun e=>hj (.inr e))] at hb ⊢
   split at hb
   ·exfalso;cases hb
   ·rename_i hw;rw[if_neg hw]
    split <;>exact qob
 ·cases hq
end
section
variable{c:Cfg}{p:List Ins}{b b' b1:BM}{x:Ins}
theorem Rn.le(h:Rn c p b b'):b'=b∨b.t.pc<b'.t.pc:=by
 induction h with
 |nil=>exact .inl rfl
 |snoc _ _ h3 ih=>
  have:=qlO h3
  rcases ih with rfl|ih
  ·exact .inr this
  ·exact .inr Y6
theorem Rn.stay(h:Rn c p b b')(he:b'.t.pc=b.t.pc):b'=b:=h.le.resolve_right Y6
theorem Rn.front(h:Rn c p b b'):b'=b∨∃x,p[b.t.pc]? =some x∧(q07 c b x).2=0∧Rn c p (q07 c b x).1 b':=by
 induction h with
 |nil=>exact .inl rfl
 | @snoc b2 i h1 h2 h3 ih=>
  rcases ih with rfl|⟨x,hx,h0,hR⟩
  ·exact .inr ⟨i,h2,h3, .nil⟩
  ·exact .inr ⟨x,hx,h0, .snoc hR h2 h3⟩
theorem Rn.next(h:Rn c p b b')(hne:b'.t.pc≠b.t.pc)(hx:p[b.t.pc]? =some x)(hs:q07 c b x=(b1,0)):Rn c p b1 b':=by
 rcases h.front with rfl|⟨y,hy,_,hR⟩
 ·exact absurd rfl hne
 ·rw[hx] at hy;cases hy;rw[hs] at hR;exact hR
end
section
variable{c:Cfg}{t:Nat}{m:MS}{a:AT}
theorem qoV(h:a.ph≠ .dc):(qh c t m a).2.1.dn=a.dn:=by
 unfold qh;cases e:a.ph with
 |idle=>rfl
 |loc q=>exact qeJ _ q
 |ent j=>dsimp only;(repeat' split) <;>rfl
 |rd j b v=>dsimp only;(repeat' split) <;>rfl
 |lk s ld=>dsimp only;(repeat' split) <;>rfl
 |tn b=>dsimp only;(repeat' split) <;>rfl
 |ck l=>
  dsimp only
  split
  ·exact(q4c _).1
  ·split <;>rfl
 |dc=>exact absurd e h
 |wr A V=>dsimp only;split <;>rfl
 |rl A V=>dsimp only;split <;>rfl
 |sp=>rfl
 |ps=>rfl
 |lv=>rfl
end
open Go
section
variable{v w:Int}{k q:Nat}{d:List Int}{tk:List Bool}{rg:Rg}{b b':BM}
theorem qp1{pc:Nat}{rg:Rg}{oc:Int}{dn:Bool}{n:Int}(hz:rg.r3=0):q1o ⟨pc,rg,oc,dn⟩ ⟨6,3,0,0,n⟩=pc+1:=by
 unfold q1o;rw[if_neg];rintro(h|⟨h,_⟩|⟨_,h⟩)
 ·exact absurd h (show ¬(6:Int)=4 by decide)
 ·exact absurd h (show ¬(6:Int)=5 by decide)
 ·exact h hz
theorem qoB{pc:Nat}{rg:Rg}{oc:Int}{dn:Bool}{n:Int}(hz:rg.r3≠0):q1o ⟨pc,rg,oc,dn⟩ ⟨6,3,0,0,n⟩=pc+1+n.toNat:=by
 unfold q1o;rw[if_pos (.inr (.inr ⟨rfl,hz⟩))]
theorem vw3(hq:q<k)(h:BAt b d tk rg (24*q+18) [] [])(h0:rg.r0=0)(hR:Rn cfF (q2c v w k) b b'):
  (b'.t.pc=24*q+18∧b'.r= []∧b'.w= []∧b'.t.rg.r0=0)∨(b'.t.pc=24*q+19∧b'.r= [0]∧b'.w= [])∨(b'.t.pc=24*q+23∧b'.r= [0]∧b'.w= []∧d.getD 0 0≠0)∨(d.getD 0 0=0∧((b'.t.pc=24*q+20∧b'.r= [0]∧b'.t.rg.r0=0)∨24*q+20<b'.t.pc)):=by
 have at':=fun j (hj:j<24)=>q7 (v:=v) (w:=w) k q j hq hj
 obtain⟨b1,x1,a1,s1,h1⟩:=h.rd (at' 18 Y6) h0 Y6;obtain⟨b2,x2,a2,s2,h2⟩:=h1.lc (at' 19 Y6) Y7
 by_cases e0:b'.t.pc=b.t.pc
 ·obtain rfl:=hR.stay e0;exact .inl ⟨h.pc,h.rl,h.wl,by rw[h.rg];exact h0⟩
 have hR1:=hR.next e0 a1 s1
 by_cases e1:b'.t.pc=b1.t.pc
 ·obtain rfl:=hR1.stay e1;exact .inr (.inl ⟨h1.pc,h1.rl,h1.wl⟩)
 have hR2:=hR1.next e1 a2 s2
 by_cases hd:d.getD 0 0=0
 ·rw[qp1 hd] at h2;refine .inr (.inr (.inr ⟨hd,?_⟩))
  rcases hR2.le with rfl|hlt
  ·exact .inl ⟨h2.pc,h2.rl,by rw[h2.rg];exact h0⟩
  ·rw[h2.pc] at hlt;exact .inr hlt
 ·rw[qoB hd] at h2;obtain⟨b3,x3,a3,s3,h3⟩:=h2.cm (at' 23 Y6)
  rcases hR2.front with rfl|⟨y,hy,hz,_⟩
  ·exact .inr (.inr (.inl ⟨h2.pc,h2.rl,h2.wl,hd⟩))
  ·rw[a3] at hy;cases hy;rw[s3] at hz;cases hz
theorem Rn.cmt{p:List Ins}{wl rl:List Int}{pc:Nat}(h:BAt b d tk rg pc wl rl)(hx:p[pc]? =some ⟨8,0,0,0,0⟩)(hR:Rn cfF p b b'):b'=b:=by
 obtain⟨b3,x3,a3,s3,h3⟩:=h.cm hx
 rcases hR.front with rfl|⟨y,hy,hz,_⟩
 ·rfl
 ·rw[a3] at hy;cases hy;rw[s3] at hz;cases hz
theorem vw1(hq:q<k)(h:BAt b d tk rg (24*q+3) [] [])(h0:rg.r0=0)(hR:Rn cfF (q2c v w k) b b'):
  (b'.t.pc=24*q+3∧b'.r= []∧b'.w= []∧b'.t.rg.r0=0)∨(24*q+4≤b'.t.pc∧b'.t.pc≤24*q+7∧b'.r= [0]∧(b'.w= []∨(b'.w= [0]∧d.getD 0 0=0))):=by
 have at':=fun j (hj:j<24)=>q7 (v:=v) (w:=w) k q j hq hj
 obtain⟨b1,x1,a1,s1,h1⟩:=h.rd (at' 3 Y6) h0 Y6;obtain⟨b2,x2,a2,s2,h2⟩:=h1.lc (at' 4 Y6) Y7
 by_cases e0:b'.t.pc=b.t.pc
 ·obtain rfl:=hR.stay e0;exact .inl ⟨h.pc,h.rl,h.wl,by rw[h.rg];exact h0⟩
 have hR1:=hR.next e0 a1 s1
 by_cases e1:b'.t.pc=b1.t.pc
 ·obtain rfl:=hR1.stay e1;have:=h1.pc;exact .inr ⟨Y6,Y6,h1.rl, .inl h1.wl⟩
 have hR2:=hR1.next e1 a2 s2
 by_cases hd:d.getD 0 0=0
 ·rw[qp1 hd] at h2;obtain⟨b3,x3,a3,s3,h3⟩:=h2.wr (at' 5 Y6) h0 Y6;obtain⟨b4,x4,a4,s4,h4⟩:=h3.lc (at' 6 Y6) Y7
  by_cases e2:b'.t.pc=b2.t.pc
  ·obtain rfl:=hR2.stay e2;have:=h2.pc;exact .inr ⟨Y6,Y6,h2.rl, .inl h2.wl⟩
  have hR3:=hR2.next e2 a3 s3
  by_cases e3:b'.t.pc=b3.t.pc
  ·obtain rfl:=hR3.stay e3;have:=h3.pc;exact .inr ⟨Y6,Y6,h3.rl, .inr ⟨h3.wl,hd⟩⟩
  have hR4:=hR3.next e3 a4 s4;obtain rfl:=Rn.cmt h4 (at' 7 Y6) hR4;have:b'.t.pc=24*q+7:=h4.pc;exact .inr ⟨Y6,Y6,h4.rl, .inr ⟨h4.wl,hd⟩⟩
 ·rw[qoB hd] at h2;obtain rfl:=Rn.cmt h2 (at' 7 Y6) hR2;have:b'.t.pc=24*q+7:=h2.pc;exact .inr ⟨Y6,Y6,h2.rl, .inl h2.wl⟩
theorem vw2(hq:q<k)(h:BAt b d tk rg (24*q+15) [] [])(h0:rg.r0=0)(hR:Rn cfF (q2c v w k) b b'):b'.r= []∧(b'.t.pc=24*q+15∨b'.t.pc=24*q+16):=by
 have at':=fun j (hj:j<24)=>q7 (v:=v) (w:=w) k q j hq hj
 obtain⟨b1,x1,a1,s1,h1⟩:=h.wr (at' 15 Y6) h0 Y6
 by_cases e0:b'.t.pc=b.t.pc
 ·obtain rfl:=hR.stay e0;exact⟨h.rl, .inl h.pc⟩
 have hR1:=hR.next e0 a1 s1;obtain rfl:=Rn.cmt h1 (at' 16 Y6) hR1;exact⟨h1.rl, .inr h1.pc⟩
end
open Go
section
variable{w:Int}{k q jb t:Nat}{d:List Int}{tk:List Bool}{x:GT}{a:AT}{p:List Ins}{r:List (Int×Int)}
theorem qoG(hb:x.bg=24*q+jb):BAt (q8i x tk d) d tk x.sv (24*q+jb+1) [] []:=⟨rfl,rfl,rfl,by show x.bg+1=_;omega,rfl,rfl,rfl⟩
theorem qoP(hv:x.sv.r0=0)(hq:q<k)(hb:x.bg=24*q+jb)(hj:jb=2∨jb=14∨jb=17)(hR:Rep cfF (q2c ((t:Int)+1) w k) x a r)(hd:d.length=4)(hA:Agr r d):
  (jb=2∧x.th.pc=24*q+3∧a.seen= []∧a.ad= []∧x.th.rg.r0=0)∨(jb=2∧24*q+4≤x.th.pc∧x.th.pc≤24*q+7∧a.seen= [0]∧(a.ad= []∨(a.ad= [0]∧d.getD 0 0=0)))∨(jb=14∧a.seen= []∧(x.th.pc=24*q+15∨x.th.pc=24*q+16))∨
  (jb=17∧((x.th.pc=24*q+18∧a.seen= []∧a.ad= []∧x.th.rg.r0=0)∨(x.th.pc=24*q+19∧a.seen= [0]∧a.ad= [])∨(x.th.pc=24*q+23∧a.seen= [0]∧a.ad= []∧d.getD 0 0≠0)∨(d.getD 0 0=0∧((x.th.pc=24*q+20∧a.seen= [0]∧x.th.rg.r0=0)∨24*q+20<x.th.pc)))):=by
 have hr:=hR [] d (by rw[hd];rfl) hA;have hh:=qoG (tk:= []) (d:=d) hb
 rcases hj with rfl|rfl|rfl
 ·rcases vw1 hq hh hv hr with ⟨h1,h2,h3,h4⟩|⟨h1,h2,h3,h4⟩
  ·exact .inl ⟨rfl,h1,h2,h3,h4⟩
  ·exact .inr (.inl ⟨rfl,h1,h2,h3,h4⟩)
 ·obtain⟨h1,h2⟩:=vw2 hq hh hv hr;exact .inr (.inr (.inl ⟨rfl,h1,h2⟩))
 ·exact .inr (.inr (.inr ⟨rfl,vw3 hq hh hv hr⟩))
def RSt(a:AT)(r:List (Int×Int)):Prop:=(∀z∈r,z.1∈a.seen)∧∃d:List Int,d.length=4∧Agr r d
theorem qov(hw:1≤w∧w≤3)(hT:TL cfF (q2c ((t:Int)+1) w k) x a r)(hv:x.sv.r0=0)(hq:q<k)(hb:x.bg=24*q+jb)(hj:jb=2∨jb=14∨jb=17)(hs:RSt a r){j:Nat}{bf v:Int}(he:a.ph= .rd j bf v):∀z∈r,z.1≠a.addr:=by
 obtain⟨hs1,d,hd,hA⟩:=hs;obtain⟨_,hle,hR,i,hi,hq2⟩:=hT.req (fun k e=>by rw[he] at e;cases e) (by rw[he];rfl);unfold q2L at hq2;rw[he] at hq2;obtain⟨_,hop,had,_⟩:=hq2;have hn:a.seen= []→∀z∈r,z.1≠a.addr:=fun e z hz=>by
  have:=hs1 z hz;rw[e] at this;cases this
 have at':=fun j (hj:j<24)=>q7 (v:=(t:Int)+1) (w:=w) k q j hq hj
 have no:∀j,j<24→x.th.pc=24*q+j→(∀y,(iF ((t:Int)+1) w)[j]? =some y→y.op≠10)→False:=fun j hj e h=>by
  rw[e,at' j hj] at hi;exact h i hi hop
 rcases qoP hv hq hb hj hR hd hA with ⟨_,_,h,_⟩|⟨_,h1,h2,_⟩|⟨_,h,_⟩|⟨e17,⟨_,h,_⟩|⟨h,_⟩|⟨h,_⟩|⟨_,⟨h1,h2,h3⟩|h⟩⟩
 ·exact hn h
 ·exfalso;have:x.th.pc=24*q+4∨x.th.pc=24*q+5∨x.th.pc=24*q+6∨x.th.pc=24*q+7:=Y6
  rcases this with e|e|e|e <;>exact no _ Y7 e (fun y hy=>by cases hy;simp)
 ·exact hn h
 ·exact hn h
 ·exact(no _ Y7 h (fun y hy=>by cases hy;simp)).elim
 ·exact(no _ Y7 h (fun y hy=>by cases hy;simp)).elim
 ·intro z hz e;have hm:=hs1 z hz;rw[h2,zf] at hm;rw[h1,at' 20 Y7] at hi;cases hi;have:a.addr=w:=by rw[had];exact qoS h3 (imm:=w) ⟨Y6,Y6⟩
  omega
 ·exfalso;rw[hb,e17,qpb (n:=5) hq (.inr (.inr ⟨rfl,rfl⟩))] at hle;have:x.th.pc=24*q+21∨x.th.pc=24*q+22∨x.th.pc=24*q+23:=Y6
  rcases this with e|e|e <;>exact no _ Y7 e (fun y hy=>by cases hy;simp)
theorem qoD{z:Int×Int}(hd:d.length=4)(hA:Agr r d)(hz:0≤z.1∧z.1<4)(hr:∀y∈r,0≤y.1∧y.1≠z.1):∃d':List Int,d'.length=4∧Agr (r++ [z]) d':=by
 refine⟨d.set z.1.toNat z.2,by rw[zj];exact hd,fun y hy=> ?_⟩
 rcases zz.1 hy with hy|hy
 ·have h1:=hr y hy;rw[zh,List.getElem?_set_ne Y6,←zh];exact hA y hy
 ·rw[zf.1 hy,zh,zv,if_pos rfl,if_pos Y6];rfl
theorem qp5(hT:∀d:List Int,d.length=4→Agr r d→d.getD 0 0=0)(hs:∃d:List Int,d.length=4∧Agr r d)(h0:∀z∈r,0≤z.1):∃z∈r,z.1=0∧z.2=0:=by
 obtain⟨d,hd,hA⟩:=hs;refine Decidable.byContradiction fun hno=> ?_
 have hz:=hT d hd hA;have h1:Agr r (d.set 0 1):=fun y hy=>by
  by_cases hy0:y.1=0
  ·exfalso;have:=hA y hy;rw[hy0] at this;exact hno ⟨y,hy,hy0,by rw[←this];exact hz⟩
  ·have:=h0 y hy;rw[zh,List.getElem?_set_ne Y6,←zh];exact hA y hy
 have:=hT (d.set 0 1) (by rw[zj];exact hd) h1;rw[qs Y6] at this;exact absurd this Y7
theorem RSt.fin{c:Cfg}{m:MS}(hs:RSt a r)(hb:(qh c t m a).2.1.busy=false)(hf:∀j bf v,a.ph= .rd j bf v→(0≤a.addr∧a.addr<4)∧∀z∈r,0≤z.1∧z.1≠a.addr):RSt (qh c t m a).2.1 (r++fl a):=by
 refine⟨fun z hz=> ?_,?_⟩
 ·rcases zz.1 hz with h|h
  ·exact qo8 (hs.1 z h)
  ·exact qow h hb
 ·obtain⟨d,hd,hA⟩:=hs.2;unfold fl
  split
  ·rename_i j bf v e;obtain⟨h1,h2⟩:=hf j bf v e
   split
   ·exact⟨d,hd,by rw[zC];exact hA⟩
   ·exact qoD hd hA h1 h2
  ·exact⟨d,hd,by rw[zC];exact hA⟩
theorem RSt.sup{c:Cfg}{m:MS}(hs:RSt a r):RSt (qh c t m a).2.1 r:=⟨fun z hz=>qo8 (hs.1 z hz),hs.2⟩
end
open Go
section
variable{ps:List (List Ins)}{n k:Nat}{q:RM}{g g':GS}{r r':Nat→List (Int×Int)}{t u:Nat}{x:GT}{a b:AT}{p:List Ins}{rr:List (Int×Int)}
structure UnA(g:GS)(u:Nat)(p:List Ins)(x:GT)(a:AT)(r:List (Int×Int))(w:Int)(kk qq jb:Nat):Prop where
 hw:1≤w∧w≤3
 hq:qq<kk
 hp:p=q2c ((u:Int)+1) w kk
 hb:x.bg=24*qq+jb
 hj:jb=2∨jb=14∨jb=17
 hs:ST ((u:Int)+1) ⟨x.bg,x.sv,x.th.oc,false⟩ (g.d.getD 0 0)
 gt:g.T[u]? =some ⟨x.bg,x.sv,x.th.oc,false⟩
 l:TL cfF (q2c ((u:Int)+1) w kk) x a r
theorem qoz(hR:q3t cfF ps n k q g r)(hP:∀(t:Nat) p,ps[t]? =some p→PgF t p)(hG:GI ps g)(hx:q.xs[u]? =some x)(hp:ps[u]? =some p)(ha:x.at'=some a)(hd:a.dn=false):∃w kk qq jb,UnA g u p x a (r u) w kk qq jb:=by
 have h:=hR.gi.th u x p hx hp;unfold ThR at h;rw[ha] at h;dsimp only at h;rw[if_neg (by rw[hd];decide)] at h;obtain⟨h1,_,h3⟩:=h;obtain⟨ib,hib,h7⟩:=h3.bg;obtain⟨w,kk,qq,jb,hw,_,e,hq,_,hb,hj⟩:=qoK (hP u p hp) hib;exact⟨w,kk,qq,jb,hw,hq,e,hb,(qoH hj).2.1.1 h7,hG.2 u _ p h1 hp,h1,e ▸ h3⟩
def RSq(xs:List GT)(r:Nat→List (Int×Int)):Prop:=∀(u:Nat) x b,xs[u]? =some x→x.at'=some b→b.dn=false→RSt b (r u)
theorem qp8:RSt b []:=⟨fun z hz=>(by cases hz),[0,0,0,0],rfl,fun z hz=>(by cases hz)⟩
theorem qoM(h:b.seen=a.seen)(hs:RSt a rr):RSt b rr:=⟨fun z hz=>by rw[h];exact hs.1 z hz,hs.2⟩
theorem qoe(h:a.ph= .idle):fl a= []:=by unfold fl;rw[h]
theorem qoW(hR:q3t cfF ps n k q g r)(ht:t<n):(∃x,q.xs[t]? =some x)∧∃p,ps[t]? =some p:=
 ⟨⟨_,z6 (by rw[hR.gi.xl];exact ht)⟩,⟨_,z6 (by rw[hR.gi.pl];exact ht)⟩⟩
theorem RSq.step(hR:q3t cfF ps n k q g r)(hP:∀(t:Nat) p,ps[t]? =some p→PgF t p)(hps:∀p∈ps,PrO p)(hG:GI ps g)(h:RSq q.xs r)(hx:q.xs[t]? =some x)(hp:ps[t]? =some p)(hd:x.th.dn=false)(hk:PkR cfF ps n q g r t g' r'):RSq (q.xs.set t (qN cfF p n t q.m x).2.1) r':=by
 intro u y b hy hb hbd
 by_cases hu:u=t
 ·subst hu;rw[q0u hx] at hy;cases hy;rw[hk.rd x p hx hp hd b hb hbd];cases q7W hR hx hp (hps p (zg hp)) hd hb with
  |same b e=>
   rw[e];dsimp only;have h0:=h u x b hx e hbd
   split
   ·exact h0
   ·rename_i hbz;rw[qoe (qi8 (by simpa using hbz)),zC];exact h0
  |adv a e hA=>
   rw[e];dsimp only;have hdn:=q6F.1 hbd;have h0:=h u x a hx e hdn
   split
   ·exact h0.sup
   ·rename_i hbz;refine h0.fin (by simpa using hbz) fun j bf v he=> ?_
    obtain⟨w,kk,qq,jb,hU⟩:=qoz hR hP hG hx hp e hdn;exact⟨hA.addr ⟨j,bf,v,he⟩,fun z hz=>⟨(hU.l.rr z hz).1,qov hU.hw hU.l hU.hs.r0 hU.hq hU.hb hU.hj h0 he z hz⟩⟩
  |req a i e hid hi hr hA=>
   rw[e];dsimp only;have hdn:a.dn=false:=by have:=q6F.1 hbd;rw[(qh6 (i:=i)).2.2] at this;exact this
   have h0:RSt (qh cfF u q.m (q1F cfF x.th.rg a i)).2.1 (r u):=(qoM qf6 (h u x a hx e hdn)).sup
   split
   ·exact h0
   ·rw[qoe hid,zC];exact h0
  |new e=>
   rw[e];exact qp8
 ·rw[hk.ot u hu];rw[q0v hu] at hy;exact h u y b hy hb hbd
theorem UnA.j0{w:Int}{kk qq jb:Nat}(hU:UnA g u p x a rr w kk qq jb)(hs:RSt a rr)(hne:∀k,a.ph≠ .ent k)(hnb:a.ph.back=false){z:Int×Int}(hz:z∈rr++fl a)(h1:1≤z.1):∃y∈rr,y.1=0∧y.2=0:=by
 obtain⟨_,hle,hRep,i,hi,hq⟩:=hU.l.req hne hnb;have hz':z.1∈a.seen∨(i.op=10∧z.1=adr x.th.rg i.b i.imm):=by
  rcases zz.1 hz with h|h
  ·exact .inl (hs.1 z h)
  ·right;unfold fl at h;unfold q2L at hq
   split at h
   ·rename_i e;rw[e] at hq
    split at h
    ·cases h
    ·rw[zf.1 h];exact⟨hq.2.1,hq.2.2.1⟩
   ·cases h
 have at':=fun j (hj:j<24)=>q7 (v:=(u:Int)+1) (w:=w) kk qq j hU.hq hj
 have no:∀j,j<24→x.th.pc=24*qq+j→(∀y,(iF ((u:Int)+1) w)[j]? =some y→y.op=10→y.b=0∧y.imm=0∧x.th.rg.r0=0)→∀l:List Int,a.seen=l→(∀y∈l,y=0)→False:=fun j hj e h l hl h0=>by
  rcases hz' with h2|⟨h2,h3⟩
  ·rw[hl] at h2;have:=h0 _ h2;omega
  ·rw[e,at' j hj] at hi;obtain⟨e1,e2,e3⟩:=h i hi h2;rw[h3,e1,e2,qoS e3 Y6] at h1;exact absurd h1 Y7
 refine qp5 (fun d hd hA=> ?_) hs.2 fun z hz=>(hU.l.rr z hz).1
 rcases qoP hU.hs.r0 hU.hq hU.hb hU.hj hRep hd hA with ⟨_,e,h,_,h0⟩|⟨_,e1,e2,h,_⟩|⟨_,h,e⟩|⟨_,⟨e,h,_,h0⟩|⟨e,h,_⟩|⟨e,h,_⟩|⟨h,_⟩⟩
 ·exact(no _ Y7 e (fun y hy _=>by cases hy;exact⟨rfl,rfl,h0⟩) _ h Y8).elim
 ·exfalso;have:x.th.pc=24*qq+4∨x.th.pc=24*qq+5∨x.th.pc=24*qq+6∨x.th.pc=24*qq+7:=Y6
  rcases this with e|e|e|e <;>exact no _ Y7 e (fun y hy h10=>by cases hy;cases h10) _ h Y8
 ·exfalso
  rcases e with e|e <;>exact no _ Y7 e (fun y hy h10=>by cases hy;cases h10) _ h Y8
 ·exact(no _ Y7 e (fun y hy _=>by cases hy;exact⟨rfl,rfl,h0⟩) _ h Y8).elim
 ·exact(no _ Y7 e (fun y hy h10=>by cases hy;cases h10) _ h Y8).elim
 ·exact(no _ Y7 e (fun y hy h10=>by cases hy;cases h10) _ h Y8).elim
 ·exact h
def JQ(xs:List GT)(r:Nat→List (Int×Int)):Prop:=∀(u:Nat) x b,xs[u]? =some x→x.at'=some b→b.dn=false→∀z∈r u++fl b,1≤z.1→∃y∈r u,y.1=0∧y.2=0
theorem qoF(h:a.ph.back=true):fl a= []∧a.busy=true:=by
 unfold fl AT.busy;cases e:a.ph <;>rw[e] at h <;>first|exact⟨rfl,rfl⟩|cases h
theorem JQ.step(hR:q3t cfF ps n k q g r)(hP:∀(t:Nat) p,ps[t]? =some p→PgF t p)(hps:∀p∈ps,PrO p)(h:JQ q.xs r)(hx:q.xs[t]? =some x)(hp:ps[t]? =some p)(hd:x.th.dn=false)(hk:PkR cfF ps n q g r t g' r')(hR':q3t cfF ps n (k+1) (q0R cfF ps n q t) g' r')(hG':GI ps g')(hs':RSq (q.xs.set t (qN cfF p n t q.m x).2.1) r'):JQ (q.xs.set t (qN cfF p n t q.m x).2.1) r':=by
 intro u y b hy hb hbd z hz h1
 by_cases hu:u=t
 ·subst hu;have hs:=hs' u y b hy hb hbd;have hy':(q0R cfF ps n q u).xs[u]? =some y:=by rw[(q8u (c:=cfF) (ps:=ps) (n:=n) hx hp hd).1];exact hy
  obtain⟨w,kk,qq,jb,hU⟩:=qoz hR' hP hG' hy' hp hb hbd
  rcases hU.l.ph with ⟨j,e,e0,_⟩|⟨_,_,_,i,_,hq⟩|⟨e,_⟩
  ·exfalso;rw[e0] at hz;unfold fl at hz;rw[e] at hz;cases hz
  ·refine hU.j0 hs (fun j e=> ?_) ?_ hz h1
   ·unfold q2L at hq;rw[e] at hq;exact hq
   ·unfold q2L at hq;cases e:b.ph <;>rw[e] at hq <;>first|rfl|exact hq.elim
  ·obtain⟨f1,f2⟩:=qoF e;clear e;rw[q0u hx] at hy;cases hy;have hrd:=hk.rd x p hx hp hd b hb hbd;rw[f1,zC] at hz;rw[hrd] at hz ⊢;cases ha:x.at' with
   |none=>rw[ha] at hz;cases hz
   |some a=>
    rw[ha] at hz;dsimp only at hz ⊢;rw[if_pos f2] at hz ⊢;refine h u x a hx ha ?_ z (zN _ hz) h1;cases q7W hR hx hp (hps p (zg hp)) hd hb with
    |same b e=>rw[ha] at e;cases e;exact hbd
    |adv a' e hA=>rw[ha] at e;cases e;exact q6F.1 hbd
    |req a' i e hid hi hr hA=>rw[ha] at e;cases e;have:=q6F.1 hbd;rw[(qh6 (i:=i)).2.2] at this;exact this
    |new e=>rw[ha] at e;cases e
 ·rw[hk.ot u hu] at hz ⊢;rw[q0v hu] at hy;exact h u y b hy hb hbd z hz h1
end
open Go
inductive qop (c:Cfg) (p:List Ins) (t:Nat) (m:MS) (x:GT):MS×GT×StM×List EvM→Prop
 |calm (z:MS×GT×StM×List EvM):z.1.o=m.o→z.1.ck=m.ck→z.2.1.at'=x.at'→(∀a,x.at'=some a→a.dn=false)→(z.1.d=m.d∨∃i v,x.at'=none∧p[x.th.pc]? =some i∧i.op=13∧z.1.d=m.d.set (q1b x i).toNat v)→qop c p t m x z
 |adv (i:Ins) (x0:GT) (a:AT):(x.at'=some a∨(a.dn=false∧a.ph≠ .dc∧∀a0,x.at'=some a0→a0.dn=false))→AI c t m a→qop c p t m x (q0M c p t m x0 a i)
section
variable{c:Cfg}{ps:List (List Ins)}{n k:Nat}{q:RM}{m:MS}{g g':GS}{r r':Nat→List (Int×Int)}{t u:Nat}{x x':GT}{a b:AT}{p:List Ins}{i:Ins}{z:MS×GT×StM×List EvM}
theorem qog(hA:AI c t m a)(h:a.ph= .idle):a.dn=false:=by
 have:=hA.ph;unfold PhA at this;rw[h] at this;exact this.1
theorem qoC(h:q3t c ps n k q g r)(hx:q.xs[t]? =some x)(hp:ps[t]? =some p)(hpo:PrO p)(hd:x.th.dn=false):qop c p t q.m x (qN c p n t q.m x):=by
 obtain⟨f1,f2⟩:=h.fn hx hp hpo;obtain⟨i,hi,f3⟩:=f2 hd;have no:x.at'=none→∀a,x.at'=some a→a.dn=false:=fun e a h=>by rw[e] at h;cases h
 have hw:x.at'=none→∀f,qop c p t q.m x (q0n n p t q.m x f):=fun ha f=> .calm _ rfl rfl (by unfold q0n;dsimp only;split <;>rfl) (no ha) (.inl rfl)
 unfold qN;rw[hi];dsimp only;cases hf:x.fn with
 |some f=>exact hw (f1 (by rw[hf];exact fun e=>by cases e)) f
 |none=>
  dsimp only;cases ha:x.at' with
  |some a=>
   dsimp only;have hA:=h.gi.ai t x a hx ha
   split
   ·exact .adv i x a (.inl ha) hA
   ·rename_i hbz;have hb':a.busy=false:=by simpa using hbz
    obtain⟨b1,b2,b3,b4⟩:=f3 a ha hb';have hid:=qi8 hb';have hdn:=qog hA hid;have hno:∀a0,x.at'=some a0→a0.dn=false:=fun a0 e=>by rw[ha] at e;cases e;exact hdn
    unfold q2d;rw[if_neg Y6,if_neg b4];unfold q15;rw[if_neg b1]
    by_cases hr:8≤i.op∧i.op≤11
    ·rw[if_pos hr,ha];exact .adv i x _ (.inr ⟨by rw[(qh6 (i:=i)).2.2];exact hdn,(qh6 (i:=i)).2.1,hno⟩) (h.req hx hp ha hid hi hr)
    ·rw[if_neg hr];exact .calm _ rfl rfl rfl hno (.inl rfl)
  |none=>
   dsimp only;unfold q2d
   by_cases hpl:i.op=12∨i.op=13
   ·rw[if_pos hpl];unfold q01
    split
    ·exact .calm _ rfl rfl rfl (no ha) (.inl rfl)
    ·split
     ·exact .calm _ rfl rfl rfl (no ha) (.inl rfl)
     ·exact .calm _ rfl rfl rfl (no ha) (.inr ⟨i,_,ha,hi,Y6,rfl⟩)
   ·rw[if_neg hpl]
    by_cases h16:i.op=16
    ·rw[if_pos h16];exact hw ha _
    ·rw[if_neg h16];unfold q15
     by_cases h7:i.op=7
     ·rw[if_pos h7];exact .adv i _ _ (.inr ⟨rfl,fun e=>(by cases e),no ha⟩) AI.start
     ·rw[if_neg h7]
      split
      ·rw[ha];exact .calm _ rfl rfl rfl (no ha) (.inl rfl)
      ·exact .calm _ rfl rfl rfl (no ha) (.inl rfl)
theorem qou(hA:AI c t m a)(hd:a.dn=true){o:Int}(ho:o∈pnd a):(o∈pnd (qh c t m a).2.1∧(qh c t m a).2.1.busy=true)∨m.ck<q1C (qh c t m a).1 o:=by
 have hpp:=hA.ph;unfold PhA at hpp;unfold pnd at ho;cases e:a.ph with
 |wr A V=>
  rw[e] at ho;left;unfold qh;rw[e];dsimp only
  split <;>exact⟨ho,rfl⟩
 |rl l w=>
  rw[e] at ho hpp;obtain⟨q1,q2,q3,q4,q5⟩:=hpp
  rcases q5 with ⟨_,_,_,q8,q9⟩|⟨q6,_⟩
  ·by_cases ht:o∈l.tail
   ·left;unfold qh;rw[e];dsimp only;rw[if_neg (List.ne_nil_of_mem ht)];exact⟨ht,rfl⟩
   ·right;have e1:o=l.headD 0:=by
     rw[←q8g q1,zQ] at ho;exact ho.resolve_right ht
    subst e1;have hw0:w≠ []:=fun e=>q1 (zA.1 (by rw[q3,e];rfl))
    unfold qh q1C;rw[e];dsimp only;rw[q8f (hA.oc _ (q2 _ (q7a q1))).2,q9 _ (q7a hw0),(qgJ _).1];omega
  ·rw[hd] at q6;cases q6
 |_=>rw[e] at ho;cases ho
theorem qoU(hA:AI c t m a)(hd:a.dn=true):(qh c t m a).2.1.ad=a.ad∧(pnd (qh c t m a).2.1≠ []→pnd a≠ []):=by
 rcases hA.dec_ph hd with ⟨A,V,e⟩|⟨l,w,e⟩|e|e|e
 ·unfold qh pnd;rw[e];dsimp only
  split <;>exact⟨rfl,fun h=>h⟩
 ·have hpp:=hA.ph;unfold PhA at hpp;rw[e] at hpp;unfold qh;rw[e];dsimp only;have:pnd a≠ []:=by unfold pnd;rw[e];exact hpp.1
  split <;>exact⟨rfl,fun _=>this⟩
 ·unfold qh;rw[e];exact⟨rfl,fun h=>absurd rfl h⟩
 ·unfold qh;rw[e];exact⟨rfl,fun h=>absurd rfl h⟩
 ·unfold qh;rw[e];exact⟨rfl,fun h=>absurd rfl h⟩
theorem qoc(hA:AI c t m a)(hph:a.ph= .dc)(hd:(qh c t m a).2.1.dn=true):(qh c t m a).2.1.ad=a.ad∧(qh c t m a).2.1.seen=a.seen∧(qh c t m a).2.1.code=a.code∧(qh c t m a).2.1.busy=true∧(qh c t m a).2.2.2=16∧(a.ad= []→pnd (qh c t m a).2.1= [])∧(a.code=1→a.ad≠ []→pnd (qh c t m a).2.1=a.oc):=by
 have hpp:=hA.ph;unfold PhA at hpp;rw[hph] at hpp;obtain⟨h0,_,⟨_,hoc⟩,_⟩:=hpp;have hr:∀y:AT,y.rest.ad=y.ad∧y.rest.seen=y.seen∧y.rest.code=y.code∧y.rest.busy=true∧pnd y.rest=y.oc:=fun y=>by unfold AT.rest;split <;>first|exact⟨rfl,rfl,rfl,rfl,rfl⟩|(rename_i h;exact⟨rfl,rfl,rfl,rfl,h.symm⟩)
 rw[q50 hph] at hd ⊢;dsimp only at hd ⊢
 split
 ·rename_i hcl;rw[if_pos hcl,(q4c _).1] at hd;rw[show({a with ck:=m.ck,code:=6}:AT).dn=a.dn from rfl,h0] at hd;cases hd
 ·split
  ·rename_i hs;have hs:a.code=1∧a.ad≠ []:=by unfold AT.sto at hs;exact of_decide_eq_true hs
   exact⟨rfl,rfl,rfl,rfl,rfl,fun e=>absurd e hs.2,fun _ _=>rfl⟩
  ·rename_i hs;obtain⟨r1,r2,r3,r4,r5⟩:=hr {a with ck:=m.ck,dn:=true};refine⟨r1,r2,r3,r4,rfl,fun e=> ?_,fun e1 e2=> ?_⟩
   ·rw[r5];exact Decidable.byContradiction fun e'=>(hoc e').2 e
   ·exact absurd (by unfold AT.sto;exact decide_eq_true ⟨e1,e2⟩) hs
theorem qop.ver(hC:COk c)(hn:n≤16)(hk:k≤100000)(h:q0c c ps n k q.m q.xs g r)(ht:t<n)(hz:qop c p t q.m x z)(o:Int):q1C z.1 o=q1C q.m o∨q1C z.1 o=q.m.ck+1:=by
 cases hz with
 |calm _ h1=>exact .inl (q3p h1 o)
 |adv i x0 a _ hA=>
  obtain⟨_,_,s3⟩:=hA.step hC hn ht hk h.gm
  rcases s3.ver o with e|⟨_,_,e⟩
  ·exact .inl e
  ·exact .inr e
theorem qop.pd(hx:q.xs[t]? =some x)(hz:qop c p t q.m x z){o:Int}(ho:Pd q.xs o):Pd (q.xs.set t z.2.1) o∨q.m.ck<q1C z.1 o:=by
 refine Pd.set hx (fun a ha hd hp=> ?_) ho;cases hz with
 |calm _ _ _ _ h4=>rw[h4 a ha] at hd;cases hd
 |adv i x0 a1 hor hA=>
  rcases hor with e|⟨_,_,e⟩
  ·rw[ha] at e;cases e
   rcases qou hA hd hp with ⟨h1,h2⟩|h
   ·exact .inl ⟨(qh c t q.m a).2.1,by rw[q7V,if_pos h2],by rw[qoV fun e=>by unfold pnd at hp;rw[e] at hp;cases hp];exact hd,h1⟩
   ·exact .inr h
  ·rw[e a ha] at hd;cases hd
theorem qp2(h:q0c c ps n k m q.xs g r){md' gd':List Int}(h':MR (q.xs.set t x') md' gd')(hx:q.xs[t]? =some x)(h1:∀a,x.at'=some a→∀A V,a.ph≠ .wr A V)(h2:∀a,x'.at'=some a→∀A V,a.ph≠ .wr A V)(hl:0<m.d.length)(hl':0<md'.length)(e:md'.getD 0 0=m.d.getD 0 0):gd'.getD 0 0=g.d.getD 0 0:=by
 rcases h.mr with ⟨u,y,b,A,V,hy,hb,he,hg⟩|⟨hno,hg⟩
 ·have hut:u≠t:=fun e=>by subst e;rw[hx] at hy;cases hy;exact h1 b hb A V he
  rcases h' with ⟨u',y',b',A',V',hy',hb',he',hg'⟩|⟨hno',_⟩
  ·have hut':u'≠t:=fun e=>by subst e;rw[q0u hx] at hy';cases hy';exact h2 b' hb' A' V' he'
   rw[q0v hut'] at hy';obtain rfl:=h.one hy hb (by rw[he];rfl) hy' hb' (by rw[he'];rfl);rw[hy] at hy';cases hy';rw[hb] at hb';cases hb';rw[he] at he';cases he';rw[hg,hg',q7e hl',q7e hl,e]
  ·exact absurd he (hno' u y b (by rw[q0v hut];exact hy) hb A V)
 ·rcases h' with ⟨u',y',b',A',V',hy',hb',he',_⟩|⟨_,hg'⟩
  ·have hut':u'≠t:=fun e=>by subst e;rw[q0u hx] at hy';cases hy';exact h2 b' hb' A' V' he'
   rw[q0v hut'] at hy';exact absurd he' (hno u' y' b' hy' hb' A' V')
  ·rw[hg,hg',e]
theorem qoR{A V:List Int}(h:a.ph= .wr A V):(qh c t m a).2.1.busy=true:=by
 unfold qh;rw[h];dsimp only
 split <;>rfl
theorem qpm(hC:COk c)(hn:n≤16)(hk:k≤1000)(hc0:0<c.words)(hR:q3t c ps n k q g r)(hR':q3t c ps n (k+1) (q0R c ps n q t) g' r')(hpk:PkR c ps n q g r t g' r')(hx:q.xs[t]? =some x)(hp:ps[t]? =some p)(hpo:PrO p)(hd:x.th.dn=false)(hw:∀i,p[x.th.pc]? =some i→i.op=13→x.at'=none→0<q1b x i)(hz:qop c p t q.m x (qN c p n t q.m x)):
  (g'.d.getD 0 0=g.d.getD 0 0∧∀b,(qN c p n t q.m x).2.1.at'=some b→b.dn=true→∃a,x.at'=some a∧a.dn=true∧b=(qh c t q.m a).2.1)∨
  ∃a,x.at'=some a∧a.ph= .dc∧a.dn=false∧(qN c p n t q.m x).2.1.at'=some (qh c t q.m a).2.1∧(qh c t q.m a).2.1.dn=true∧g'={q7O p g x a t with n:=g.n+1}∧(qN c p n t q.m x).2.2.2= [⟨0,t,4,0,a.seen,if a.code=1 then a.ad.filter fun x=>decide (x<c.words) else []⟩]:=by
 obtain⟨i0,hi0,_⟩:=(hR.fn hx hp hpo).2 hd;have hch:=hpk.ch;rw[(q8u hx hp hd).2] at hch;have hmr:=hR'.gi.mr;have hdl:=hR.gi.gm.dl;have hdl':=hR'.gi.gm.dl;have hai':=fun b=>hR'.gi.ai t (qN c p n t q.m x).2.1 b
 rw[(q8u hx hp hd).1] at hmr hdl' hai';have hai':=fun b=>hai' b (q0u hx)
 generalize qN c p n t q.m x=z at*;cases hz with
 |calm _ h1 h2 h3 h4 h5=>
  left;have hnw:∀a,x.at'=some a→∀A V,a.ph≠ .wr A V:=fun a ha=>(hR.gi.ai t x a hx ha).nwr (h4 a ha)
  refine⟨qp2 hR.gi hmr hx hnw (fun a ha=>hnw a (by rw[←h3];exact ha)) (by have:=hdl;omega) (by have:=hdl';dsimp only at this;omega) ?_,fun b hb hbd=>by rw[h3] at hb;rw[h4 b hb] at hbd;cases hbd⟩
  rcases h5 with e|⟨i,v,hat,hi,h13,e⟩
  ·rw[e]
  ·rw[e];have:=hw i hi h13 hat;rw[zh,List.getElem?_set_ne Y6,←zh]
 |adv i x0 a hor hA=>
  by_cases hbz:(qh c t q.m a).2.1.busy=true
  ·have hat:(q0M c p t q.m x0 a i).2.1.at'=some (qh c t q.m a).2.1:=by rw[q7V,if_pos hbz]
   cases hdn':(qh c t q.m a).2.1.dn with
   |false=>
    left;rw[q9a hat hdn'] at hch;cases hch;exact⟨rfl,fun b hb hbd=>by rw[hat] at hb;cases hb;rw[hdn'] at hbd;cases hbd⟩
   |true=>
    cases hdn:a.dn with
    |false=>
     right;have hdc:a.ph= .dc:=Classical.byContradiction fun e=>by rw[qoV e,hdn] at hdn';cases hdn'
     have ha:x.at'=some a:=hor.resolve_right fun h=>h.2.1 hdc
     obtain⟨o1,o2,o3,_,o5,_⟩:=qoc hA hdc hdn';obtain⟨_,_,h3,_⟩:=q0c.advB hC hn Y6 hR.gi hx ha (by unfold AT.busy;rw[hdc]) hp hpo hi0 hdn (by rw[hdc];exact fun e=>by cases e) hdn';have e1:chN x (q0M c p t q.m x0 a i).2.1 (q0M c p t q.m x0 a i).2.2.1= [⟨t,0,[]⟩]:=by
      unfold chN;rw[if_pos (show(q0M c p t q.m x0 a i).2.2.1.ph=16 from o5),if_pos (by unfold GT.dec;rw[hat];exact hdn')];rfl
     rw[e1,h3] at hch;refine⟨a,ha,hdc,hdn,hat,hdn',(Option.some.inj hch).symm,?_⟩;show evA c t (qh c t q.m a).2.1 (qh c t q.m a).2.2.2=_;unfold evA;rw[if_neg (by rw[o5];decide),if_pos ⟨o5,hdn'⟩,o1,o2,o3]
    |true=>
     left;have ha:x.at'=some a:=hor.resolve_right fun h=>by rw[hdn] at h;cases h.1
     have hph:(q0M c p t q.m x0 a i).2.2.1.ph≠16:=fun e=>by
      have e:=qjw (c:=c) (t:=t) (m:=q.m) e;have:=hA.ph;unfold PhA at this;rw[e] at this;rw[this.1] at hdn;cases hdn
     rw[qhD hat hph] at hch;cases hch;exact⟨rfl,fun b hb _=>by rw[hat] at hb;cases hb;exact⟨a,ha,hdn,rfl⟩⟩
  ·left;have hno:∀A V,a.ph≠ .wr A V:=fun A V e=>hbz (qoR e)
   have hb':∀b,(q0M c p t q.m x0 a i).2.1.at'=some b→b.dn=false:=fun b hb=>by
    have h1:=q61 hb;have h2:=hai' b hb;subst h1;exact qog h2 (qi8 (by simpa using hbz))
   refine⟨qp2 hR.gi hmr hx (fun a0 ha A V e=> ?_) (fun b hb=>(hai' b hb).nwr (hb' b hb)) (by have:=hdl;omega) (by have:=hdl';dsimp only at this;omega) ?_,fun b hb hbd=>by rw[hb' b hb] at hbd;cases hbd⟩
   ·rcases hor with h|⟨_,_,h⟩
    ·rw[ha] at h;cases h;exact hno A V e
    ·exact(hR.gi.ai t x a0 hx ha).nwr (h a0 ha) A V e
   ·show(qh c t q.m a).1.d.getD 0 0=_;rw[qdI hno]
end
open Go
section
variable{ps:List (List Ins)}{n k:Nat}{q:RM}{g g':GS}{r r':Nat→List (Int×Int)}{t u:Nat}{x:GT}{a b:AT}{p:List Ins}{rr:List (Int×Int)}{w:Int}{kk qq jb:Nat}
theorem UnA.fin(hU:UnA g u p x a rr w kk qq jb)(hA:Agr rr g.d)(hl:g.d.length=4)(hs:RSt a rr)(hph:a.ph= .dc):a.code=1∧
  ((a.ad= []∧(∀z∈a.seen,z=0)∧(lay a.ad a.vl g.d).getD 0 0=g.d.getD 0 0)∨(a.ad= [0]∧(∀z∈a.seen,z=0)∧g.d.getD 0 0=0∧(lay a.ad a.vl g.d).getD 0 0=(u:Int)+1)∨(a.ad= [0]∧(∀z∈a.seen,z=0)∧g.d.getD 0 0=(u:Int)+1∧(lay a.ad a.vl g.d).getD 0 0=0)∨
   (a.ad= [w]∧g.d.getD 0 0=0∧(lay a.ad a.vl g.d).getD 0 0=0∧∃y∈rr,y.1=0)):=by
 obtain⟨_,_,hRp,i,hi,hq⟩:=hU.l.req (fun k e=>by rw[hph] at e;cases e) (by rw[hph];rfl);unfold q2L at hq;rw[hph] at hq;have ho:q57 cfF (q3q x a g.tk g.d).t.rg i=a.code:=hq.1.symm;have h0:q57 cfF (q3q x a g.tk g.d).t.rg i≠0:=by rw[ho];exact hq.2
 have hse:=qjz h0;have hrun:=(hRp g.tk g.d (by rw[hl];rfl) hA).fin hi (by rw[hse];exact h0);rw[hse,ho] at hrun;obtain⟨j',hj'⟩:∃j',(jb=2∧j'=8)∨(jb=14∧j'=17)∨(jb=17∧j'=24):=by
  rcases hU.hj with e|e|e
  ·exact⟨8, .inl ⟨e,rfl⟩⟩
  ·exact⟨17, .inr (.inl ⟨e,rfl⟩)⟩
  ·exact⟨24, .inr (.inr ⟨e,rfl⟩)⟩
 obtain⟨b,e1,_,_,e4⟩:=qoY hU.hs hl hU.hw hU.hq hU.hb hj' (n:=(q2c ((u:Int)+1) w kk).length) (by rw[q4n];have:=hU.hq;omega);obtain⟨rfl,h1⟩:=Prod.mk.inj (hrun.symm.trans e1);refine⟨h1,?_⟩;have sn:∀l:List Int,a.seen=l→(∀z∈l,z=0)→∀z∈a.seen,z=0:=fun l e h=>by rw[e];exact h
 rcases e4 with ⟨_,f1,f2,f3⟩|⟨_,f1,f2,f3,f4⟩|⟨_,f1,f2,f3,f4⟩|⟨_,f1,f2,f3⟩|⟨e17,f1,f2,f3,f4⟩
 ·exact .inl ⟨f1,sn _ f2 Y8,congrArg (fun l:List Int=>l.getD 0 0) f3⟩
 ·exact .inr (.inl ⟨f1,sn _ f2 Y8,f3,f4⟩)
 ·exact .inr (.inr (.inl ⟨f1,sn _ f2 Y8,f3,f4⟩))
 ·exact .inl ⟨f1,sn _ f2 Y8,congrArg (fun l:List Int=>l.getD 0 0) f3⟩
 ·refine .inr (.inr (.inr ⟨f1,f3,f4,?_⟩));have f1:a.ad= [w]:=f1;obtain⟨y,hy,hy0,_⟩:=qp5 (fun d hd hA=>by
   rcases qoP hU.hs.r0 hU.hq hU.hb hU.hj hRp hd hA with ⟨e,_⟩|⟨e,_⟩|⟨e,_⟩|⟨_,⟨_,_,h,_⟩|⟨_,_,h⟩|⟨_,_,h,_⟩|⟨h,_⟩⟩
   ·omega
   ·omega
   ·omega
   ·rw[f1] at h;cases h
   ·rw[f1] at h;cases h
   ·rw[f1] at h;cases h
   ·exact h) hs.2 fun z hz=>(hU.l.rr z hz).1
  exact⟨y,hy,hy0⟩
def WW(xs:List GT)(d0:Int):Prop:=∀(u:Nat) y b,xs[u]? =some y→y.at'=some b→b.dn=true→pnd b≠ []→d0=0∨(d0=(u:Int)+1∧b.ad= [0])
theorem qom(hR:q3t cfF ps n k q g r)(hP:∀(t:Nat) p,ps[t]? =some p→PgF t p)(hG:GI ps g)(hx:q.xs[t]? =some x)(hp:ps[t]? =some p)(ha:x.at'=none){i:Ins}(hi:p[x.th.pc]? =some i)(hop:i.op=12∨i.op=13):g.d.getD 0 0=(t:Int)+1∧1≤q1b x i∧q1b x i≤3:=by
 have h:=(hR.gi.out hx hp ha).1;have hs:=hG.2 t x.th p h hp;obtain⟨w,kk,qq,j,hw,_,rfl,hq,hj,hpc,hxj⟩:=qoK (hP t p hp) hi;obtain⟨_,_,o12,o13⟩:=qoH hxj;have hjj:j=10∨j=12:=hop.imp o12.1 o13.1;have hpa:q1b x i=w:=by
  unfold q1b
  rcases hjj with rfl|rfl <;>cases hxj <;>exact qoS hs.r0 (imm:=w) ⟨Y6,Y6⟩
 rw[hpa];exact⟨hs.own (.inr Y6),hw⟩
theorem qoJ(hA:AI cfF t q.m a){A V:List Int}(h:a.ph= .wr A V):pnd a≠ []∧∀w∈A,w∈a.ad:=by
 have hp:=hA.ph;unfold PhA at hp;rw[h] at hp;obtain⟨_,_,h3,_,_,_,_,h8,h9⟩:=hp;refine⟨?_,h8⟩;unfold pnd;rw[h];obtain⟨w,l,e⟩:=List.exists_cons_of_ne_nil h3;exact List.ne_nil_of_mem (h9 w (by rw[e];exact zm))
theorem qp4(hA:AI cfF t q.m a){A V:List Int}(h:a.ph= .wr A V):a.dn=true:=by
 have hp:=hA.ph;unfold PhA at hp;rw[h] at hp;exact hp.1
theorem qot(hR:q3t cfF ps n k q g r)(hP:∀(t:Nat) p,ps[t]? =some p→PgF t p)(hG:GI ps g)(hW:WW q.xs (g.d.getD 0 0))(hJ:JQ q.xs r):qm3 cfF ps q r t:=by
 intro x p i hx hp _ hi ha _ hop _;obtain⟨ho,hw1,hw3⟩:=qom hR hP hG hx hp ha hi hop;refine⟨fun u y b hy hb A V e hm=> ?_,fun _ u y b hu hy hb hbd ⟨z,hz,hzw⟩=> ?_⟩
 ·have hA:=hR.gi.ai u y b hy hb;obtain⟨h1,h2⟩:=qoJ hA e
  rcases hW u y b hy hb (qp4 hA e) h1 with h|⟨_,h⟩
  ·omega
  ·have:=h2 _ hm;rw[h,zf] at this;omega
 ·have hA:=hR.gi.ai u y b hy hb;obtain⟨py,hpy⟩:∃p,ps[u]? =some p:=(qoW hR (by rw[←hR.gi.xl];exact(z7.1 hy).1)).2
  obtain⟨_,_,_,_,hU⟩:=qoz hR hP hG hy hpy hb hbd;have hz0:0≤z.1:=by
   rcases zz.1 hz with h|h
   ·exact(hU.l.rr z h).1
   ·unfold fl at h
    split at h
    ·rename_i e
     split at h
     ·cases h
     ·rw[zf.1 h];exact(hA.addr ⟨_,_,_,e⟩).1
    ·cases h
  obtain⟨y0,h1,h2,h3⟩:=hJ u y b hy hb hbd z hz Y6
  rcases hR.gi.va u y b hy hb hbd with h|h
  ·exact h
  ·refine⟨y0,h1,Int.not_le.1 fun hle=> ?_⟩
   rcases h y0 (zN _ h1) hle with ⟨v,yv,bv,hyv,hbv,hdv,hov⟩|h
   ·rcases hW v yv bv hyv hbv hdv (List.ne_nil_of_mem hov) with h|⟨h,_⟩
    ·omega
    ·obtain rfl:v=t:=Y6;rw[hx] at hyv;cases hyv;rw[ha] at hbv;cases hbv
   ·rw[h2,h3] at h;rw[show g.d.getD (0:Int).toNat 0=g.d.getD 0 0 from rfl] at h;omega
structure DcA(q:RM)(g g':GS)(t:Nat)(x:GT)(z:MS×GT×StM×List EvM)(a:AT)(rr:List (Int×Int)):Prop where
 ha:x.at'=some a
 ph:a.ph= .dc
 dn:a.dn=false
 at':z.2.1.at'=some (qh cfF t q.m a).2.1
 dn':(qh cfF t q.m a).2.1.dn=true
 d0:g'.d.getD 0 0=(lay a.ad a.vl g.d).getD 0 0
 ev:z.2.2.2= [⟨0,t,4,0,a.seen,a.ad⟩]
 un:∃w,1≤w∧w≤3∧((a.ad= []∧(∀z∈a.seen,z=0)∧(lay a.ad a.vl g.d).getD 0 0=g.d.getD 0 0)∨(a.ad= [0]∧(∀z∈a.seen,z=0)∧g.d.getD 0 0=0∧(lay a.ad a.vl g.d).getD 0 0=(t:Int)+1)∨(a.ad= [0]∧(∀z∈a.seen,z=0)∧g.d.getD 0 0=(t:Int)+1∧(lay a.ad a.vl g.d).getD 0 0=0)∨
   (a.ad= [w]∧g.d.getD 0 0=0∧(lay a.ad a.vl g.d).getD 0 0=0∧∃y∈rr,y.1=0))
 rr:∀z∈rr,qF cfF z.1∈a.set
 cd:a.code=1
theorem qoZ(hn:n≤16)(hk:k≤1000)(hR:q3t cfF ps n k q g r)(hR':q3t cfF ps n (k+1) (q0R cfF ps n q t) g' r')(hP:∀(t:Nat) p,ps[t]? =some p→PgF t p)(hpo:PrO p)(hG:GI ps g)(hS:RSq q.xs r)(hpk:PkR cfF ps n q g r t g' r')(hx:q.xs[t]? =some x)(hp:ps[t]? =some p)(hd:x.th.dn=false):
  (g'.d.getD 0 0=g.d.getD 0 0∧∀b,(qN cfF p n t q.m x).2.1.at'=some b→b.dn=true→∃a,x.at'=some a∧a.dn=true∧b=(qh cfF t q.m a).2.1)∨∃a,DcA q g g' t x (qN cfF p n t q.m x) a (r t):=by
 rcases qpm qmx.co hn hk Y7 hR hR' hpk hx hp hpo hd (fun i hi h13 ha=>by have:=(qom hR hP hG hx hp ha hi (.inr h13)).2.1;omega) (qoC hR hx hp hpo hd) with h|⟨a,h1,h2,h3,h4,h5,rfl,h7⟩
 ·exact .inl h
 ·right;obtain⟨w,kk,qq,jb,hU⟩:=qoz hR hP hG hx hp h1 h3;have hA:=hR.gi.ai t x a hx h1;have hT:TL cfF p x a (r t):=by rw[hU.hp];exact hU.l
  obtain⟨f1,f2⟩:=hU.fin (hR.gi.agr hx h1 hT h3 h2) hG.1 (hS t x a hx h1 h3) h2;refine⟨a,h1,h2,h3,h4,h5,?_,?_,⟨w,hU.hw.1,hU.hw.2,f2⟩,fun z hz=>(hU.l.rr z hz).2.2,f1⟩
  ·dsimp only;rw[qbF,if_pos f1]
  ·rw[h7,if_pos f1,List.filter_eq_self.2 fun z hz=>decide_eq_true (hA.ar z hz).2]
theorem WW.step(hR:q3t cfF ps n k q g r)(hx:q.xs[t]? =some x){z:MS×GT×StM×List EvM}(h:WW q.xs (g.d.getD 0 0))(hc:(g'.d.getD 0 0=g.d.getD 0 0∧∀b,z.2.1.at'=some b→b.dn=true→∃a,x.at'=some a∧a.dn=true∧b=(qh cfF t q.m a).2.1)∨∃a,DcA q g g' t x z a rr):WW (q.xs.set t z.2.1) (g'.d.getD 0 0):=by
 intro u y b hy hb hbd hpn
 by_cases hu:u=t
 ·subst hu;rw[q0u hx] at hy;cases hy
  rcases hc with ⟨e,h1⟩|⟨a,hD⟩
  ·obtain⟨a,ha,hd,rfl⟩:=h1 b hb hbd;obtain⟨f1,f2⟩:=qoU (hR.gi.ai u x a hx ha) hd;rw[e,f1];exact h u x a hx ha hd (f2 hpn)
  ·obtain⟨o1,_,_,_,_,o6,_⟩:=qoc (hR.gi.ai u x a hx hD.ha) hD.ph hD.dn';rw[hD.at'] at hb;cases hb;rw[hD.d0,o1];obtain⟨w,_,_,h1|h1|h1|h1⟩:=hD.un
   ·exact absurd (o6 h1.1) hpn
   ·exact .inr ⟨h1.2.2.2,h1.1⟩
   ·exact .inl h1.2.2.2
   ·exact .inl h1.2.2.1
 ·rw[q0v hu] at hy
  rcases hc with ⟨e,_⟩|⟨a,hD⟩
  ·rw[e];exact h u y b hy hb hbd hpn
  ·obtain⟨o,ho⟩:=yp _ hpn;exact absurd (hR.gi.one hx hD.ha (by rw[hD.ph];rfl) hy hb (qf2 ho)) hu
end
open Go
section
variable{E:List EvM}{v:EvM}{d d':Int}
def qnR(v:EvM):Prop:=v.k=1∨v.k=2
def toE(v:EvM)(w:Int):Prop:=w∈v.r∨w∈v.wl
def enA(E:List EvM)(e:Nat)(t:Int):Prop:=∃z,E[e]? =some z∧z.k=4∧z.t=t
def e0A(E:List EvM)(e:Nat)(t:Int):Prop:=∃z,E[e]? =some z∧z.k=4∧z.t=t∧0∈z.wl
def bgA(E:List EvM)(e:Nat)(t:Int):Prop:=∃z,E[e]? =some z∧z.k=3∧z.t=t
theorem qpc{i:Nat}{z:EvM}(h:E[i]? =some z):(E++ [v])[i]? =some z:=by
 rw[zy (z7.1 h).1];exact h
theorem qpa:(E++ [v])[E.length]? =some v:=Y8
theorem qo1{i:Nat}{z:EvM}(h:(E++ [v])[i]? =some z):E[i]? =some z∨(i=E.length∧z=v):=by
 by_cases hi:i<E.length
 ·rw[zy hi] at h;exact .inl h
 ·have hl:=(z7.1 h).1;rw[z8,zE] at hl;obtain rfl:i=E.length:=Y6;rw[qpa] at h;exact .inr ⟨rfl,(Option.some.inj h).symm⟩
theorem enA.ap{e:Nat}{t:Int}(h:enA E e t):enA (E++ [v]) e t:=by obtain⟨z,h1,h2⟩:=h;exact⟨z,qpc h1,h2⟩
theorem e0A.ap{e:Nat}{t:Int}(h:e0A E e t):e0A (E++ [v]) e t:=by obtain⟨z,h1,h2⟩:=h;exact⟨z,qpc h1,h2⟩
theorem bgA.ap{e:Nat}{t:Int}(h:bgA E e t):bgA (E++ [v]) e t:=by obtain⟨z,h1,h2⟩:=h;exact⟨z,qpc h1,h2⟩
theorem e0A.en{e:Nat}{t:Int}(h:e0A E e t):enA E e t:=by obtain⟨z,h1,h2,h3,_⟩:=h;exact⟨z,h1,h2,h3⟩
theorem qR{i:Nat}{z:EvM}(h:E[i]? =some z):i<E.length:=(z7.1 h).1
structure OI(E:List EvM)(d:Int):Prop where
 w:∀(i:Nat) z,E[i]? =some z→qnR z→1≤z.w
 n:d=0→∀(i:Nat) z,E[i]? =some z→qnR z→∃e,i<e∧e0A E e z.t
 o:∀s:Int,0≤s→d=s+1→∃f,enA E f s∧(∀(i:Nat) z,f<i→E[i]? =some z→(qnR z→z.t=s)∧(z.k=4→∀w,toE z w→w=0))∧∀(i:Nat) z,E[i]? =some z→qnR z→z.t≠s→∃e,i<e∧e<f∧e0A E e z.t
theorem OI.bg(h:OI E d)(hv:v.k=3):OI (E++ [v]) d:=by
 have no:¬qnR v:=fun h=>by unfold qnR at h;omega
 refine⟨fun i z hz hp=> ?_,fun e i z hz hp=> ?_,fun s hs e=> ?_⟩
 ·rcases qo1 hz with hz|⟨_,rfl⟩
  ·exact h.w i z hz hp
  ·exact absurd hp no
 ·rcases qo1 hz with hz|⟨_,rfl⟩
  ·obtain⟨e,h1,h2⟩:=h.n e i z hz hp;exact⟨e,h1,h2.ap⟩
  ·exact absurd hp no
 ·obtain⟨f,h1,h2,h3⟩:=h.o s hs e;refine⟨f,h1.ap,fun i z hi hz=> ?_,fun i z hz hp ht=> ?_⟩
  ·rcases qo1 hz with hz|⟨_,rfl⟩
   ·exact h2 i z hi hz
   ·exact⟨fun h=>absurd h no,fun h=>by omega⟩
  ·rcases qo1 hz with hz|⟨_,rfl⟩
   ·obtain⟨e,a1,a2,a3⟩:=h3 i z hz hp ht;exact⟨e,a1,a2,a3.ap⟩
   ·exact absurd hp no
theorem OI.pl(h:OI E d)(hp:qnR v)(ht:0≤v.t)(hd:d=v.t+1)(hw:1≤v.w):OI (E++ [v]) d:=by
 refine⟨fun i z hz hp=> ?_,fun e i z hz hp=>by omega,fun s hs e=> ?_⟩
 ·rcases qo1 hz with hz|⟨_,rfl⟩
  ·exact h.w i z hz hp
  ·exact hw
 ·obtain rfl:s=v.t:=Y6;obtain⟨f,h1,h2,h3⟩:=h.o v.t hs e;refine⟨f,h1.ap,fun i z hi hz=> ?_,fun i z hz hp' ht=> ?_⟩
  ·rcases qo1 hz with hz|⟨_,rfl⟩
   ·exact h2 i z hi hz
   ·exact⟨fun _=>rfl,fun h=>by unfold qnR at hp;omega⟩
  ·rcases qo1 hz with hz|⟨_,rfl⟩
   ·obtain⟨e,a1,a2,a3⟩:=h3 i z hz hp' ht;exact⟨e,a1,a2,a3.ap⟩
   ·exact absurd rfl ht
theorem OI.en(h:OI E d)(hk:v.k=4)(ht:0≤v.t)(hc:(d'=d∧∀w,toE v w→w=0)∨(d=0∧d'=v.t+1∧0∈v.wl)∨(d=v.t+1∧d'=0∧0∈v.wl)∨(d=0∧d'=0)):OI (E++ [v]) d':=by
 have no:¬qnR v:=fun h=>by unfold qnR at h;omega
 refine⟨fun i z hz hp=> ?_,fun e i z hz hp=> ?_,fun s hs e=> ?_⟩
 ·rcases qo1 hz with hz|⟨_,rfl⟩
  ·exact h.w i z hz hp
  ·exact absurd hp no
 ·rcases qo1 hz with hz|⟨_,rfl⟩
  ·by_cases hd:d=0
   ·obtain⟨e,h1,h2⟩:=h.n hd i z hz hp;exact⟨e,h1,h2.ap⟩
   ·have h3:d=v.t+1∧d'=0∧0∈v.wl:=by
     rcases hc with h|h|h|h
     ·omega
     ·omega
     ·exact h
     ·omega
    by_cases hzt:z.t=v.t
    ·exact⟨E.length,qR hz,v,qpa,hk,hzt.symm,h3.2.2⟩
    ·obtain⟨f,_,_,h5⟩:=h.o v.t ht h3.1;obtain⟨e,a1,_,a3⟩:=h5 i z hz hp hzt;exact⟨e,a1,a3.ap⟩
  ·exact absurd hp no
 ·by_cases hd:d=d'
  ·obtain⟨f,h1,h2,h3⟩:=h.o s hs (hd.trans e);have hw:∀w,toE v w→w=0:=by
    rcases hc with h|h|h|h
    ·exact h.2
    ·omega
    ·omega
    ·omega
   refine⟨f,h1.ap,fun i z hi hz=> ?_,fun i z hz hp ht=> ?_⟩
   ·rcases qo1 hz with hz|⟨_,rfl⟩
    ·exact h2 i z hi hz
    ·exact⟨fun h=>absurd h no,fun _=>hw⟩
   ·rcases qo1 hz with hz|⟨_,rfl⟩
    ·obtain⟨e,a1,a2,a3⟩:=h3 i z hz hp ht;exact⟨e,a1,a2,a3.ap⟩
    ·exact absurd hp no
  ·have h2:d=0∧d'=v.t+1:=by
    rcases hc with h|h|h|h
    ·omega
    ·exact⟨h.1,h.2.1⟩
    ·omega
    ·omega
   obtain rfl:s=v.t:=Y6;refine⟨E.length,⟨v,qpa,hk,rfl⟩,fun i z hi hz=> ?_,fun i z hz hp ht=> ?_⟩
   ·have:=qR hz;rw[z8,zE] at this;omega
   ·rcases qo1 hz with hz|⟨_,rfl⟩
    ·obtain⟨e,a1,a2⟩:=h.n h2.1 i z hz hp;obtain⟨z',a3,_⟩:=a2;exact⟨e,a1,qR a3,e0A.ap ⟨z',a3,by assumption⟩⟩
    ·exact absurd hp no
def RF(E:List EvM):Prop:=∀(i j:Nat) x y,i<j→E[i]? =some x→E[j]? =some y→x.t≠y.t→
 (qnR x→qnR y→∃e f,i<e∧e<f∧f<j∧enA E e x.t∧enA E f y.t)∧(x.k=4→qnR y→toE x y.w→∃f,i<f∧f<j∧enA E f y.t)∧
 (qnR x→y.k=4→toE y x.w→∃e p,i<e∧e<p∧p<j∧enA E e x.t∧bgA E p y.t)
theorem RF.ap(h:RF E)(hv:∀(i:Nat) x,E[i]? =some x→x.t≠v.t→(qnR x→qnR v→∃e f,i<e∧e<f∧enA E e x.t∧enA E f v.t)∧(x.k=4→qnR v→toE x v.w→∃f,i<f∧enA E f v.t)∧
  (qnR x→v.k=4→toE v x.w→∃e p,i<e∧e<p∧enA E e x.t∧bgA E p v.t)):RF (E++ [v]):=by
 have lt:∀{e t},enA E e t→e<E.length:=fun h=>by obtain⟨z,h,_⟩:=h;exact qR h
 have ltb:∀{e t},bgA E e t→e<E.length:=fun h=>by obtain⟨z,h,_⟩:=h;exact qR h
 intro i j x y hij hx hy ht
 rcases qo1 hy with hy|⟨rfl,rfl⟩
 ·have hi:E[i]? =some x:=(qo1 hx).resolve_right fun h=>by have:=qR hy;omega
  obtain⟨h1,h2,h3⟩:=h i j x y hij hi hy ht;refine⟨fun a b=> ?_,fun a b c=> ?_,fun a b c=> ?_⟩
  ·obtain⟨e,f,a1,a2,a3,a4,a5⟩:=h1 a b;exact⟨e,f,a1,a2,a3,a4.ap,a5.ap⟩
  ·obtain⟨f,a1,a2,a3⟩:=h2 a b c;exact⟨f,a1,a2,a3.ap⟩
  ·obtain⟨e,p,a1,a2,a3,a4,a5⟩:=h3 a b c;exact⟨e,p,a1,a2,a3,a4.ap,a5.ap⟩
 ·have hi:E[i]? =some x:=(qo1 hx).resolve_right fun h=>by omega
  obtain⟨h1,h2,h3⟩:=hv i x hi ht;refine⟨fun a b=> ?_,fun a b c=> ?_,fun a b c=> ?_⟩
  ·obtain⟨e,f,a1,a2,a4,a5⟩:=h1 a b;exact⟨e,f,a1,a2,lt a5,a4.ap,a5.ap⟩
  ·obtain⟨f,a1,a3⟩:=h2 a b c;exact⟨f,a1,lt a3,a3.ap⟩
  ·obtain⟨e,p,a1,a2,a4,a5⟩:=h3 a b c;exact⟨e,p,a1,a2,ltb a5,a4.ap,a5.ap⟩
theorem RF.pl(h:RF E)(ho:OI E d)(hp:qnR v)(ht:0≤v.t)(hd:d=v.t+1)(hw:1≤v.w):RF (E++ [v]):=by
 refine h.ap fun i x hx hxt=> ?_
 obtain⟨f,h1,h2,h3⟩:=ho.o v.t ht hd;have nk:¬v.k=4:=fun e=>by unfold qnR at hp;omega
 refine⟨fun a _=> ?_,fun a _ c=> ?_,fun _ b=>absurd b nk⟩
 ·obtain⟨e,a1,a2,a3⟩:=h3 i x hx a hxt;exact⟨e,f,a1,a2,a3.en,h1⟩
 ·refine⟨f,?_,h1⟩
  by_cases hfi:f<i
  ·have:=(h2 i x hfi hx).2 a _ c;omega
  ·by_cases e:f=i
   ·subst e;obtain⟨z,b1,_,b3⟩:=h1;rw[hx] at b1;cases b1;exact absurd b3 hxt
   ·omega
theorem RF.en(h:RF E)(ho:OI E d)(hk:v.k=4)(hv:(∀w,toE v w→w=0)∨(d=0∧∀e t,e0A E e t→∃p,e<p∧bgA E p v.t)):RF (E++ [v]):=by
 have no:¬qnR v:=fun h=>by unfold qnR at h;omega
 refine h.ap fun i x hx hxt=>⟨fun _ b=>absurd b no,fun _ b=>absurd b no,fun a _ c=> ?_⟩
 rcases hv with h0|⟨h0,h1⟩
 ·have:=h0 _ c;have:=ho.w i x hx a;omega
 ·obtain⟨e,a1,a2⟩:=ho.n h0 i x hx a;obtain⟨p,a3,a4⟩:=h1 e _ a2;exact⟨e,p,a1,a3,a2.en,a4⟩
theorem RF.bg(h:RF E)(hk:v.k=3):RF (E++ [v]):=by
 have no:¬qnR v:=fun h=>by unfold qnR at h;omega
 exact h.ap fun i x hx hxt=>⟨fun _ b=>absurd b no,fun _ b=>absurd b no,fun _ b=>by omega⟩
end
end Go.Proofs.YtbhbldllneadeaaGreatDoor
