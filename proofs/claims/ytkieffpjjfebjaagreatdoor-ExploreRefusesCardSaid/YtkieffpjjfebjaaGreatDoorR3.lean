/- What the laws share, part 3. No condition. -/
import Derived.LaidMore
import Derived.Lay
import Derived.LaidByTextLater
import Derived.Stop.Joined
import Derived.SevenTiedAt
import Derived.Laws.FloatBits
import Derived.Test.YtkieffpjjfebjaaGreatDoorChecked
import Derived.Shelf.SlMaps.Clone
import Derived.Shelf.Sort.Plain
import Derived.Shelf.Slices.In.SortNone
import Derived.Shelf.Slices.CompactI
import Derived.Ground.Names2Prog
import Derived.Test.YtkieffpjjfebjaaGreatDoorProg
import Derived.Test.YtkieffpjjfebjaaGreatDoorR2
set_option maxHeartbeats 16000000
set_option maxRecDepth 100000
namespace Go.Proofs.YtkieffpjjfebjaaGreatDoor
open Go Go.ChangeShapes Go.WideShapes Go.ChangeAt Go.RowKit
def qlQ{H:Type}:Nat→DataW H→Option (List Value)
 |0,_=>none
 |_+1, .lit (.int k n)=>some [.int k n]
 |_+1, .lit (.bool b)=>some [.bool b]
 |_+1, .lit (.string l)=>some [.string ⟨l.toArray⟩]
 |n+1, .agg ds=>(ds.mapM (qlQ n)).map List.flatten
 |_+1,_=>none
def qmR(P:Program)(f:TypeId→Bool):List Field→Nat→Option Nat
 | [],off=>some off
 |x::r,off=>if x.offset=off∧f x.type=true then qmR P f r (off+P.cellsOf x.type) else none
def qmp(P:Program):Nat→TypeId→Bool
 |0,_=>false
 |n+1,t=>match P.underlying t with
  |some (.int _)|some .bool|some .string=>true
  |some (.array k e)=>qmp P n e&&decide (P.cellsOf t=k*P.cellsOf e)
  |some (.struct fs)=>qmR P (qmp P n) fs.toList 0==some (P.cellsOf t)
  |_=>false
theorem qm7{α β:Type}{f:α→Option β}:∀(l:List α) (ys:List β),l.length=ys.length→(∀(i:Nat) x,l[i]? =some x→f x=ys[i]?)→l.mapM f=some ys
 | [],[],_,_=>by simp
 |x::l,y::ys,hl,h=>by
  have h0:=h 0 x rfl
  simp only[List.getElem?_cons_zero] at h0
  have ih:=qm7 l ys (by simpa using hl) (fun i x hx=>by have:=h (i+1) x (by simpa using hx);simpa using this)
  rw[List.mapM_cons,h0,ih]
  rfl
 | [],_::_,hl,_=>by cases hl
 |_::_,[],hl,_=>by cases hl
theorem qlZ{cs:List Value}(s:Nat):∀k,((List.range k).map fun i=>(cs.drop (i*s)).take s).flatten=cs.take (k*s)
 |0=>by simp
 |k+1=>by
  rw[List.range_succ,List.map_append,List.flatten_append,qlZ s k,Nat.succ_mul,List.take_add]
  simp
theorem qmc{P:Program}{f:TypeId→Bool}{cs:List Value}:∀(l:List Field) (off tot:Nat),qmR P f l off=some tot→off≤tot∧(l.map fun x=>(cs.drop x.offset).take (P.cellsOf x.type)).flatten=(cs.drop off).take (tot-off)
 | [],off,tot,h=>by
  simp only[qmR,Option.some.injEq] at h
  subst h
  simp
 |x::l,off,tot,h=>by
  unfold qmR at h
  split at h
  ·rename_i hx
   obtain⟨h1,h2⟩:=qmc (cs:=cs) l _ tot h
   refine⟨by omega,?_⟩
   rw[List.map_cons,List.flatten_cons,h2,hx.1]
   have e:tot-off=P.cellsOf x.type+(tot-(off+P.cellsOf x.type)):=by omega
   rw[e,List.take_add,List.drop_drop]
  ·cases h
theorem qmm{P:Program}{f:TypeId→Bool}:∀(l:List Field) (off tot:Nat),qmR P f l off=some tot→∀x∈l,f x.type=true
 | [],_,_,_,x,hx=>by cases hx
 |y::l,off,tot,h,x,hx=>by
  unfold qmR at h
  split at h
  ·rename_i hy
   rcases List.mem_cons.1 hx with rfl|hx
   ·exact hy.2
   ·exact qmm l _ _ h x hx
  ·cases h
section
variable{H:Type}{enc:TypeId×Value→H}{P:Program}{w:World}{base:Nat}{spare:Nat→Bool}{held:Bool}
theorem qm1:∀(n fuel:Nat) (t:TypeId) (cs:List Value) (d:DataW H) (p:List MemPlace),qmp P n t=true→DataW.trod enc P w base spare held fuel t cs=some (d,p)→qlQ n d=some cs
 |0,_,_,_,_,_,h,_=>by simp[qmp] at h
 |n+1,fuel,t,cs,d,p,h,hd=>by
  unfold qmp at h
  split at h
  ·rename_i hu
   obtain⟨m,rfl,hx,_⟩:=DataW.trod_int hu hd
   simp only[Prod.mk.injEq] at hx
   rw[hx.1];rfl
  ·rename_i hu
   obtain⟨m,rfl,hx⟩:=DataW.trod_bool hu hd
   simp only[Prod.mk.injEq] at hx
   rw[hx.1];rfl
  ·rename_i hu
   obtain⟨m,rfl,hx,_⟩:=DataW.trod_string hu hd
   simp only[Prod.mk.injEq] at hx
   rw[hx.1];simp[qlQ]
  ·rename_i k e hu
   simp only[Bool.and_eq_true,decide_eq_true_eq] at h
   obtain⟨xs,m,_,hx,hl,hxl,hel⟩:=DataW.trod_array hu hd
   simp only[Prod.mk.injEq] at hx
   rw[hx.1]
   have hm:(xs.map (·.1)).mapM (qlQ n)=some ((List.range k).map fun i=>(cs.drop (i*P.cellsOf e)).take (P.cellsOf e)):=by
    refine qm7 _ _ (by simp[hxl]) fun i x hx=> ?_
    rw[List.getElem?_map] at hx
    obtain⟨y,hy,rfl⟩:=Option.map_eq_some_iff.1 hx
    have hi:i<k:=by rw[←hxl];exact(List.getElem?_eq_some_iff.1 hy).1
    have:=hel i hi
    rw[hy] at this
    rw[qm1 n m e _ y.1 y.2 h.1 this]
    simp[hi]
   simp only[qlQ,hm,Option.map_some]
   rw[qlZ,←h.2,←hl,List.take_length]
  ·rename_i fs hu
   simp only[beq_iff_eq] at h
   obtain⟨xs,m,_,hx,hl,hxl,hel⟩:=DataW.trod_struct hu hd
   simp only[Prod.mk.injEq] at hx
   rw[hx.1]
   have hm:(xs.map (·.1)).mapM (qlQ n)=some (fs.toList.map fun x=>(cs.drop x.offset).take (P.cellsOf x.type)):=by
    refine qm7 _ _ (by simp[hxl]) fun i x hx=> ?_
    rw[List.getElem?_map] at hx
    obtain⟨y,hy,rfl⟩:=Option.map_eq_some_iff.1 hx
    have hi:i<fs.size:=by rw[←hxl];exact(List.getElem?_eq_some_iff.1 hy).1
    have hf:fs[i]? =some fs[i]:=Array.getElem?_eq_getElem hi
    have:=hel i fs[i] hf
    rw[hy] at this
    have hft:=qmm fs.toList 0 _ h fs[i] (by simp)
    rw[qm1 n m _ _ y.1 y.2 hft this]
    simp[hi]
   simp only[qlQ,hm,Option.map_some]
   rw[(qmc (cs:=cs) fs.toList 0 _ h).2]
   simp[←hl]
  ·cases h
end
theorem qmk{P:Program}{w:World}:∀{l:List (String×DataW Unit)} {ps:List MemPlace},DataW.LaidVars P w l ps→∀{n:String} {d:DataW Unit},(n,d)∈l→
  ∃g t cs fuel p,P.globalNamed n=some g∧(P.globals[g]?).map (·.type)=some t∧w.var? P n=some cs∧DataW.trod (fun _=>()) P w 0 (fun _=>true) false fuel t cs.toList=some (d,p)
 | [],_,_,_,_,h=>by cases h
 |(n',d')::r,ps,hL,n,d,h=>by
  obtain⟨g,t,cs,fuel,p,q,h1,h2,h3,h4,h5,_⟩:=hL
  rcases List.mem_cons.1 h with e|h
  ·cases e
   exact⟨g,t,cs,fuel,p,h1,h2,h3,h4⟩
  ·exact qmk h5 h
theorem qmw{P:Program}{w:World}{l:List (String×DataW Unit)}{n:String}{d:DataW Unit}{g:Nat}{t:TypeId}{cs:List Value}(hp:(l.all fun x=>x.2.handleName?.isNone)=true)
  (h:laidMetH P l w) (hm:(n,d)∈l) (hg:P.globalNamed n=some g) (ht:(P.globals[g]?).map (·.type)=some t) (hf:qmp P 6 t=true) (hc:qlQ 6 d=some cs) (hne:cs≠ []):q1C w g cs:=by
 rw[MakeChecks.laidMetH_plain _ _ _ hp] at h
 obtain⟨ps,hL,_,_⟩:=h
 obtain⟨g',t',cs',fuel,p,h1,h2,h3,h4⟩:=qmk hL hm
 rw[hg] at h1
 obtain rfl:=Option.some.inj h1
 rw[ht] at h2
 obtain rfl:=Option.some.inj h2
 have h5:=qm1 6 fuel t _ d p hf h4
 rw[hc] at h5
 have h5:=(Option.some.inj h5).symm
 have hcell:∀j v,cs[j]? =some v→w.cell? ⟨g,j,none⟩=some v:=fun j v hv=>by
  rw[World.var?_cell hg h3 j,←Array.getElem?_toList,h5,hv]
 refine⟨?_,hcell⟩
 match cs,hne with
 |v::_,_=>
  have:=hcell 0 v rfl
  unfold World.cell? at this
  split at this
  ·rename_i hb
   exact(Array.getElem?_eq_some_iff.1 hb).1
  ·cases this
open Go
section
variable{W0:World}{own:Own}{c:Cfg}{ia pa ka:Option Addr}{il ic pc kc:Nat}{ps:List PH}{ks:List Int}
theorem qmY(hP:RdE PH.enc 1 W0 own pa ps)(hQ:∀h∈ps,RdE Ins.enc 5 W0 own h.a h.p)(hK:RdE qM 1 W0 own ka ks):
  qD Tryz.prog W0 39 [qhi c ia il ic pa ps.length pc ka ks.length kc] own (qlI (csM c il ps ks)):=by
 refine qe (qa qj qlU (by simp[qR]) ?_)
 have hck:=fun own=>q7Z W0 own c
 unfold csM
 generalize qL c=z at*
 by_cases h0:z=0
 ·subst h0
  simp only[ne_eq,not_true_eq_false,if_false]
  by_cases h1:ps.length<1∨16<ps.length
  ·rw[if_pos h1]
   repeat'((try(conv=>whnf));first|(refine qC ?_)|(refine q0C ?_)|(refine q3T ?_)|(refine q4C ?_)|(refine q18 (by omega) ?_)|(apply qf (hck _))|(apply qH;(exact eM);exact rfl)|(apply q3x;(exact eM);exact rfl;exact rfl)|(refine qc (fun bk hbk=> ?_))|(refine q2k (fun hc=> ?_) (fun hc=> ?_)))
   all_goals exact⟨rfl,eB⟩
  ·rw[if_neg h1]
   by_cases h2:¬(il:Int)=c.words
   ·rw[if_pos h2]
    repeat'((try(conv=>whnf));first|(refine qC ?_)|(refine q4C ?_)|(refine q18 (by omega) ?_)|(refine q2i (by omega) ?_)|(refine q4G (by omega) ?_)|(apply qf (hck _))|(apply qH;(exact eM);exact rfl)|(apply q3x;(exact eM);exact rfl;exact rfl)|(refine qc (fun bk hbk=> ?_)))
    all_goals exact⟨rfl,eB⟩
   ·rw[if_neg h2]
    repeat'((try(conv=>whnf));first|(refine qC ?_)|(refine q4C ?_)|(refine q2i (by omega) ?_)|(refine q4G (by omega) ?_)|(apply qf (hck _))|(apply qH;(exact eM);exact rfl)|(apply q3x;(exact eM);exact rfl;exact rfl)|(refine qc (fun bk hbk=> ?_)))
    generalize hres:psG ps 0=res
    refine q1L (σ:=Nat) (fun t=> [(6, .int .i64 t)]) (fun t=>t≤ps.length∧psG (ps.drop t) t=res) (fun t=>ps.length-t) 0 ⟨by omega,hres⟩ (eF) rfl ?_
    rintro t junk ⟨ht,hI⟩
    by_cases hlt:t<ps.length
    ·obtain⟨x,hx⟩:∃x,ps[t]? =some x:=⟨_,List.getElem?_eq_getElem hlt⟩
     have hx1:=hQ x (List.mem_of_getElem? hx)
     have hcp:=fun ex=>qbT (cap:=x.cap) (hx1.ent (Ent.app (A:=ex) Ent.refl))
     rw[q4H hx,psG,qfO] at hI
     generalize q1w x.p=r at*
     by_cases hr:r.2≠0
     ·rw[if_pos hr] at hI
      subst hI
      repeat'((try(conv=>whnf));first|(refine q18 (by omega) ?_)|(refine qf (hcp [_]) ?_)|((with_reducible show Ld _ _ _ _);first|(refine ldE (k:=0) (RdE.ent hP ?_) hx ?_ rfl ?_;rotate_left;rfl;rotate_left;(solve|(exact eB))))|((with_reducible show IxS _ _ _ _ _);first|(refine ixE hP hx ?_ ?_;(first|rfl|omega)))|(refine fO ?_)|(apply qH;(exact eM);exact rfl))
      all_goals exact⟨rfl,eB⟩
     ·rw[if_neg hr] at hI
      repeat'((try(conv=>whnf));first|(refine q18 (by omega) ?_)|(refine q2i (by omega) ?_)|(refine qf (hcp [_]) ?_)|((with_reducible show Ld _ _ _ _);first|(refine ldE (k:=0) (RdE.ent hP ?_) hx ?_ rfl ?_;rotate_left;rfl;rotate_left;(solve|(exact eB))))|((with_reducible show IxS _ _ _ _ _);first|(refine ixE hP hx ?_ ?_;(first|rfl|omega)))|(refine fB ?_)|(refine fO ?_)|(apply qH;(exact eM);exact rfl))
      all_goals exact⟨t+1,⟨by omega,hI⟩,by omega,(eF),eB⟩
    ·have ht':t=ps.length:=by omega
     subst ht'
     rw[List.drop_length,psG] at hI
     subst hI
     simp only[]
     by_cases h3:65536<ks.length
     ·rw[if_pos h3]
      repeat'((try(conv=>whnf));first|(refine q18 (by omega) ?_)|(refine q2i (by omega) ?_)|(apply qH;(exact eM);exact rfl))
      all_goals exact⟨rfl,eB⟩
     ·rw[if_neg h3]
      generalize hres2:ksG ps.length ks 0=res2
      repeat'((try(conv=>whnf));first|(refine q2i (by omega) ?_)|(apply qH;(exact eM);exact rfl))
      refine q1L (σ:=Nat) (fun i=> [(9, .int .i64 i)]) (fun i=>i≤ks.length∧ksG ps.length (ks.drop i) i=res2) (fun i=>ks.length-i) 0 ⟨by omega,hres2⟩ (eF) rfl ?_
      rintro i junk2 ⟨hi,hI⟩
      by_cases hlt2:i<ks.length
      ·obtain⟨k,hk⟩:∃k,ks[i]? =some k:=⟨_,List.getElem?_eq_getElem hlt2⟩
       rw[q4H hk,ksG] at hI
       by_cases hb:k<0∨(ps.length:Int)≤k
       ·rw[if_pos hb] at hI
        subst hI
        repeat'((try(conv=>whnf));first|(refine qC ?_)|(refine q0C ?_)|(refine q3T ?_)|(refine q18 (by omega) ?_)|((with_reducible show Ld _ _ _ _);first|(refine ldE (k:=0) (RdE.ent hK ?_) hk ?_ rfl ?_;rotate_left;rfl;rotate_left;(solve|(exact eB))))|((with_reducible show IxS _ _ _ _ _);first|(refine ixE hK hk ?_ ?_;(first|rfl|omega)))|(apply qH;(exact eM);exact rfl)|(refine q2k (fun hc=> ?_) (fun hc=> ?_)))
        all_goals exact⟨rfl,eB⟩
       ·rw[if_neg hb] at hI
        repeat'((try(conv=>whnf));first|(refine qC ?_)|(refine q18 (by omega) ?_)|(refine q2i (by omega) ?_)|(refine q4G (by omega) ?_)|((with_reducible show Ld _ _ _ _);first|(refine ldE (k:=0) (RdE.ent hK ?_) hk ?_ rfl ?_;rotate_left;rfl;rotate_left;(solve|(exact eB))))|((with_reducible show IxS _ _ _ _ _);first|(refine ixE hK hk ?_ ?_;(first|rfl|omega)))|(refine fB ?_)|(apply qH;(exact eM);exact rfl))
        all_goals exact⟨i+1,⟨by omega,hI⟩,by omega,(eF),eB⟩
      ·have hi':i=ks.length:=by omega
       subst hi'
       rw[List.drop_length,ksG] at hI
       subst hI
       repeat'((try(conv=>whnf));first|(refine q2i (by omega) ?_)|(apply qH;(exact eM);exact rfl))
       all_goals exact⟨rfl,eB⟩
 ·rw[if_pos h0]
  repeat'((try(conv=>whnf));first|(refine q18 (by omega) ?_)|(apply qf (hck _))|(apply q3x;(exact eM);exact rfl;exact rfl)|(refine qc (fun bk hbk=> ?_)))
  all_goals exact⟨rfl,eB⟩
end
open Go
theorem qmQ{m n:Int}(h1: -9223372036854775808≤m∧0<n∧m≤9223372036854775807): -9223372036854775808≤m.tdiv n∧m.tdiv n≤9223372036854775807:=by
 have h2:(m.tdiv n).natAbs≤m.natAbs:=by rw[Int.natAbs_tdiv];exact Nat.div_le_self _ _
 have h4:m<0→m.tdiv n≤0:=fun h=>by
  have h5:0≤(-m).tdiv n:=Int.tdiv_nonneg (by omega) (by omega)
  rw[Int.neg_tdiv] at h5
  omega
 omega
theorem qn4{m n:Int}{K:Int→Prop}(h1: -9223372036854775808≤m∧0<n∧m≤9223372036854775807)(h:K (m.tdiv n)):Quo .i64 m n K:=by
 have h2:=qmQ h1
 refine⟨by omega,?_⟩
 rw[q8Y (by omega) (by omega)]
 exact h
def qmT:List Int→Prop
 | []=>True
 |a::r=>(-9223372036854775808≤a∧a≤9223372036854775807)∧qmT r
def qm6(c:Cfg):Prop:=4≤c.words∧c.words≤12∧1≤c.orecs∧c.orecs≤8∧c.base=2∧0≤c.c0∧c.c0≤2∧0≤c.c1∧c.c1≤2∧c.c2=0∧c.c3=0∧c.c0+c.c1*2≤c.words-2∧
 1≤c.reads∧c.reads≤8∧1≤c.writes∧c.writes≤8∧0≤c.allocs∧c.allocs≤2∧0≤c.frees∧c.frees≤2∧0≤c.clock∧c.clock≤50∧c.strong=false
section
variable{P:Program}{W0:World}{own:Own}
theorem qmB{k:FuncId}{args:List Value}{Φ:Value→Prop}(h:q0E P W0 k args own fun v' own'=>Φ v'∧Ent W0 own' own):ql8 P W0 k args own Φ:=fun w hw=>
 (h w hw).mono fun _ w' ⟨v,_,he,hs,hv,hE⟩=>⟨v,he,hv,hE w' hs⟩
end
theorem qme{W0:World}{own:Own}{a n:Int}{K:Value→Own→Prop}(hn:0<n∧n≤9223372036854775807)(h:∀p,0≤p∧p<n→K (.int .i64 p) own):
  qg Tryz.prog W0 own 12 [.int .i64 a, .int .i64 n] K:=qf (qbk _ _ _ _ hn) (h _ (qb4 a hn.1))
theorem qn5{m:Int}{K:Int→Prop}(h:K (m/1)):Shr .i64 m 0 K:=ql3 0 1 rfl rfl (by omega) rfl h
theorem qn6{m:Int}{K:Int→Prop}(h:K (m/2)):Shr .i64 m 1 K:=ql3 1 2 rfl rfl (by omega) rfl h
theorem qmy(W0:World)(own:Own)(a b c d e:Int)(hh:qmT [a,b,c,d,e]):ql8 Tryz.prog W0 17 [.int .i64 a, .int .i64 b, .int .i64 c, .int .i64 d, .int .i64 e] own (fun v=>∃c:Cfg,v=c.v∧qm6 c):=by
 obtain⟨ha,hb,hc,hd,he,_⟩:=hh
 refine qmB (qa qj qm0 (by simp[qlM]) ?_)
 repeat'((try(conv=>whnf));first|(refine qme ?_ (fun p hp=> ?_);omega)|(refine qa9 ?_ (fun p hp=> ?_);omega)|(refine qn4 ?_ ?_;omega)|(refine qn5 ?_)|(refine qn6 ?_)|(refine q56 3 ?_)|(refine q3T ?_)|(refine q4C ?_)|(refine fB ?_)|(refine ix0 rfl ?_)|(refine ix1 rfl ?_)|(apply qH;(exact eM);exact rfl)|(apply qX;(exact eM);exact rfl)|(apply qaK;(first|(solve|repeat(first|with_reducible exact Up.head|with_reducible apply Up.tail|with_reducible apply Up.app))|(repeat(first|exact Up.head|apply Up.tail|apply Up.app)));(solve|((try(conv=>arg 2;whnf));repeat'(first|exact Lis.nil|apply Lis.cons|apply q2h.here|apply q2h.there|apply q0P.done|apply q0P.put|apply q0P.skip)));exact rfl)|(apply q5P;(first|(solve|repeat(first|with_reducible exact Up.head|with_reducible apply Up.tail|with_reducible apply Up.app))|(repeat(first|exact Up.head|apply Up.tail|apply Up.app)));(solve|((try(conv=>arg 2;whnf));repeat'(first|exact Lis.nil|apply Lis.cons|apply q2h.here|apply q2h.there|apply q0P.done|apply q0P.put|apply q0P.skip)));exact rfl)|(refine qc (fun bk hbk=> ?_))|(refine q5X (fun hc=> ?_) (fun hc=> ?_))|(refine qkM ?_ ?_;omega)|(refine qkL ?_ ?_;omega)|(refine qgE ?_)|(refine qmP rfl ?_))
 all_goals(refine⟨⟨⟨_,_,_,_,_,_,_,_,_,_,_,_,_⟩,q0I rfl,?_⟩,eB⟩;dsimp only[qm6];(repeat' apply And.intro) <;>first|rfl|omega)
open Go
theorem qm9{W0:World}{own:Own}{a b c d e:Int}{K:Value→Own→Prop}(hh:qmT [a,b,c,d,e])(h:∀c:Cfg,qm6 c→K c.v own):
  qg Tryz.prog W0 own 17 [.int .i64 a, .int .i64 b, .int .i64 c, .int .i64 d, .int .i64 e] K:=
 q6S (qmy W0 own a b c d e hh) (fun v ⟨c,hv,hg⟩=>by rw[hv];exact h c hg)
open Go Go.ChangeShapes Go.WideShapes Go.ChangeAt Go.RowKit
theorem qmg{α:Type}{Q:Nat→α→Prop}:∀n,(∀i,i<n→∃y,Q i y)→∃l:List α,l.length=n∧∀i y,l[i]? =some y→Q i y
 |0,_=>⟨[],rfl,fun i y h=>by simp at h⟩
 |n+1,h=>by
  obtain⟨l,hl,hq⟩:=qmg n (fun i hi=>h i (by omega))
  obtain⟨y,hy⟩:=h n (by omega)
  refine⟨l++ [y],by simp[hl],fun i z hz=> ?_⟩
  by_cases hi:i<l.length
  ·rw[List.getElem?_append_left hi] at hz
   exact hq i z hz
  ·rw[List.getElem?_append_right (by omega)] at hz
   have:i-l.length=0:=by
    by_cases h0:i-l.length=0
    ·exact h0
    ·rw[List.getElem?_eq_none (by simp;omega)] at hz;cases hz
   rw[this] at hz
   simp only[List.getElem?_cons_zero,Option.some.injEq] at hz
   subst hz
   have:i=n:=by omega
   subst this
   exact hy
section
variable{H:Type}{enc:TypeId×Value→H}{P:Program}{w:World}{spare:Nat→Bool}{held:Bool}
theorem qms{own:Own}{a:Addr}{v:Value}(h:w.cell? a=some v):Kn w own (fun w'=>w'.cell? a=some v):=fun w' hw=>by
 have hb:a.block<w.heap.size:=by
  unfold World.cell? at h
  split at h
  ·rename_i hb;exact(Array.getElem?_eq_some_iff.1 hb).1
  ·cases h
 exact(World.cell?_of_block (w:=w) (hw.base a.block hb)).trans h
theorem qmj{α:Type}{en:α→List Value}{sz:Nat}{Φ:α→Prop}{fuel:Nat}{t e:TypeId}{cs:List Value}{x:DataW H×List MemPlace}(ht:P.underlying t=some (.slice e))(hsz:P.cellsOf e=sz)(hpos:0<sz)
  (hel:∀n cs x,DataW.trod enc P w 0 spare held n e cs=some x→∃y,cs=en y∧Φ y) (h:DataW.trod enc P w 0 spare held fuel t cs=some x):
  ∃a l cap,cs= [.slice a l.length cap]∧RdE en sz w [] a l∧(∀y∈l,Φ y)∧l.length≤cap:=by
 rcases DataW.trod_slice ht h with ⟨rfl,_⟩|⟨a,len,cap,elems,rest,n,_,rfl,_,_,hl,_,hlen,hel',_⟩
 ·exact⟨none,[],0,rfl,RdE.nil,fun _ h=>(by cases h),by simp⟩
 ·have key:∀i,i<len→∃y,(w.cells? 0 (a.add (i*sz)) sz=some (en y))∧Φ y:=fun i hi=>by
   have:=hel' i hi
   rw[hsz] at this
   have hi':i<elems.length:=by omega
   rw[List.getElem?_eq_getElem hi',Option.bind_eq_some_iff] at this
   obtain⟨c,hc,hx⟩:=this
   obtain⟨y,rfl,hy⟩:=hel _ _ _ hx
   exact⟨y,hc,hy⟩
  obtain⟨l,hll,hq⟩:=qmg len key
  have hget:∀{j k:Nat} {y:α} {v:Value},l[j]? =some y→(en y)[k]? =some v→w.cell? ((a.add (j*sz)).add k)=some v∧(en y).length=sz:=fun{j k y v} hy hv=>by
   obtain⟨hc,_⟩:=hq j y hy
   obtain⟨_,hlen,hget⟩:=World.cells?_some hc
   have hk:=(List.getElem?_eq_some_iff.1 hv).1
   exact⟨(hget k (by omega)).trans hv,hlen⟩
  have hspot:l≠ []→a.spot=none:=fun hne=>by
   cases l with
   |nil=>exact absurd rfl hne
   |cons y r=>
    obtain⟨hc,_⟩:=hq 0 y rfl
    obtain⟨_,hlen,hget⟩:=World.cells?_some hc
    have h0:=hget 0 hpos
    rw[List.getElem?_eq_getElem (by omega)] at h0
    rw[Nat.zero_mul] at h0
    have e0:(a.add 0).add 0=a:=by simp[Addr.add]
    rw[e0] at h0
    unfold World.cell? at h0
    split at h0
    ·split at h0
     ·cases h0
     ·rename_i hs;simpa using hs
    ·cases h0
  refine⟨some a,l,cap,by rw[hll],⟨fun hne=> ?_,fun y hy=> ?_,fun{j k y v} hy hv=> ?_⟩,fun y hy=> ?_,by omega⟩
  ·have:=hspot hne
   obtain⟨b,o,s⟩:=a
   simp only at this
   subst this
   rfl
  ·obtain⟨i,hi⟩:=List.getElem?_of_mem hy
   obtain⟨hc,_⟩:=hq i y hi
   exact(World.cells?_some hc).2.1
  ·obtain⟨hc,_⟩:=hget hy hv
   have hs:=hspot (by intro e;subst e;simp at hy)
   have he:(a.add (j*sz)).add k=⟨ab (some a),ao (some a)+j*sz+k,none⟩:=by
    obtain⟨b,o,s⟩:=a
    simp only at hs
    subst hs
    rw[qJ,qJ]
    rfl
   rw[he] at hc
   exact qms hc
  ·obtain⟨i,hi⟩:=List.getElem?_of_mem hy
   exact(hq i y hi).2
theorem qlS{fuel:Nat}{t:TypeId}{cs:List Value}{x:DataW H×List MemPlace}{k:IntKind}(ht:P.underlying t=some (.int k))(h:DataW.trod enc P w 0 spare held fuel t cs=some x):∃n,cs= [.int k n]∧inK k n:=by
 obtain⟨n,rfl,_,hw⟩:=DataW.trod_int ht h
 refine⟨n,rfl,qmv ?_⟩
 simp only[Lit.wf,Bool.and_eq_true,decide_eq_true_eq] at hw
 exact hw
theorem qmd{fuel:Nat}{t e:TypeId}{k:IntKind}{cs:List Value}{x:DataW H×List MemPlace}(ht:P.underlying t=some (.slice e))(he:P.underlying e=some (.int k))(hsz:P.cellsOf e=1)(h:DataW.trod enc P w 0 spare held fuel t cs=some x):
  ∃a l cap,cs= [.slice a l.length cap]∧RdE (fun n=> [.int k n]) 1 w [] a l∧(∀y∈l,inK k y)∧l.length≤cap:=
 qmj ht hsz (by omega) (fun _ _ _ h=>qlS he h) h
theorem qmD{fuel:Nat}{t:TypeId}{fs:Array Field}{cs:List Value}{x:DataW H×List MemPlace}(ht:P.underlying t=some (.struct fs))(h:DataW.trod enc P w 0 spare held fuel t cs=some x)(i:Nat)(f:Field)(hf:fs[i]? =some f):
  cs.length=P.cellsOf t∧∃m y,DataW.trod enc P w 0 spare held m f.type ((cs.drop f.offset).take (P.cellsOf f.type))=some y:=by
 obtain⟨xs,n,_,_,hl,hxl,hel⟩:=DataW.trod_struct ht h
 have hi:=(Array.getElem?_eq_some_iff.1 hf).1
 have:=hel i f hf
 rw[List.getElem?_eq_getElem (by omega)] at this
 exact⟨hl,n,_,this⟩
def qmt(P:Program)(t:TypeId)(i:Nat):Option (Nat×TypeId):=match P.underlying t with
 |some (.struct fs)=>(fs[i]?).map fun f=>(f.offset,f.type)
 |_=>none
theorem qlV{fuel:Nat}{t ft:TypeId}{off n:Nat}{cs:List Value}{x:DataW H×List MemPlace}(i:Nat)(hf:qmt P t i=some (off,ft))(hn:P.cellsOf ft=n)(h:DataW.trod enc P w 0 spare held fuel t cs=some x):
  cs.length=P.cellsOf t∧∃m y,DataW.trod enc P w 0 spare held m ft ((cs.drop off).take n)=some y:=by
 unfold qmt at hf
 split at hf
 ·rename_i fs hu
  obtain⟨f,hf1,hf2⟩:=Option.map_eq_some_iff.1 hf
  simp only[Prod.mk.injEq] at hf2
  obtain⟨rfl,rfl⟩:=hf2
  subst hn
  exact qmD hu h i f hf1
 ·cases hf
end
open Go Go.ChangeShapes Go.WideShapes Go.ChangeAt Go.RowKit
section
variable{H:Type}{enc:TypeId×Value→H}{w:World}{spare:Nat→Bool}{held:Bool}{fuel:Nat}{cs:List Value}{x:DataW H×List MemPlace}
theorem qm8{cs:List Value}{i:Nat}{v:Value}(h:(cs.drop i).take 1= [v]):cs[i]? =some v:=by
 have:=congrArg (·[0]?) h
 simpa using this
theorem qmE(h:DataW.trod enc Tryz.prog w 0 spare held fuel 69 cs=some x):∃y:Ins,cs=y.enc∧True:=by
 obtain⟨hl,m0,y0,h0⟩:=qlV 0 (off:=0) (ft:=3) (n:=1) (by kernel_rfl) (by kernel_rfl) h
 obtain⟨_,m1,y1,h1⟩:=qlV 1 (off:=1) (ft:=3) (n:=1) (by kernel_rfl) (by kernel_rfl) h
 obtain⟨_,m2,y2,h2⟩:=qlV 2 (off:=2) (ft:=3) (n:=1) (by kernel_rfl) (by kernel_rfl) h
 obtain⟨_,m3,y3,h3⟩:=qlV 3 (off:=3) (ft:=3) (n:=1) (by kernel_rfl) (by kernel_rfl) h
 obtain⟨_,m4,y4,h4⟩:=qlV 4 (off:=4) (ft:=3) (n:=1) (by kernel_rfl) (by kernel_rfl) h
 obtain⟨n0,e0,_⟩:=qlS Tryz.underlying3 h0
 obtain⟨n1,e1,_⟩:=qlS Tryz.underlying3 h1
 obtain⟨n2,e2,_⟩:=qlS Tryz.underlying3 h2
 obtain⟨n3,e3,_⟩:=qlS Tryz.underlying3 h3
 obtain⟨n4,e4,_⟩:=qlS Tryz.underlying3 h4
 have hl':cs.length=5:=hl.trans (by kernel_rfl)
 refine⟨⟨n0,n1,n2,n3,n4⟩,?_,trivial⟩
 match cs,hl' with
 | [c0,c1,c2,c3,c4],_=>
  simp at e0 e1 e2 e3 e4
  rw[e0,e1,e2,e3,e4]
end
open Go Go.ChangeShapes Go.WideShapes Go.ChangeAt Go.RowKit
section
variable{H:Type}{enc:TypeId×Value→H}{w:World}{spare:Nat→Bool}{held:Bool}{v:Value}{d:DataW H}{p:List MemPlace}
theorem qmF{fuel:Nat}{cs:List Value}{x:DataW H×List MemPlace}(h:DataW.trod enc Tryz.prog w 0 spare held fuel 66 cs=some x):
  ∃y:PH,cs=y.enc∧RdE Ins.enc 5 w [] y.a y.p:=by
 obtain⟨a,l,cap,rfl,hr,_,_⟩:=qmj (en:=Ins.enc) (sz:=5) (Φ:=fun _=>True) Tryz.underlying66 (by kernel_rfl) (by omega) (fun _ _ _ h=>qmE h) h
 exact⟨⟨a,cap,l⟩,rfl,hr⟩
end
open Go Go.ChangeShapes Go.WideShapes Go.ChangeAt Go.RowKit
section
variable{H:Type}{enc:TypeId×Value→H}{P:Program}{w:World}{spare:Nat→Bool}{held:Bool}{q:Nat→Bool}
theorem qlL{t:TypeId}{ts:List TypeId}{d:DataW H}{ds:List (DataW H)}(h:(DataW.weightsEach P (t::ts) (d::ds)).all q=true):(d.weights P t).all q=true∧(DataW.weightsEach P ts ds).all q=true:=by
 simpa only[DataW.weightsEach,List.all_append,Bool.and_eq_true] using h
theorem qm2{e:TypeId}:∀{E:List (DataW H)} {d:DataW H},(DataW.weightsAll P e E).all q=true→d∈E→(d.weights P e).all q=true
 | [],_,_,hd=>by cases hd
 |c::r,d,h,hd=>by
  simp only[DataW.weightsAll,List.all_append,Bool.and_eq_true] at h
  rcases List.mem_cons.1 hd with rfl|hd
  ·exact h.1
  ·exact qm2 h.2 hd
theorem qmn{α:Type}{en:α→List Value}{sz:Nat}{Φ:α→Prop}{fuel:Nat}{t e:TypeId}{cs:List Value}{x:DataW H×List MemPlace}(ht:P.underlying t=some (.slice e))(hsz:P.cellsOf e=sz)(hpos:0<sz)
  (hel:∀n cs x,DataW.trod enc P w 0 spare held n e cs=some x→(x.1.weights P e).all q=true→∃y,cs=en y∧Φ y) (h:DataW.trod enc P w 0 spare held fuel t cs=some x) (hw:(x.1.weights P t).all q=true):
  ∃a l cap,cs= [.slice a l.length cap]∧RdE en sz w [] a l∧(∀y∈l,Φ y)∧l.length≤cap∧(l= []∨∃k,q ((l.length+k)*P.bytesOf e)=true):=by
 rcases DataW.trod_slice ht h with ⟨rfl,_⟩|⟨a,len,cap,elems,rest,n,_,rfl,rfl,_,hl,_,hlen,hel',_⟩
 ·exact⟨none,[],0,rfl,RdE.nil,fun _ h=>(by cases h),by simp, .inl rfl⟩
 ·simp only[DataW.weights,ht,List.all_cons,List.all_append,Bool.and_eq_true,List.length_map] at hw
  obtain⟨hw1,hw2,_⟩:=hw
  have key:∀i,i<len→∃y,(w.cells? 0 (a.add (i*sz)) sz=some (en y))∧Φ y:=fun i hi=>by
   have:=hel' i hi
   rw[hsz] at this
   have hi':i<elems.length:=by omega
   rw[List.getElem?_eq_getElem hi',Option.bind_eq_some_iff] at this
   obtain⟨c,hc,hx⟩:=this
   obtain⟨y,rfl,hy⟩:=hel _ _ _ hx (qm2 hw2 (List.mem_map_of_mem (List.getElem_mem hi')))
   exact⟨y,hc,hy⟩
  obtain⟨l,hll,hq⟩:=qmg len key
  have hget:∀{j k:Nat} {y:α} {v:Value},l[j]? =some y→(en y)[k]? =some v→w.cell? ((a.add (j*sz)).add k)=some v∧(en y).length=sz:=fun{j k y v} hy hv=>by
   obtain⟨hc,_⟩:=hq j y hy
   obtain⟨_,hlen,hget⟩:=World.cells?_some hc
   have hk:=(List.getElem?_eq_some_iff.1 hv).1
   exact⟨(hget k (by omega)).trans hv,hlen⟩
  have hspot:l≠ []→a.spot=none:=fun hne=>by
   cases l with
   |nil=>exact absurd rfl hne
   |cons y r=>
    obtain⟨hc,_⟩:=hq 0 y rfl
    obtain⟨_,hlen,hget⟩:=World.cells?_some hc
    have h0:=hget 0 hpos
    rw[List.getElem?_eq_getElem (by omega)] at h0
    rw[Nat.zero_mul] at h0
    have e0:(a.add 0).add 0=a:=by simp[Addr.add]
    rw[e0] at h0
    unfold World.cell? at h0
    split at h0
    ·split at h0
     ·cases h0
     ·rename_i hs;simpa using hs
    ·cases h0
  refine⟨some a,l,cap,by rw[hll],⟨fun hne=> ?_,fun y hy=> ?_,fun{j k y v} hy hv=> ?_⟩,fun y hy=> ?_,by omega, .inr ⟨rest.length,by rw[hll,←hlen];exact hw1⟩⟩
  ·have:=hspot hne
   obtain⟨b,o,s⟩:=a
   simp only at this
   subst this
   rfl
  ·obtain⟨i,hi⟩:=List.getElem?_of_mem hy
   obtain⟨hc,_⟩:=hq i y hi
   exact(World.cells?_some hc).2.1
  ·obtain⟨hc,_⟩:=hget hy hv
   have hs:=hspot (by intro e;subst e;simp at hy)
   have he:(a.add (j*sz)).add k=⟨ab (some a),ao (some a)+j*sz+k,none⟩:=by
    obtain⟨b,o,s⟩:=a
    simp only at hs
    subst hs
    rw[qJ,qJ]
    rfl
   rw[he] at hc
   exact qms hc
  ·obtain⟨i,hi⟩:=List.getElem?_of_mem hy
   exact(hq i y hi).2
end
theorem qmr{w:World}{b0:Nat}{v:Value}(h:Value.okWide Tryz.prog w .any b0 43 v):
  ∃n0 n1 n2 n3 n4:Int,v= .agg #[.int .i64 n0, .int .i64 n1, .int .i64 n2, .int .i64 n3, .int .i64 n4]∧qmT [n0,n1,n2,n3,n4]:=by
 obtain⟨cs,rfl,hl,hc⟩:=qmo (ts:= [3,3,3,3,3]) (by kernel_rfl) (by kernel_rfl) (by kernel_rfl) h
 match cs,hl with
 | [c0,c1,c2,c3,c4],_=>
  obtain⟨n0,rfl,h0⟩:=qs Tryz.underlying3 (hc 0 _ 3 rfl rfl)
  obtain⟨n1,rfl,h1⟩:=qs Tryz.underlying3 (hc 1 _ 3 rfl rfl)
  obtain⟨n2,rfl,h2⟩:=qs Tryz.underlying3 (hc 2 _ 3 rfl rfl)
  obtain⟨n3,rfl,h3⟩:=qs Tryz.underlying3 (hc 3 _ 3 rfl rfl)
  obtain⟨n4,rfl,h4⟩:=qs Tryz.underlying3 (hc 4 _ 3 rfl rfl)
  exact⟨n0,n1,n2,n3,n4,rfl,h0,h1,h2,h3,h4,True.intro⟩
section
variable{H:Type}{enc:TypeId×Value→H}{w:World}{spare:Nat→Bool}{held:Bool}{v:Value}{d:DataW H}{p:List MemPlace}
theorem qmK{cs:Array Value}{v x:Value}(h:v.cells=cs)(hc:cs.toList= [x])(hx:∀a,v≠ .agg a):v=x:=by
 unfold Value.cells at h
 split at h
 ·rename_i a;exact absurd rfl (hx a)
 ·subst h;simpa using hc
theorem qmb{P:Program}{w:World}{b0:Nat}{t e:TypeId}{v:Value}(ht:P.underlying t=some (.slice e))(h:Value.okWide P w .any b0 t v):∀a,v≠ .agg a:=by
 intro a e
 subst e
 simp only[Value.okWide,ht,Cell.okWide,Cell.ok] at h
theorem qmI{fuel:Nat}{cs:List Value}{x:DataW H×List MemPlace}(h:DataW.trod enc Tryz.prog w 0 spare held fuel 23 cs=some x)(hw:(x.1.weights Tryz.prog 23).all (· ≤reachBytes)=true):
  ∃a l cap,cs= [.slice a (List.length l) cap]∧RdE qM 1 w [] a l∧l.length≤17592186043904:=by
 obtain⟨a,l,cap,e,hr,_,_,hk⟩:=qmn (q:=(· ≤reachBytes)) (en:=qM) (sz:=1) (Φ:=fun _=>True) Tryz.underlying23 (by kernel_rfl) (by omega) (fun n cs x h _=>by
  obtain⟨n,rfl,_⟩:=qlS Tryz.underlying3 h
  exact⟨n,rfl,trivial⟩) h hw
 refine⟨a,l,cap,e,hr,?_⟩
 rcases hk with rfl|⟨k,hk⟩
 ·simp
 ·have h8:Tryz.prog.bytesOf 3=8:=by kernel_rfl
  rw[h8] at hk
  have hk:=of_decide_eq_true hk
  have h9:reachBytes=140737488351232:=rfl
  rw[h9] at hk
  omega
theorem qn3{b0:Nat}(hv:Value.okWide Tryz.prog w .any b0 22 v)(ht:DataW.Trod enc Tryz.prog w 0 spare held 22 v d p)(hw:(d.weights Tryz.prog 22).all (· ≤reachBytes)=true):
  ∃a l cap,v= .slice a (List.length l) cap∧RdE IH.enc 1 w [] a l∧l.length≤17592186043904∧∀h∈l,RdE qM 1 w [] h.a h.l∧h.l.length≤17592186043904:=by
 obtain⟨fuel,h⟩:=ht
 obtain⟨a,l,cap,e,hr,hq,_,hk⟩:=qmn (q:=(· ≤reachBytes)) (en:=IH.enc) (sz:=1) (Φ:=fun y:IH=>RdE qM 1 w [] y.a y.l∧y.l.length≤17592186043904) Tryz.underlying22 (by kernel_rfl) (by omega) (fun n cs x h hw=>by
  obtain⟨a,l,cap,rfl,hr,hl⟩:=qmI h hw
  exact⟨⟨a,cap,l⟩,rfl,hr,hl⟩) h hw
 refine⟨a,l,cap,qmK rfl e (qmb Tryz.underlying22 hv),hr,?_,hq⟩
 rcases hk with rfl|⟨k,hk⟩
 ·simp
 ·have h8:Tryz.prog.bytesOf 23=24:=by kernel_rfl
  rw[h8] at hk
  have hk:=of_decide_eq_true hk
  have h9:reachBytes=140737488351232:=rfl
  rw[h9] at hk
  omega
end
open Go Go.ChangeShapes Go.WideShapes Go.ChangeAt Go.RowKit
section
variable{H:Type}{enc:TypeId×Value→H}{w:World}{spare:Nat→Bool}{held:Bool}{v:Value}{d:DataW H}{p:List MemPlace}
theorem qmW{b0:Nat}(hv:Value.okWide Tryz.prog w .any b0 23 v)(ht:DataW.Trod enc Tryz.prog w 0 spare held 23 v d p)(hw:(d.weights Tryz.prog 23).all (· ≤reachBytes)=true):
  ∃a l cap,v= .slice a (List.length l) cap∧RdE qM 1 w [] a l∧l.length≤17592186043904:=by
 obtain⟨fuel,h⟩:=ht
 obtain⟨a,l,cap,e,hr,hl⟩:=qmI h hw
 exact⟨a,l,cap,qmK rfl e (qmb Tryz.underlying23 hv),hr,hl⟩
end
open Go Go.ChangeShapes Go.WideShapes Go.ChangeAt Go.RowKit
section
variable{H:Type}{enc:TypeId×Value→H}{w:World}{spare:Nat→Bool}{held:Bool}{v:Value}{d:DataW H}{p:List MemPlace}
theorem qmx{b0:Nat}(hv:Value.okWide Tryz.prog w .any b0 32 v)(ht:DataW.Trod enc Tryz.prog w 0 spare held 32 v d p):
  ∃c ia il ic pa ps pc ka ks kc,v=qhi c ia (List.length il) ic pa ps.length pc ka ks.length kc∧RdE q7i 1 w [] ia il∧(∀x∈il,0≤x∧x≤18446744073709551615)∧RdE PH.enc 1 w [] pa ps∧(∀h∈ps,RdE Ins.enc 5 w [] h.a h.p)∧RdE qM 1 w [] ka ks:=by
 obtain⟨cs,rfl,hl,hc⟩:=qmo (ts:= [3,3,3,3,3,3,3,3,3,3,3,3,4,29,30,23]) (by kernel_rfl) (by kernel_rfl) (by kernel_rfl) hv
 obtain⟨fuel,h⟩:=ht
 have h':DataW.trod enc Tryz.prog w 0 spare held fuel 32 cs=some (d,p):=by simpa [Value.cells] using h
 clear h hv
 obtain⟨_,m1,y1,h1⟩:=qlV 1 (off:=13) (ft:=29) (n:=1) (by kernel_rfl) (by kernel_rfl) h'
 obtain⟨_,m2,y2,h2⟩:=qlV 2 (off:=14) (ft:=30) (n:=1) (by kernel_rfl) (by kernel_rfl) h'
 obtain⟨_,m3,y3,h3⟩:=qlV 3 (off:=15) (ft:=23) (n:=1) (by kernel_rfl) (by kernel_rfl) h'
 obtain⟨ia,il,ic,e1,hI,hJ,_⟩:=qmd Tryz.underlying29 Tryz.underlying58 (by kernel_rfl) h1
 obtain⟨pa,ps,pc,e2,hP,hQ,_⟩:=qmj (en:=PH.enc) (sz:=1) (Φ:=fun y:PH=>RdE Ins.enc 5 w [] y.a y.p) Tryz.underlying30 (by kernel_rfl) (by omega) (fun _ _ _ h=>qmF h) h2
 obtain⟨ka,ks,kc,e3,hK,_,_⟩:=qmd Tryz.underlying23 Tryz.underlying3 (by kernel_rfl) h3
 replace e1:=qm8 e1
 replace e2:=qm8 e2
 replace e3:=qm8 e3
 clear h1 h2 h3 h'
 match cs,hl with
 | [c0,c1,c2,c3,c4,c5,c6,c7,c8,c9,c10,c11,c12,c13,c14,c15],_=>
  obtain⟨n0,rfl,_⟩:=qs Tryz.underlying3 (hc 0 _ 3 rfl rfl)
  obtain⟨n1,rfl,_⟩:=qs Tryz.underlying3 (hc 1 _ 3 rfl rfl)
  obtain⟨n2,rfl,_⟩:=qs Tryz.underlying3 (hc 2 _ 3 rfl rfl)
  obtain⟨n3,rfl,_⟩:=qs Tryz.underlying3 (hc 3 _ 3 rfl rfl)
  obtain⟨n4,rfl,_⟩:=qs Tryz.underlying3 (hc 4 _ 3 rfl rfl)
  obtain⟨n5,rfl,_⟩:=qs Tryz.underlying3 (hc 5 _ 3 rfl rfl)
  obtain⟨n6,rfl,_⟩:=qs Tryz.underlying3 (hc 6 _ 3 rfl rfl)
  obtain⟨n7,rfl,_⟩:=qs Tryz.underlying3 (hc 7 _ 3 rfl rfl)
  obtain⟨n8,rfl,_⟩:=qs Tryz.underlying3 (hc 8 _ 3 rfl rfl)
  obtain⟨n9,rfl,_⟩:=qs Tryz.underlying3 (hc 9 _ 3 rfl rfl)
  obtain⟨n10,rfl,_⟩:=qs Tryz.underlying3 (hc 10 _ 3 rfl rfl)
  obtain⟨n11,rfl,_⟩:=qs Tryz.underlying3 (hc 11 _ 3 rfl rfl)
  obtain⟨b,rfl⟩:=qma Tryz.underlying4 (hc 12 _ 4 rfl rfl)
  obtain rfl:c13=_:=Option.some.inj e1
  obtain rfl:c14=_:=Option.some.inj e2
  obtain rfl:c15=_:=Option.some.inj e3
  exact⟨⟨n0,n1,n2,n3,n4,n5,n6,n7,n8,n9,n10,n11,b⟩,ia,il,ic,pa,ps,pc,ka,ks,kc,rfl,hI,(fun x hx=>⟨(hJ x hx).1,(hJ x hx).2⟩),hP,hQ,hK⟩
end
open Go
theorem qmf{c:Cfg}(h:qm6 c)(st:Bool):qL {c with strong:=st}=0:=by
 unfold qm6 at h
 exact(cm0 (by unfold okW;dsimp only;omega) (by unfold okH okC nB nW;dsimp only;omega) (by unfold okL;dsimp only;omega) (by unfold okK;dsimp only;omega)).symm
section
variable{W0:World}{own:Own}{la:Option Addr}{lc:Nat}{ls:List IH}
theorem qn0{k:FuncId}{args:List Value}{a b c d e:Int}{K:Value→Own→Prop}(hh:qmT [a,b,c,d,e])(ek:k=17)(ea:args= [.int .i64 a, .int .i64 b, .int .i64 c, .int .i64 d, .int .i64 e])(h:∀c:Cfg,qm6 c→K c.v own):qg Tryz.prog W0 own k args K:=by
 subst ek;subst ea
 exact qm9 hh h
end
open Go
section
variable{W0:World}{m:MS}{st:Bool}
theorem MS.ok.rp(h:m.ok st):RdE PH.enc 1 W0 (m.O) m.pa (m.ps.map PB.h):=h.p.rd.ent (qo (m.Dk++(q9Z m.ps++m.Di)) fun a=>by simp only[MS.O,q2m];omega)
theorem MS.ok.ri(h:m.ok st):RdE q7i 1 W0 (m.O) m.ia m.il:=h.i.rd.ent (qo (m.Dk++(m.Dp++q9Z m.ps)) fun a=>by simp only[MS.O,q2m];omega)
theorem MS.ok.rq(h:m.ok st):∀x∈m.ps.map PB.h,RdE Ins.enc 5 W0 (m.O) x.a x.p:=fun y hy=>by
 obtain⟨x,hx,rfl⟩:=List.mem_map.1 hy
 have:=qie (kD:= []) hx ((h.q x hx).1.rd (W0:=W0))
 exact this.ent (qo (m.Dk++(m.Dp++m.Di)) fun a=>by simp only[MS.O,q2m,q7a];omega)
end
open Go
abbrev qn2(b:Bool):List Value:= [.bool b]
structure DP where
 rb:Nat
 iv:Value
 pa:Option Addr
 pc:Nat
 kv:Value
 da:Option Addr
 dc:Nat
 dD:Own
 ka:Option Addr
 kc:Nat
 kD:Own
 ta:Option Addr
 tc:Nat
 tD:Own
 ea:Option Addr
 ec:Nat
 eD:Own
 L:List EH
 X:Own
 oa:Option Addr
 oc:Nat
 oD:Own
 S:List ObS
abbrev DP.cells(g:DP)(c:Cfg)(np:Nat)(s:GS):List Value:=cfL c [g.iv, .slice g.pa np g.pc,g.kv, .slice g.da s.d.length g.dc, .slice g.ka s.tk.length g.kc, .slice g.ta s.T.length g.tc, .slice g.ea g.L.length g.ec, .slice g.oa g.S.length g.oc, .int .i64 s.n]
abbrev DP.O(g:DP)(c:Cfg)(np:Nat)(s:GS):Own:=(g.rb,fun o=>o=Obj.cells (g.cells c np s).toArray 106 (0,0))::(g.dD++(g.kD++(g.tD++(g.eD++(g.oD++(q5p g.S++g.X))))))
structure DP.ok(g:DP)(W0:World)(Kp:Own)(ps:List PH)(s:GS):Prop where
 d:qr q7i 58 1 g.da g.dc s.d g.dD
 m:qr qn2 4 1 g.ka g.kc s.tk g.kD
 k:RdE PH.enc 1 W0 Kp g.pa ps
 kp:∀h∈ps,RdE Ins.enc 5 W0 Kp h.a h.p
 t:qr Thr.enc 61 11 g.ta g.tc s.T g.tD
 e:qr EH.enc 116 6 g.ea g.ec g.L g.eD
 em:g.L.map EH.m=s.E
 ev:∀e∈g.L,RdE qM 1 W0 g.X e.ra e.rl∧RdE qM 1 W0 g.X e.wa e.wl
 o:qr ObS.enc 124 1 g.oa g.oc g.S g.oD
 os:∀x∈g.S,qr ObM.enc 127 3 x.a x.cap x.l x.D
 ol:g.S.map ObS.l=s.O
theorem DP.ok.ot{g:DP}{W0:World}{Kp:Own}{ps:List PH}{s:GS}(h:g.ok W0 Kp ps s){t:Nat}{x:ObS}(hx:g.S[t]? =some x):s.O.getD t []=x.l:=by
 rw[←h.ol]
 simp[List.getD,hx]
theorem DP.ok.obs{g:DP}{W0:World}{Kp:Own}{ps:List PH}{s:GS}(h:g.ok W0 Kp ps s){t:Nat}{x:ObS}(hx:g.S[t]? =some x){a:Option Addr}{cap:Nat}{D D':Own}{l:List ObM}(hb:qr ObM.enc 127 3 a cap (x.l++l) D)(hb2:qr ObS.enc 124 1 g.oa g.oc (g.S.set t ⟨a,cap,x.l++l,D⟩) D'):
  ({g with oD:=D',S:=g.S.set t ⟨a,cap,x.l++l,D⟩}:DP).ok W0 Kp ps {s with O:=s.O.set t (s.O.getD t []++l)}:=by
 refine⟨h.d,h.m,h.k,h.kp,h.t,h.e,h.em,h.ev,hb2,fun y hy=> ?_,?_⟩
 ·rcases List.mem_or_eq_of_mem_set hy with hy|rfl
  ·exact h.os y hy
  ·exact hb
 ·rw[h.ot hx,←h.ol,List.map_set]
section
variable{W0:World}{Kp:Own}{g:DP}{c:Cfg}{ps:List PH}{s:GS}
theorem qmV{e:Nat×(Obj→Prop)}{D A B C E F S X q:Own}:Ent W0 (D++((e::(A++(B++(C++(E++(F++(S++X)))))))++q)) ((e::(A++(B++(C++(E++(F++(S++(D++X))))))))++q):=qo []
theorem DP.perm_X{D:Own}{q:Own}:Ent W0 (D++(g.O c ps.length s++q)) (({g with X:=D++g.X}:DP).O c ps.length s++q):=by
 dsimp only[DP.O]
 exact qmV
end
open Go
section
variable{W0:World}{Kp:Own}{g:DP}{c:Cfg}{ps:List PH}{s:GS}
theorem DP.ok.x{D:Own}(h:g.ok W0 Kp ps s):({g with X:=D++g.X}:DP).ok W0 Kp ps s:=⟨h.d,h.m,h.k,h.kp,h.t,h.e,h.em,fun e he=>⟨(h.ev e he).1.ent (Ent.app Ent.refl),(h.ev e he).2.ent (Ent.app Ent.refl)⟩,h.o,h.os,h.ol⟩
end
open Go
structure BG where
 xb:Nat
 da:Option Addr
 dc:Nat
 dD:Own
 ka:Option Addr
 kc:Nat
 kD:Own
 ra:Option Addr
 rc:Nat
 rD:Own
 wa:Option Addr
 wc:Nat
 wD:Own
 oa:Option Addr
 oc:Nat
 oD:Own
 aa:Option Addr
 ac:Nat
abbrev BG.pre(g:BG)(b:BM):List Value:= [.slice g.da b.d.length g.dc, .slice g.ka b.tk.length g.kc]
abbrev BG.post(g:BG)(b:BM)(bad:Bool):List Value:= [.slice g.ra b.r.length g.rc, .slice g.wa b.w.length g.wc, .slice g.oa b.o.length g.oc, .slice g.aa b.ad.length g.ac, .bool bad]
abbrev BG.O(g:BG)(b:BM)(bad:Bool):Own:=thB g.xb 174 (g.pre b) (g.post b bad) b.t::(g.dD++(g.kD++(g.rD++(g.wD++g.oD))))
structure BG.ok(g:BG)(W0:World)(K:Own)(b:BM):Prop where
 d:qr q7i 58 1 g.da g.dc b.d g.dD
 m:qr qn2 4 1 g.ka g.kc b.tk g.kD
 a:RdE qM 1 W0 K g.aa b.ad
 al:b.ad.length≤g.ac
 r:qr qM 3 1 g.ra g.rc b.r g.rD
 w:qr qM 3 1 g.wa g.wc b.w g.wD
 o:qr ObM.enc 127 3 g.oa g.oc b.o g.oD
section
variable{W0:World}{own:Own}{c:Cfg}{ia pa ka:Option Addr}{ic pc kc:Nat}{ps:List PH}{il ks:List Int}{ca:Option Addr}{cc:Nat}{cl:List CH}
theorem qmC(c:Cfg)(ia pa ka:Option Addr)(il ic pn pc kn kc:Nat)(own:Own):qD Tryz.prog W0 40 [qhi c ia il ic pa pn pc ka kn kc] own (qhi c ia il ic pa pn pc none 0 0):=by
 refine qe (qa qj qm4 (by simp[qlO]) ?_)
 repeat'((try(conv=>whnf));first|(refine fL ?_)|(refine fN ?_)|(refine fM ?_)|(refine qc (fun bk hbk=> ?_)))
 all_goals exact⟨rfl,(eC)⟩
end
open Go
section
variable{W0:World}{own:Own}{m:MS}{st:Bool}{ca:Option Addr}{cc:Nat}{cl:List CH}
theorem MS.ok.ilu(h:m.ok st):∀x∈m.il,okU x:=fun x hx=>by have:=h.iw x hx;exact⟨by omega,by omega⟩
theorem MS.ok.il5(h:m.ok st):m.il.length≤500000:=by
 have h1:=h.il
 have h2:=(q1R h.c0).1
 unfold okW at h2
 omega
end
end Go.Proofs.YtkieffpjjfebjaaGreatDoor
