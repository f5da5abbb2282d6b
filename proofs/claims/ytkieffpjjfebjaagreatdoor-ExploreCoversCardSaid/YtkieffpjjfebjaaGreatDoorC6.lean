/- What the laws share, part 6. No condition. -/
import Derived.LaidMore
import Derived.Lay
import Derived.LaidByTextLater
import Derived.Stop.Joined
import Derived.SevenTiedAt
import Derived.Test.YtkieffpjjfebjaaGreatDoorC5
set_option maxHeartbeats 4000000
set_option maxRecDepth 10000
namespace Go.Proofs.YtkieffpjjfebjaaGreatDoor
open Go Go.ChangeShapes Go.WideShapes Go.ChangeAt Go.RowKit
def qmk{H:Type}:Nat→DataW H→Option (List Value)
 |0,_=>none
 |_+1, .lit (.int k n)=>some [.int k n]
 |_+1, .lit (.bool b)=>some [.bool b]
 |_+1, .lit (.string l)=>some [.string ⟨l.toArray⟩]
 |n+1, .agg ds=>(ds.mapM (qmk n)).map List.flatten
 |_+1,_=>none
def qqj(P:Program)(f:TypeId→Bool):List Field→Nat→Option Nat
 | [],off=>some off
 |x::r,off=>if x.offset=off∧f x.type=true then qqj P f r (off+P.cellsOf x.type) else none
def qos(P:Program):Nat→TypeId→Bool
 |0,_=>false
 |n+1,t=>match P.underlying t with
  |some (.int _)|some .bool|some .string=>true
  |some (.array k e)=>qos P n e&&decide (P.cellsOf t=k*P.cellsOf e)
  |some (.struct fs)=>qqj P (qos P n) fs.toList 0==some (P.cellsOf t)
  |_=>false
theorem qnA{α β:Type}{f:α→Option β}:∀(l:List α) (ys:List β),l.length=ys.length→(∀(i:Nat) x,l[i]? =some x→f x=ys[i]?)→l.mapM f=some ys
 | [],[],_,_=>by simp
 |x::l,y::ys,hl,h=>by
  have h0:=h 0 x rfl
  simp only[List.getElem?_cons_zero] at h0
  have ih:=qnA l ys (by simpa using hl) (fun i x hx=>by have:=h (i+1) x (by simpa using hx);simpa using this)
  rw[List.mapM_cons,h0,ih]
  rfl
 | [],_::_,hl,_=>by cases hl
 |_::_,[],hl,_=>by cases hl
theorem qn8{cs:List Value}(s:Nat):∀k,((List.range k).map fun i=>(cs.drop (i*s)).take s).flatten=cs.take (k*s)
 |0=>by simp
 |k+1=>by
  rw[List.range_succ,List.map_append,List.flatten_append,qn8 s k,Nat.succ_mul,List.take_add]
  simp
theorem qnW{P:Program}{f:TypeId→Bool}{cs:List Value}:∀(l:List Field) (off tot:Nat),qqj P f l off=some tot→off≤tot∧(l.map fun x=>(cs.drop x.offset).take (P.cellsOf x.type)).flatten=(cs.drop off).take (tot-off)
 | [],off,tot,h=>by
  simp only[qqj,Option.some.injEq] at h
  subst h
  simp
 |x::l,off,tot,h=>by
  unfold qqj at h
  split at h
  ·rename_i hx
   obtain⟨h1,h2⟩:=qnW (cs:=cs) l _ tot h
   refine⟨by omega,?_⟩
   rw[List.map_cons,List.flatten_cons,h2,hx.1]
   have e:tot-off=P.cellsOf x.type+(tot-(off+P.cellsOf x.type)):=by omega
   rw[e,List.take_add,List.drop_drop]
  ·cases h
theorem qop{P:Program}{f:TypeId→Bool}:∀(l:List Field) (off tot:Nat),qqj P f l off=some tot→∀x∈l,f x.type=true
 | [],_,_,_,x,hx=>by cases hx
 |y::l,off,tot,h,x,hx=>by
  unfold qqj at h
  split at h
  ·rename_i hy
   rcases List.mem_cons.1 hx with rfl|hx
   ·exact hy.2
   ·exact qop l _ _ h x hx
  ·cases h
section
variable{H:Type}{enc:TypeId×Value→H}{P:Program}{w:World}{base:Nat}{spare:Nat→Bool}{held:Bool}
theorem qnl:∀(n fuel:Nat) (t:TypeId) (cs:List Value) (d:DataW H) (p:List MemPlace),qos P n t=true→DataW.trod enc P w base spare held fuel t cs=some (d,p)→qmk n d=some cs
 |0,_,_,_,_,_,h,_=>by simp[qos] at h
 |n+1,fuel,t,cs,d,p,h,hd=>by
  unfold qos at h
  split at h
  ·rename_i hu
   obtain⟨m,rfl,hx,_⟩:=DataW.trod_int hu hd
   simp only[Prod.mk.injEq] at hx
   rw[hx.1];rfl
  ·rename_i hu
   obtain⟨m,rfl,hx⟩:=DataW.trod_bool hu hd
   simp only[Prod.mk.injEq] at hx
   rw[hx.1];rfl
  ·rename_i hu
   obtain⟨m,rfl,hx,_⟩:=DataW.trod_string hu hd
   simp only[Prod.mk.injEq] at hx
   rw[hx.1];simp[qmk]
  ·rename_i k e hu
   simp only[Bool.and_eq_true,decide_eq_true_eq] at h
   obtain⟨xs,m,_,hx,hl,hxl,hel⟩:=DataW.trod_array hu hd
   simp only[Prod.mk.injEq] at hx
   rw[hx.1]
   have hm:(xs.map (·.1)).mapM (qmk n)=some ((List.range k).map fun i=>(cs.drop (i*P.cellsOf e)).take (P.cellsOf e)):=by
    refine qnA _ _ (by simp[hxl]) fun i x hx=> ?_
    rw[List.getElem?_map] at hx
    obtain⟨y,hy,rfl⟩:=Option.map_eq_some_iff.1 hx
    have hi:i<k:=by rw[←hxl];exact(List.getElem?_eq_some_iff.1 hy).1
    have:=hel i hi
    rw[hy] at this
    rw[qnl n m e _ y.1 y.2 h.1 this]
    simp[hi]
   simp only[qmk,hm,Option.map_some]
   rw[qn8,←h.2,←hl,List.take_length]
  ·rename_i fs hu
   simp only[beq_iff_eq] at h
   obtain⟨xs,m,_,hx,hl,hxl,hel⟩:=DataW.trod_struct hu hd
   simp only[Prod.mk.injEq] at hx
   rw[hx.1]
   have hm:(xs.map (·.1)).mapM (qmk n)=some (fs.toList.map fun x=>(cs.drop x.offset).take (P.cellsOf x.type)):=by
    refine qnA _ _ (by simp[hxl]) fun i x hx=> ?_
    rw[List.getElem?_map] at hx
    obtain⟨y,hy,rfl⟩:=Option.map_eq_some_iff.1 hx
    have hi:i<fs.size:=by rw[←hxl];exact(List.getElem?_eq_some_iff.1 hy).1
    have hf:fs[i]? =some fs[i]:=Array.getElem?_eq_getElem hi
    have:=hel i fs[i] hf
    rw[hy] at this
    have hft:=qop fs.toList 0 _ h fs[i] (by simp)
    rw[qnl n m _ _ y.1 y.2 hft this]
    simp[hi]
   simp only[qmk,hm,Option.map_some]
   rw[(qnW (cs:=cs) fs.toList 0 _ h).2]
   simp[←hl]
  ·cases h
end
theorem qom{P:Program}{w:World}:∀{l:List (String×DataW Unit)} {ps:List MemPlace},DataW.LaidVars P w l ps→∀{n:String} {d:DataW Unit},(n,d)∈l→
  ∃g t cs fuel p,P.globalNamed n=some g∧(P.globals[g]?).map (·.type)=some t∧w.var? P n=some cs∧DataW.trod (fun _=>()) P w 0 (fun _=>true) false fuel t cs.toList=some (d,p)
 | [],_,_,_,_,h=>by cases h
 |(n',d')::r,ps,hL,n,d,h=>by
  obtain⟨g,t,cs,fuel,p,q,h1,h2,h3,h4,h5,_⟩:=hL
  rcases List.mem_cons.1 h with e|h
  ·cases e
   exact⟨g,t,cs,fuel,p,h1,h2,h3,h4⟩
  ·exact qom h5 h
theorem qoN{P:Program}{w:World}{l:List (String×DataW Unit)}{n:String}{d:DataW Unit}{g:Nat}{t:TypeId}{cs:List Value}(hp:(l.all fun x=>x.2.handleName?.isNone)=true)
  (h:laidMetH P l w) (hm:(n,d)∈l) (hg:P.globalNamed n=some g) (ht:(P.globals[g]?).map (·.type)=some t) (hf:qos P 6 t=true) (hc:qmk 6 d=some cs) (hne:cs≠ []):q1s w g cs:=by
 rw[MakeChecks.laidMetH_plain _ _ _ hp] at h
 obtain⟨ps,hL,_,_⟩:=h
 obtain⟨g',t',cs',fuel,p,h1,h2,h3,h4⟩:=qom hL hm
 rw[hg] at h1
 obtain rfl:=Option.some.inj h1
 rw[ht] at h2
 obtain rfl:=Option.some.inj h2
 have h5:=qnl 6 fuel t _ d p hf h4
 rw[hc] at h5
 have h5:=(Option.some.inj h5).symm
 have hcell:∀j v,cs[j]? =some v→w.cell? ⟨g,j,none⟩=some v:=fun j v hv=>by
  rw[World.var?_cell hg h3 j,←Array.getElem?_toList,h5,hv]
 refine⟨?_,hcell⟩
 match cs,hne with
 |v::_,_=>
  have:=hcell 0 v rfl
  unfold World.cell? at this
  split at this
  ·rename_i hb
   exact(Array.getElem?_eq_some_iff.1 hb).1
  ·cases this
namespace Alu
open Go
theorem qnT(W0:World)(own:Own)(b:Bool):qD Tryz.prog W0 157 [.bool b] own (.int .u64 (truthM b)):=by
 refine qe (qa qj qnd (by simp[qm5]) ?_)
 cases b <;>(repeat'((try(conv=>whnf));first|(refine q3M ?_)|(refine q4B ?_));all_goals exact⟨rfl,eB⟩)
theorem qp7(W0:World)(own:Own)(x:Int)(hx:okW x):qD Tryz.prog W0 161 [.int .u64 x] own (.int .u64 (IntKind.u64.wrap (q8i x.toNat))):=by
 have hA:=fun own=>qia W0 own x hx
 unfold qkg at hA
 refine qe (qa qj qnc (by simp[qm4]) ?_)
 cases hn:isN x.toNat <;>rw[hn] at hA
 ·cases h1:q7k .geq (FloatKind.f64.format.order x.toNat qkj)
  ·cases h2:q7k .lss (FloatKind.f64.format.order x.toNat qki)
   ·obtain⟨n,he⟩:=qf2 hn h1 h2
    repeat'((try(conv=>whnf));first|(refine q4B ?_)|(apply qg (hA _))|(refine q81 _ h1 ?_)|(refine q81 _ h2 ?_)|(refine qkG _ he ?_)|(refine arw ?_))
    all_goals(refine⟨q0N (vi ?_),eB⟩;simp[q8i,hn,h1,h2,he])
   ·repeat'((try(conv=>whnf));first|(refine q3M ?_)|(refine q4B ?_)|(apply qg (hA _))|(refine q81 _ h1 ?_)|(refine q81 _ h2 ?_))
    all_goals(refine⟨q0N (vi ?_),eB⟩;simp[q8i,hn,h1,h2];try rfl)
  ·repeat'((try(conv=>whnf));first|(refine q3M ?_)|(refine q4B ?_)|(apply qg (hA _))|(refine q81 _ h1 ?_))
   all_goals(refine⟨q0N (vi ?_),eB⟩;simp[q8i,hn,h1];try rfl)
 ·repeat'((try(conv=>whnf));first|(refine q3M ?_)|(apply qg (hA _)))
  all_goals(refine⟨q0N (vi ?_),eB⟩;simp[q8i,hn];try rfl)
theorem qmt{x:Nat}(h:qiE x<9218868437227405312):Ieee.double.read x= .number (sgn x) (qlA x) (Ieee.double.leastPlace+(qlx x:Nat)):=by
 unfold Ieee.Format.read qlA qlx
 simp only[sw,bn,ir]
 unfold qiE at*
 by_cases h1:x % 9223372036854775808<4503599627370496
 ·rw[if_pos h1,if_pos h1,if_pos h1];simp[sgn]
 ·rw[if_neg h1,if_neg h1,if_neg h1,if_pos h];rfl
theorem qmu{x:Nat}(h:qiE x=9218868437227405312):Ieee.double.read x= .infinity (sgn x):=by
 unfold Ieee.Format.read
 simp only[sw,bn,ir]
 unfold qiE at h
 rw[if_neg (by omega),if_neg (by omega),if_pos h]
 rfl
theorem qpd{x y:Nat}(hx:qiE x<9218868437227405312)(hy:qiE y<9218868437227405312)(h:qla x=qla y):qiE x=qiE y:=by
 unfold qla qlA qlx at h
 have key:∀(p q a b:Nat),a<4503599627370496→b<4503599627370496→p<q→(4503599627370496+a)*2 ^ p≠(4503599627370496+b)*2 ^ q:=by
  intro p q a b ha hb hpq he
  have h1:2 ^ (p+1)≤2 ^ q:=Nat.pow_le_pow_right (by omega) (by omega)
  have h2:(4503599627370496+b)*2 ^ (p+1)≤(4503599627370496+b)*2 ^ q:=Nat.mul_le_mul_left _ h1
  rw[←he,Nat.pow_succ,Nat.mul_comm (2 ^ p) 2,←Nat.mul_assoc] at h2
  have h3:=Nat.le_of_mul_le_mul_right h2 (Nat.two_pow_pos p)
  omega
 by_cases h1:qiE x<4503599627370496 <;>by_cases h2:qiE y<4503599627370496
 ·simp only[h1,h2,if_true] at h;omega
 ·simp only[h1,h2,if_true,if_false] at h
  have:1≤2 ^ (qiE y/4503599627370496-1):=Nat.two_pow_pos _
  have h3:=Nat.mul_le_mul_left (4503599627370496+qiE y % 4503599627370496) this
  omega
 ·simp only[h1,h2,if_true,if_false] at h
  have:1≤2 ^ (qiE x/4503599627370496-1):=Nat.two_pow_pos _
  have h3:=Nat.mul_le_mul_left (4503599627370496+qiE x % 4503599627370496) this
  omega
 ·simp only[h1,h2,if_false] at h
  have hx':qiE x % 4503599627370496<4503599627370496:=Nat.mod_lt _ (by omega)
  have hy':qiE y % 4503599627370496<4503599627370496:=Nat.mod_lt _ (by omega)
  rcases Nat.lt_trichotomy (qiE x/4503599627370496-1) (qiE y/4503599627370496-1) with hl|he|hg
  ·exact absurd h (key _ _ _ _ hx' hy' hl)
  ·rw[he] at h
   have:=Nat.eq_of_mul_eq_mul_right (Nat.two_pow_pos _) h
   omega
  ·exact absurd h.symm (key _ _ _ _ hy' hx' hg)
theorem qoD{p q:Int}{c:Int}(hc:0<c):compare p q=compare (p*c) (q*c):=by
 rcases Int.lt_trichotomy p q with h|h|h
 ·rw[Int.compare_eq_lt.2 h,Int.compare_eq_lt.2 (Int.mul_lt_mul_of_pos_right h hc)]
 ·subst h;simp
 ·rw[Int.compare_eq_gt.2 h,Int.compare_eq_gt.2 (Int.mul_lt_mul_of_pos_right h hc)]
def qrn(x:Nat):Int:=if sgn x then-(qla x:Int) else(qla x:Int)
theorem qmX(s:Bool)(m a k:Nat)(h:k≤a):Ieee.signed s m (a-k)*((2 ^ k:Nat):Int)=if s then-((m*2 ^ a:Nat):Int) else((m*2 ^ a:Nat):Int):=by
 have e:m*2 ^ a=(m*2 ^ (a-k))*2 ^ k:=by rw[Nat.mul_assoc,←Nat.pow_add,Nat.sub_add_cancel h]
 unfold Ieee.signed
 rw[Nat.shiftLeft_eq,e,Int.natCast_mul (m*2 ^ (a-k))]
 cases s <;>simp[Int.neg_mul]
theorem qoQ{x y:Nat}(hx:qiE x<9218868437227405312)(hy:qiE y<9218868437227405312):Ieee.double.order x y=some (compare (qrn x) (qrn y)):=by
 unfold Ieee.Format.order
 rw[qmt hx,qmt hy]
 simp only[Ieee.Datum.order]
 have e1:(Ieee.double.leastPlace+(qlx x:Nat)-min (Ieee.double.leastPlace+(qlx x:Nat)) (Ieee.double.leastPlace+(qlx y:Nat))).toNat=qlx x-min (qlx x) (qlx y):=by omega
 have e2:(Ieee.double.leastPlace+(qlx y:Nat)-min (Ieee.double.leastPlace+(qlx x:Nat)) (Ieee.double.leastPlace+(qlx y:Nat))).toNat=qlx y-min (qlx x) (qlx y):=by omega
 rw[e1,e2,qoD (c:=((2 ^ (min (qlx x) (qlx y)):Nat):Int)) (Int.natCast_pos.2 (Nat.two_pow_pos _)),qmX _ _ _ _ (Nat.min_le_left _ _),qmX _ _ _ _ (Nat.min_le_right _ _)]
 rfl
theorem qmF{x:Nat}{N:Nat}(hN:2046≤N)(h:qiE x<9218868437227405312):qla x<9007199254740992*2 ^ N:=by
 have hm:qlA x<9007199254740992:=by
  unfold qlA
  split <;>omega
 have he:qlx x≤N:=by
  unfold qlx
  split <;>omega
 unfold qla
 have h1:2 ^ qlx x≤2 ^ N:=Nat.pow_le_pow_right (by omega) he
 exact Nat.lt_of_le_of_lt (Nat.mul_le_mul_left _ h1) (Nat.mul_lt_mul_of_pos_right hm (Nat.two_pow_pos _))
theorem qms{x:Nat}(h:isN x=false):qiE x≤9218868437227405312:=by
 unfold isN at h
 unfold qiE
 rw[decide_eq_false_iff_not] at h
 omega
theorem qoR{N x y:Nat}(hN:2046≤N)(hx:isN x=false)(hy:isN y=false):FloatKind.f64.format.order x y=some (compare (key N x) (key N y)):=by
 rw[qjm]
 have bp:0<qlu N:=Nat.mul_pos (by omega) (Nat.two_pow_pos _)
 rcases Nat.lt_or_eq_of_le (qms hx) with h1|h1 <;>rcases Nat.lt_or_eq_of_le (qms hy) with h2|h2
 ·rw[qoQ h1 h2]
  simp only[key,qlo,qrn,if_neg (Nat.ne_of_lt h1),if_neg (Nat.ne_of_lt h2)]
 ·have hw:qla x<qlu N:=qmF hN h1
  unfold Ieee.Format.order
  rw[qmt h1,qmu h2]
  simp only[Ieee.Datum.order,key,qlo,if_neg (Nat.ne_of_lt h1),if_pos h2]
  cases sgn x <;>cases sgn y <;>simp only[if_true,Bool.false_eq_true,if_false] <;>congr 1 <;>symm <;>first|(rw[Int.compare_eq_lt];omega)|(rw[Int.compare_eq_gt];omega)
 ·have hw:qla y<qlu N:=qmF hN h2
  unfold Ieee.Format.order
  rw[qmu h1,qmt h2]
  simp only[Ieee.Datum.order,key,qlo,if_neg (Nat.ne_of_lt h2),if_pos h1]
  cases sgn x <;>cases sgn y <;>simp only[if_true,Bool.false_eq_true,if_false] <;>congr 1 <;>symm <;>first|(rw[Int.compare_eq_lt];omega)|(rw[Int.compare_eq_gt];omega)
 ·unfold Ieee.Format.order
  rw[qmu h1,qmu h2]
  simp only[Ieee.Datum.order,key,qlo,if_pos h1,if_pos h2]
  cases sgn x <;>cases sgn y <;>simp only[if_true,Bool.false_eq_true,if_false] <;>congr 1 <;>symm <;>first|(show _=Ordering.gt;rw[Int.compare_eq_gt];omega)|(show _=Ordering.lt;rw[Int.compare_eq_lt];omega)|(simp;done)
theorem qmh(x:Nat)(h:x<18446744073709551616):x=(if sgn x then 9223372036854775808 else 0)+qiE x:=by
 unfold sgn qiE
 by_cases hs:x/9223372036854775808 % 2=1
 ·simp only[hs,beq_self_eq_true,if_true];omega
 ·have:x/9223372036854775808 % 2=0:=by omega
  simp[this];omega
theorem qoB{x:Nat}(h:qiE x<9218868437227405312):qla x=0↔qiE x=0:=by
 unfold qla qlA qlx
 by_cases h1:qiE x<4503599627370496
 ·simp[h1]
 ·simp only[h1,if_false]
  have:=Nat.two_pow_pos (qiE x/4503599627370496-1)
  have h2:=Nat.mul_le_mul_left (4503599627370496+qiE x % 4503599627370496) this
  omega
theorem qol{N x y:Nat}(hN:2046≤N)(hx:isN x=false)(hy:isN y=false)(h:qlo N x=qlo N y):qiE x=qiE y:=by
 unfold qlo at h
 rcases Nat.lt_or_eq_of_le (qms hx) with h1|h1 <;>rcases Nat.lt_or_eq_of_le (qms hy) with h2|h2
 ·rw[if_neg (Nat.ne_of_lt h1),if_neg (Nat.ne_of_lt h2)] at h
  exact qpd h1 h2 h
 ·rw[if_neg (Nat.ne_of_lt h1),if_pos h2] at h
  have:qla x<qlu N:=qmF hN h1
  omega
 ·rw[if_pos h1,if_neg (Nat.ne_of_lt h2)] at h
  have:qla y<qlu N:=qmF hN h2
  omega
 ·omega
theorem qmP{N x:Nat}(hx:isN x=false):qlo N x=0↔qiE x=0:=by
 have bp:0<qlu N:=Nat.mul_pos (by omega) (Nat.two_pow_pos _)
 unfold qlo
 rcases Nat.lt_or_eq_of_le (qms hx) with h1|h1
 ·rw[if_neg (Nat.ne_of_lt h1)];exact qoB h1
 ·rw[if_pos h1];omega
theorem qq2{N x y:Nat}(hN:2046≤N)(hx:isN x=false)(hy:isN y=false)(bx:x<18446744073709551616)(by':y<18446744073709551616)(h:key N x=key N y):x=y∨(qiE x=0∧qiE y=0):=by
 have zx:=qmP (N:=N) hx
 have zy:=qmP (N:=N) hy
 have wx:=qmh x bx
 have wy:=qmh y by'
 unfold key at h
 cases hs:sgn x <;>cases ht:sgn y <;>rw[hs,ht] at h <;>simp only[if_true,Bool.false_eq_true,if_false] at h
 ·have:=qol hN hx hy (by omega)
  rw[hs] at wx;rw[ht] at wy
  simp only[Bool.false_eq_true,if_false] at wx wy
  exact .inl (by omega)
 ·exact .inr ⟨zx.1 (by omega),zy.1 (by omega)⟩
 ·exact .inr ⟨zx.1 (by omega),zy.1 (by omega)⟩
 ·have:=qol hN hx hy (by omega)
  rw[hs] at wx;rw[ht] at wy
  simp only[if_true] at wx wy
  exact .inl (by omega)
def qo3(x y:Nat):Bool:=q7k .lss (FloatKind.f64.format.order x y)||(q7k .eql (FloatKind.f64.format.order x y)&&sgn x)
theorem qnw{x:Nat}(s:Bool)(hx:isN x=false):(FloatKind.f64.decode x== .infinity s)=(decide (qiE x=9218868437227405312)&&(sgn x==s)):=by
 show(Ieee.double.read x== .infinity s)=_
 rcases Nat.lt_or_eq_of_le (qms hx) with h|h
 ·rw[qmt h,decide_eq_false (by omega)];rfl
 ·rw[qmu h,decide_eq_true h]
  cases sgn x <;>cases s <;>rfl
theorem qnx{x:Nat}(hx:isN x=false):(FloatKind.f64.decode x).isNaN=false:=by
 show(Ieee.double.read x).isNaN=false
 rw[qby,hx]
theorem qn2{x:Nat}(hx:isN x=false):(FloatKind.f64.decode x).isZero=decide (qiE x=0):=by
 show(Ieee.double.read x).isZero=_
 rcases Nat.lt_or_eq_of_le (qms hx) with h|h
 ·rw[qmt h]
  have hm:qlA x=0↔qiE x=0:=by
   unfold qlA
   split <;>omega
  by_cases h0:qiE x=0
  ·rw[decide_eq_true h0,hm.2 h0];rfl
  ·rw[decide_eq_false h0]
   cases hmm:qlA x with
   |zero=>exact absurd (hm.1 hmm) h0
   |succ n=>rfl
 ·rw[qmu h,decide_eq_false (by omega)];rfl
theorem qoE{x:Nat}(hx:isN x=false):(FloatKind.f64.decode x).neg=sgn x:=by
 show(Ieee.double.read x).neg=_
 rcases Nat.lt_or_eq_of_le (qms hx) with h|h
 ·rw[qmt h];rfl
 ·rw[qmu h];rfl
theorem qoG(s:Bool):FloatKind.f64.encode (.infinity s)=(if s then 9223372036854775808 else 0)+9218868437227405312:=by cases s <;>decide
theorem qnX{x y:Nat}(hx:isN x=false)(hy:isN y=false)(bx:x<18446744073709551616)(by':y<18446744073709551616):
  ∃(k l:Int) (p q B:Nat),FloatKind.f64.format.order x y=some (compare k l)∧k=(if sgn x then-(p:Int) else p)∧l=(if sgn y then-(q:Int) else q)∧0<B∧p≤B∧q≤B∧
   (qiE x=9218868437227405312↔p=B)∧(qiE y=9218868437227405312↔q=B)∧(qiE x=0↔p=0)∧(qiE y=0↔q=0)∧(k=l→x=y∨(qiE x=0∧qiE y=0)):=by
 obtain⟨N,hN⟩:∃N,2046≤N:=⟨2046,Nat.le_refl _⟩
 have ax:∀z,isN z=false→qlo N z≤qlu N∧(qiE z=9218868437227405312↔qlo N z=qlu N):=fun z hz=>by
  unfold qlo
  rcases Nat.lt_or_eq_of_le (qms hz) with h|h
  ·have hw:qla z<qlu N:=qmF hN h
   rw[if_neg (by omega)]
   exact⟨by omega,⟨fun e=>by omega,fun e=>by omega⟩⟩
  ·rw[if_pos h];simp[h]
 exact⟨key N x,key N y,qlo N x,qlo N y,qlu N,qoR hN hx hy,rfl,rfl,Nat.mul_pos (by omega) (Nat.two_pow_pos _),(ax x hx).1,(ax y hy).1,(ax x hx).2,(ax y hy).2,
  (qmP hx).symm,(qmP hy).symm,qq2 hN hx hy bx by'⟩
theorem qou{x y:Nat}(hx:isN x=false)(hy:isN y=false)(bx:x<18446744073709551616)(by':y<18446744073709551616):q73 true x y=if qo3 x y then x else y:=by
 obtain⟨k,l,p,q,B,ho,hk,hl,hB,hp,hq,i1,i2,z1,z2,hi⟩:=qnX hx hy bx by'
 have ho':(FloatKind.f64.decode x).order (FloatKind.f64.decode y)=some (compare k l):=ho
 have wx:=qmh x bx
 have wy:=qmh y by'
 unfold q73 qo3
 rw[qnw true hx,qnw true hy,qnx hx,qnx hy,qn2 hx,qn2 hy,qoE hx,ho,ho',qoG]
 simp only[cond_true,q7k]
 clear ho ho' hx hy
 generalize qiE x=rx at*
 generalize qiE y=ry at*
 cases hs:sgn x <;>cases ht:sgn y <;>rw[hs] at hk wx <;>rw[ht] at hl wy <;>simp only[if_true,Bool.false_eq_true,if_false] at hk hl wx wy
 all_goals
  rcases Int.lt_trichotomy k l with h|h|h
  ·rw[Int.compare_eq_lt.2 h]
   by_cases e1:rx=9218868437227405312 <;>by_cases e2:ry=9218868437227405312 <;>by_cases e3:rx=0 <;>by_cases e4:ry=0 <;>simp[e1,e2,e3,e4] <;>omega
  ·have h':=hi h
   rw[Int.compare_eq_eq.2 h]
   by_cases e1:rx=9218868437227405312 <;>by_cases e2:ry=9218868437227405312 <;>by_cases e3:rx=0 <;>by_cases e4:ry=0 <;>simp[e1,e2,e3,e4] <;>omega
  ·rw[Int.compare_eq_gt.2 h]
   by_cases e1:rx=9218868437227405312 <;>by_cases e2:ry=9218868437227405312 <;>by_cases e3:rx=0 <;>by_cases e4:ry=0 <;>simp[e1,e2,e3,e4] <;>omega
theorem qoS{x y:Nat}(hx:isN x=false)(hy:isN y=false)(bx:x<18446744073709551616)(by':y<18446744073709551616):q73 false x y=if qo3 x y then y else x:=by
 obtain⟨k,l,p,q,B,ho,hk,hl,hB,hp,hq,i1,i2,z1,z2,hi⟩:=qnX hx hy bx by'
 have ho':(FloatKind.f64.decode x).order (FloatKind.f64.decode y)=some (compare k l):=ho
 have wx:=qmh x bx
 have wy:=qmh y by'
 unfold q73 qo3
 rw[qnw false hx,qnw false hy,qnx hx,qnx hy,qn2 hx,qn2 hy,qoE hx,ho,ho',qoG]
 simp only[cond_false,q7k]
 clear ho ho' hx hy
 generalize qiE x=rx at*
 generalize qiE y=ry at*
 cases hs:sgn x <;>cases ht:sgn y <;>rw[hs] at hk wx <;>rw[ht] at hl wy <;>simp only[if_true,Bool.false_eq_true,if_false] at hk hl wx wy
 all_goals
  rcases Int.lt_trichotomy k l with h|h|h
  ·rw[Int.compare_eq_lt.2 h]
   by_cases e1:rx=9218868437227405312 <;>by_cases e2:ry=9218868437227405312 <;>by_cases e3:rx=0 <;>by_cases e4:ry=0 <;>simp[e1,e2,e3,e4] <;>omega
  ·have h':=hi h
   rw[Int.compare_eq_eq.2 h]
   by_cases e1:rx=9218868437227405312 <;>by_cases e2:ry=9218868437227405312 <;>by_cases e3:rx=0 <;>by_cases e4:ry=0 <;>simp[e1,e2,e3,e4] <;>omega
  ·rw[Int.compare_eq_gt.2 h]
   by_cases e1:rx=9218868437227405312 <;>by_cases e2:ry=9218868437227405312 <;>by_cases e3:rx=0 <;>by_cases e4:ry=0 <;>simp[e1,e2,e3,e4] <;>omega
theorem qnH(a b:Nat)(ha:a<18446744073709551616)(hb:b<18446744073709551616):qaO .xor .u64 (a:Int) (b:Int)=((a ^^^ b:Nat):Int):=by
 have h64:(18446744073709551616:Nat)=2 ^ 64:=by decide
 rw[h64] at ha hb
 unfold qaO
 rw[BitVec.toNat_xor,BitVec.ofInt_natCast,BitVec.ofInt_natCast,BitVec.toNat_ofNat,BitVec.toNat_ofNat]
 show IntKind.u64.wrap ((a % 2 ^ 64 ^^^ b % 2 ^ 64:Nat):Int)=_
 rw[Nat.mod_eq_of_lt ha,Nat.mod_eq_of_lt hb]
 have:=Nat.xor_lt_two_pow ha hb
 rw[←h64] at this
 exact q9i (by omega) (by omega)
theorem qro{x y:Int}(hx:okW x)(hy:okW y):qaO .xor .u64 (qaO .xor .u64 x y) x=y:=by
 unfold okW at hx hy
 obtain⟨a,rfl⟩:=Int.eq_ofNat_of_zero_le hx.1
 obtain⟨b,rfl⟩:=Int.eq_ofNat_of_zero_le hy.1
 have h64:(18446744073709551616:Nat)=2 ^ 64:=by decide
 rw[qnH a b (by omega) (by omega),qnH _ a (by rw[h64];exact Nat.xor_lt_two_pow (by rw[←h64];omega) (by rw[←h64];omega)) (by omega),Nat.xor_comm a b,Nat.xor_assoc,Nat.xor_self,Nat.xor_zero]
theorem qrp{x y:Int}(hx:okW x)(hy:okW y):qaO .xor .u64 (qaO .xor .u64 x y) y=x:=by
 unfold okW at hx hy
 obtain⟨a,rfl⟩:=Int.eq_ofNat_of_zero_le hx.1
 obtain⟨b,rfl⟩:=Int.eq_ofNat_of_zero_le hy.1
 have h64:(18446744073709551616:Nat)=2 ^ 64:=by decide
 rw[qnH a b (by omega) (by omega),qnH _ b (by rw[h64];exact Nat.xor_lt_two_pow (by rw[←h64];omega) (by rw[←h64];omega)) (by omega),Nat.xor_assoc,Nat.xor_self,Nat.xor_zero]
theorem qrk{x:Int}(hx:okW x):sgn x.toNat=decide (x/9223372036854775808=1):=by
 unfold okW at hx
 unfold sgn
 by_cases h:x/9223372036854775808=1
 ·rw[decide_eq_true h];simp;omega
 ·rw[decide_eq_false h];simp;omega
theorem qpy(W0:World)(own:Own)(x y:Int)(hx:okW x):qD Tryz.prog W0 160 [.int .u64 x, .int .u64 y] own (.int .u64 (if qo3 x.toNat y.toNat then x else y)):=by
 have hs:=qrk hx
 unfold okW at hx
 refine qe (qa qj qnb (by simp[qm3]) ?_)
 cases h1:q7k .lss (FloatKind.f64.format.order x.toNat y.toNat) <;>cases h2:q7k .eql (FloatKind.f64.format.order x.toNat y.toNat) <;>by_cases h3:x/9223372036854775808=1
 all_goals
  repeat'((try(conv=>whnf));first|(refine qC ?_)|(refine q2q ?_)|(refine q0D ?_)|(refine q3M ?_)|(refine q4B ?_)|(refine q17 (by omega) ?_)|(refine q2j (by omega) ?_)|(refine q81 _ h1 ?_)|(refine q81 _ h2 ?_)|(refine qkY 63 9223372036854775808 rfl rfl (by omega) rfl ?_))
  all_goals(refine⟨q0N (vi ?_),eB⟩;simp[qo3,h1,h2,hs,h3])
theorem qpt{r:Nat}(h:qkl r):r<18446744073709551616:=by
 obtain⟨s,t,hs,ht,rfl⟩:=h
 have h1:(2:Nat) ^ 63=9223372036854775808:=by decide
 have h2:(2:Nat) ^ 52=4503599627370496:=by decide
 rw[h2] at ht
 rw[h1]
 omega
theorem qo8(W0:World)(own:Own)(fn x y:Int)(hf:0≤fn∧fn<12)(hy:okW y):
  qD Tryz.prog W0 137 [.int .i64 fn, .int .u64 x, .int .u64 y] own (.tuple #[.int .u64 (applyW fn x y), .int .i64 (q7Q fn)]):=by
 unfold okW at hy
 have hw:fn=0∨fn=1∨fn=2∨fn=3∨fn=4∨fn=5∨fn=6∨fn=7∨fn=8∨fn=9∨fn=10∨fn=11:=by omega
 refine qe (qa qj qm2 (by simp[q10]) ?_)
 rcases hw with rfl|rfl|rfl|rfl|rfl|rfl|rfl|rfl|rfl|rfl|rfl|rfl
 all_goals
  repeat'((try(conv=>whnf));first|(refine q3M ?_)|(refine q4B ?_)|(refine arw ?_)|(refine qkA ?_)|(refine qkU (by omega) ?_)|(refine qkX (by omega) ?_)|(apply qg (qnT _ _ _))|(refine q9M ?_ ?_;omega))
  all_goals(refine⟨qcC (vi ?_) (vi ?_),eB⟩ <;>simp[applyW,q7Q,intsM])
theorem qo7(W0:World)(own:Own)(fn x y:Int)(hf:12≤fn∧fn<16):
  qD Tryz.prog W0 137 [.int .i64 fn, .int .u64 x, .int .u64 y] own (.tuple #[.int .u64 (applyW fn x y), .int .i64 (q7Q fn)]):=by
 have hw:fn=12∨fn=13∨fn=14∨fn=15:=by omega
 refine qe (qa qj qm2 (by simp[q10]) ?_)
 rcases hw with rfl|rfl|rfl|rfl
 case inl=>
  cases hfb:floatBits .add .f64 x.toNat y.toNat <;>(try have hlt:=fb_lt hfb)
  all_goals
   repeat'((try(conv=>whnf));first|(refine q3M ?_)|(refine q4B ?_)|(refine qf9 _ hfb ?_)|((refine qf8 hfb (fun r hr=> ?_);have hlt:=qpt hr))|(refine qg (q9W _ _ _ hlt) ?_))
   all_goals(refine⟨qcC (vi ?_) (vi ?_),eB⟩ <;>simp[applyW,q7Q,floatsM,fopM,hfb];try exact q5c (by assumption))
 case inr.inl=>
  cases hfb:floatBits .sub .f64 x.toNat y.toNat <;>(try have hlt:=fb_lt hfb)
  all_goals
   repeat'((try(conv=>whnf));first|(refine q3M ?_)|(refine q4B ?_)|(refine qf9 _ hfb ?_)|((refine qf8 hfb (fun r hr=> ?_);have hlt:=qpt hr))|(refine qg (q9W _ _ _ hlt) ?_))
   all_goals(refine⟨qcC (vi ?_) (vi ?_),eB⟩ <;>simp[applyW,q7Q,floatsM,fopM,hfb];try exact q5c (by assumption))
 case inr.inr.inl=>
  cases hfb:floatBits .mul .f64 x.toNat y.toNat <;>(try have hlt:=fb_lt hfb)
  all_goals
   repeat'((try(conv=>whnf));first|(refine q3M ?_)|(refine q4B ?_)|(refine qf9 _ hfb ?_)|((refine qf8 hfb (fun r hr=> ?_);have hlt:=qpt hr))|(refine qg (q9W _ _ _ hlt) ?_))
   all_goals(refine⟨qcC (vi ?_) (vi ?_),eB⟩ <;>simp[applyW,q7Q,floatsM,fopM,hfb];try exact q5c (by assumption))
 case inr.inr.inr=>
  cases hfb:floatBits .quo .f64 x.toNat y.toNat <;>(try have hlt:=fb_lt hfb)
  all_goals
   repeat'((try(conv=>whnf));first|(refine q3M ?_)|(refine q4B ?_)|(refine qf9 _ hfb ?_)|((refine qf8 hfb (fun r hr=> ?_);have hlt:=qpt hr))|(refine qg (q9W _ _ _ hlt) ?_))
   all_goals(refine⟨qcC (vi ?_) (vi ?_),eB⟩ <;>simp[applyW,q7Q,floatsM,fopM,hfb];try exact q5c (by assumption))
theorem qoT{r:Nat}(h:isN r=false):plainM r=r:=by unfold plainM;rw[h];rfl
theorem qo9(W0:World)(own:Own)(fn x y:Int)(hf:fn=16∨fn=17)(hx:okW x)(hy:okW y):
  qD Tryz.prog W0 137 [.int .i64 fn, .int .u64 x, .int .u64 y] own (.tuple #[.int .u64 (applyW fn x y), .int .i64 (q7Q fn)]):=by
 have hA:=fun own=>qia W0 own x hx
 have hB:=fun own=>qia W0 own y hy
 have hL:=fun own=>qpy W0 own x y hx
 unfold qkg at hA hB
 have xl:=qro hx hy
 have xr:=qrp hx hy
 unfold okW at hx hy
 refine qe (qa qj qm2 (by simp[q10]) ?_)
 cases e1:isN x.toNat <;>cases e2:isN y.toNat <;>rw[e1] at hA <;>rw[e2] at hB
 case false.false=>
  have p1:=qou e1 e2 (by omega) (by omega)
  have p2:=qoS e1 e2 (by omega) (by omega)
  cases hc:qo3 x.toNat y.toNat <;>rw[hc] at hL p1 p2 <;>simp only[if_true,Bool.false_eq_true,if_false] at hL p1 p2
  all_goals
   rcases hf with rfl|rfl
   all_goals
    repeat'((try(conv=>whnf));first|(refine qC ?_)|(refine q3M ?_)|(refine q4B ?_)|(apply qg (hA _))|(apply qg (hB _))|(apply qg (hL _))|(refine qiT _ xl ?_)|(refine qiT _ xr ?_)|(refine qkA ?_))
    all_goals(refine⟨qcC (vi ?_) (vi ?_),eB⟩ <;>simp[applyW,q7Q,floatsM,e1,e2,p1,p2,qoT] <;>omega)
 all_goals
  rcases hf with rfl|rfl
  all_goals
   repeat'((try(conv=>whnf));first|(refine qC ?_)|(refine q0D ?_)|(refine q3M ?_)|(refine q4B ?_)|(apply qg (hA _))|(apply qg (hB _)))
   all_goals(refine⟨qcC (vi ?_) (vi ?_),eB⟩ <;>simp[applyW,q7Q,floatsM,e1,e2,nanW])
theorem qoa(W0:World)(own:Own)(fn x y:Int)(hf:¬(0≤fn∧fn<18))(hx:okW x):
  qD Tryz.prog W0 137 [.int .i64 fn, .int .u64 x, .int .u64 y] own (.tuple #[.int .u64 (applyW fn x y), .int .i64 (q7Q fn)]):=by
 refine qe (qa qj qm2 (by simp[q10]) ?_)
 by_cases h:0≤fn∧fn<22
 ·have hw:fn=18∨fn=19∨fn=20∨fn=21:=by omega
  rcases hw with rfl|rfl|rfl|rfl
  all_goals
   repeat'((try(conv=>whnf));first|(refine q3M ?_)|(refine q4B ?_)|(refine qjn ?_)|(apply qg (qnT _ _ _))|(apply qg (qp7 _ _ _ hx))|(refine arw ?_))
   all_goals(refine⟨qcC (vi ?_) (vi ?_),eB⟩ <;>simp[applyW,q7Q,floatsM])
 ·repeat'((try(conv=>whnf));first|(refine q2j (by omega) ?_))
  all_goals(refine⟨qcC (vi ?_) (vi ?_),eB⟩ <;>simp[applyW,q7Q,h])
theorem sp_rapply(W0:World)(own:Own)(fn x y:Int)(hx:okW x)(hy:okW y):
  qD Tryz.prog W0 137 [.int .i64 fn, .int .u64 x, .int .u64 y] own (.tuple #[.int .u64 (applyW fn x y), .int .i64 (q7Q fn)]):=by
 by_cases h1:0≤fn∧fn<12
 ·exact qo8 W0 own fn x y h1 hy
 ·by_cases h2:12≤fn∧fn<16
  ·exact qo7 W0 own fn x y h2
  ·by_cases h3:fn=16∨fn=17
   ·exact qo9 W0 own fn x y h3 hx hy
   ·exact qoa W0 own fn x y (by omega) hx
end Alu
open Go
theorem qoC{c:Cfg}{b:Int}(h:¬(0≤b∧b<qy c)): -1=q3K c b:=by
 unfold q3K
 split
 ·rename_i h0
  have hb:=q4Z h0.1
  simp only[qy,h0.1,if_true,nB] at h
  rw[if_neg (by omega),if_neg (by omega),if_neg (by omega),if_neg (by omega)]
 ·rfl
theorem qoK{c:Cfg}{b:Int}(h:¬(0≤b∧b<qy c)): -1=q2K c b:=by
 unfold q2K
 split
 ·rename_i h0
  have hb:=q4Z h0.1
  simp only[qy,h0.1,if_true,nB] at h
  rw[if_neg (by omega),if_neg (by omega),if_neg (by omega),if_neg (by omega)]
 ·rfl
def qnK(c:Cfg)(i:Int):Int:=
 if i≤c.c0 then c.base+i else if i≤c.c0+c.c1 then c.base+c.c0+(i-c.c0)*2
  else if i≤c.c0+c.c1+c.c2 then c.base+c.c0+c.c1*2+(i-c.c0-c.c1)*4 else c.base+c.c0+c.c1*2+c.c2*4+(i-c.c0-c.c1-c.c2)*8
theorem qoU{c:Cfg}{b:Int}(h0:0≤b)(h:b<qy c):q2K c b=qnK c b:=by
 have hp:=q7T h0 h
 have hb:=q4Z hp.1
 simp only[q2K,qnK,hp.1,h0,and_self,if_true]
 repeat' split
 all_goals omega
theorem qqW{c:Cfg}{i:Int}(h0:0≤i)(h:i≤qy c)(hc:qL c=0):0≤qnK c i∧qnK c i≤64:=by
 have hb:=q4Z hc
 simp only[qy,hc,nB,if_true] at h
 unfold qnK
 repeat' split
 all_goals omega
theorem qpu{c:Cfg}{i:Int}(h0:0≤i)(h:i<qy c):(q3K c i=0∧qnK c (i+1)=qnK c i+1)∨(q3K c i=1∧qnK c (i+1)=qnK c i+2)∨(q3K c i=2∧qnK c (i+1)=qnK c i+4)∨(q3K c i=3∧qnK c (i+1)=qnK c i+8):=by
 have hp:=q7T h0 h
 have hb:=q4Z hp.1
 simp only[q3K,qnK,hp.1,h0,and_self,if_true]
 repeat' split
 all_goals omega
section
variable{W0:World}{own:Own}{c:Cfg}{ia pa ka:Option Addr}{il ic pc kc:Nat}{ps:List PH}{ks:List Int}
theorem qr6(hP:RdE PH.enc 1 W0 own pa ps)(hQ:∀h∈ps,RdE Ins.enc 5 W0 own h.a h.p)(hK:RdE qM 1 W0 own ka ks):
  qD Tryz.prog W0 39 [qi0 c ia il ic pa ps.length pc ka ks.length kc] own (qlI (csM c il ps ks)):=by
 refine qe (qa qj qmA (by simp[q11]) ?_)
 have hck:=fun own=>q8g W0 own c
 unfold csM
 generalize qL c=z at*
 by_cases h0:z=0
 ·subst h0
  simp only[ne_eq,not_true_eq_false,if_false]
  by_cases h1:ps.length<1∨16<ps.length
  ·rw[if_pos h1]
   repeat'((try(conv=>whnf));first|(refine qC ?_)|(refine q0D ?_)|(refine q3M ?_)|(refine q4B ?_)|(refine q17 (by omega) ?_)|(apply qg (hck _))|(apply qH;(exact eM);exact rfl)|(apply q3y;(exact eM);exact rfl;exact rfl)|(refine qc (fun bk hbk=> ?_))|(refine q2p (fun hc=> ?_) (fun hc=> ?_)))
   all_goals exact⟨rfl,eB⟩
  ·rw[if_neg h1]
   by_cases h2:¬(il:Int)=c.words
   ·rw[if_pos h2]
    repeat'((try(conv=>whnf));first|(refine qC ?_)|(refine q4B ?_)|(refine q17 (by omega) ?_)|(refine q2j (by omega) ?_)|(refine q4R (by omega) ?_)|(apply qg (hck _))|(apply qH;(exact eM);exact rfl)|(apply q3y;(exact eM);exact rfl;exact rfl)|(refine qc (fun bk hbk=> ?_)))
    all_goals exact⟨rfl,eB⟩
   ·rw[if_neg h2]
    repeat'((try(conv=>whnf));first|(refine qC ?_)|(refine q4B ?_)|(refine q2j (by omega) ?_)|(refine q4R (by omega) ?_)|(apply qg (hck _))|(apply qH;(exact eM);exact rfl)|(apply q3y;(exact eM);exact rfl;exact rfl)|(refine qc (fun bk hbk=> ?_)))
    generalize hres:psG ps 0=res
    refine q1N (σ:=Nat) (fun t=> [(6, .int .i64 t)]) (fun t=>t≤ps.length∧psG (ps.drop t) t=res) (fun t=>ps.length-t) 0 ⟨by omega,hres⟩ (eF) rfl ?_
    rintro t junk ⟨ht,hI⟩
    by_cases hlt:t<ps.length
    ·obtain⟨x,hx⟩:∃x,ps[t]? =some x:=⟨_,List.getElem?_eq_getElem hlt⟩
     have hx1:=hQ x (List.mem_of_getElem? hx)
     have hcp:=fun ex=>qcq (cap:=x.cap) (hx1.ent (Ent.app (A:=ex) Ent.refl))
     rw[q4I hx,psG,qeS] at hI
     generalize q1v x.p=r at*
     by_cases hr:r.2≠0
     ·rw[if_pos hr] at hI
      subst hI
      repeat'((try(conv=>whnf));first|(refine q17 (by omega) ?_)|(refine qg (hcp [_]) ?_)|((with_reducible show Ld _ _ _ _);first|(refine ldE (k:=0) (RdE.ent hP ?_) hx ?_ rfl ?_;rotate_left;rfl;rotate_left;(solve|(exact eB))))|((with_reducible show IxS _ _ _ _ _);first|(refine ixE hP hx ?_ ?_;(first|rfl|omega)))|(refine fO ?_)|(apply qH;(exact eM);exact rfl))
      all_goals exact⟨rfl,eB⟩
     ·rw[if_neg hr] at hI
      repeat'((try(conv=>whnf));first|(refine q17 (by omega) ?_)|(refine q2j (by omega) ?_)|(refine qg (hcp [_]) ?_)|((with_reducible show Ld _ _ _ _);first|(refine ldE (k:=0) (RdE.ent hP ?_) hx ?_ rfl ?_;rotate_left;rfl;rotate_left;(solve|(exact eB))))|((with_reducible show IxS _ _ _ _ _);first|(refine ixE hP hx ?_ ?_;(first|rfl|omega)))|(refine fB ?_)|(refine fO ?_)|(apply qH;(exact eM);exact rfl))
      all_goals exact⟨t+1,⟨by omega,hI⟩,by omega,(eF),eB⟩
    ·have ht':t=ps.length:=by omega
     subst ht'
     rw[List.drop_length,psG] at hI
     subst hI
     simp only[]
     by_cases h3:65536<ks.length
     ·rw[if_pos h3]
      repeat'((try(conv=>whnf));first|(refine q17 (by omega) ?_)|(refine q2j (by omega) ?_)|(apply qH;(exact eM);exact rfl))
      all_goals exact⟨rfl,eB⟩
     ·rw[if_neg h3]
      generalize hres2:ksG ps.length ks 0=res2
      repeat'((try(conv=>whnf));first|(refine q2j (by omega) ?_)|(apply qH;(exact eM);exact rfl))
      refine q1N (σ:=Nat) (fun i=> [(9, .int .i64 i)]) (fun i=>i≤ks.length∧ksG ps.length (ks.drop i) i=res2) (fun i=>ks.length-i) 0 ⟨by omega,hres2⟩ (eF) rfl ?_
      rintro i junk2 ⟨hi,hI⟩
      by_cases hlt2:i<ks.length
      ·obtain⟨k,hk⟩:∃k,ks[i]? =some k:=⟨_,List.getElem?_eq_getElem hlt2⟩
       rw[q4I hk,ksG] at hI
       by_cases hb:k<0∨(ps.length:Int)≤k
       ·rw[if_pos hb] at hI
        subst hI
        repeat'((try(conv=>whnf));first|(refine qC ?_)|(refine q0D ?_)|(refine q3M ?_)|(refine q17 (by omega) ?_)|((with_reducible show Ld _ _ _ _);first|(refine ldE (k:=0) (RdE.ent hK ?_) hk ?_ rfl ?_;rotate_left;rfl;rotate_left;(solve|(exact eB))))|((with_reducible show IxS _ _ _ _ _);first|(refine ixE hK hk ?_ ?_;(first|rfl|omega)))|(apply qH;(exact eM);exact rfl)|(refine q2p (fun hc=> ?_) (fun hc=> ?_)))
        all_goals exact⟨rfl,eB⟩
       ·rw[if_neg hb] at hI
        repeat'((try(conv=>whnf));first|(refine qC ?_)|(refine q17 (by omega) ?_)|(refine q2j (by omega) ?_)|(refine q4R (by omega) ?_)|((with_reducible show Ld _ _ _ _);first|(refine ldE (k:=0) (RdE.ent hK ?_) hk ?_ rfl ?_;rotate_left;rfl;rotate_left;(solve|(exact eB))))|((with_reducible show IxS _ _ _ _ _);first|(refine ixE hK hk ?_ ?_;(first|rfl|omega)))|(refine fB ?_)|(apply qH;(exact eM);exact rfl))
        all_goals exact⟨i+1,⟨by omega,hI⟩,by omega,(eF),eB⟩
      ·have hi':i=ks.length:=by omega
       subst hi'
       rw[List.drop_length,ksG] at hI
       subst hI
       repeat'((try(conv=>whnf));first|(refine q2j (by omega) ?_)|(apply qH;(exact eM);exact rfl))
       all_goals exact⟨rfl,eB⟩
 ·rw[if_pos h0]
  repeat'((try(conv=>whnf));first|(refine q17 (by omega) ?_)|(apply qg (hck _))|(apply q3y;(exact eM);exact rfl;exact rfl)|(refine qc (fun bk hbk=> ?_)))
  all_goals exact⟨rfl,eB⟩
end
end Go.Proofs.YtkieffpjjfebjaaGreatDoor
