/- What the laws share, part 4. No condition. -/
import Derived.LaidMore
import Derived.Lay
import Derived.LaidByTextLater
import Derived.Stop.Joined
import Derived.SevenTiedAt
import Derived.Laws.FloatBits
import Derived.Test.YtkieffpjjfebjaaGreatDoorChecked
import Derived.Shelf.SlMaps.Clone
import Derived.Test.YtkieffpjjfebjaaGreatDoorF3
set_option maxHeartbeats 16000000
set_option maxRecDepth 100000
namespace Go.Proofs.YtkieffpjjfebjaaGreatDoor
open Go Go.ChangeShapes Go.WideShapes Go.ChangeAt Go.RowKit
def qmv{H:Type}:Nat→DataW H→Option (List Value)
 |0,_=>none
 |_+1, .lit (.int k n)=>some [.int k n]
 |_+1, .lit (.bool b)=>some [.bool b]
 |_+1, .lit (.string l)=>some [.string ⟨l.toArray⟩]
 |n+1, .agg ds=>(ds.mapM (qmv n)).map List.flatten
 |_+1,_=>none
def qqi(P:Program)(f:TypeId→Bool):List Field→Nat→Option Nat
 | [],off=>some off
 |x::r,off=>if x.offset=off∧f x.type=true then qqi P f r (off+P.cellsOf x.type) else none
def qoB(P:Program):Nat→TypeId→Bool
 |0,_=>false
 |n+1,t=>match P.underlying t with
  |some (.int _)|some .bool|some .string=>true
  |some (.array k e)=>qoB P n e&&decide (P.cellsOf t=k*P.cellsOf e)
  |some (.struct fs)=>qqi P (qoB P n) fs.toList 0==some (P.cellsOf t)
  |_=>false
theorem qnL{α β:Type}{f:α→Option β}:∀(l:List α) (ys:List β),l.length=ys.length→(∀(i:Nat) x,l[i]? =some x→f x=ys[i]?)→l.mapM f=some ys
 | [],[],_,_=>by simp
 |x::l,y::ys,hl,h=>by
  have h0:=h 0 x rfl
  simp only[List.getElem?_cons_zero] at h0
  have ih:=qnL l ys (by simpa using hl) (fun i x hx=>by have:=h (i+1) x (by simpa using hx);simpa using this)
  rw[List.mapM_cons,h0,ih]
  rfl
 | [],_::_,hl,_=>by cases hl
 |_::_,[],hl,_=>by cases hl
theorem qnh{cs:List Value}(s:Nat):∀k,((List.range k).map fun i=>(cs.drop (i*s)).take s).flatten=cs.take (k*s)
 |0=>by simp
 |k+1=>by
  rw[List.range_succ,List.map_append,List.flatten_append,qnh s k,Nat.succ_mul,List.take_add]
  simp
theorem qo7{P:Program}{f:TypeId→Bool}{cs:List Value}:∀(l:List Field) (off tot:Nat),qqi P f l off=some tot→off≤tot∧(l.map fun x=>(cs.drop x.offset).take (P.cellsOf x.type)).flatten=(cs.drop off).take (tot-off)
 | [],off,tot,h=>by
  simp only[qqi,Option.some.injEq] at h
  subst h
  simp
 |x::l,off,tot,h=>by
  unfold qqi at h
  split at h
  ·rename_i hx
   obtain⟨h1,h2⟩:=qo7 (cs:=cs) l _ tot h
   refine⟨by omega,?_⟩
   rw[List.map_cons,List.flatten_cons,h2,hx.1]
   have e:tot-off=P.cellsOf x.type+(tot-(off+P.cellsOf x.type)):=by omega
   rw[e,List.take_add,List.drop_drop]
  ·cases h
theorem qoz{P:Program}{f:TypeId→Bool}:∀(l:List Field) (off tot:Nat),qqi P f l off=some tot→∀x∈l,f x.type=true
 | [],_,_,_,x,hx=>by cases hx
 |y::l,off,tot,h,x,hx=>by
  unfold qqi at h
  split at h
  ·rename_i hy
   rcases List.mem_cons.1 hx with rfl|hx
   ·exact hy.2
   ·exact qoz l _ _ h x hx
  ·cases h
section
variable{H:Type}{enc:TypeId×Value→H}{P:Program}{w:World}{base:Nat}{spare:Nat→Bool}{held:Bool}
theorem qnv:∀(n fuel:Nat) (t:TypeId) (cs:List Value) (d:DataW H) (p:List MemPlace),qoB P n t=true→DataW.trod enc P w base spare held fuel t cs=some (d,p)→qmv n d=some cs
 |0,_,_,_,_,_,h,_=>by simp[qoB] at h
 |n+1,fuel,t,cs,d,p,h,hd=>by
  unfold qoB at h
  split at h
  ·rename_i hu
   obtain⟨m,rfl,hx,_⟩:=DataW.trod_int hu hd
   simp only[Prod.mk.injEq] at hx
   rw[hx.1];rfl
  ·rename_i hu
   obtain⟨m,rfl,hx⟩:=DataW.trod_bool hu hd
   simp only[Prod.mk.injEq] at hx
   rw[hx.1];rfl
  ·rename_i hu
   obtain⟨m,rfl,hx,_⟩:=DataW.trod_string hu hd
   simp only[Prod.mk.injEq] at hx
   rw[hx.1];simp[qmv]
  ·rename_i k e hu
   simp only[Bool.and_eq_true,decide_eq_true_eq] at h
   obtain⟨xs,m,_,hx,hl,hxl,hel⟩:=DataW.trod_array hu hd
   simp only[Prod.mk.injEq] at hx
   rw[hx.1]
   have hm:(xs.map (·.1)).mapM (qmv n)=some ((List.range k).map fun i=>(cs.drop (i*P.cellsOf e)).take (P.cellsOf e)):=by
    refine qnL _ _ (by simp[hxl]) fun i x hx=> ?_
    rw[List.getElem?_map] at hx
    obtain⟨y,hy,rfl⟩:=Option.map_eq_some_iff.1 hx
    have hi:i<k:=by rw[←hxl];exact(List.getElem?_eq_some_iff.1 hy).1
    have:=hel i hi
    rw[hy] at this
    rw[qnv n m e _ y.1 y.2 h.1 this]
    simp[hi]
   simp only[qmv,hm,Option.map_some]
   rw[qnh,←h.2,←hl,List.take_length]
  ·rename_i fs hu
   simp only[beq_iff_eq] at h
   obtain⟨xs,m,_,hx,hl,hxl,hel⟩:=DataW.trod_struct hu hd
   simp only[Prod.mk.injEq] at hx
   rw[hx.1]
   have hm:(xs.map (·.1)).mapM (qmv n)=some (fs.toList.map fun x=>(cs.drop x.offset).take (P.cellsOf x.type)):=by
    refine qnL _ _ (by simp[hxl]) fun i x hx=> ?_
    rw[List.getElem?_map] at hx
    obtain⟨y,hy,rfl⟩:=Option.map_eq_some_iff.1 hx
    have hi:i<fs.size:=by rw[←hxl];exact(List.getElem?_eq_some_iff.1 hy).1
    have hf:fs[i]? =some fs[i]:=Array.getElem?_eq_getElem hi
    have:=hel i fs[i] hf
    rw[hy] at this
    have hft:=qoz fs.toList 0 _ h fs[i] (by simp)
    rw[qnv n m _ _ y.1 y.2 hft this]
    simp[hi]
   simp only[qmv,hm,Option.map_some]
   rw[(qo7 (cs:=cs) fs.toList 0 _ h).2]
   simp[←hl]
  ·cases h
end
theorem qow{P:Program}{w:World}:∀{l:List (String×DataW Unit)} {ps:List MemPlace},DataW.LaidVars P w l ps→∀{n:String} {d:DataW Unit},(n,d)∈l→
  ∃g t cs fuel p,P.globalNamed n=some g∧(P.globals[g]?).map (·.type)=some t∧w.var? P n=some cs∧DataW.trod (fun _=>()) P w 0 (fun _=>true) false fuel t cs.toList=some (d,p)
 | [],_,_,_,_,h=>by cases h
 |(n',d')::r,ps,hL,n,d,h=>by
  obtain⟨g,t,cs,fuel,p,q,h1,h2,h3,h4,h5,_⟩:=hL
  rcases List.mem_cons.1 h with e|h
  ·cases e
   exact⟨g,t,cs,fuel,p,h1,h2,h3,h4⟩
  ·exact qow h5 h
theorem qoU{P:Program}{w:World}{l:List (String×DataW Unit)}{n:String}{d:DataW Unit}{g:Nat}{t:TypeId}{cs:List Value}(hp:(l.all fun x=>x.2.handleName?.isNone)=true)
  (h:laidMetH P l w) (hm:(n,d)∈l) (hg:P.globalNamed n=some g) (ht:(P.globals[g]?).map (·.type)=some t) (hf:qoB P 6 t=true) (hc:qmv 6 d=some cs) (hne:cs≠ []):q1s w g cs:=by
 rw[MakeChecks.laidMetH_plain _ _ _ hp] at h
 obtain⟨ps,hL,_,_⟩:=h
 obtain⟨g',t',cs',fuel,p,h1,h2,h3,h4⟩:=qow hL hm
 rw[hg] at h1
 obtain rfl:=Option.some.inj h1
 rw[ht] at h2
 obtain rfl:=Option.some.inj h2
 have h5:=qnv 6 fuel t _ d p hf h4
 rw[hc] at h5
 have h5:=(Option.some.inj h5).symm
 have hcell:∀j v,cs[j]? =some v→w.cell? ⟨g,j,none⟩=some v:=fun j v hv=>by
  rw[World.var?_cell hg h3 j,←Array.getElem?_toList,h5,hv]
 refine⟨?_,hcell⟩
 match cs,hne with
 |v::_,_=>
  have:=hcell 0 v rfl
  unfold World.cell? at this
  split at this
  ·rename_i hb
   exact(Array.getElem?_eq_some_iff.1 hb).1
  ·cases this
namespace Alu
open Go
theorem qo4(W0:World)(own:Own)(b:Bool):qD Tryz.prog W0 157 [.bool b] own (.int .u64 (truthM b)):=by
 refine qe (qa qj qnn (by simp[qmf]) ?_)
 cases b <;>(repeat'((try(conv=>whnf));first|(refine q3M ?_)|(refine q4B ?_));all_goals exact⟨rfl,eB⟩)
theorem qpd(W0:World)(own:Own)(x:Int)(hx:okW x):qD Tryz.prog W0 161 [.int .u64 x] own (.int .u64 (IntKind.u64.wrap (q8i x.toNat))):=by
 have hA:=fun own=>qia W0 own x hx
 unfold qkg at hA
 refine qe (qa qj qnm (by simp[qme]) ?_)
 cases hn:isN x.toNat <;>rw[hn] at hA
 ·cases h1:q7k .geq (FloatKind.f64.format.order x.toNat qkj)
  ·cases h2:q7k .lss (FloatKind.f64.format.order x.toNat qki)
   ·obtain⟨n,he⟩:=qf2 hn h1 h2
    repeat'((try(conv=>whnf));first|(refine q4B ?_)|(apply qg (hA _))|(refine q81 _ h1 ?_)|(refine q81 _ h2 ?_)|(refine qkG _ he ?_)|(refine arw ?_))
    all_goals(refine⟨q0N (vi ?_),eB⟩;simp[q8i,hn,h1,h2,he])
   ·repeat'((try(conv=>whnf));first|(refine q3M ?_)|(refine q4B ?_)|(apply qg (hA _))|(refine q81 _ h1 ?_)|(refine q81 _ h2 ?_))
    all_goals(refine⟨q0N (vi ?_),eB⟩;simp[q8i,hn,h1,h2];try rfl)
  ·repeat'((try(conv=>whnf));first|(refine q3M ?_)|(refine q4B ?_)|(apply qg (hA _))|(refine q81 _ h1 ?_))
   all_goals(refine⟨q0N (vi ?_),eB⟩;simp[q8i,hn,h1];try rfl)
 ·repeat'((try(conv=>whnf));first|(refine q3M ?_)|(apply qg (hA _)))
  all_goals(refine⟨q0N (vi ?_),eB⟩;simp[q8i,hn];try rfl)
theorem qmE{x:Nat}(h:qiE x<9218868437227405312):Ieee.double.read x= .number (sgn x) (qlA x) (Ieee.double.leastPlace+(qlx x:Nat)):=by
 unfold Ieee.Format.read qlA qlx
 simp only[sw,bn,ir]
 unfold qiE at*
 by_cases h1:x % 9223372036854775808<4503599627370496
 ·rw[if_pos h1,if_pos h1,if_pos h1];simp[sgn]
 ·rw[if_neg h1,if_neg h1,if_neg h1,if_pos h];rfl
theorem qmF{x:Nat}(h:qiE x=9218868437227405312):Ieee.double.read x= .infinity (sgn x):=by
 unfold Ieee.Format.read
 simp only[sw,bn,ir]
 unfold qiE at h
 rw[if_neg (by omega),if_neg (by omega),if_pos h]
 rfl
theorem qpg{x y:Nat}(hx:qiE x<9218868437227405312)(hy:qiE y<9218868437227405312)(h:qla x=qla y):qiE x=qiE y:=by
 unfold qla qlA qlx at h
 have key:∀(p q a b:Nat),a<4503599627370496→b<4503599627370496→p<q→(4503599627370496+a)*2 ^ p≠(4503599627370496+b)*2 ^ q:=by
  intro p q a b ha hb hpq he
  have h1:2 ^ (p+1)≤2 ^ q:=Nat.pow_le_pow_right (by omega) (by omega)
  have h2:(4503599627370496+b)*2 ^ (p+1)≤(4503599627370496+b)*2 ^ q:=Nat.mul_le_mul_left _ h1
  rw[←he,Nat.pow_succ,Nat.mul_comm (2 ^ p) 2,←Nat.mul_assoc] at h2
  have h3:=Nat.le_of_mul_le_mul_right h2 (Nat.two_pow_pos p)
  omega
 by_cases h1:qiE x<4503599627370496 <;>by_cases h2:qiE y<4503599627370496
 ·simp only[h1,h2,if_true] at h;omega
 ·simp only[h1,h2,if_true,if_false] at h
  have:1≤2 ^ (qiE y/4503599627370496-1):=Nat.two_pow_pos _
  have h3:=Nat.mul_le_mul_left (4503599627370496+qiE y % 4503599627370496) this
  omega
 ·simp only[h1,h2,if_true,if_false] at h
  have:1≤2 ^ (qiE x/4503599627370496-1):=Nat.two_pow_pos _
  have h3:=Nat.mul_le_mul_left (4503599627370496+qiE x % 4503599627370496) this
  omega
 ·simp only[h1,h2,if_false] at h
  have hx':qiE x % 4503599627370496<4503599627370496:=Nat.mod_lt _ (by omega)
  have hy':qiE y % 4503599627370496<4503599627370496:=Nat.mod_lt _ (by omega)
  rcases Nat.lt_trichotomy (qiE x/4503599627370496-1) (qiE y/4503599627370496-1) with hl|he|hg
  ·exact absurd h (key _ _ _ _ hx' hy' hl)
  ·rw[he] at h
   have:=Nat.eq_of_mul_eq_mul_right (Nat.two_pow_pos _) h
   omega
  ·exact absurd h.symm (key _ _ _ _ hy' hx' hg)
theorem qoL{p q:Int}{c:Int}(hc:0<c):compare p q=compare (p*c) (q*c):=by
 rcases Int.lt_trichotomy p q with h|h|h
 ·rw[Int.compare_eq_lt.2 h,Int.compare_eq_lt.2 (Int.mul_lt_mul_of_pos_right h hc)]
 ·subst h;simp
 ·rw[Int.compare_eq_gt.2 h,Int.compare_eq_gt.2 (Int.mul_lt_mul_of_pos_right h hc)]
def qrc(x:Nat):Int:=if sgn x then-(qla x:Int) else(qla x:Int)
theorem qn8(s:Bool)(m a k:Nat)(h:k≤a):Ieee.signed s m (a-k)*((2 ^ k:Nat):Int)=if s then-((m*2 ^ a:Nat):Int) else((m*2 ^ a:Nat):Int):=by
 have e:m*2 ^ a=(m*2 ^ (a-k))*2 ^ k:=by rw[Nat.mul_assoc,←Nat.pow_add,Nat.sub_add_cancel h]
 unfold Ieee.signed
 rw[Nat.shiftLeft_eq,e,Int.natCast_mul (m*2 ^ (a-k))]
 cases s <;>simp[Int.neg_mul]
theorem qoW{x y:Nat}(hx:qiE x<9218868437227405312)(hy:qiE y<9218868437227405312):Ieee.double.order x y=some (compare (qrc x) (qrc y)):=by
 unfold Ieee.Format.order
 rw[qmE hx,qmE hy]
 simp only[Ieee.Datum.order]
 have e1:(Ieee.double.leastPlace+(qlx x:Nat)-min (Ieee.double.leastPlace+(qlx x:Nat)) (Ieee.double.leastPlace+(qlx y:Nat))).toNat=qlx x-min (qlx x) (qlx y):=by omega
 have e2:(Ieee.double.leastPlace+(qlx y:Nat)-min (Ieee.double.leastPlace+(qlx x:Nat)) (Ieee.double.leastPlace+(qlx y:Nat))).toNat=qlx y-min (qlx x) (qlx y):=by omega
 rw[e1,e2,qoL (c:=((2 ^ (min (qlx x) (qlx y)):Nat):Int)) (Int.natCast_pos.2 (Nat.two_pow_pos _)),qn8 _ _ _ _ (Nat.min_le_left _ _),qn8 _ _ _ _ (Nat.min_le_right _ _)]
 rfl
theorem qmR{x:Nat}{N:Nat}(hN:2046≤N)(h:qiE x<9218868437227405312):qla x<9007199254740992*2 ^ N:=by
 have hm:qlA x<9007199254740992:=by
  unfold qlA
  split <;>omega
 have he:qlx x≤N:=by
  unfold qlx
  split <;>omega
 unfold qla
 have h1:2 ^ qlx x≤2 ^ N:=Nat.pow_le_pow_right (by omega) he
 exact Nat.lt_of_le_of_lt (Nat.mul_le_mul_left _ h1) (Nat.mul_lt_mul_of_pos_right hm (Nat.two_pow_pos _))
theorem qmD{x:Nat}(h:isN x=false):qiE x≤9218868437227405312:=by
 unfold isN at h
 unfold qiE
 rw[decide_eq_false_iff_not] at h
 omega
theorem qoX{N x y:Nat}(hN:2046≤N)(hx:isN x=false)(hy:isN y=false):FloatKind.f64.format.order x y=some (compare (key N x) (key N y)):=by
 rw[qjm]
 have bp:0<qlu N:=Nat.mul_pos (by omega) (Nat.two_pow_pos _)
 rcases Nat.lt_or_eq_of_le (qmD hx) with h1|h1 <;>rcases Nat.lt_or_eq_of_le (qmD hy) with h2|h2
 ·rw[qoW h1 h2]
  simp only[key,qlo,qrc,if_neg (Nat.ne_of_lt h1),if_neg (Nat.ne_of_lt h2)]
 ·have hw:qla x<qlu N:=qmR hN h1
  unfold Ieee.Format.order
  rw[qmE h1,qmF h2]
  simp only[Ieee.Datum.order,key,qlo,if_neg (Nat.ne_of_lt h1),if_pos h2]
  cases sgn x <;>cases sgn y <;>simp only[if_true,Bool.false_eq_true,if_false] <;>congr 1 <;>symm <;>first|(rw[Int.compare_eq_lt];omega)|(rw[Int.compare_eq_gt];omega)
 ·have hw:qla y<qlu N:=qmR hN h2
  unfold Ieee.Format.order
  rw[qmF h1,qmE h2]
  simp only[Ieee.Datum.order,key,qlo,if_neg (Nat.ne_of_lt h2),if_pos h1]
  cases sgn x <;>cases sgn y <;>simp only[if_true,Bool.false_eq_true,if_false] <;>congr 1 <;>symm <;>first|(rw[Int.compare_eq_lt];omega)|(rw[Int.compare_eq_gt];omega)
 ·unfold Ieee.Format.order
  rw[qmF h1,qmF h2]
  simp only[Ieee.Datum.order,key,qlo,if_pos h1,if_pos h2]
  cases sgn x <;>cases sgn y <;>simp only[if_true,Bool.false_eq_true,if_false] <;>congr 1 <;>symm <;>first|(show _=Ordering.gt;rw[Int.compare_eq_gt];omega)|(show _=Ordering.lt;rw[Int.compare_eq_lt];omega)|(simp;done)
theorem qmt(x:Nat)(h:x<18446744073709551616):x=(if sgn x then 9223372036854775808 else 0)+qiE x:=by
 unfold sgn qiE
 by_cases hs:x/9223372036854775808 % 2=1
 ·simp only[hs,beq_self_eq_true,if_true];omega
 ·have:x/9223372036854775808 % 2=0:=by omega
  simp[this];omega
theorem qoJ{x:Nat}(h:qiE x<9218868437227405312):qla x=0↔qiE x=0:=by
 unfold qla qlA qlx
 by_cases h1:qiE x<4503599627370496
 ·simp[h1]
 ·simp only[h1,if_false]
  have:=Nat.two_pow_pos (qiE x/4503599627370496-1)
  have h2:=Nat.mul_le_mul_left (4503599627370496+qiE x % 4503599627370496) this
  omega
theorem qov{N x y:Nat}(hN:2046≤N)(hx:isN x=false)(hy:isN y=false)(h:qlo N x=qlo N y):qiE x=qiE y:=by
 unfold qlo at h
 rcases Nat.lt_or_eq_of_le (qmD hx) with h1|h1 <;>rcases Nat.lt_or_eq_of_le (qmD hy) with h2|h2
 ·rw[if_neg (Nat.ne_of_lt h1),if_neg (Nat.ne_of_lt h2)] at h
  exact qpg h1 h2 h
 ·rw[if_neg (Nat.ne_of_lt h1),if_pos h2] at h
  have:qla x<qlu N:=qmR hN h1
  omega
 ·rw[if_pos h1,if_neg (Nat.ne_of_lt h2)] at h
  have:qla y<qlu N:=qmR hN h2
  omega
 ·omega
theorem qmZ{N x:Nat}(hx:isN x=false):qlo N x=0↔qiE x=0:=by
 have bp:0<qlu N:=Nat.mul_pos (by omega) (Nat.two_pow_pos _)
 unfold qlo
 rcases Nat.lt_or_eq_of_le (qmD hx) with h1|h1
 ·rw[if_neg (Nat.ne_of_lt h1)];exact qoJ h1
 ·rw[if_pos h1];omega
theorem qq4{N x y:Nat}(hN:2046≤N)(hx:isN x=false)(hy:isN y=false)(bx:x<18446744073709551616)(by':y<18446744073709551616)(h:key N x=key N y):x=y∨(qiE x=0∧qiE y=0):=by
 have zx:=qmZ (N:=N) hx
 have zy:=qmZ (N:=N) hy
 have wx:=qmt x bx
 have wy:=qmt y by'
 unfold key at h
 cases hs:sgn x <;>cases ht:sgn y <;>rw[hs,ht] at h <;>simp only[if_true,Bool.false_eq_true,if_false] at h
 ·have:=qov hN hx hy (by omega)
  rw[hs] at wx;rw[ht] at wy
  simp only[Bool.false_eq_true,if_false] at wx wy
  exact .inl (by omega)
 ·exact .inr ⟨zx.1 (by omega),zy.1 (by omega)⟩
 ·exact .inr ⟨zx.1 (by omega),zy.1 (by omega)⟩
 ·have:=qov hN hx hy (by omega)
  rw[hs] at wx;rw[ht] at wy
  simp only[if_true] at wx wy
  exact .inl (by omega)
def qob(x y:Nat):Bool:=q7k .lss (FloatKind.f64.format.order x y)||(q7k .eql (FloatKind.f64.format.order x y)&&sgn x)
theorem qnI{x:Nat}(s:Bool)(hx:isN x=false):(FloatKind.f64.decode x== .infinity s)=(decide (qiE x=9218868437227405312)&&(sgn x==s)):=by
 show(Ieee.double.read x== .infinity s)=_
 rcases Nat.lt_or_eq_of_le (qmD hx) with h|h
 ·rw[qmE h,decide_eq_false (by omega)];rfl
 ·rw[qmF h,decide_eq_true h]
  cases sgn x <;>cases s <;>rfl
theorem qnJ{x:Nat}(hx:isN x=false):(FloatKind.f64.decode x).isNaN=false:=by
 show(Ieee.double.read x).isNaN=false
 rw[qby,hx]
theorem qnc{x:Nat}(hx:isN x=false):(FloatKind.f64.decode x).isZero=decide (qiE x=0):=by
 show(Ieee.double.read x).isZero=_
 rcases Nat.lt_or_eq_of_le (qmD hx) with h|h
 ·rw[qmE h]
  have hm:qlA x=0↔qiE x=0:=by
   unfold qlA
   split <;>omega
  by_cases h0:qiE x=0
  ·rw[decide_eq_true h0,hm.2 h0];rfl
  ·rw[decide_eq_false h0]
   cases hmm:qlA x with
   |zero=>exact absurd (hm.1 hmm) h0
   |succ n=>rfl
 ·rw[qmF h,decide_eq_false (by omega)];rfl
theorem qoM{x:Nat}(hx:isN x=false):(FloatKind.f64.decode x).neg=sgn x:=by
 show(Ieee.double.read x).neg=_
 rcases Nat.lt_or_eq_of_le (qmD hx) with h|h
 ·rw[qmE h];rfl
 ·rw[qmF h];rfl
theorem qoN(s:Bool):FloatKind.f64.encode (.infinity s)=(if s then 9223372036854775808 else 0)+9218868437227405312:=by cases s <;>decide
theorem qo8{x y:Nat}(hx:isN x=false)(hy:isN y=false)(bx:x<18446744073709551616)(by':y<18446744073709551616):
  ∃(k l:Int) (p q B:Nat),FloatKind.f64.format.order x y=some (compare k l)∧k=(if sgn x then-(p:Int) else p)∧l=(if sgn y then-(q:Int) else q)∧0<B∧p≤B∧q≤B∧
   (qiE x=9218868437227405312↔p=B)∧(qiE y=9218868437227405312↔q=B)∧(qiE x=0↔p=0)∧(qiE y=0↔q=0)∧(k=l→x=y∨(qiE x=0∧qiE y=0)):=by
 obtain⟨N,hN⟩:∃N,2046≤N:=⟨2046,Nat.le_refl _⟩
 have ax:∀z,isN z=false→qlo N z≤qlu N∧(qiE z=9218868437227405312↔qlo N z=qlu N):=fun z hz=>by
  unfold qlo
  rcases Nat.lt_or_eq_of_le (qmD hz) with h|h
  ·have hw:qla z<qlu N:=qmR hN h
   rw[if_neg (by omega)]
   exact⟨by omega,⟨fun e=>by omega,fun e=>by omega⟩⟩
  ·rw[if_pos h];simp[h]
 exact⟨key N x,key N y,qlo N x,qlo N y,qlu N,qoX hN hx hy,rfl,rfl,Nat.mul_pos (by omega) (Nat.two_pow_pos _),(ax x hx).1,(ax y hy).1,(ax x hx).2,(ax y hy).2,
  (qmZ hx).symm,(qmZ hy).symm,qq4 hN hx hy bx by'⟩
theorem qoC{x y:Nat}(hx:isN x=false)(hy:isN y=false)(bx:x<18446744073709551616)(by':y<18446744073709551616):q73 true x y=if qob x y then x else y:=by
 obtain⟨k,l,p,q,B,ho,hk,hl,hB,hp,hq,i1,i2,z1,z2,hi⟩:=qo8 hx hy bx by'
 have ho':(FloatKind.f64.decode x).order (FloatKind.f64.decode y)=some (compare k l):=ho
 have wx:=qmt x bx
 have wy:=qmt y by'
 unfold q73 qob
 rw[qnI true hx,qnI true hy,qnJ hx,qnJ hy,qnc hx,qnc hy,qoM hx,ho,ho',qoN]
 simp only[cond_true,q7k]
 clear ho ho' hx hy
 generalize qiE x=rx at*
 generalize qiE y=ry at*
 cases hs:sgn x <;>cases ht:sgn y <;>rw[hs] at hk wx <;>rw[ht] at hl wy <;>simp only[if_true,Bool.false_eq_true,if_false] at hk hl wx wy
 all_goals
  rcases Int.lt_trichotomy k l with h|h|h
  ·rw[Int.compare_eq_lt.2 h]
   by_cases e1:rx=9218868437227405312 <;>by_cases e2:ry=9218868437227405312 <;>by_cases e3:rx=0 <;>by_cases e4:ry=0 <;>simp[e1,e2,e3,e4] <;>omega
  ·have h':=hi h
   rw[Int.compare_eq_eq.2 h]
   by_cases e1:rx=9218868437227405312 <;>by_cases e2:ry=9218868437227405312 <;>by_cases e3:rx=0 <;>by_cases e4:ry=0 <;>simp[e1,e2,e3,e4] <;>omega
  ·rw[Int.compare_eq_gt.2 h]
   by_cases e1:rx=9218868437227405312 <;>by_cases e2:ry=9218868437227405312 <;>by_cases e3:rx=0 <;>by_cases e4:ry=0 <;>simp[e1,e2,e3,e4] <;>omega
theorem qoY{x y:Nat}(hx:isN x=false)(hy:isN y=false)(bx:x<18446744073709551616)(by':y<18446744073709551616):q73 false x y=if qob x y then y else x:=by
 obtain⟨k,l,p,q,B,ho,hk,hl,hB,hp,hq,i1,i2,z1,z2,hi⟩:=qo8 hx hy bx by'
 have ho':(FloatKind.f64.decode x).order (FloatKind.f64.decode y)=some (compare k l):=ho
 have wx:=qmt x bx
 have wy:=qmt y by'
 unfold q73 qob
 rw[qnI false hx,qnI false hy,qnJ hx,qnJ hy,qnc hx,qnc hy,qoM hx,ho,ho',qoN]
 simp only[cond_false,q7k]
 clear ho ho' hx hy
 generalize qiE x=rx at*
 generalize qiE y=ry at*
 cases hs:sgn x <;>cases ht:sgn y <;>rw[hs] at hk wx <;>rw[ht] at hl wy <;>simp only[if_true,Bool.false_eq_true,if_false] at hk hl wx wy
 all_goals
  rcases Int.lt_trichotomy k l with h|h|h
  ·rw[Int.compare_eq_lt.2 h]
   by_cases e1:rx=9218868437227405312 <;>by_cases e2:ry=9218868437227405312 <;>by_cases e3:rx=0 <;>by_cases e4:ry=0 <;>simp[e1,e2,e3,e4] <;>omega
  ·have h':=hi h
   rw[Int.compare_eq_eq.2 h]
   by_cases e1:rx=9218868437227405312 <;>by_cases e2:ry=9218868437227405312 <;>by_cases e3:rx=0 <;>by_cases e4:ry=0 <;>simp[e1,e2,e3,e4] <;>omega
  ·rw[Int.compare_eq_gt.2 h]
   by_cases e1:rx=9218868437227405312 <;>by_cases e2:ry=9218868437227405312 <;>by_cases e3:rx=0 <;>by_cases e4:ry=0 <;>simp[e1,e2,e3,e4] <;>omega
theorem qnQ(a b:Nat)(ha:a<18446744073709551616)(hb:b<18446744073709551616):qaO .xor .u64 (a:Int) (b:Int)=((a ^^^ b:Nat):Int):=by
 have h64:(18446744073709551616:Nat)=2 ^ 64:=by decide
 rw[h64] at ha hb
 unfold qaO
 rw[BitVec.toNat_xor,BitVec.ofInt_natCast,BitVec.ofInt_natCast,BitVec.toNat_ofNat,BitVec.toNat_ofNat]
 show IntKind.u64.wrap ((a % 2 ^ 64 ^^^ b % 2 ^ 64:Nat):Int)=_
 rw[Nat.mod_eq_of_lt ha,Nat.mod_eq_of_lt hb]
 have:=Nat.xor_lt_two_pow ha hb
 rw[←h64] at this
 exact q9i (by omega) (by omega)
theorem qrd{x y:Int}(hx:okW x)(hy:okW y):qaO .xor .u64 (qaO .xor .u64 x y) x=y:=by
 unfold okW at hx hy
 obtain⟨a,rfl⟩:=Int.eq_ofNat_of_zero_le hx.1
 obtain⟨b,rfl⟩:=Int.eq_ofNat_of_zero_le hy.1
 have h64:(18446744073709551616:Nat)=2 ^ 64:=by decide
 rw[qnQ a b (by omega) (by omega),qnQ _ a (by rw[h64];exact Nat.xor_lt_two_pow (by rw[←h64];omega) (by rw[←h64];omega)) (by omega),Nat.xor_comm a b,Nat.xor_assoc,Nat.xor_self,Nat.xor_zero]
theorem qre{x y:Int}(hx:okW x)(hy:okW y):qaO .xor .u64 (qaO .xor .u64 x y) y=x:=by
 unfold okW at hx hy
 obtain⟨a,rfl⟩:=Int.eq_ofNat_of_zero_le hx.1
 obtain⟨b,rfl⟩:=Int.eq_ofNat_of_zero_le hy.1
 have h64:(18446744073709551616:Nat)=2 ^ 64:=by decide
 rw[qnQ a b (by omega) (by omega),qnQ _ b (by rw[h64];exact Nat.xor_lt_two_pow (by rw[←h64];omega) (by rw[←h64];omega)) (by omega),Nat.xor_assoc,Nat.xor_self,Nat.xor_zero]
theorem qr9{x:Int}(hx:okW x):sgn x.toNat=decide (x/9223372036854775808=1):=by
 unfold okW at hx
 unfold sgn
 by_cases h:x/9223372036854775808=1
 ·rw[decide_eq_true h];simp;omega
 ·rw[decide_eq_false h];simp;omega
theorem qpA(W0:World)(own:Own)(x y:Int)(hx:okW x):qD Tryz.prog W0 160 [.int .u64 x, .int .u64 y] own (.int .u64 (if qob x.toNat y.toNat then x else y)):=by
 have hs:=qr9 hx
 unfold okW at hx
 refine qe (qa qj qnl (by simp[qmd]) ?_)
 cases h1:q7k .lss (FloatKind.f64.format.order x.toNat y.toNat) <;>cases h2:q7k .eql (FloatKind.f64.format.order x.toNat y.toNat) <;>by_cases h3:x/9223372036854775808=1
 all_goals
  repeat'((try(conv=>whnf));first|(refine qC ?_)|(refine q2q ?_)|(refine q0D ?_)|(refine q3M ?_)|(refine q4B ?_)|(refine q17 (by omega) ?_)|(refine q2j (by omega) ?_)|(refine q81 _ h1 ?_)|(refine q81 _ h2 ?_)|(refine qkY 63 9223372036854775808 rfl rfl (by omega) rfl ?_))
  all_goals(refine⟨q0N (vi ?_),eB⟩;simp[qob,h1,h2,hs,h3])
theorem qpv{r:Nat}(h:qkl r):r<18446744073709551616:=by
 obtain⟨s,t,hs,ht,rfl⟩:=h
 have h1:(2:Nat) ^ 63=9223372036854775808:=by decide
 have h2:(2:Nat) ^ 52=4503599627370496:=by decide
 rw[h2] at ht
 rw[h1]
 omega
theorem qok(W0:World)(own:Own)(fn x y:Int)(hf:0≤fn∧fn<12)(hy:okW y):
  qD Tryz.prog W0 137 [.int .i64 fn, .int .u64 x, .int .u64 y] own (.tuple #[.int .u64 (applyW fn x y), .int .i64 (q7Q fn)]):=by
 unfold okW at hy
 have hw:fn=0∨fn=1∨fn=2∨fn=3∨fn=4∨fn=5∨fn=6∨fn=7∨fn=8∨fn=9∨fn=10∨fn=11:=by omega
 refine qe (qa qj qmb (by simp[qlR]) ?_)
 rcases hw with rfl|rfl|rfl|rfl|rfl|rfl|rfl|rfl|rfl|rfl|rfl|rfl
 all_goals
  repeat'((try(conv=>whnf));first|(refine q3M ?_)|(refine q4B ?_)|(refine arw ?_)|(refine qkA ?_)|(refine qkU (by omega) ?_)|(refine qkX (by omega) ?_)|(apply qg (qo4 _ _ _))|(refine q9M ?_ ?_;omega))
  all_goals(refine⟨qcC (vi ?_) (vi ?_),eB⟩ <;>simp[applyW,q7Q,intsM])
theorem qoj(W0:World)(own:Own)(fn x y:Int)(hf:12≤fn∧fn<16):
  qD Tryz.prog W0 137 [.int .i64 fn, .int .u64 x, .int .u64 y] own (.tuple #[.int .u64 (applyW fn x y), .int .i64 (q7Q fn)]):=by
 have hw:fn=12∨fn=13∨fn=14∨fn=15:=by omega
 refine qe (qa qj qmb (by simp[qlR]) ?_)
 rcases hw with rfl|rfl|rfl|rfl
 case inl=>
  cases hfb:floatBits .add .f64 x.toNat y.toNat <;>(try have hlt:=fb_lt hfb)
  all_goals
   repeat'((try(conv=>whnf));first|(refine q3M ?_)|(refine q4B ?_)|(refine qf9 _ hfb ?_)|((refine qf8 hfb (fun r hr=> ?_);have hlt:=qpv hr))|(refine qg (q9W _ _ _ hlt) ?_))
   all_goals(refine⟨qcC (vi ?_) (vi ?_),eB⟩ <;>simp[applyW,q7Q,floatsM,fopM,hfb];try exact q5c (by assumption))
 case inr.inl=>
  cases hfb:floatBits .sub .f64 x.toNat y.toNat <;>(try have hlt:=fb_lt hfb)
  all_goals
   repeat'((try(conv=>whnf));first|(refine q3M ?_)|(refine q4B ?_)|(refine qf9 _ hfb ?_)|((refine qf8 hfb (fun r hr=> ?_);have hlt:=qpv hr))|(refine qg (q9W _ _ _ hlt) ?_))
   all_goals(refine⟨qcC (vi ?_) (vi ?_),eB⟩ <;>simp[applyW,q7Q,floatsM,fopM,hfb];try exact q5c (by assumption))
 case inr.inr.inl=>
  cases hfb:floatBits .mul .f64 x.toNat y.toNat <;>(try have hlt:=fb_lt hfb)
  all_goals
   repeat'((try(conv=>whnf));first|(refine q3M ?_)|(refine q4B ?_)|(refine qf9 _ hfb ?_)|((refine qf8 hfb (fun r hr=> ?_);have hlt:=qpv hr))|(refine qg (q9W _ _ _ hlt) ?_))
   all_goals(refine⟨qcC (vi ?_) (vi ?_),eB⟩ <;>simp[applyW,q7Q,floatsM,fopM,hfb];try exact q5c (by assumption))
 case inr.inr.inr=>
  cases hfb:floatBits .quo .f64 x.toNat y.toNat <;>(try have hlt:=fb_lt hfb)
  all_goals
   repeat'((try(conv=>whnf));first|(refine q3M ?_)|(refine q4B ?_)|(refine qf9 _ hfb ?_)|((refine qf8 hfb (fun r hr=> ?_);have hlt:=qpv hr))|(refine qg (q9W _ _ _ hlt) ?_))
   all_goals(refine⟨qcC (vi ?_) (vi ?_),eB⟩ <;>simp[applyW,q7Q,floatsM,fopM,hfb];try exact q5c (by assumption))
theorem qoZ{r:Nat}(h:isN r=false):plainM r=r:=by unfold plainM;rw[h];rfl
theorem qol(W0:World)(own:Own)(fn x y:Int)(hf:fn=16∨fn=17)(hx:okW x)(hy:okW y):
  qD Tryz.prog W0 137 [.int .i64 fn, .int .u64 x, .int .u64 y] own (.tuple #[.int .u64 (applyW fn x y), .int .i64 (q7Q fn)]):=by
 have hA:=fun own=>qia W0 own x hx
 have hB:=fun own=>qia W0 own y hy
 have hL:=fun own=>qpA W0 own x y hx
 unfold qkg at hA hB
 have xl:=qrd hx hy
 have xr:=qre hx hy
 unfold okW at hx hy
 refine qe (qa qj qmb (by simp[qlR]) ?_)
 cases e1:isN x.toNat <;>cases e2:isN y.toNat <;>rw[e1] at hA <;>rw[e2] at hB
 case false.false=>
  have p1:=qoC e1 e2 (by omega) (by omega)
  have p2:=qoY e1 e2 (by omega) (by omega)
  cases hc:qob x.toNat y.toNat <;>rw[hc] at hL p1 p2 <;>simp only[if_true,Bool.false_eq_true,if_false] at hL p1 p2
  all_goals
   rcases hf with rfl|rfl
   all_goals
    repeat'((try(conv=>whnf));first|(refine qC ?_)|(refine q3M ?_)|(refine q4B ?_)|(apply qg (hA _))|(apply qg (hB _))|(apply qg (hL _))|(refine qiT _ xl ?_)|(refine qiT _ xr ?_)|(refine qkA ?_))
    all_goals(refine⟨qcC (vi ?_) (vi ?_),eB⟩ <;>simp[applyW,q7Q,floatsM,e1,e2,p1,p2,qoZ] <;>omega)
 all_goals
  rcases hf with rfl|rfl
  all_goals
   repeat'((try(conv=>whnf));first|(refine qC ?_)|(refine q0D ?_)|(refine q3M ?_)|(refine q4B ?_)|(apply qg (hA _))|(apply qg (hB _)))
   all_goals(refine⟨qcC (vi ?_) (vi ?_),eB⟩ <;>simp[applyW,q7Q,floatsM,e1,e2,nanW])
theorem qom(W0:World)(own:Own)(fn x y:Int)(hf:¬(0≤fn∧fn<18))(hx:okW x):
  qD Tryz.prog W0 137 [.int .i64 fn, .int .u64 x, .int .u64 y] own (.tuple #[.int .u64 (applyW fn x y), .int .i64 (q7Q fn)]):=by
 refine qe (qa qj qmb (by simp[qlR]) ?_)
 by_cases h:0≤fn∧fn<22
 ·have hw:fn=18∨fn=19∨fn=20∨fn=21:=by omega
  rcases hw with rfl|rfl|rfl|rfl
  all_goals
   repeat'((try(conv=>whnf));first|(refine q3M ?_)|(refine q4B ?_)|(refine qjn ?_)|(apply qg (qo4 _ _ _))|(apply qg (qpd _ _ _ hx))|(refine arw ?_))
   all_goals(refine⟨qcC (vi ?_) (vi ?_),eB⟩ <;>simp[applyW,q7Q,floatsM])
 ·repeat'((try(conv=>whnf));first|(refine q2j (by omega) ?_))
  all_goals(refine⟨qcC (vi ?_) (vi ?_),eB⟩ <;>simp[applyW,q7Q,h])
theorem sp_rapply(W0:World)(own:Own)(fn x y:Int)(hx:okW x)(hy:okW y):
  qD Tryz.prog W0 137 [.int .i64 fn, .int .u64 x, .int .u64 y] own (.tuple #[.int .u64 (applyW fn x y), .int .i64 (q7Q fn)]):=by
 by_cases h1:0≤fn∧fn<12
 ·exact qok W0 own fn x y h1 hy
 ·by_cases h2:12≤fn∧fn<16
  ·exact qoj W0 own fn x y h2
  ·by_cases h3:fn=16∨fn=17
   ·exact qol W0 own fn x y h3 hx hy
   ·exact qom W0 own fn x y (by omega) hx
end Alu
open Go
theorem qoK{c:Cfg}{b:Int}(h:¬(0≤b∧b<qy c)): -1=q3K c b:=by
 unfold q3K
 split
 ·rename_i h0
  have hb:=q4Z h0.1
  simp only[qy,h0.1,if_true,nB] at h
  rw[if_neg (by omega),if_neg (by omega),if_neg (by omega),if_neg (by omega)]
 ·rfl
theorem qoR{c:Cfg}{b:Int}(h:¬(0≤b∧b<qy c)): -1=q2K c b:=by
 unfold q2K
 split
 ·rename_i h0
  have hb:=q4Z h0.1
  simp only[qy,h0.1,if_true,nB] at h
  rw[if_neg (by omega),if_neg (by omega),if_neg (by omega),if_neg (by omega)]
 ·rfl
def qnV(c:Cfg)(i:Int):Int:=
 if i≤c.c0 then c.base+i else if i≤c.c0+c.c1 then c.base+c.c0+(i-c.c0)*2
  else if i≤c.c0+c.c1+c.c2 then c.base+c.c0+c.c1*2+(i-c.c0-c.c1)*4 else c.base+c.c0+c.c1*2+c.c2*4+(i-c.c0-c.c1-c.c2)*8
theorem qp0{c:Cfg}{b:Int}(h0:0≤b)(h:b<qy c):q2K c b=qnV c b:=by
 have hp:=q7T h0 h
 have hb:=q4Z hp.1
 simp only[q2K,qnV,hp.1,h0,and_self,if_true]
 repeat' split
 all_goals omega
theorem qqN{c:Cfg}{i:Int}(h0:0≤i)(h:i≤qy c)(hc:qL c=0):0≤qnV c i∧qnV c i≤64:=by
 have hb:=q4Z hc
 simp only[qy,hc,nB,if_true] at h
 unfold qnV
 repeat' split
 all_goals omega
theorem qpw{c:Cfg}{i:Int}(h0:0≤i)(h:i<qy c):(q3K c i=0∧qnV c (i+1)=qnV c i+1)∨(q3K c i=1∧qnV c (i+1)=qnV c i+2)∨(q3K c i=2∧qnV c (i+1)=qnV c i+4)∨(q3K c i=3∧qnV c (i+1)=qnV c i+8):=by
 have hp:=q7T h0 h
 have hb:=q4Z hp.1
 simp only[q3K,qnV,hp.1,h0,and_self,if_true]
 repeat' split
 all_goals omega
section
variable{W0:World}{own:Own}{c:Cfg}{ia pa ka:Option Addr}{il ic pc kc:Nat}{ps:List PH}{ks:List Int}
theorem qqU(hP:RdE PH.enc 1 W0 own pa ps)(hQ:∀h∈ps,RdE Ins.enc 5 W0 own h.a h.p)(hK:RdE qM 1 W0 own ka ks):
  qD Tryz.prog W0 39 [qi0 c ia il ic pa ps.length pc ka ks.length kc] own (qlI (csM c il ps ks)):=by
 refine qe (qa qj qmL (by simp[qlS]) ?_)
 have hck:=fun own=>q8g W0 own c
 unfold csM
 generalize qL c=z at*
 by_cases h0:z=0
 ·subst h0
  simp only[ne_eq,not_true_eq_false,if_false]
  by_cases h1:ps.length<1∨16<ps.length
  ·rw[if_pos h1]
   repeat'((try(conv=>whnf));first|(refine qC ?_)|(refine q0D ?_)|(refine q3M ?_)|(refine q4B ?_)|(refine q17 (by omega) ?_)|(apply qg (hck _))|(apply qH;(exact eM);exact rfl)|(apply q3y;(exact eM);exact rfl;exact rfl)|(refine qc (fun bk hbk=> ?_))|(refine q2p (fun hc=> ?_) (fun hc=> ?_)))
   all_goals exact⟨rfl,eB⟩
  ·rw[if_neg h1]
   by_cases h2:¬(il:Int)=c.words
   ·rw[if_pos h2]
    repeat'((try(conv=>whnf));first|(refine qC ?_)|(refine q4B ?_)|(refine q17 (by omega) ?_)|(refine q2j (by omega) ?_)|(refine q4R (by omega) ?_)|(apply qg (hck _))|(apply qH;(exact eM);exact rfl)|(apply q3y;(exact eM);exact rfl;exact rfl)|(refine qc (fun bk hbk=> ?_)))
    all_goals exact⟨rfl,eB⟩
   ·rw[if_neg h2]
    repeat'((try(conv=>whnf));first|(refine qC ?_)|(refine q4B ?_)|(refine q2j (by omega) ?_)|(refine q4R (by omega) ?_)|(apply qg (hck _))|(apply qH;(exact eM);exact rfl)|(apply q3y;(exact eM);exact rfl;exact rfl)|(refine qc (fun bk hbk=> ?_)))
    generalize hres:psG ps 0=res
    refine q1N (σ:=Nat) (fun t=> [(6, .int .i64 t)]) (fun t=>t≤ps.length∧psG (ps.drop t) t=res) (fun t=>ps.length-t) 0 ⟨by omega,hres⟩ (eF) rfl ?_
    rintro t junk ⟨ht,hI⟩
    by_cases hlt:t<ps.length
    ·obtain⟨x,hx⟩:∃x,ps[t]? =some x:=⟨_,List.getElem?_eq_getElem hlt⟩
     have hx1:=hQ x (List.mem_of_getElem? hx)
     have hcp:=fun ex=>qcq (cap:=x.cap) (hx1.ent (Ent.app (A:=ex) Ent.refl))
     rw[q4I hx,psG,qeS] at hI
     generalize q1v x.p=r at*
     by_cases hr:r.2≠0
     ·rw[if_pos hr] at hI
      subst hI
      repeat'((try(conv=>whnf));first|(refine q17 (by omega) ?_)|(refine qg (hcp [_]) ?_)|((with_reducible show Ld _ _ _ _);first|(refine ldE (k:=0) (RdE.ent hP ?_) hx ?_ rfl ?_;rotate_left;rfl;rotate_left;(solve|(exact eB))))|((with_reducible show IxS _ _ _ _ _);first|(refine ixE hP hx ?_ ?_;(first|rfl|omega)))|(refine fO ?_)|(apply qH;(exact eM);exact rfl))
      all_goals exact⟨rfl,eB⟩
     ·rw[if_neg hr] at hI
      repeat'((try(conv=>whnf));first|(refine q17 (by omega) ?_)|(refine q2j (by omega) ?_)|(refine qg (hcp [_]) ?_)|((with_reducible show Ld _ _ _ _);first|(refine ldE (k:=0) (RdE.ent hP ?_) hx ?_ rfl ?_;rotate_left;rfl;rotate_left;(solve|(exact eB))))|((with_reducible show IxS _ _ _ _ _);first|(refine ixE hP hx ?_ ?_;(first|rfl|omega)))|(refine fB ?_)|(refine fO ?_)|(apply qH;(exact eM);exact rfl))
      all_goals exact⟨t+1,⟨by omega,hI⟩,by omega,(eF),eB⟩
    ·have ht':t=ps.length:=by omega
     subst ht'
     rw[List.drop_length,psG] at hI
     subst hI
     simp only[]
     by_cases h3:65536<ks.length
     ·rw[if_pos h3]
      repeat'((try(conv=>whnf));first|(refine q17 (by omega) ?_)|(refine q2j (by omega) ?_)|(apply qH;(exact eM);exact rfl))
      all_goals exact⟨rfl,eB⟩
     ·rw[if_neg h3]
      generalize hres2:ksG ps.length ks 0=res2
      repeat'((try(conv=>whnf));first|(refine q2j (by omega) ?_)|(apply qH;(exact eM);exact rfl))
      refine q1N (σ:=Nat) (fun i=> [(9, .int .i64 i)]) (fun i=>i≤ks.length∧ksG ps.length (ks.drop i) i=res2) (fun i=>ks.length-i) 0 ⟨by omega,hres2⟩ (eF) rfl ?_
      rintro i junk2 ⟨hi,hI⟩
      by_cases hlt2:i<ks.length
      ·obtain⟨k,hk⟩:∃k,ks[i]? =some k:=⟨_,List.getElem?_eq_getElem hlt2⟩
       rw[q4I hk,ksG] at hI
       by_cases hb:k<0∨(ps.length:Int)≤k
       ·rw[if_pos hb] at hI
        subst hI
        repeat'((try(conv=>whnf));first|(refine qC ?_)|(refine q0D ?_)|(refine q3M ?_)|(refine q17 (by omega) ?_)|((with_reducible show Ld _ _ _ _);first|(refine ldE (k:=0) (RdE.ent hK ?_) hk ?_ rfl ?_;rotate_left;rfl;rotate_left;(solve|(exact eB))))|((with_reducible show IxS _ _ _ _ _);first|(refine ixE hK hk ?_ ?_;(first|rfl|omega)))|(apply qH;(exact eM);exact rfl)|(refine q2p (fun hc=> ?_) (fun hc=> ?_)))
        all_goals exact⟨rfl,eB⟩
       ·rw[if_neg hb] at hI
        repeat'((try(conv=>whnf));first|(refine qC ?_)|(refine q17 (by omega) ?_)|(refine q2j (by omega) ?_)|(refine q4R (by omega) ?_)|((with_reducible show Ld _ _ _ _);first|(refine ldE (k:=0) (RdE.ent hK ?_) hk ?_ rfl ?_;rotate_left;rfl;rotate_left;(solve|(exact eB))))|((with_reducible show IxS _ _ _ _ _);first|(refine ixE hK hk ?_ ?_;(first|rfl|omega)))|(refine fB ?_)|(apply qH;(exact eM);exact rfl))
        all_goals exact⟨i+1,⟨by omega,hI⟩,by omega,(eF),eB⟩
      ·have hi':i=ks.length:=by omega
       subst hi'
       rw[List.drop_length,ksG] at hI
       subst hI
       repeat'((try(conv=>whnf));first|(refine q2j (by omega) ?_)|(apply qH;(exact eM);exact rfl))
       all_goals exact⟨rfl,eB⟩
 ·rw[if_pos h0]
  repeat'((try(conv=>whnf));first|(refine q17 (by omega) ?_)|(apply qg (hck _))|(apply q3y;(exact eM);exact rfl;exact rfl)|(refine qc (fun bk hbk=> ?_)))
  all_goals exact⟨rfl,eB⟩
end
open Go
theorem qn3(W0:World)(own:Own)(c:Cfg)(b:Int):qD Tryz.prog W0 135 [c.v, .int .i64 b] own (.int .i64 (q3K c b)):=by
 refine qe (qa qj qno (by simp[qmg]) ?_)
 by_cases h0:0≤b∧b<qy c
 ·have hp:=q7T h0.1 h0.2
  have hbd:=q4Z hp.1
  repeat'((try(conv=>whnf));first|(apply qg (q8f _ _ c))|(refine q55 5 ?_)|(refine qC ?_)|(refine q0D ?_)|(refine q3M ?_)|(refine fB ?_)|(refine ix0 rfl ?_)|(refine ix1 rfl ?_)|(refine ix2 rfl ?_)|(refine ix3 rfl ?_)|(apply ixj;omega)|(apply qH;(exact eM);exact rfl)|(apply qX;(exact eM);exact rfl)|(refine qc (fun bk hbk=> ?_))|(refine q2p (fun hc=> ?_) (fun hc=> ?_))|(refine q5Z (fun hc=> ?_) (fun hc=> ?_)))
  all_goals first|(exfalso;omega)|(refine⟨q0N (vi ?_),eB⟩;simp only[q3K,hp.1,h0,and_self,if_true];repeat'(first|omega|(rw[if_pos (by omega)])|(rw[if_neg (by omega)])))
 ·repeat'((try(conv=>whnf));first|(apply qg (q8f _ _ c))|(refine qC ?_)|(refine q0D ?_)|(refine q3M ?_)|(apply qX;(exact eM);exact rfl)|(refine qc (fun bk hbk=> ?_))|(refine q2p (fun hc=> ?_) (fun hc=> ?_))|(refine q5Z (fun hc=> ?_) (fun hc=> ?_)))
  all_goals first|(exfalso;omega)|exact⟨q0N (vi (qoK h0)),eB⟩
theorem sp_rfirst(W0:World)(own:Own)(c:Cfg)(b:Int):qD Tryz.prog W0 136 [c.v, .int .i64 b] own (.int .i64 (q2K c b)):=by
 refine qe (qa qj qnp (by simp[qmh]) ?_)
 have hB:=q6w c
 by_cases h0:0≤b∧b<qy c
 ·have hp:=q7T h0.1 h0.2
  have hbd:=q4Z hp.1
  repeat'((try(conv=>whnf));first|(apply qg (q8f _ _ c))|(refine qC ?_)|(refine q0D ?_)|(refine q3M ?_)|(apply qH;(exact eM);exact rfl)|(apply qX;(exact eM);exact rfl)|(refine qc (fun bk hbk=> ?_))|(refine q2p (fun hc=> ?_) (fun hc=> ?_))|(refine q5Z (fun hc=> ?_) (fun hc=> ?_)))
  ·omega
  ·refine q1N (σ:=Int) (fun i=> [(6, .int .i64 i),(5, .int .i64 (qnV c i))]) (fun i=>0≤i∧i≤b) (fun i=>(b-i).toNat) 0 ⟨by omega,by omega⟩ ?_ rfl ?_
   ·have e:qnV c 0=c.base:=by unfold qnV;rw[if_pos (by omega)];omega
    rw[e]
    exact(eF)
   ·rintro i junk ⟨hi0,hi⟩
    by_cases hlt:i<b
    ·have hq:=qqN hi0 (by omega) hp.1
     rcases qpw hi0 (show i<qy c by omega) with ⟨hcl,hs⟩|⟨hcl,hs⟩|⟨hcl,hs⟩|⟨hcl,hs⟩
     all_goals
      have hP:∀own,qD Tryz.prog W0 135 [c.v, .int .i64 i] own (.int .i64 (q3K c i)):=fun own=>qn3 W0 own c i
      rw[hcl] at hP
      repeat'((try(conv=>whnf));first|(apply qg (hP _))|(refine fB ?_)|(apply qX;(exact eM);exact rfl)|(refine q5Z (fun hc=> ?_) (fun hc=> ?_))|(refine qkQ ?_ ?_;omega)|(refine qkR ?_ ?_;omega)|(refine qkS ?_ ?_;omega)|(refine qkT ?_ ?_;omega))
      ·refine⟨i+1,⟨by omega,by omega⟩,by omega,?_,Ent.refl⟩
       rw[hs]
       exact(eF)
      ·omega
    ·repeat'((try(conv=>whnf));first|(apply qg (qn3 _ _ c i))|(apply qX;(exact eM);exact rfl)|(refine q5Z (fun hc=> ?_) (fun hc=> ?_)))
     ·omega
     ·refine⟨q0N (vi ?_),eB⟩
      have e:i=b:=by omega
      rw[e,qp0 h0.1 h0.2]
  ·omega
 ·repeat'((try(conv=>whnf));first|(apply qg (q8f _ _ c))|(refine qC ?_)|(refine q0D ?_)|(refine q3M ?_)|(apply qH;(exact eM);exact rfl)|(apply qX;(exact eM);exact rfl)|(refine qc (fun bk hbk=> ?_))|(refine q2p (fun hc=> ?_) (fun hc=> ?_))|(refine q5Z (fun hc=> ?_) (fun hc=> ?_)))
  all_goals first|(exfalso;omega)|exact⟨q0N (vi (qoR h0)),eB⟩
theorem qnf(W0:World)(own:Own)(c:Cfg)(a:Int):qD Tryz.prog W0 134 [c.v, .int .u64 a] own (.int .i64 (q0a c a)):=by
 refine qe (qa qj qnA (by simp[qmp]) ?_)
 have hB:=q6w c
 repeat'((try(conv=>whnf));first|(refine qc (fun bk hbk=> ?_)))
 refine q1N (σ:=Int) (fun k=> [(5, .int .i64 k)]) (fun k=>0≤k∧k≤qy c∧q7r c a (qy c-k).toNat k=q0a c a) (fun k=>(qy c-k).toNat) 0 ⟨by omega,by omega,by simp[q0a]⟩ (eF) rfl ?_
 rintro k junk ⟨hk0,hk1,hk⟩
 by_cases hlt:k<qy c
 ·have hf:=qf6 hk0 hlt
  have e:(qy c-k).toNat=(qy c-(k+1)).toNat+1:=by omega
  rw[e,q7r] at hk
  repeat'((try(conv=>whnf));first|(apply qg (q8f _ _ c))|(apply qg (sp_rfirst _ _ c k))|(refine fB ?_)|(refine fC ?_)|(apply qX;(exact eM);exact rfl)|(refine q5Z (fun hc=> ?_) (fun hc=> ?_)))
  ·rw[if_pos (by assumption)] at hk
   exact⟨q0N (vi hk),eB⟩
  ·rw[if_neg (by assumption)] at hk
   exact⟨k+1,⟨by omega,by omega,hk⟩,by omega,(eF),Ent.refl⟩
  ·omega
 ·repeat'((try(conv=>whnf));first|(apply qg (q8f _ _ c))|(apply qg (sp_rfirst _ _ c k))|(refine fB ?_)|(refine fC ?_)|(apply qX;(exact eM);exact rfl)|(refine q5Z (fun hc=> ?_) (fun hc=> ?_)))
  ·omega
  ·omega
  ·have e:(qy c-k).toNat=0:=by omega
   rw[e,q7r] at hk
   exact⟨q0N (vi hk),eB⟩
open Go Go.ChangeShapes Go.WideShapes Go.ChangeAt Go.RowKit
theorem qoV{α:Type}{Q:Nat→α→Prop}:∀n,(∀i,i<n→∃y,Q i y)→∃l:List α,l.length=n∧∀i y,l[i]? =some y→Q i y
 |0,_=>⟨[],rfl,fun i y h=>by simp at h⟩
 |n+1,h=>by
  obtain⟨l,hl,hq⟩:=qoV n (fun i hi=>h i (by omega))
  obtain⟨y,hy⟩:=h n (by omega)
  refine⟨l++ [y],by simp[hl],fun i z hz=> ?_⟩
  by_cases hi:i<l.length
  ·rw[List.getElem?_append_left hi] at hz
   exact hq i z hz
  ·rw[List.getElem?_append_right (by omega)] at hz
   have:i-l.length=0:=by
    by_cases h0:i-l.length=0
    ·exact h0
    ·rw[List.getElem?_eq_none (by simp;omega)] at hz;cases hz
   rw[this] at hz
   simp only[List.getElem?_cons_zero,Option.some.injEq] at hz
   subst hz
   have:i=n:=by omega
   subst this
   exact hy
section
variable{H:Type}{enc:TypeId×Value→H}{P:Program}{w:World}{spare:Nat→Bool}{held:Bool}
theorem qpT{own:Own}{a:Addr}{v:Value}(h:w.cell? a=some v):Kn w own (fun w'=>w'.cell? a=some v):=fun w' hw=>by
 have hb:a.block<w.heap.size:=by
  unfold World.cell? at h
  split at h
  ·rename_i hb;exact(Array.getElem?_eq_some_iff.1 hb).1
  ·cases h
 exact(World.cell?_of_block (w:=w) (hw.base a.block hb)).trans h
theorem qpI{fuel:Nat}{t:TypeId}{cs:List Value}{x:DataW H×List MemPlace}{k:IntKind}(ht:P.underlying t=some (.int k))(h:DataW.trod enc P w 0 spare held fuel t cs=some x):∃n,cs= [.int k n]∧inK k n:=by
 obtain⟨n,rfl,_,hw⟩:=DataW.trod_int ht h
 refine⟨n,rfl,qoT ?_⟩
 simp only[Lit.wf,Bool.and_eq_true,decide_eq_true_eq] at hw
 exact hw
def qr7(P:Program)(t:TypeId)(i:Nat):Option (Nat×TypeId):=match P.underlying t with
 |some (.struct fs)=>(fs[i]?).map fun f=>(f.offset,f.type)
 |_=>none
end
open Go Go.ChangeShapes Go.WideShapes Go.ChangeAt Go.RowKit
section
variable{H:Type}{enc:TypeId×Value→H}{P:Program}{w:World}{spare:Nat→Bool}{held:Bool}{q:Nat→Bool}
theorem qm7{t:TypeId}{ts:List TypeId}{d:DataW H}{ds:List (DataW H)}(h:(DataW.weightsEach P (t::ts) (d::ds)).all q=true):(d.weights P t).all q=true∧(DataW.weightsEach P ts ds).all q=true:=by
 simpa only[DataW.weightsEach,List.all_append,Bool.and_eq_true] using h
theorem qnw{e:TypeId}:∀{E:List (DataW H)} {d:DataW H},(DataW.weightsAll P e E).all q=true→d∈E→(d.weights P e).all q=true
 | [],_,_,hd=>by cases hd
 |c::r,d,h,hd=>by
  simp only[DataW.weightsAll,List.all_append,Bool.and_eq_true] at h
  rcases List.mem_cons.1 hd with rfl|hd
  ·exact h.1
  ·exact qnw h.2 hd
theorem qoA{α:Type}{en:α→List Value}{sz:Nat}{Φ:α→Prop}{fuel:Nat}{t e:TypeId}{cs:List Value}{x:DataW H×List MemPlace}(ht:P.underlying t=some (.slice e))(hsz:P.cellsOf e=sz)(hpos:0<sz)
  (hel:∀n cs x,DataW.trod enc P w 0 spare held n e cs=some x→(x.1.weights P e).all q=true→∃y,cs=en y∧Φ y) (h:DataW.trod enc P w 0 spare held fuel t cs=some x) (hw:(x.1.weights P t).all q=true):
  ∃a l cap,cs= [.slice a l.length cap]∧RdE en sz w [] a l∧(∀y∈l,Φ y)∧l.length≤cap∧(l= []∨∃k,q ((l.length+k)*P.bytesOf e)=true):=by
 rcases DataW.trod_slice ht h with ⟨rfl,_⟩|⟨a,len,cap,elems,rest,n,_,rfl,rfl,_,hl,_,hlen,hel',_⟩
 ·exact⟨none,[],0,rfl,RdE.nil,fun _ h=>(by cases h),by simp, .inl rfl⟩
 ·simp only[DataW.weights,ht,List.all_cons,List.all_append,Bool.and_eq_true,List.length_map] at hw
  obtain⟨hw1,hw2,_⟩:=hw
  have key:∀i,i<len→∃y,(w.cells? 0 (a.add (i*sz)) sz=some (en y))∧Φ y:=fun i hi=>by
   have:=hel' i hi
   rw[hsz] at this
   have hi':i<elems.length:=by omega
   rw[List.getElem?_eq_getElem hi',Option.bind_eq_some_iff] at this
   obtain⟨c,hc,hx⟩:=this
   obtain⟨y,rfl,hy⟩:=hel _ _ _ hx (qnw hw2 (List.mem_map_of_mem (List.getElem_mem hi')))
   exact⟨y,hc,hy⟩
  obtain⟨l,hll,hq⟩:=qoV len key
  have hget:∀{j k:Nat} {y:α} {v:Value},l[j]? =some y→(en y)[k]? =some v→w.cell? ((a.add (j*sz)).add k)=some v∧(en y).length=sz:=fun{j k y v} hy hv=>by
   obtain⟨hc,_⟩:=hq j y hy
   obtain⟨_,hlen,hget⟩:=World.cells?_some hc
   have hk:=(List.getElem?_eq_some_iff.1 hv).1
   exact⟨(hget k (by omega)).trans hv,hlen⟩
  have hspot:l≠ []→a.spot=none:=fun hne=>by
   cases l with
   |nil=>exact absurd rfl hne
   |cons y r=>
    obtain⟨hc,_⟩:=hq 0 y rfl
    obtain⟨_,hlen,hget⟩:=World.cells?_some hc
    have h0:=hget 0 hpos
    rw[List.getElem?_eq_getElem (by omega)] at h0
    rw[Nat.zero_mul] at h0
    have e0:(a.add 0).add 0=a:=by simp[Addr.add]
    rw[e0] at h0
    unfold World.cell? at h0
    split at h0
    ·split at h0
     ·cases h0
     ·rename_i hs;simpa using hs
    ·cases h0
  refine⟨some a,l,cap,by rw[hll],⟨fun hne=> ?_,fun y hy=> ?_,fun{j k y v} hy hv=> ?_⟩,fun y hy=> ?_,by omega, .inr ⟨rest.length,by rw[hll,←hlen];exact hw1⟩⟩
  ·have:=hspot hne
   obtain⟨b,o,s⟩:=a
   simp only at this
   subst this
   rfl
  ·obtain⟨i,hi⟩:=List.getElem?_of_mem hy
   obtain⟨hc,_⟩:=hq i y hi
   exact(World.cells?_some hc).2.1
  ·obtain⟨hc,_⟩:=hget hy hv
   have hs:=hspot (by intro e;subst e;simp at hy)
   have he:(a.add (j*sz)).add k=⟨ab (some a),ao (some a)+j*sz+k,none⟩:=by
    obtain⟨b,o,s⟩:=a
    simp only at hs
    subst hs
    rw[qI,qI]
    rfl
   rw[he] at hc
   exact qpT hc
  ·obtain⟨i,hi⟩:=List.getElem?_of_mem hy
   exact(hq i y hi).2
end
section
variable{H:Type}{enc:TypeId×Value→H}{w:World}{spare:Nat→Bool}{held:Bool}{v:Value}{d:DataW H}{p:List MemPlace}
theorem qpO{cs:Array Value}{v x:Value}(h:v.cells=cs)(hc:cs.toList= [x])(hx:∀a,v≠ .agg a):v=x:=by
 unfold Value.cells at h
 split at h
 ·rename_i a;exact absurd rfl (hx a)
 ·subst h;simpa using hc
theorem qnW{P:Program}{w:World}{b0:Nat}{t e:TypeId}{v:Value}(ht:P.underlying t=some (.slice e))(h:Value.okWide P w .any b0 t v):∀a,v≠ .agg a:=by
 intro a e
 subst e
 simp only[Value.okWide,ht,Cell.okWide,Cell.ok] at h
theorem qpN{fuel:Nat}{cs:List Value}{x:DataW H×List MemPlace}(h:DataW.trod enc Tryz.prog w 0 spare held fuel 23 cs=some x)(hw:(x.1.weights Tryz.prog 23).all (· ≤reachBytes)=true):
  ∃a l cap,cs= [.slice a (List.length l) cap]∧RdE qM 1 w [] a l∧l.length≤17592186043904:=by
 obtain⟨a,l,cap,e,hr,_,_,hk⟩:=qoA (q:=(· ≤reachBytes)) (en:=qM) (sz:=1) (Φ:=fun _=>True) Tryz.underlying23 (by kernel_rfl) (by omega) (fun n cs x h _=>by
  obtain⟨n,rfl,_⟩:=qpI Tryz.underlying3 h
  exact⟨n,rfl,trivial⟩) h hw
 refine⟨a,l,cap,e,hr,?_⟩
 rcases hk with rfl|⟨k,hk⟩
 ·simp
 ·have h8:Tryz.prog.bytesOf 3=8:=by kernel_rfl
  rw[h8] at hk
  have hk:=of_decide_eq_true hk
  have h9:reachBytes=140737488351232:=rfl
  rw[h9] at hk
  omega
theorem qr8{b0:Nat}(hv:Value.okWide Tryz.prog w .any b0 22 v)(ht:DataW.Trod enc Tryz.prog w 0 spare held 22 v d p)(hw:(d.weights Tryz.prog 22).all (· ≤reachBytes)=true):
  ∃a l cap,v= .slice a (List.length l) cap∧RdE IH.enc 1 w [] a l∧l.length≤17592186043904∧∀h∈l,RdE qM 1 w [] h.a h.l∧h.l.length≤17592186043904:=by
 obtain⟨fuel,h⟩:=ht
 obtain⟨a,l,cap,e,hr,hq,_,hk⟩:=qoA (q:=(· ≤reachBytes)) (en:=IH.enc) (sz:=1) (Φ:=fun y:IH=>RdE qM 1 w [] y.a y.l∧y.l.length≤17592186043904) Tryz.underlying22 (by kernel_rfl) (by omega) (fun n cs x h hw=>by
  obtain⟨a,l,cap,rfl,hr,hl⟩:=qpN h hw
  exact⟨⟨a,cap,l⟩,rfl,hr,hl⟩) h hw
 refine⟨a,l,cap,qpO rfl e (qnW Tryz.underlying22 hv),hr,?_,hq⟩
 rcases hk with rfl|⟨k,hk⟩
 ·simp
 ·have h8:Tryz.prog.bytesOf 23=24:=by kernel_rfl
  rw[h8] at hk
  have hk:=of_decide_eq_true hk
  have h9:reachBytes=140737488351232:=rfl
  rw[h9] at hk
  omega
end
open Go Go.ChangeShapes Go.WideShapes Go.ChangeAt Go.RowKit
section
variable{H:Type}{enc:TypeId×Value→H}{w:World}{spare:Nat→Bool}{held:Bool}{v:Value}{d:DataW H}{p:List MemPlace}
theorem qqM{b0:Nat}(hv:Value.okWide Tryz.prog w .any b0 23 v)(ht:DataW.Trod enc Tryz.prog w 0 spare held 23 v d p)(hw:(d.weights Tryz.prog 23).all (· ≤reachBytes)=true):
  ∃a l cap,v= .slice a (List.length l) cap∧RdE qM 1 w [] a l∧l.length≤17592186043904:=by
 obtain⟨fuel,h⟩:=ht
 obtain⟨a,l,cap,e,hr,hl⟩:=qpN h hw
 exact⟨a,l,cap,qpO rfl e (qnW Tryz.underlying23 hv),hr,hl⟩
end
open Go
section
variable{W0:World}{own:Own}
variable{a:Option Addr}{l:List Int}{cap:Nat}
theorem qnY(hR:RdE qM 1 W0 own a l)(hl:l.length≤1000000000)(x:Int):qD Tryz.prog W0 112 [.slice a l.length cap, .int .i64 x] own (.bool (decide (x∈l))):=by
 refine qe (qa qj qnG (by simp[qmK]) ?_)
 have hm:=qbg x l 0
 generalize hres:qeB x l 0=res at*
 refine q1N (σ:=Nat) (fun k=> [(5, .int .i64 k)]) (fun k=>k≤l.length∧qeB x (l.drop k) k=res) (fun k=>l.length-k) 0 ⟨by omega,hres⟩ (eF) rfl ?_
 rintro k junk ⟨hk,hI⟩
 by_cases hlt:k<l.length
 ·obtain⟨y,hy⟩:∃y,l[k]? =some y:=⟨_,List.getElem?_eq_getElem hlt⟩
  have hlt':(k:Int)<l.length:=by omega
  rw[q4I hy,qeB] at hI
  by_cases he:x=y
  ·rw[if_pos he] at hI
   have he':y=x:=he.symm
   repeat'((try(conv=>whnf));first|(refine fF ?_)|((with_reducible show Ld _ _ _ _);first|(refine q1M hR hy rfl ?_))|((with_reducible show IxS _ _ _ _ _);first|((refine ixE hR hy ?_ ?_;(first|rfl|omega)))))
   exact⟨q0N (vb (dt (hm.1 (by omega)))),(eC)⟩
  ·rw[if_neg he] at hI
   have he':¬y=x:=fun h=>he h.symm
   repeat'((try(conv=>whnf));first|(refine fF ?_)|(refine fG ?_)|((with_reducible show Ld _ _ _ _);first|(refine q1M hR hy rfl ?_))|((with_reducible show IxS _ _ _ _ _);first|((refine ixE hR hy ?_ ?_;(first|rfl|omega))))|(refine fB ?_))
   exact⟨k+1,⟨by omega,hI⟩,by omega,(eF),Ent.refl⟩
 ·have hlt':¬(k:Int)<l.length:=by omega
  obtain rfl:k=l.length:=by omega
  rw[List.drop_length,qeB] at hI
  repeat'((try(conv=>whnf));first|(refine fG ?_))
  exact⟨q0N (vb (df (fun h=>by have:=hm.2 h;omega))),(eC)⟩
end
open Go
theorem qpW{c:Cfg}{P:List (List Ins)}{s:GS}{ch:ChM}(h:(doM c P s ch).1≠0):doM c P s ch=(70,s):=by
 unfold doM at h ⊢
 split at h
 ·exact absurd rfl h
 ·rfl
theorem qrh{c:Cfg}{P:List (List Ins)}{s:GS}{ch:ChM}(h:(doM c P s ch).1=0):(doM c P s ch).2.n=s.n+1:=by
 unfold doM at h ⊢
 cases hs:chM c P s ch with
 |none=>rw[hs] at h;exact absurd (show(70:Int)=0 from h) (by decide)
 |some s'=>rfl
section
variable{W0:World}{own:Own}{a b:Option Addr}{c1 c2:Nat}
theorem qpz{L:List Int}(h1:RdE qM 1 W0 own a L)(h2:RdE qM 1 W0 own b L)(hl:L.length≤9223372036854775807):qD Tryz.prog W0 38 [.slice a L.length c1, .slice b L.length c2] own (.bool true):=by
 refine qe (qa qj qnU (by simp[qmB]) ?_)
 have hne:¬((L.length:Nat):Int)≠L.length:=by omega
 repeat'((try(conv=>whnf));first|(refine fG ?_))
 refine q1N (σ:=Nat) (fun i=> [(5, .int .i64 i)]) (fun i=>i≤L.length) (fun i=>L.length-i) 0 (by omega) (eF) rfl ?_
 intro i junk hi
 by_cases hlt:i<L.length
 ·obtain⟨x,hx⟩:∃x,L[i]? =some x:=⟨_,List.getElem?_eq_getElem hlt⟩
  have hlt':(i:Int)<L.length:=by omega
  have hnx:¬x≠x:=fun h=>h rfl
  repeat'((try(conv=>whnf));first|(refine fF ?_)|(refine fG ?_)|((with_reducible show Ld _ _ _ _);first|(refine q1M h1 hx rfl ?_)|(refine q1M h2 hx rfl ?_))|((with_reducible show IxS _ _ _ _ _);first|((refine ixE h1 hx ?_ ?_;(first|rfl|omega)))|((refine ixE h2 hx ?_ ?_;(first|rfl|omega))))|(refine fB ?_))
  exact⟨i+1,by omega,by omega,(eF),(eC)⟩
 ·have hlt':¬(i:Int)<L.length:=by omega
  repeat'((try(conv=>whnf));first|(refine fG ?_))
  exact⟨rfl,(eC)⟩
end
open Go
theorem qod:∀(ps:List PH) (t:Nat),(∀h∈ps,qx h.p=(0,0))→psG ps t=none
 | [],_,_=>rfl
 |x::l,t,h=>by
  unfold psG
  rw[h x List.mem_cons_self,if_neg (by simp)]
  exact qod l (t+1) fun y hy=>h y (List.mem_cons_of_mem _ hy)
theorem MS.ok.cs0{m:MS}{st:Bool}(h:m.ok st):csM m.c m.il.length (m.ps.map PB.h) []=(0,0,0):=by
 unfold csM
 have hp:=h.pl
 rw[if_neg (by rw[h.c0];simp),if_neg (by rw[List.length_map];omega),if_neg (by rw[h.il];simp),qod _ _ fun y hy=>by
  obtain⟨x,hx,rfl⟩:=List.mem_map.1 hy
  exact(h.q x hx).2]
 rfl
theorem MS.ok.pl16{m:MS}{st:Bool}(h:m.ok st):m.P.length≤16:=by
 have hp:=h.pl
 simp only[List.length_map]
 omega
section
variable{W0:World}{m:MS}{st:Bool}
theorem MS.ok.rp(h:m.ok st):RdE PH.enc 1 W0 (m.O) m.pa (m.ps.map PB.h):=h.p.rd.ent (qo (m.Dk++(q9L m.ps++m.Di)) fun a=>by simp only[MS.O,q2k];omega)
theorem MS.ok.ri(h:m.ok st):RdE q7j 1 W0 (m.O) m.ia m.il:=h.i.rd.ent (qo (m.Dk++(m.Dp++q9L m.ps)) fun a=>by simp only[MS.O,q2k];omega)
theorem MS.ok.rq(h:m.ok st):∀x∈m.ps.map PB.h,RdE Ins.enc 5 W0 (m.O) x.a x.p:=fun y hy=>by
 obtain⟨x,hx,rfl⟩:=List.mem_map.1 hy
 have:=qhO (kD:= []) hx ((h.q x hx).1.rd (W0:=W0))
 exact this.ent (qo (m.Dk++(m.Dp++m.Di)) fun a=>by simp only[MS.O,q2k,q6C];omega)
end
open Go
section
variable{α:Type}{g:SS→α→SS}
theorem qnK(hg:∀x a,x.stop=true→g x a=x):∀(l:List α) (x:SS),(l.foldl g x).stop=false→x.stop=false∧∀a∈l,∃y,y.stop=false∧(g y a).stop=false
 | [],_,h=>⟨h,fun _ h=>(by cases h)⟩
 |a::l,x,h=>by
  rw[List.foldl_cons] at h
  obtain⟨h1,h2⟩:=qnK hg l (g x a) h
  have hx:x.stop=false:=by
   cases hs:x.stop with
   |false=>rfl
   |true=>rw[hg x a hs,hs] at h1;cases h1
  refine⟨hx,fun b hb=> ?_⟩
  rcases List.mem_cons.1 hb with rfl|hb
  ·exact⟨x,hx,h1⟩
  ·exact h2 b hb
theorem qo9(hg:∀x a,x.stop=true→g x a=x):∀(l:List α) (x:SS),x.stop=false→(l.foldl g x).stop=true→∃a∈l,∃y,y.stop=false∧g y a=l.foldl g x
 | [],x,hx,h=>by rw[List.foldl_nil,hx] at h;cases h
 |a::l,x,hx,h=>by
  rw[List.foldl_cons] at h ⊢
  cases hs:(g x a).stop with
  |true=>exact⟨a,List.mem_cons_self,x,hx,(q2w hg l _ hs).symm⟩
  |false=>
   obtain⟨b,hb,y,hy,he⟩:=qo9 hg l (g x a) hs h
   exact⟨b,List.mem_cons_of_mem _ hb,y,hy,he⟩
end
theorem qo6{x:SS}(h:x.racy=true):x.stop=true:=by unfold SS.stop;rw[h];rfl
section
variable{rc:List EvM→Bool}{c:Cfg}{P:List (List Ins)}{fo:List Int}{lim:Int}
theorem qnP:∀(n:Nat) (s:GS) (l:List ChM) (x:SS),x.stop=false→(q7L rc c P fo lim n s l x).racy=true→∃s',qex c P fo s l s' (q7L rc c P fo lim n s l x).found∧rc s'.E=true
 |0,s,l,x,hx,h=>by
  have h':x.racy=true:=h
  rw[(q5T hx).1] at h'
  cases h'
 |n+1,s,l,x,hx,h=>by
  unfold q7L at h ⊢
  by_cases hd:q6E s=true
  ·rw[if_pos hd] at h ⊢
   unfold qey at h ⊢
   split at h
   ·have h':x.racy=true:=h
    rw[(q5T hx).1] at h'
    cases h'
   ·rename_i hl
    rw[if_neg hl]
    split at h
    ·rename_i hr
     rw[if_pos hr]
     exact⟨s, .done hd,hr⟩
    ·have h':x.racy=true:=h
     rw[(q5T hx).1] at h'
     cases h'
  ·rw[if_neg hd] at h ⊢
   obtain⟨t,ht,y,hy,he⟩:=qo9 (fun x a hs=>by rw[if_pos hs]) _ x hx (qo6 h)
   rw[←he] at h ⊢
   have htl:=List.mem_range.1 ht
   rw[if_neg (by rw[hy];simp)] at h ⊢
   split at h
   ·rw[(q5T hy).1] at h
    cases h
   ·rename_i hdn
    rw[if_neg hdn]
    have hdn':dnB s t=false:=by simpa using hdn
    split at h
    ·rename_i ha
     rw[if_pos ha]
     obtain⟨s',h1,h2⟩:=qnP n _ _ y hy h
     exact⟨s', .loc htl hdn' ha h1,h2⟩
    ·rename_i ha
     rw[if_neg ha]
     have ha':dnB (q1t c P t 64 s l).1 t=false:=by simpa using ha
     obtain⟨k,hk,z,hz,he2⟩:=qo9 (fun x a hs=>by rw[if_pos hs]) _ y hy (qo6 h)
     rw[←he2] at h ⊢
     rw[if_neg (by rw[hz];simp)] at h ⊢
     obtain⟨s',h1,h2⟩:=qnP n _ _ z hz h
     exact⟨s', .step htl hdn' ha' hk h1,h2⟩
theorem qoq(hna:qfn P)(hfo:∀k∈fo,3≤k∧k≤6):∀(n:Nat) (s:GS) (l:List ChM) (x:SS),GOk c P s→q1n P s<n→(q7L rc c P fo lim n s l x).stop=false→∀s' l',qex c P fo s l s' l'→rc s'.E=false
 |0,_,_,_,_,hn,_,_,_,_=>absurd hn (by omega)
 |n+1,s,l,x,hG,hn,h,s',l',hL=>by
  unfold q7L at h
  cases hL with
  |done hd=>
   rw[if_pos hd] at h
   unfold qey at h
   split at h
   ·have:=(q5T h).2
    cases this
   ·split at h
    ·have:=(q5T h).1
     cases this
    ·rename_i hr
     simpa using hr
  | @loc _ _ _ _ t ht hd ha hL=>
   rw[if_neg (by rw[qfo ht hd];simp)] at h
   obtain⟨-,h2⟩:=qnK (fun x a hs=>by rw[if_pos hs]) _ x h
   obtain⟨y,hy,h3⟩:=h2 t (List.mem_range.2 ht)
   rw[if_neg (by rw[hy];simp),if_neg (by rw[hd];simp),if_pos ha] at h3
   obtain⟨g1,g2,g3,g4, -⟩:=qg3 (t:=t) hna 64 s l hG
   refine qoq hna hfo n _ _ y g1 ?_ h3 s' l' hL
   rcases g4 with g4|g4
   ·rw[g4] at ha
    rw[hd] at ha
    cases ha
   ·omega
  | @step _ _ _ _ t k ht hd ha hk hL=>
   rw[if_neg (by rw[qfo ht hd];simp)] at h
   obtain⟨-,h2⟩:=qnK (fun x a hs=>by rw[if_pos hs]) _ x h
   obtain⟨y,hy,h3⟩:=h2 t (List.mem_range.2 ht)
   rw[if_neg (by rw[hy];simp),if_neg (by rw[hd];simp),if_neg (by rw[ha];simp)] at h3
   obtain⟨-,h4⟩:=qnK (fun x a hs=>by rw[if_pos hs]) _ y h3
   obtain⟨z,hz,h5⟩:=h4 k hk
   rw[if_neg (by rw[hz];simp)] at h5
   obtain⟨g1,g2,g3,g4, -⟩:=qg3 (t:=t) hna 64 s l hG
   obtain⟨i,hi⟩:=qh2 g1 ha
   obtain⟨-,m1,m2,m3,m4,m5⟩:=q3Z g1 hna hi (k:=k) (by
    rcases qag hfo hk with hk|⟨j,hj,h7,hk⟩
    ·exact .inl hk
    ·rw[hi] at hj
     obtain rfl:=Option.some.inj hj
     exact .inr ⟨h7,hk⟩)
   refine qoq hna hfo n _ _ z m1 ?_ h5 s' l' hL
   rcases g4 with g4|g4
   ·rw[g4] at m5 ⊢;exact Nat.lt_of_lt_of_le m5 (Nat.le_of_lt_succ hn)
   ·omega
end
open Go
section
variable{W0:World}{own:Own}{b o:Nat}{T:TypeId}{pre post:List Value}{t:Thr}
theorem qmQ{off n:Nat}{v:Int}{K:Own→Prop}{C:(Obj→Prop)→Own} [m:UpC b (fun o=>o=Obj.cells (pre++(t.enc++post)).toArray T (0,0)) own C](hv:v=n)(ho:off=pre.length)
  (h:K (C fun o=>o=Obj.cells (pre++(({t with pc:=n}:Thr).enc++post)).toArray T (0,0))):StT W0 own ⟨b,off,none⟩ (.int .i64 v) K:=by
 subst hv
 exact qjZ (t:=t) (k:=0) {t with pc:=n} (by omega) rfl rfl (by omega) h
theorem qlM{x:Ins}(hl:isL x=false)(r:Own):qD Tryz.prog W0 108 [.pointer (some ⟨b,o,none⟩),x.v] r (.bool false):=by
 refine qe (qa qj qmM (by simp[qm2]) ?_)
 obtain⟨op,a,b',c,imm⟩:=x
 have h:=of_decide_eq_false hl
 dsimp only at h
 have h0:op≠0:=by omega
 have h1:op≠1:=by omega
 have h2:op≠2:=by omega
 have h3:op≠3:=by omega
 have h4:op≠4:=by omega
 have h5:op≠5:=by omega
 have h6:op≠6:=by omega
 have h17:op≠17:=by omega
 clear hl h
 dsimp only[Ins.v] at*
 repeat'((try(conv=>whnf));first|(refine fG ?_)|(refine fA ?_)|(refine qc (fun bk hbk=> ?_)))
 exact⟨rfl,(eC)⟩
theorem qnu{x:Ins}(hx:qv x=0)(hl:isL x=true)(ht:t.rg.ok)(hp:t.pc≤64)(ho:o=pre.length)(r:Own):
  q0E Tryz.prog W0 108 [.pointer (some ⟨b,o,none⟩),x.v] ([thB b T pre post t]++r) fun v own'=>∃_:Unit,v= .bool true∧Ent W0 own' ([thB b T pre post (q6a t x)]++r):=by
 refine qil (qa qj qmM (by simp[qm2]) ?_)
 subst ho
 obtain⟨h0,hA,hB,hC,hI,_⟩:=q2l hx
 clear hx
 have hlo:=of_decide_eq_true hl
 clear hl
 obtain⟨op,a,b',c,imm⟩:=x
 dsimp only[Ins.v] at*
 have hu:=fun k=>ht k
 by_cases h1:op=1
 ·subst h1
  have ha:=hA rfl
  have ha':a.toNat<8:=by omega
  clear hA hB hC hI hlo
  repeat'((try(conv=>whnf));first|(refine fE ?_)|(refine fD ?_)|(refine arw (k:= .u64) ?_)|(refine qa1 (t:=t) ha' ?_ ?_;omega)|(refine q8F (t:={t with rg:=t.rg.set a.toNat (qcy imm)}) (k:=0) (v:= .int .i64 t.pc) rfl ?_ ?_;omega)|(refine qmQ (t:={t with rg:=t.rg.set a.toNat (qcy imm)}) (n:=t.pc+1) ?_ ?_ ?_;(omega);(omega))|(refine fB ?_)|(refine fP ?_)|(refine fA ?_)|(refine qc (fun bk hbk=> ?_)))
  exact⟨rfl,(eC)⟩
 by_cases h2:op=2
 ·subst h2
  have ha:=hA rfl
  have ha':a.toNat<8:=by omega
  have hb:=hB rfl
  have hb':b'.toNat<8:=by omega
  clear hA hB hC hI hlo
  repeat'((try(conv=>whnf));first|(refine fE ?_)|(refine fD ?_)|(refine q4D (t:=t) hb' ?_ ?_;omega)|(refine qa1 (t:=t) ha' ?_ ?_;omega)|(refine q8F (t:={t with rg:=t.rg.set a.toNat (t.rg.get b'.toNat)}) (k:=0) (v:= .int .i64 t.pc) rfl ?_ ?_;omega)|(refine qmQ (t:={t with rg:=t.rg.set a.toNat (t.rg.get b'.toNat)}) (n:=t.pc+1) ?_ ?_ ?_;(omega);(omega))|(refine fB ?_)|(refine fP ?_)|(refine fA ?_)|(refine qc (fun bk hbk=> ?_)))
  exact⟨rfl,(eC)⟩
 by_cases h3:op=3
 ·subst h3
  have ha:=hA rfl
  have ha':a.toNat<8:=by omega
  have hb:=hB rfl
  have hb':b'.toNat<8:=by omega
  have hc:=hC rfl
  have hc':c.toNat<8:=by omega
  clear hA hB hC hI hlo
  have hap:=fun own=>Alu.sp_rapply W0 own imm (t.rg.get b'.toNat) (t.rg.get c.toNat) (ht _) (ht _)
  repeat'((try(conv=>whnf));first|(refine fE ?_)|(refine fD ?_)|(refine q4D (t:=t) hb' ?_ ?_;omega)|(refine q4D (t:=t) hc' ?_ ?_;omega)|(refine qa1 (t:=t) ha' ?_ ?_;omega)|(refine q8F (t:={t with rg:=t.rg.set a.toNat (Alu.applyW imm (t.rg.get b'.toNat) (t.rg.get c.toNat))}) (k:=0) (v:= .int .i64 t.pc) rfl ?_ ?_;omega)|(refine qmQ (t:={t with rg:=t.rg.set a.toNat (Alu.applyW imm (t.rg.get b'.toNat) (t.rg.get c.toNat))}) (n:=t.pc+1) ?_ ?_ ?_;(omega);(omega))|((with_reducible show q0b _ _ _ _ _ _);first|((refine q4G (fun _=>hap _) ?_ ?_ ?_;(exact rfl);exact rfl)))|(refine fB ?_)|(refine fO ?_)|(refine fP ?_)|(refine fA ?_)|(refine qc (fun bk hbk=> ?_)))
  exact⟨rfl,(eC)⟩
 by_cases h17:op=17
 ·subst h17
  have ha:=hA rfl
  have ha':a.toNat<8:=by omega
  clear hA hB hC hI hlo
  repeat'((try(conv=>whnf));first|(refine fE ?_)|(refine fD ?_)|(refine arw (k:= .u64) ?_)|(refine q8F (t:=t) (k:=9) rfl ?_ ?_;omega)|(refine qa1 (t:=t) ha' ?_ ?_;omega)|(refine q8F (t:={t with rg:=t.rg.set a.toNat (qcy t.oc)}) (k:=0) (v:= .int .i64 t.pc) rfl ?_ ?_;omega)|(refine qmQ (t:={t with rg:=t.rg.set a.toNat (qcy t.oc)}) (n:=t.pc+1) ?_ ?_ ?_;(omega);(omega))|(refine fB ?_)|(refine fP ?_)|(refine fA ?_)|(refine qc (fun bk hbk=> ?_)))
  exact⟨rfl,(eC)⟩
 have hR:q85 t ⟨op,a,b',c,imm⟩=t.rg:=by unfold q85;rw[if_neg h1,if_neg h2,if_neg h3,if_neg h17]
 by_cases h4:op=4
 ·subst h4
  have hi:=hI (.inl rfl)
  clear hA hB hC hI hlo
  repeat'((try(conv=>whnf));first|(refine fE ?_)|(refine fD ?_)|(refine q8F (t:=t) (k:=0) (v:= .int .i64 t.pc) rfl ?_ ?_;omega)|(refine qmQ (t:=t) (n:=t.pc+1+imm.toNat) ?_ ?_ ?_;(omega);(omega))|(refine fB ?_)|(refine fA ?_)|(refine qc (fun bk hbk=> ?_)))
  exact⟨rfl,(eC)⟩
 by_cases h56:op=5∨op=6
 ·have hi:=hI (.inr h56)
  have ha:0≤a∧a<8:=hA (by rcases h56 with rfl|rfl <;>rfl)
  have ha':a.toNat<8:=by omega
  clear hA hB hC hI hlo
  have hP:q6a t ⟨op,a,b',c,imm⟩={t with pc:=if(op=5∧t.rg.get a.toNat=0)∨(op=6∧t.rg.get a.toNat≠0) then t.pc+1+imm.toNat else t.pc+1}:=by unfold q6a;rw[hR];unfold q60;simp[h4]
  rw[hP]
  by_cases hz:t.rg.get a.toNat=0
  all_goals
   rcases h56 with rfl|rfl
   all_goals
    simp only[hz,ne_eq,not_true_eq_false,not_false_eq_true,and_true,and_false,or_false,or_true,if_true,if_false,Int.reduceEq]
    repeat'((try(conv=>whnf));first|(refine fE ?_)|(refine fD ?_)|(refine fF ?_)|(refine fG ?_)|(refine q4D (t:=t) ha' ?_ ?_;omega)|(refine q8F (t:=t) (k:=0) (v:= .int .i64 t.pc) rfl ?_ ?_;omega)|(refine qmQ (t:=t) (n:=t.pc+1+imm.toNat) ?_ ?_ ?_;(omega);(omega))|(refine qmQ (t:=t) (n:=t.pc+1) ?_ ?_ ?_;(omega);(omega))|(refine fB ?_)|(refine fP ?_)|(refine fA ?_)|(refine qc (fun bk hbk=> ?_)))
    exact⟨rfl,(eC)⟩
 ·have h0':op=0:=by omega
  subst h0'
  clear hA hB hC hI hlo
  repeat'((try(conv=>whnf));first|(refine fE ?_)|(refine q8F (t:=t) (k:=0) (v:= .int .i64 t.pc) rfl ?_ ?_;omega)|(refine qmQ (t:=t) (n:=t.pc+1) ?_ ?_ ?_;(omega);(omega))|(refine fB ?_)|(refine fA ?_)|(refine qc (fun bk hbk=> ?_)))
  exact⟨rfl,(eC)⟩
end
open Go
abbrev qmI(b:Bool):List Value:= [.bool b]
structure DP where
 rb:Nat
 iv:Value
 pa:Option Addr
 pc:Nat
 kv:Value
 da:Option Addr
 dc:Nat
 dD:Own
 ka:Option Addr
 kc:Nat
 kD:Own
 ta:Option Addr
 tc:Nat
 tD:Own
 ea:Option Addr
 ec:Nat
 eD:Own
 L:List EH
 X:Own
 oa:Option Addr
 oc:Nat
 oD:Own
 S:List ObS
abbrev DP.cells(g:DP)(c:Cfg)(np:Nat)(s:GS):List Value:=cfL c [g.iv, .slice g.pa np g.pc,g.kv, .slice g.da s.d.length g.dc, .slice g.ka s.tk.length g.kc, .slice g.ta s.T.length g.tc, .slice g.ea g.L.length g.ec, .slice g.oa g.S.length g.oc, .int .i64 s.n]
abbrev DP.O(g:DP)(c:Cfg)(np:Nat)(s:GS):Own:=(g.rb,fun o=>o=Obj.cells (g.cells c np s).toArray 106 (0,0))::(g.dD++(g.kD++(g.tD++(g.eD++(g.oD++(q5q g.S++g.X))))))
structure DP.ok(g:DP)(W0:World)(Kp:Own)(ps:List PH)(s:GS):Prop where
 d:qr q7j 58 1 g.da g.dc s.d g.dD
 m:qr qmI 4 1 g.ka g.kc s.tk g.kD
 k:RdE PH.enc 1 W0 Kp g.pa ps
 kp:∀h∈ps,RdE Ins.enc 5 W0 Kp h.a h.p
 t:qr Thr.enc 61 11 g.ta g.tc s.T g.tD
 e:qr EH.enc 116 6 g.ea g.ec g.L g.eD
 em:g.L.map EH.m=s.E
 ev:∀e∈g.L,RdE qM 1 W0 g.X e.ra e.rl∧RdE qM 1 W0 g.X e.wa e.wl
 o:qr ObS.enc 124 1 g.oa g.oc g.S g.oD
 os:∀x∈g.S,qr ObM.enc 127 3 x.a x.cap x.l x.D
 ol:g.S.map ObS.l=s.O
theorem DP.ok.ot{g:DP}{W0:World}{Kp:Own}{ps:List PH}{s:GS}(h:g.ok W0 Kp ps s){t:Nat}{x:ObS}(hx:g.S[t]? =some x):s.O.getD t []=x.l:=by
 rw[←h.ol]
 simp[List.getD,hx]
theorem DP.ok.obs{g:DP}{W0:World}{Kp:Own}{ps:List PH}{s:GS}(h:g.ok W0 Kp ps s){t:Nat}{x:ObS}(hx:g.S[t]? =some x){a:Option Addr}{cap:Nat}{D D':Own}{l:List ObM}(hb:qr ObM.enc 127 3 a cap (x.l++l) D)(hb2:qr ObS.enc 124 1 g.oa g.oc (g.S.set t ⟨a,cap,x.l++l,D⟩) D'):
  ({g with oD:=D',S:=g.S.set t ⟨a,cap,x.l++l,D⟩}:DP).ok W0 Kp ps {s with O:=s.O.set t (s.O.getD t []++l)}:=by
 refine⟨h.d,h.m,h.k,h.kp,h.t,h.e,h.em,h.ev,hb2,fun y hy=> ?_,?_⟩
 ·rcases List.mem_or_eq_of_mem_set hy with hy|rfl
  ·exact h.os y hy
  ·exact hb
 ·rw[h.ot hx,←h.ol,List.map_set]
section
variable{W0:World}{Kp:Own}{g:DP}{c:Cfg}{ps:List PH}{s:GS}
theorem qmO(h:g.ok W0 Kp ps s){t:Nat}(ht:t<g.S.length)(hl:∀l∈s.O,l.length≤1000000)(pc:Nat)(k v:Int)(q:Own):
  q0E Tryz.prog W0 105 [.pointer (some ⟨g.rb,0,none⟩), .int .i64 t, .int .i64 pc, .int .i64 k, .int .u64 v] (g.O c ps.length s++q) fun _ own'=>∃g':DP,
   (g'.ok W0 Kp ps {s with O:=s.O.set t (s.O.getD t []++ [⟨pc,k,v⟩])}∧g'={g with oD:=g'.oD,S:=g'.S}∧g'.S.length=g.S.length)∧Ent W0 own' (g'.O c ps.length {s with O:=s.O.set t (s.O.getD t []++ [⟨pc,k,v⟩])}++q):=by
 obtain⟨x,hx⟩:∃x,g.S[t]? =some x:=⟨_,List.getElem?_eq_getElem ht⟩
 have hxm:=List.mem_of_getElem? hx
 have hB:=h.os x hxm
 have hxl:x.l.length≤1000000:=hl x.l (by rw[←h.ol];exact List.mem_map_of_mem hxm)
 have hO:=h.o
 have hOR:=hO.rd (W0:=W0)
 refine qa qj qmS (by simp[qlU]) ?_
 dsimp only[DP.O]
 rw[q3k hx]
 repeat'((try(conv=>whnf));first|(apply q69 (enc:=ObM.enc) (T:=127) ⟨pc,k,v⟩ hB;(exact rfl);(exact rfl);(omega);(exact rfl);(exact rfl);(omega);intro a1 c1 D1 hb1)|(apply q5Q (enc:=ObS.enc) (T:=124) (j:=t) (k:=0) ⟨a1,c1,x.l++ [⟨pc,k,v⟩],D1⟩ hO hx;(exact rfl);(omega);(simp only[ObS.enc,List.length_append,List.length_cons,List.length_nil,Nat.zero_add];exact rfl);(exact rfl);intro D2 hb2)|((with_reducible show Ld _ _ _ _);first|(refine q1M hOR hx rfl ?_))|((with_reducible show IxS _ _ _ _ _);first|((refine ixE hOR hx ?_ ?_;(first|rfl|omega))))|(refine fA ?_)|(refine qc (fun bk hbk=> ?_))|(refine q4T.mk ?_ ?_))
 all_goals
  refine⟨{g with oD:=D2,S:=g.S.set t ⟨a1,c1,x.l++ [⟨pc,k,v⟩],D1⟩},⟨h.obs hx hb1 hb2,rfl,List.length_set ..⟩,?_⟩
  dsimp only[DP.O,DP.cells]
  rw[qbr hx,List.length_set]
  exact(eC)
theorem qqB{e:Nat×(Obj→Prop)}{D A B C E F S X q:Own}:Ent W0 (D++((e::(A++(B++(C++(E++(F++(S++X)))))))++q)) ((e::(A++(B++(C++(E++(F++(S++(D++X))))))))++q):=qo []
theorem DP.perm_X{D:Own}{q:Own}:Ent W0 (D++(g.O c ps.length s++q)) (({g with X:=D++g.X}:DP).O c ps.length s++q):=by
 dsimp only[DP.O]
 exact qqB
theorem qmA(h:g.ok W0 Kp ps s)(t k w:Int){ra wa:Option Addr}{rl wl:List Int}{rc wc:Nat}(h1:RdE qM 1 W0 g.X ra rl)(h2:RdE qM 1 W0 g.X wa wl)(hl:s.E.length≤1000000)(q:Own):
  q0E Tryz.prog W0 107 [.pointer (some ⟨g.rb,0,none⟩), .int .i64 t, .int .i64 k, .int .i64 w, .slice ra rl.length rc, .slice wa wl.length wc] (g.O c ps.length s++q) fun _ own'=>∃g':DP,
   (g'.ok W0 Kp ps (s.ev [⟨s.n,t,k,w,rl,wl⟩])∧g'={g with ea:=g'.ea,ec:=g'.ec,eD:=g'.eD,L:=g'.L})∧Ent W0 own' (g'.O c ps.length (s.ev [⟨s.n,t,k,w,rl,wl⟩])++q):=by
 refine qa qj qmG (by simp[qlP]) ?_
 have hE:=h.e
 have hLl:g.L.length≤1000000:=by rw[←h.em,List.length_map] at hl;exact hl
 dsimp only[DP.O]
 repeat'((try(conv=>whnf));first|(apply q69 (enc:=EH.enc) (T:=116) ⟨s.n,t,k,w,ra,rl,rc,wa,wl,wc⟩ hE;(exact rfl);(exact rfl);(omega);(exact rfl);(exact rfl);(omega);intro a1 c1 D1 hb1)|(refine fA ?_)|(refine fN ?_)|(refine qc (fun bk hbk=> ?_)))
 refine⟨{g with ea:=a1,ec:=c1,eD:=D1,L:=g.L++ [⟨s.n,t,k,w,ra,rl,rc,wa,wl,wc⟩]},⟨⟨h.d,h.m,h.k,h.kp,h.t,hb1,?_,fun y hy=> ?_,h.o,h.os,h.ol⟩,rfl⟩,?_⟩
 ·rw[List.map_append,h.em];rfl
 ·rcases List.mem_append.1 hy with hy|hy
  ·exact h.ev y hy
  ·rw[List.mem_singleton.1 hy];exact⟨h1,h2⟩
 ·dsimp only[DP.O,DP.cells,GS.ev]
  simp only[List.length_append,List.length_cons,List.length_nil,Nat.zero_add]
  exact(eC)
end
open Go
section
variable{W0:World}{Kp:Own}{g:DP}{c:Cfg}{ps:List PH}{s:GS}
theorem DP.ok.x{D:Own}(h:g.ok W0 Kp ps s):({g with X:=D++g.X}:DP).ok W0 Kp ps s:=⟨h.d,h.m,h.k,h.kp,h.t,h.e,h.em,fun e he=>⟨(h.ev e he).1.ent (Ent.app Ent.refl),(h.ev e he).2.ent (Ent.app Ent.refl)⟩,h.o,h.os,h.ol⟩
theorem qo3(h:g.ok W0 Kp ps s)(hl:s.E.length≤900000)(t a:Nat){k:Int}(hk:k=1∨k=2)(q:Own):
  q0E Tryz.prog W0 109 [.pointer (some ⟨g.rb,0,none⟩), .int .i64 t, .int .i64 k, .int .i64 a] (g.O c ps.length s++q) fun _ own'=>∃g':DP,
   (g'.ok W0 Kp ps (s.ev (plE c s.n t k a))∧g'={g with ea:=g'.ea,ec:=g'.ec,eD:=g'.eD,L:=g'.L,X:=g'.X})∧Ent W0 own' (g'.O c ps.length (s.ev (plE c s.n t k a))++q):=by
 refine qa qj qmH (by simp[qlQ]) ?_
 cases hs:c.strong with
 |false=>
  have he:=qmA (c:=c) h t k a (ra:=none) (wa:=none) (rc:=0) (wc:=0) RdE.nil RdE.nil (by omega) q
  have hp:plE c s.n t k a= [⟨s.n,t,k,a,[],[]⟩]:=by unfold plE;rw[hs];rfl
  rw[hp]
  have hsv:(!c.strong)=true:=by rw[hs];rfl
  repeat'((try(conv=>whnf));first|(refine q5s hsv ?_)|((with_reducible show qf _ _ _ _ _ _);first|((refine qm he ?_ ?_ ?_ (fun g' v hg=> ?_);(exact(eC));(exact rfl);(exact rfl))))|(refine fA ?_))
  exact⟨g',⟨hg.1,by rw[hg.2]⟩,Ent.refl⟩
 |true=>
  have hsv:(!c.strong)=false:=by rw[hs];rfl
  have he:=fun q=>qmA (c:=c) h t 3 0 (ra:=none) (wa:=none) (rc:=0) (wc:=0) RdE.nil RdE.nil (by omega) q
  rcases hk with rfl|rfl
  ·have hp:plE c s.n t 1 a= [⟨s.n,t,3,0,[],[]⟩]++ [⟨s.n,t,4,0,[(a:Int)],[]⟩]:=by unfold plE;rw[hs];rfl
   rw[hp,←qjl]
   repeat'((try(conv=>whnf));first|(refine qgU hsv ?_)|((with_reducible show qf _ _ _ _ _ _);first|((refine qm (he q) ?_ ?_ ?_ (fun g1 v hg1=> ?_);(exact(eC));(exact rfl);(exact rfl);(apply Stop.h))))|(refine fA ?_))
   obtain⟨hk1,hg1⟩:=hg1
   refine Stop.mk ?_
   repeat'((try(conv=>whnf));first|(refine fE ?_)|(refine qc (fun b8 hb8=> ?_);(apply Stop.h)))
   dsimp only[List.set]
   have hk2:=hk1.x (D:= [(b8,fun o=>o=Obj.cells #[.int .i64 a] 3 (0,0))])
   have he2:=qmA (c:=c) hk2 t 4 0 (ra:=some ⟨b8,0,none⟩) (rl:= [(a:Int)]) (rc:=1) (wa:=none) (wc:=0) (q4E (List.Mem.head _) (fun _ _=>rfl) rfl) RdE.nil (by simp[GS.ev];omega) q
   have hrb:g1.rb=g.rb:=by rw[hg1]
   rw[←hrb]
   refine Stop.mk ?_
   repeat'((try(conv=>whnf));first|((with_reducible show qf _ _ _ _ _ _);first|((refine qm he2 ?_ ?_ ?_ (fun g2 v hg2=> ?_);(exact DP.perm_X (D:= [(b8,fun o=>o=Obj.cells #[.int .i64 a] 3 (0,0))]));(exact rfl);(exact rfl)))))
   exact⟨g2,⟨hg2.1,by rw[hg2.2,hg1]⟩,Ent.refl⟩
  ·have hp:plE c s.n t 2 a= [⟨s.n,t,3,0,[],[]⟩]++ [⟨s.n,t,4,0,[],[(a:Int)]⟩]:=by unfold plE;rw[hs];rfl
   rw[hp,←qjl]
   repeat'((try(conv=>whnf));first|(refine qgU hsv ?_)|((with_reducible show qf _ _ _ _ _ _);first|((refine qm (he q) ?_ ?_ ?_ (fun g1 v hg1=> ?_);(exact(eC));(exact rfl);(exact rfl);(apply Stop.h))))|(refine fA ?_))
   obtain⟨hk1,hg1⟩:=hg1
   refine Stop.mk ?_
   repeat'((try(conv=>whnf));first|(refine fD ?_)|(refine qc (fun b8 hb8=> ?_);(apply Stop.h)))
   dsimp only[List.set]
   have hk2:=hk1.x (D:= [(b8,fun o=>o=Obj.cells #[.int .i64 a] 3 (0,0))])
   have he2:=qmA (c:=c) hk2 t 4 0 (ra:=none) (rc:=0) (wa:=some ⟨b8,0,none⟩) (wl:= [(a:Int)]) (wc:=1) RdE.nil (q4E (List.Mem.head _) (fun _ _=>rfl) rfl) (by simp[GS.ev];omega) q
   have hrb:g1.rb=g.rb:=by rw[hg1]
   rw[←hrb]
   refine Stop.mk ?_
   repeat'((try(conv=>whnf));first|((with_reducible show qf _ _ _ _ _ _);first|((refine qm he2 ?_ ?_ ?_ (fun g2 v hg2=> ?_);(exact DP.perm_X (D:= [(b8,fun o=>o=Obj.cells #[.int .i64 a] 3 (0,0))]));(exact rfl);(exact rfl)))))
   exact⟨g2,⟨hg2.1,by rw[hg2.2,hg1]⟩,Ent.refl⟩
end
open Go
theorem qoa{x:Ins}(h:qv x=0):(0≤x.a∧x.a<8)∧0≤x.b∧x.b<8:=by
 unfold qv at h
 split at h
 ·cases h
 ·split at h
  ·rename_i hr
   obtain⟨h1,h2, -⟩:=hr
   unfold q2o at h1 h2
   constructor
   ·split at h1 <;>omega
   ·split at h2 <;>omega
  ·cases h
section
variable{W0:World}{Kp:Own}{g:DP}{c:Cfg}{ps:List PH}{s:GS}
theorem qoH{t:Nat}{th:Thr}(h:g.ok W0 Kp ps s)(hth:s.T[t]? =some th){x:Ins}(hx:qv x=0)(hl:isL x=true)(hrg:th.rg.ok)(hpc:th.pc≤64)(q:Own):
  q0E Tryz.prog W0 108 [.pointer (some ⟨ab g.ta,ao g.ta+t*11,none⟩),x.v] (g.O c ps.length s++q) fun v own'=>∃g':DP,
   (v= .bool true∧g'.ok W0 Kp ps {s with T:=s.T.set t (q6a th x)}∧g'={g with tD:=g'.tD})∧Ent W0 own' (g'.O c ps.length {s with T:=s.T.set t (q6a th x)}++q):=by
 obtain⟨tb,pre,post,hta,htD,hpl,hset⟩:=qcW h.t hth
 obtain⟨rb,iv,pa,pc,kv,da,dc,dD,ka,kc,kD,ta,tc,tD,ea,ec,eD,L,X,oa,oc,oD,S⟩:=g
 dsimp only at hta htD hset
 subst hta;subst htD
 have hl:=qik (own:=(DP.mk rb iv pa pc kv da dc dD ka kc kD (some ⟨tb,0,none⟩) tc [thB tb 61 pre post th] ea ec eD L X oa oc oD S).O c ps.length s++q) (qnu (W0:=W0) (b:=tb) (T:=61) (pre:=pre) (post:=post) (t:=th) (o:=0+t*11) hx hl hrg hpc (by omega) _)
 intro w hw
 refine(hl w hw).mono fun _ _ ⟨v,o,a,b,_,hv,hE⟩=>⟨v,o,a,b,⟨rb,iv,pa,pc,kv,da,dc,dD,ka,kc,kD,some ⟨tb,0,none⟩,tc,[thB tb 61 pre post (q6a th x)],ea,ec,eD,L,X,oa,oc,oD,S⟩,⟨hv,⟨h.d,h.m,h.k,h.kp,hset _,h.e,h.em,h.ev,h.o,h.os,h.ol⟩,rfl⟩,hE.trans ?_⟩
 dsimp only[DP.O,DP.cells]
 rw[List.length_set]
 exact qj1
theorem qni{a b:Nat×(Obj→Prop)}{G q:Own}:Ent W0 (a::(b::(G++q))) (G++([a,b]++q)):=qo []
theorem qnj{a b:Nat×(Obj→Prop)}{G q:Own}:Ent W0 (G++([a,b]++q)) (G++q):=qo [a,b]
abbrev exS(s1:GS)(t n:Nat)(th1:Thr):GS:={s1 with T:=s1.T.set t {th1 with dn:=decide (th1.pc=n)}}
theorem qp9{t:Nat}{th:Thr}{ph:PH}(hT:qk7 c ps s t th ph)(h:g.ok W0 Kp ps s){x:Ins}(hx:qv x=0)(hop:x.op=16)(hpc:th.pc<ph.p.length∧ph.p.length≤64)(aa:Option Addr)(al ac:Nat)(q:Own):
  q0E Tryz.prog W0 75 [.pointer (some ⟨g.rb,0,none⟩),chV t 0 aa al ac,x.v] (g.O c ps.length s++q) fun v own'=>∃g1:DP,
   (v= .bool true∧g1.ok W0 Kp ps {s with T:=s.T.set t {th with pc:=th.pc+1},O:=s.O.set t (s.O.getD t []++ [⟨th.pc,6,0⟩])}∧g1.rb=g.rb)∧Ent W0 own' (g1.O c ps.length {s with T:=s.T.set t {th with pc:=th.pc+1},O:=s.O.set t (s.O.getD t []++ [⟨th.pc,6,0⟩])}++q):=by
 refine qa qj qW (by simp[qs]) ?_
 have hT0:=h.t
 have hTR:=hT0.rd (W0:=W0)
 have hth:=hT.hth
 obtain⟨ha,hb⟩:=qoa hx
 have hb':x.b.toNat<8:=by omega
 have gb:th.enc[1+x.b.toNat]? =some (.int .u64 (th.rg.get x.b.toNat)):=Thr.enc_get hb'
 have hwd:=(q1R hT.c0).1
 unfold okW at hwd
 have htS:t<g.S.length:=by
  have h1:=congrArg List.length h.ol
  rw[List.length_map] at h1
  have:=(List.getElem?_eq_some_iff.1 hth).1
  have:=hT.tl
  omega
 have hob9:∀l∈s.O,l.length≤1000000:=fun l hl=>by have:=hT.ob l hl;omega
 have hln:=fun own=>qlM (W0:=W0) (b:=ab g.ta) (o:=ao g.ta+t*11) (x:=x) (by simp[isL,hop]) own
 have hse:=fun E=>qmO (c:=c) h htS hob9 th.pc 6 0 (E++q)
 obtain⟨op,a,b',c',imm⟩:=x
 dsimp only[Ins.v] at*
 subst hop
 repeat'((try(conv=>whnf));first|(refine fE ?_)|(refine fD ?_)|(refine ldE (k:=1+b'.toNat) (RdE.up hTR) hth ?_ gb ?_;omega)|(refine arw (k:= .u64) ?_)|((with_reducible show Ld _ _ _ _);first|(refine q1M hTR hth rfl ?_))|((with_reducible show IxS _ _ _ _ _);first|((refine ixE hTR hth ?_ ?_;(first|rfl|omega))))|((with_reducible show qf _ _ _ _ _ _);first|((refine qh (hln _) ?_ ?_ ?_;(exact rfl);exact rfl))|(((apply Stop.h))))|(refine fP ?_)|(refine fA ?_)|(refine fL ?_)|(refine qc (fun bk hbk=> ?_)))
 rename_i b4 h4
 have hse2:=hse [(bk,fun o=>o=Obj.cells #[.int .i64 16, .int .i64 a, .int .i64 b', .int .i64 c', .int .i64 imm] 69 (0,0)),(b4,fun o=>o=Obj.cells #[.int .i64 t, .int .i64 0, .slice aa al ac] 79 (0,0))]
 refine Stop.mk ?_
 repeat'((try(conv=>whnf));first|((with_reducible show qf _ _ _ _ _ _);first|((refine qm hse2 qni ?_ ?_ (fun g1 v hv=> ?_);(exact rfl);(exact rfl);(apply Stop.h)))))
 obtain⟨hk1,hg1, -⟩:=hv
 have hta:g1.ta=g.ta:=by rw[hg1]
 have hT1:=hk1.t
 have hR1:=hT1.rd (W0:=W0)
 rw[←hta]
 refine Stop.mk ?_
 repeat'((try(conv=>whnf));first|(refine ldE (k:=0) (v:= .int .i64 th.pc) (RdE.up hR1) hth ?_ rfl ?_;omega)|(apply q5Q (enc:=Thr.enc) (T:=61) (j:=t) (k:=0) {th with pc:=th.pc+1} hT1 hth;(omega);(omega);(exact rfl);(exact rfl);intro D1 hb1)|(refine fB ?_))
 refine⟨{g1 with tD:=D1},⟨rfl,⟨hk1.d,hk1.m,hk1.k,hk1.kp,hb1,hk1.e,hk1.em,hk1.ev,hk1.o,hk1.os,hk1.ol⟩,by show g1.rb=g.rb;rw[hg1]⟩,?_⟩
 dsimp only[DP.O,DP.cells]
 rw[List.length_set]
 exact qnj
end
end Go.Proofs.YtkieffpjjfebjaaGreatDoor
