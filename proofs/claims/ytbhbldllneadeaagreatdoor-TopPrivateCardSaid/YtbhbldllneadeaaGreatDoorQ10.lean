/- What the laws share, part 10. No condition. -/
import Derived.LaidMore
import Derived.Lay
import Derived.LaidByTextLater
import Derived.Stop.Joined
import Derived.SevenTiedAt
import Derived.Test.YtbhbldllneadeaaGreatDoorQ9
set_option maxHeartbeats 4000000
set_option maxRecDepth 10000
namespace Go.Proofs.YtbhbldllneadeaaGreatDoor
open Go Go.ChangeShapes Go.WideShapes Go.ChangeAt Go.RowKit
structure q12(W0:World)(g:Nat)(cs:List Value):Prop where
 size:g<W0.heap.size
 cell:∀j v,cs[j]? =some v→W0.cell? ⟨g,j,none⟩=some v
theorem q12.st{W0 w:World}{own:Own}{g:Nat}{cs:List Value}(h:q12 W0 g cs)(hw:St W0 own w):q12 w g cs:=
 ⟨Y0 h.size hw.size,fun j v hv=>(World.cell?_of_block (w:=W0) (hw.base g h.size)).trans (h.cell j v hv)⟩
theorem q12.kn{W0:World}{own:Own}{g:Nat}{cs:List Value}(h:q12 W0 g cs){j:Nat}{v:Value}(hv:cs[j]? =some v):Kn W0 own (fun w=>w.cell? ⟨g,j,none⟩=some v):=fun _ hw=>(h.st hw).cell j v hv
theorem qie{W0:World}{own:Own}{g:Nat}{cs:List Value}(h:q12 W0 g cs){j:Nat}{K:Value→Prop}(v:Value)(hv:cs[j]? =some v)(hk:K v):Ld W0 own ⟨g,j,none⟩ K:=⟨v,h.kn hv,hk⟩
theorem q0s{W0:World}{own:Own}{g:Nat}{cs:List Value}(h:q12 W0 g cs){j n:Nat}{K:Array Value→Prop}(vs:List Value)(hv:(cs.drop j).take n=vs)(hl:vs.length=n)(hk:K vs.toArray):LdN W0 own ⟨g,j,none⟩ n K:=by
 refine⟨vs.toArray,by simpa using hl,fun w hw i hi=> ?_,hk⟩;rw[qO];have hi':i<vs.length:=Y6;refine(h.kn (own:=own) (v:=vs[i]) ?_ w hw).trans (by simp[hi']);subst hv;rw[z7];simp only[zU,ZJ] at hi';exact⟨Y6,by simp[List.getElem_take,List.getElem_drop]⟩
namespace Alu
open Go
theorem qkJ:FloatKind.f64.format=Ieee.double:=rfl
theorem sw:Ieee.double.signWeight=9223372036854775808:=Y7
theorem bn:Ieee.double.binade=4503599627370496:=Y7
theorem ir:Ieee.double.infRung=9218868437227405312:=Y7
def isN(x:Nat):Bool:=decide (9218868437227405312<x % 9223372036854775808)
theorem q9T(x:Nat):(Ieee.double.read x).isNaN=isN x:=by
 unfold Ieee.Format.read isN;simp only[sw,bn,ir]
 split
 ·simp only[Ieee.Datum.isNaN];symm;rw[decide_eq_false_iff_not];omega
 ·split
  ·simp only[Ieee.Datum.isNaN];symm;rw[decide_eq_false_iff_not];omega
  ·split
   ·simp only[Ieee.Datum.isNaN];symm;rw[decide_eq_false_iff_not];omega
   ·simp only[Ieee.Datum.isNaN];symm;rw[decide_eq_true_eq];omega
theorem qaC(d:Ieee.Datum):d.order d=if d.isNaN then none else some .eq:=by
 cases d with
 |nan=>rfl
 |infinity s=>simp[Ieee.Datum.order,Ieee.Datum.isNaN]
 |number s m i=>simp[Ieee.Datum.order,Ieee.Datum.isNaN]
theorem qaD(x:Nat):FloatKind.f64.format.order x x=if isN x then none else some .eq:=by
 rw[←q9T];exact qaC _
theorem qej(x:Nat):q56 .neq (FloatKind.f64.format.order x x)=isN x:=by
 rw[qaD];cases isN x <;>rfl
theorem qeQ{r:Nat}(h:qmh r):isN r=true:=by
 obtain⟨s,t,hs,ht,rfl⟩:=h;unfold isN;rw[decide_eq_true_eq];have h1:(2:Nat) ^ 63=9223372036854775808:=Y7;have h2:(2:Nat) ^ 52=4503599627370496:=Y7;rw[h2] at ht;rw[h1];omega
def okW(x:Int):Prop:=0≤x∧x≤18446744073709551615
def truthM(b:Bool):Int:=if b then 1 else 0
def nanW:Int:=9221120237041090560
def plainM(x:Nat):Int:=if isN x then nanW else x
theorem q3l(W0:World)(own:Own)(a:Nat):qE Tryz.prog W0 283 [.float .f64 a] own (.bool (isN a)):=by
 refine qg (sH [] ?_)
 repeat'((try(conv=>whnf));first|(refine q5z _ (qej _) ?_)|(exact Ent.refl)|(refine And.intro rfl ?_))
 all_goals exact⟨rfl,eB⟩
theorem q21(W0:World)(own:Own)(a:Nat):qE Tryz.prog W0 284 [.float .f64 a] own (.int .u64 (plainM a)):=by
 refine qg (sH [] ?_);cases hn:isN a
 ·have h1:∀own,qE Tryz.prog W0 283 [.float .f64 a] own (.bool false):=fun own=>by rw[←hn];exact q3l W0 own a
  repeat'((try(conv=>whnf));first|(apply qp (h1 _))|(refine q3u ?_))
  all_goals(refine⟨q0J (vi ?_),eB⟩;simp[plainM,hn])
 ·have h1:∀own,qE Tryz.prog W0 283 [.float .f64 a] own (.bool true):=fun own=>by rw[←hn];exact q3l W0 own a
  repeat'((try(conv=>whnf));first|(apply qp (h1 _))|(refine q2B ?_))
  all_goals(refine⟨q0J (vi ?_),eB⟩;simp[plainM,hn,nanW])
theorem qa8(W0:World)(own:Own)(b:Bool):qE Tryz.prog W0 285 [.bool b] own (.int .u64 (truthM b)):=by
 refine qg (sH [] ?_);cases b <;>(repeat'((try(conv=>whnf));first|(refine q2B ?_)|(refine q3u ?_));all_goals exact⟨rfl,eB⟩)
theorem qmY{k:IntKind}{m n:Int}{K:Int→Prop}(h0:0≤n)(h:K (k.wrap (m*2 ^ (min n.toNat k.bits)))):Shl k m n K:=⟨h0,h⟩
theorem qn0{k:IntKind}{m n:Int}{K:Int→Prop}(h0:0≤n)(h:K (m.fdiv (2 ^ (min n.toNat k.bits)))):Shr k m n K:=⟨h0,h⟩
def intsM(fn x y:Int):Int:=
 if fn=0 then IntKind.u64.wrap (x+y) else if fn=1 then IntKind.u64.wrap (x-y) else if fn=2 then IntKind.u64.wrap (x*y) else if fn=3 then qed .and .u64 x y else if fn=4 then qed .or .u64 x y
 else if fn=5 then qed .xor .u64 x y else if fn=6 then IntKind.u64.wrap (x*2 ^ (min (y % 64).toNat IntKind.u64.bits)) else if fn=7 then x.fdiv (2 ^ (min (y % 64).toNat IntKind.u64.bits))
 else if fn=8 then truthM (decide (x=y)) else if fn=9 then truthM (decide (x≠y)) else if fn=10 then truthM (decide (IntKind.i64.wrap x<IntKind.i64.wrap y)) else truthM (decide (x<y))
theorem qiS(W0:World)(own:Own)(fn x y:Int)(hf:0≤fn∧fn<12)(hy:okW y):qE Tryz.prog W0 210 [.int .i64 fn, .int .u64 x, .int .u64 y] own (.int .u64 (intsM fn x y)):=by
 unfold okW at hy;have hw:fn=0∨fn=1∨fn=2∨fn=3∨fn=4∨fn=5∨fn=6∨fn=7∨fn=8∨fn=9∨fn=10∨fn=11:=Y6;refine qg (sH [] ?_)
 rcases hw with rfl|rfl|rfl|rfl|rfl|rfl|rfl|rfl|rfl|rfl|rfl|rfl
 all_goals
  repeat'((try(conv=>whnf));first|(refine q2B ?_)|(refine q3u ?_)|(refine arw ?_)|(refine qmv ?_)|(refine qmY Y6 ?_)|(refine qn0 Y6 ?_)|(apply qp (qa8 _ _ _))|(refine q8A ?_ ?_;omega)|(exact Ent.refl)|(refine And.intro rfl ?_))
  all_goals exact⟨rfl,eB⟩
def fopM(op:BinOp)(a b:Nat):Int:=match floatBits op .f64 a b with|some r=>plainM r|none=>nanW
theorem q3b{r:Nat}(h:qmh r):plainM r=nanW:=by unfold plainM;rw[qeQ h];rfl
theorem qlq(W0:World)(own:Own)(a b:Nat):qE Tryz.prog W0 286 [.float .f64 a, .float .f64 b] own (.float .f64 (q4B true a b)):=by
 refine qg (sH [] ?_)
 repeat'((try(conv=>whnf));first|(refine q2B ?_)|(exact Ent.refl)|(refine And.intro rfl ?_))
 all_goals exact⟨rfl,eB⟩
theorem qlp(W0:World)(own:Own)(a b:Nat):qE Tryz.prog W0 287 [.float .f64 a, .float .f64 b] own (.float .f64 (q4B false a b)):=by
 refine qg (sH [] ?_)
 repeat'((try(conv=>whnf));first|(refine q2B ?_)|(exact Ent.refl)|(refine And.intro rfl ?_))
 all_goals exact⟨rfl,eB⟩
def floatsM(fn:Int)(a b:Nat):Int:=
 if fn=12 then fopM .add a b else if fn=13 then fopM .sub a b else if fn=14 then fopM .mul a b else if fn=15 then fopM .quo a b
 else if fn=16 then(if isN a||isN b then nanW else plainM (q4B true a b)) else if fn=17 then(if isN a||isN b then nanW else plainM (q4B false a b))
 else if fn=18 then truthM (q56 .eql (FloatKind.f64.format.order a b)) else truthM (q56 .lss (FloatKind.f64.format.order a b))
theorem qd0(W0:World)(own:Own)(fn:Int)(a b:Nat)(hf:12≤fn∧fn<20):qE Tryz.prog W0 209 [.int .i64 fn, .float .f64 a, .float .f64 b] own (.int .u64 (floatsM fn a b)):=by
 have hA:=fun own=>q3l W0 own a
 have hB:=fun own=>q3l W0 own b
 generalize e1:isN a=na at hA;generalize e2:isN b=nb at hB;refine qg (sH [] ?_);have hw:fn=12∨fn=13∨fn=14∨fn=15∨fn=16∨fn=17∨fn=18∨fn=19:=Y6
 rcases hw with rfl|rfl|rfl|rfl|rfl|rfl|rfl|rfl
 case inl=>
  cases hfb:floatBits .add .f64 a b <;>cases na <;>cases nb
  all_goals
   repeat'((try(conv=>whnf));first|(refine qQ ?_)|(refine q0g ?_)|(refine q2B ?_)|(refine qez _ hfb ?_)|(refine qey hfb (fun r hr=> ?_))|(apply qp (hA _))|(apply qp (hB _))|(apply qp (q21 _ _ _)))
   all_goals(refine⟨q0J (vi ?_),eB⟩;simp[floatsM,fopM,hfb];try exact q3b (by assumption))
 case inr.inl=>
  cases hfb:floatBits .sub .f64 a b <;>cases na <;>cases nb
  all_goals
   repeat'((try(conv=>whnf));first|(refine qQ ?_)|(refine q0g ?_)|(refine q2B ?_)|(refine q3u ?_)|(refine qez _ hfb ?_)|(refine qey hfb (fun r hr=> ?_))|(apply qp (hA _))|(apply qp (hB _))|(apply qp (q21 _ _ _)))
   all_goals(refine⟨q0J (vi ?_),eB⟩;simp[floatsM,fopM,hfb];try exact q3b (by assumption))
 case inr.inr.inl=>
  cases hfb:floatBits .mul .f64 a b <;>cases na <;>cases nb
  all_goals
   repeat'((try(conv=>whnf));first|(refine qQ ?_)|(refine q0g ?_)|(refine q2B ?_)|(refine q3u ?_)|(refine qez _ hfb ?_)|(refine qey hfb (fun r hr=> ?_))|(apply qp (hA _))|(apply qp (hB _))|(apply qp (q21 _ _ _)))
   all_goals(refine⟨q0J (vi ?_),eB⟩;simp[floatsM,fopM,hfb];try exact q3b (by assumption))
 case inr.inr.inr.inl=>
  cases hfb:floatBits .quo .f64 a b <;>cases na <;>cases nb
  all_goals
   repeat'((try(conv=>whnf));first|(refine qQ ?_)|(refine q0g ?_)|(refine q2B ?_)|(refine q3u ?_)|(refine qez _ hfb ?_)|(refine qey hfb (fun r hr=> ?_))|(apply qp (hA _))|(apply qp (hB _))|(apply qp (q21 _ _ _)))
   all_goals(refine⟨q0J (vi ?_),eB⟩;simp[floatsM,fopM,hfb];try exact q3b (by assumption))
 all_goals
  cases na <;>cases nb
  all_goals
   repeat'((try(conv=>whnf));first|(refine qQ ?_)|(refine q0g ?_)|(refine q2B ?_)|(refine q3u ?_)|(refine qkK ?_)|(apply qp (hA _))|(apply qp (hB _))|(apply qp (q21 _ _ _))|(apply qp (qa8 _ _ _))|(apply qp (qlq _ _ _ _))|(apply qp (qlp _ _ _ _))|(exact Ent.refl)|(refine And.intro rfl ?_))
   all_goals(refine⟨q0J (vi ?_),eB⟩;simp[floatsM,e1,e2,nanW])
def qmf:Nat:=4890909195324358656
def qme:Nat:=14114281232179134464
theorem qf5:Ieee.double.read qmf= .number false 4503599627370496 11:=Y7
theorem qcz:Ieee.double.read qme= .number true 4503599627370496 11:=Y7
theorem q9f(s:Bool)(n drop:Nat):Ieee.Toward.zero.cut s n drop=n/2 ^ (min drop (n.log2+2)):=by
 simp[Ieee.Toward.cut,Nat.shiftLeft_eq]
theorem qkd{s:Bool}{n drop j:Nat}(h:n<2 ^ (drop+j)):Ieee.Toward.zero.cut s n drop<2 ^ j:=by
 rw[q9f]
 by_cases hd:drop≤n.log2+2
 ·rw[yS hd];refine(Nat.div_lt_iff_lt_mul (Nat.two_pow_pos _)).2 ?_;rw[←ZZ,yC j drop];exact h
 ·rw[Nat.min_eq_right Y6];have h1:n<2 ^ (n.log2+2):=Y0 Nat.lt_log2_self (Nat.pow_le_pow_right Y6 Y6);rw[Nat.div_eq_of_lt h1];exact Nat.two_pow_pos _
theorem qkc{s:Bool}{n drop j:Nat}(h:n≤2 ^ (drop+j)):Ieee.Toward.zero.cut s n drop≤2 ^ j:=by
 rw[q9f]
 by_cases hd:drop≤n.log2+2
 ·rw[yS hd];refine Nat.div_le_of_le_mul ?_;rw[←ZZ];exact h
 ·rw[Nat.min_eq_right Y6];have h1:n<2 ^ (n.log2+2):=Y0 Nat.lt_log2_self (Nat.pow_le_pow_right Y6 Y6);rw[Nat.div_eq_of_lt h1];exact zq _
theorem qcH{s:Bool}{m:Nat}{e:Int}(h:m<<<(e-min e 11).toNat<4503599627370496<<<(11-min e 11).toNat):Ieee.Toward.zero.cut s (m<<<e.toNat) (-e).toNat<9223372036854775808:=by
 have hp:(9223372036854775808:Nat)=2 ^ 63:=Y7;have h52:(4503599627370496:Nat)=2 ^ 52:=Y7;rw[hp];refine qkd ?_;rw[h52,ZP,ZP,←ZZ] at h;rw[ZP]
 by_cases h11:11≤e
 ·have e1:min e 11=11:=Y6;rw[e1] at h;have e2:(-e).toNat=0:=Y6;have e3:e.toNat=(e-11).toNat+11:=Y6;rw[e2,e3,ZZ,←Nat.mul_assoc];have:=Nat.mul_lt_mul_of_pos_right h (show 0<2 ^ 11 by decide);rw[←ZZ] at this
  simpa using this
 ·have e1:min e 11=e:=Y6;rw[e1] at h;have e0:(e-e).toNat=0:=Y6;rw[e0,Nat.pow_zero,yl] at h
  by_cases hneg:e<0
  ·have e2:e.toNat=0:=Y6;rw[e2,Nat.pow_zero,yl];have e3:(-e).toNat+63=52+(11-e).toNat:=Y6;rw[e3];exact h
  ·have e2:(-e).toNat=0:=Y6;have e3:0+63=52+(11-e).toNat+e.toNat:=Y6;rw[e2,e3,ZZ _ _ e.toNat];exact Nat.mul_lt_mul_of_pos_right h (Nat.two_pow_pos _)
theorem qaH{s:Bool}{m:Nat}{e:Int}(h:m<<<(e-min e 11).toNat≤4503599627370496<<<(11-min e 11).toNat):Ieee.Toward.zero.cut s (m<<<e.toNat) (-e).toNat≤9223372036854775808:=by
 have hp:(9223372036854775808:Nat)=2 ^ 63:=Y7;have h52:(4503599627370496:Nat)=2 ^ 52:=Y7;rw[hp];refine qkc ?_;rw[h52,ZP,ZP,←ZZ] at h;rw[ZP]
 by_cases h11:11≤e
 ·have e1:min e 11=11:=Y6;rw[e1] at h;have e2:(-e).toNat=0:=Y6;have e3:e.toNat=(e-11).toNat+11:=Y6;rw[e2,e3,ZZ,←Nat.mul_assoc];have:=ZK (2 ^ 11) h;rw[←ZZ] at this
  simpa using this
 ·have e1:min e 11=e:=Y6;rw[e1] at h;have e0:(e-e).toNat=0:=Y6;rw[e0,Nat.pow_zero,yl] at h
  by_cases hneg:e<0
  ·have e2:e.toNat=0:=Y6;rw[e2,Nat.pow_zero,yl];have e3:(-e).toNat+63=52+(11-e).toNat:=Y6;rw[e3];exact h
  ·have e2:(-e).toNat=0:=Y6;have e3:0+63=52+(11-e).toNat+e.toNat:=Y6;rw[e2,e3,ZZ _ _ e.toNat];exact ZK _ h
theorem qes{b:Nat}(hn:isN b=false)(h1:q56 .geq (FloatKind.f64.format.order b qmf)=false)(h2:q56 .lss (FloatKind.f64.format.order b qme)=false):∃n,floatToIntVal .f64 b .i64=some n:=by
 rw[←q9T] at hn;unfold floatToIntVal FloatKind.decode;rw[qkJ] at*;unfold Ieee.Format.order at h1 h2;rw[qf5] at h1;rw[qcz] at h2;generalize Ieee.double.read b=d at*;cases d with
 |nan=>simp[Ieee.Datum.isNaN] at hn
 |infinity s=>cases s <;>simp[Ieee.Datum.order,q56] at h1 h2
 |number s m e=>
  simp only[Ieee.Datum.order,q56] at h1 h2;simp only[Ieee.Datum.toInt,Ieee.Datum.integral];have hmin:IntKind.i64.min= -9223372036854775808:=rfl;have hmax:IntKind.i64.max=9223372036854775807:=rfl;have hin:IntKind.i64.min≤Ieee.signed s (Ieee.Toward.zero.cut s (m<<<e.toNat) (-e).toNat) 0∧Ieee.signed s (Ieee.Toward.zero.cut s (m<<<e.toNat) (-e).toNat) 0≤IntKind.i64.max:=by
   rw[hmin,hmax];cases s with
   |false=>
    have hlt:m<<<(e-min e 11).toNat<4503599627370496<<<(11-min e 11).toNat:=by
     rcases yn (m<<<(e-min e 11).toNat) (4503599627370496<<<(11-min e 11).toNat) with h|h
     ·exact h
     ·exfalso;have hc:compare (Ieee.signed false m (e-min e 11).toNat) (Ieee.signed false 4503599627370496 (11-min e 11).toNat)≠ .lt:=by
       simp only[Ieee.signed,zO,if_false,ne_eq,Int.compare_eq_lt];omega
      revert h1 hc
      generalize compare (Ieee.signed false m (e-min e 11).toNat) (Ieee.signed false 4503599627370496 (11-min e 11).toNat)=c;cases c <;>simp
    have:=qcH (s:=false) hlt;simp only[Ieee.signed,zO,if_false,Nat.shiftLeft_zero];omega
   |true=>
    have hle:m<<<(e-min e 11).toNat≤4503599627370496<<<(11-min e 11).toNat:=by
     rcases yn (4503599627370496<<<(11-min e 11).toNat) (m<<<(e-min e 11).toNat) with h|h
     ·exfalso;have hc:compare (Ieee.signed true m (e-min e 11).toNat) (Ieee.signed true 4503599627370496 (11-min e 11).toNat)= .lt:=by
       simp only[Ieee.signed,if_true,Int.compare_eq_lt];omega
      rw[hc] at h2;simp at h2
     ·exact h
    have:=qaH (s:=true) hle;simp only[Ieee.signed,if_true,Nat.shiftLeft_zero];omega
  exact⟨_,if_pos hin⟩
def q5S(b:Nat):Int:=
 if isN b then 0 else if q56 .geq (FloatKind.f64.format.order b qmf) then 9223372036854775807 else if q56 .lss (FloatKind.f64.format.order b qme) then-9223372036854775808 else(floatToIntVal .f64 b .i64).getD 0
theorem qg3(W0:World)(own:Own)(a:Nat):qE Tryz.prog W0 207 [.float .f64 a] own (.int .i64 (q5S a)):=by
 have hA:=fun own=>q3l W0 own a
 refine qg (sH [] ?_);cases hn:isN a <;>rw[hn] at hA
 ·cases h1:q56 .geq (FloatKind.f64.format.order a qmf)
  ·cases h2:q56 .lss (FloatKind.f64.format.order a qme)
   ·obtain⟨n,he⟩:=qes hn h1 h2
    repeat'((try(conv=>whnf));first|(refine q3u ?_)|(apply qp (hA _))|(refine q5z _ h1 ?_)|(refine q5z _ h2 ?_)|(refine qmB _ he ?_))
    all_goals(refine⟨q0J (vi ?_),eB⟩;simp[q5S,hn,h1,h2,he])
   ·repeat'((try(conv=>whnf));first|(refine q2B ?_)|(refine q3u ?_)|(apply qp (hA _))|(refine q5z _ h1 ?_)|(refine q5z _ h2 ?_))
    all_goals(refine⟨q0J (vi ?_),eB⟩;simp[q5S,hn,h1,h2])
  ·repeat'((try(conv=>whnf));first|(refine q2B ?_)|(refine q3u ?_)|(apply qp (hA _))|(refine q5z _ h1 ?_))
   all_goals(refine⟨q0J (vi ?_),eB⟩;simp[q5S,hn,h1])
 ·repeat'((try(conv=>whnf));first|(refine q2B ?_)|(apply qp (hA _)))
  all_goals(refine⟨q0J (vi ?_),eB⟩;simp[q5S,hn])
def applyW(fn x y:Int):Int:=
 if 0≤fn∧fn<22 then
  if fn=20 then(FloatKind.f64.nearest (IntKind.i64.wrap x):Int) else if fn=21 then IntKind.u64.wrap (q5S x.toNat) else if 12≤fn then floatsM fn x.toNat y.toNat else intsM fn x y
 else 0
def q5p(fn:Int):Int:=if 0≤fn∧fn<22 then 0 else 10
theorem sp_apply(W0:World)(own:Own)(fn x y:Int)(hy:okW y):
  qE Tryz.prog W0 139 [.int .i64 fn, .int .u64 x, .int .u64 y] own (.tuple #[.int .u64 (applyW fn x y), .int .i64 (q5p fn)]):=by
 refine qg (sH [] ?_)
 by_cases h:0≤fn∧fn<22
 ·by_cases h20:fn=20
  ·subst h20
   repeat'((try(conv=>whnf));first|(refine qQ ?_)|(refine q2B ?_)|(refine q3u ?_)|(refine arw ?_))
   all_goals(refine⟨qf7 (vi ?_) (vi ?_),eB⟩ <;>simp[applyW,q5p])
  ·by_cases h21:fn=21
   ·subst h21
    repeat'((try(conv=>whnf));first|(refine qQ ?_)|(refine q2B ?_)|(refine q3u ?_)|(apply qp (qg3 _ _ _))|(refine arw ?_))
    all_goals(refine⟨qf7 (vi ?_) (vi ?_),eB⟩ <;>simp[applyW,q5p])
   ·by_cases h12:12≤fn
    ·repeat'((try(conv=>whnf));first|(refine qQ ?_)|(refine q14 Y6 ?_)|(refine q1H Y6 ?_)|(refine q2W Y6 ?_)|(apply qp (qd0 _ _ fn _ _ Y6)))
     all_goals(refine⟨qf7 (vi ?_) (vi ?_),eB⟩ <;>simp[applyW,q5p,h,h20,h21,h12])
    ·repeat'((try(conv=>whnf));first|(refine qQ ?_)|(refine q1H Y6 ?_)|(refine q2W Y6 ?_)|(apply qp (qiS _ _ fn _ _ Y6 hy)))
     all_goals(refine⟨qf7 (vi ?_) (vi ?_),eB⟩ <;>simp[applyW,q5p,h,h20,h21,h12])
 ·repeat'((try(conv=>whnf));first|(refine qQ ?_)|(refine q0g ?_)|(refine q2B ?_)|(refine q14 Y6 ?_)|(refine q1p (fun hc=> ?_) (fun hc=> ?_)))
  all_goals first|(exfalso;omega)|(refine⟨qf7 (vi ?_) (vi ?_),eB⟩ <;>simp[applyW,q5p,h])
theorem fb_lt{op:BinOp}{a b r:Nat}(h:floatBits op .f64 a b=some r):r<18446744073709551616:=by
 have:=floatBits_wf h
 simpa [Lit.wf] using this
end Alu
open Go
structure Ins where
 op:Int
 a:Int
 b:Int
 c:Int
 imm:Int
abbrev Ins.enc(i:Ins):List Value:= [.int .i64 i.op, .int .i64 i.a, .int .i64 i.b, .int .i64 i.c, .int .i64 i.imm]
abbrev Ins.v(i:Ins):Value:= .agg #[.int .i64 i.op, .int .i64 i.a, .int .i64 i.b, .int .i64 i.c, .int .i64 i.imm]
def has(s:ByteArray)(c:Int):Bool:=decide (0≤qe1 s c)
theorem qb6(c:UInt8):(⟨#[c]⟩:ByteArray).size=1:=rfl
theorem qfs(W0:World)(own:Own)(s:ByteArray)(c:Int):qE Tryz.prog W0 310 [.string s, .int .u8 c] own (.int .i64 (qe1 s c)):=by
 refine qg (sH [] ?_)
 repeat'((try(conv=>whnf));first|(exact Ent.refl)|(refine And.intro rfl ?_))
 all_goals exact⟨rfl,eB⟩
theorem qn1{c:UInt8}{K:Value→Prop}(h:K (.int .u8 c.toNat)):qni ⟨#[c]⟩ 0 K:=⟨0,c,rfl,rfl,h⟩
theorem qeH(c:UInt8):qe1 ⟨#[c]⟩ c.toNat=0:=by
 unfold qe1;have e:((c.toNat:Int).toNat.toUInt8)=c:=Y8;have h0:((⟨#[c]⟩:ByteArray)[0]!)=c:=rfl;have hf:(List.range (⟨#[c]⟩:ByteArray).size).find? (fun i=>(⟨#[c]⟩:ByteArray)[i]! ==(c.toNat:Int).toNat.toUInt8)=some 0:=by
  show(List.range 1).find? _=some 0;simp only[ZX,List.range_zero,zi,List.find?_cons,h0,e,beq_self_eq_true]
 rw[hf];rfl
theorem qdm(W0:World)(own:Own)(s:ByteArray)(c:UInt8):qE Tryz.prog W0 304 [.string s, .string ⟨#[c]⟩] own (.int .i64 (qe1 s c.toNat)):=by
 refine qg (sH [] ?_)
 by_cases hs:(⟨#[c]⟩:ByteArray).toList=s.toList
 ·have e:s=⟨#[c]⟩:=by
   rw[ByteArray.toList_eq,ByteArray.toList_eq] at hs;have:=Zx.1 hs;cases s;simp at this;rw[←this]
  subst e
  repeat'((try(conv=>whnf));first|(refine q14 ?_ ?_;(solve|simp|(simp;omega)))|(refine qQ ?_))
  all_goals(refine⟨q0J (vi ?_),eB⟩;first|rfl|exact(qeH c).symm)
 ·repeat'((try(conv=>whnf));first|(refine q1H hs ?_)|(refine qn1 ?_)|(apply qp (qfs _ _ s c.toNat))|(refine qQ ?_)|(refine q2B ?_)|(exact Ent.refl)|(refine And.intro rfl ?_))
  all_goals exact⟨rfl,eB⟩
theorem q6A(W0:World)(own:Own)(s:ByteArray)(c:UInt8):qE Tryz.prog W0 289 [.string s, .string ⟨#[c]⟩] own (.int .i64 (qe1 s c.toNat)):=by
 refine qg (sH [] ?_)
 repeat'((try(conv=>whnf));first|(apply qp (qdm _ _ s c))|(exact Ent.refl)|(refine And.intro rfl ?_))
 all_goals exact⟨rfl,eB⟩
theorem q2T(W0:World)(own:Own)(s:ByteArray)(c:UInt8):qE Tryz.prog W0 217 [.string s, .string ⟨#[c]⟩] own (.bool (has s c.toNat)):=by
 refine qg (sH [] ?_)
 repeat'((try(conv=>whnf));first|(apply qp (q6A _ _ s c))|(exact Ent.refl)|(refine And.intro rfl ?_))
 all_goals exact⟨rfl,eB⟩
def qlX(op:Int):Bool:=op==1||op==2||op==3||op==5||op==6||op==10||op==11||op==12||op==13||op==14||op==15||op==17
def qlY(op:Int):Bool:=op==2||op==3||op==10||op==11||op==12||op==13
def qlZ(op:Int):Bool:=op==3
def q42(u:Bool)(r:Int):Prop:=if u then 0≤r∧r<8 else r=0
instance(u:Bool)(r:Int):Decidable (q42 u r):=by unfold q42;infer_instance
def q5g(op imm:Int):Prop:=
 if op=1∨op=10∨op=11∨op=12∨op=13 then True else if op=3 then 0≤imm∧imm<22 else if op=4∨op=5∨op=6 then 0≤imm∧imm≤64 else if op=7 then 1≤imm∧imm≤8 else if op=14 then 0≤imm∧imm<4 else imm=0
instance(op imm:Int):Decidable (q5g op imm):=by unfold q5g;infer_instance
def qS(i:Ins):Int:=
 if i.op<0∨18≤i.op then 10 else if q42 (qlX i.op) i.a∧q42 (qlY i.op) i.b∧q42 (qlZ i.op) i.c then(if q5g i.op i.imm then 0 else 11) else 11
def qkP:List Value:= [.string ⟨#[110,111,112]⟩, .string ⟨#[]⟩, .string ⟨#[99,111,110,115,116]⟩, .string ⟨#[65,73]⟩, .string ⟨#[109,111,118,101]⟩, .string ⟨#[65,66]⟩, .string ⟨#[]⟩, .string ⟨#[65,66,67]⟩, .string ⟨#[106,117,109,112]⟩, .string ⟨#[73]⟩,
 .string ⟨#[122,101,114,111]⟩, .string ⟨#[65,73]⟩, .string ⟨#[110,111,110,122,101,114,111]⟩, .string ⟨#[65,73]⟩, .string ⟨#[98,101,103,105,110]⟩, .string ⟨#[73]⟩, .string ⟨#[99,111,109,109,105,116]⟩, .string ⟨#[]⟩, .string ⟨#[97,98,111,114,116]⟩, .string ⟨#[]⟩,
 .string ⟨#[116,114,101,97,100]⟩, .string ⟨#[65,66,73]⟩, .string ⟨#[116,119,114,105,116,101]⟩, .string ⟨#[65,66,73]⟩, .string ⟨#[112,114,101,97,100]⟩, .string ⟨#[65,66,73]⟩, .string ⟨#[112,119,114,105,116,101]⟩, .string ⟨#[65,66,73]⟩,
 .string ⟨#[97,108,108,111,99]⟩, .string ⟨#[65,73]⟩, .string ⟨#[102,114,101,101]⟩, .string ⟨#[65]⟩, .string ⟨#[102,101,110,99,101]⟩, .string ⟨#[]⟩, .string ⟨#[111,117,116,99,111,109,101]⟩, .string ⟨#[65]⟩]
def qC(W0:World):Prop:=q12 W0 1 qkP
theorem qjq{s:ByteArray}{lo hi:Option Int}{K:Value→Prop}(l r:Nat)(t:ByteArray)(h1:lo.getD 0=l)(h2:hi.getD s.size=r)(hlr:Nat.ble l r=true)(hrs:Nat.ble r s.size=true)(ht:s.extract l r=t)(h:K (.string t)):qnj s lo hi K:=
 ⟨l,r,h1,h2,by simpa using hlr,by simpa using hrs,by rw[ht];exact h⟩
theorem qhQ:(⟨#[65,66,67]⟩:ByteArray).extract 0 1=⟨#[65]⟩:=by decide+kernel
theorem qhR:(⟨#[65,66,67]⟩:ByteArray).extract 1 2=⟨#[66]⟩:=by decide+kernel
theorem qhS:(⟨#[65,66,67]⟩:ByteArray).extract 2 3=⟨#[67]⟩:=by decide+kernel
theorem qh4{W0:World}{own:Own}{s:ByteArray}{c:UInt8}{K:Value→Prop}(b:Bool)(hb:has s c.toNat=b)(h:K (.bool b)):q59 Tryz.prog W0 own 217 [.string s, .string ⟨#[c]⟩] K:=
 q5v (fun _=>q2T _ _ s c) (by rw[hb];exact h)
theorem qdf(W0:World)(own:Own)(i:Ins):qE Tryz.prog W0 218 [i.v] own (.bool (decide (q5g i.op i.imm))):=by
 refine qg (sH [] ?_)
 repeat'((try(conv=>whnf));first|(refine qQ ?_)|(refine q2V ?_)|(refine q14 Y6 ?_)|(apply q0b;(exact eM);exact rfl)|(refine qf (fun bk hbk=> ?_))|(refine q6L (fun hc=> ?_) (fun hc=> ?_))|(refine q54 (fun hc=> ?_) (fun hc=> ?_)))
 all_goals(refine⟨q0J (vb ?_),eB⟩)
 all_goals first|(refine dd ?_;unfold q5g;(repeat' split) <;>omega)|(refine dt ?_;unfold q5g;(repeat' split) <;>first|exact True.intro|omega)|(refine df ?_;unfold q5g;(repeat' split) <;>omega)
theorem qaQ(W0:World)(own:Own)(hF:qC W0)(op a b c imm:Int)(I:Bool)(hn:∀own,qE Tryz.prog W0 218 [.agg #[.int .i64 op, .int .i64 a, .int .i64 b, .int .i64 c, .int .i64 imm]] own (.bool I)):
  qE Tryz.prog W0 154 [.agg #[.int .i64 op, .int .i64 a, .int .i64 b, .int .i64 c, .int .i64 imm]] own (.int .i64 (if op<0∨18≤op then 10 else if q42 (qlX op) a∧q42 (qlY op) b∧q42 (qlZ op) c then(if I then 0 else 11) else 11)):=by
 refine qg (sH [3,5,7,9,11,13,15,17,19,21,23,0] ?_)
 by_cases hop:op<0∨18≤op
 ·rw[if_pos hop]
  repeat'((try(conv=>whnf));first|(refine qQ ?_)|(refine q0g ?_)|(refine q2B ?_)|(refine q14 Y6 ?_)|(apply q0b;(exact eM);exact rfl)|(refine qf (fun bk hbk=> ?_))|(refine q1p (fun hc=> ?_) (fun hc=> ?_))|(exact Ent.refl)|(refine Ent.cons ?_)|(refine And.intro rfl ?_))
  all_goals first|exact⟨rfl,eB⟩|(exfalso;omega)
 ·rw[if_neg hop];have hw:op=0∨op=1∨op=2∨op=3∨op=4∨op=5∨op=6∨op=7∨op=8∨op=9∨op=10∨op=11∨op=12∨op=13∨op=14∨op=15∨op=16∨op=17:=Y6;cases I <;>rcases hw with rfl|rfl|rfl|rfl|rfl|rfl|rfl|rfl|rfl|rfl|rfl|rfl|rfl|rfl|rfl|rfl|rfl|rfl
  all_goals
   repeat'((try(conv=>whnf));first|(refine qQ ?_)|(refine q2V ?_)|(refine q0g ?_)|(refine q2B ?_)|(refine q3u ?_)|(refine q1P 4 ?_)|(refine qie hF _ rfl ?_)|(refine qjq 0 1 _ rfl rfl rfl rfl qhQ ?_)|(refine qjq 1 2 _ rfl rfl rfl rfl qhR ?_)|(refine qjq 2 3 _ rfl rfl rfl rfl qhS ?_)|(refine qh4 true rfl ?_)|(refine qh4 false rfl ?_)|(apply qp (hn _))|(refine fB ?_)|(refine fO ?_)|(refine ix0 rfl ?_)|(refine ix1 rfl ?_)|(refine ix2 rfl ?_)|(refine ix3 rfl ?_)|(refine ix4 rfl ?_)|(refine fP ?_)|(apply q0b;(exact eM);exact rfl)|(apply q0e;(exact eM);exact rfl)|(refine qf (fun bk hbk=> ?_))|(refine q1p (fun hc=> ?_) (fun hc=> ?_))|(refine q54 (fun hc=> ?_) (fun hc=> ?_)))
   all_goals(refine⟨q0J (vi ?_),eB⟩;simp[q42,qlX,qlY,qlZ];try omega)
theorem q4Q(W0:World)(own:Own)(hF:qC W0)(i:Ins):qE Tryz.prog W0 154 [i.v] own (.int .i64 (qS i)):=by
 have h:=qaQ W0 own hF i.op i.a i.b i.c i.imm _ (fun own=>qdf W0 own i);simp only[decide_eq_true_eq] at h;exact h
def q1M(i:Ins):Int:=
 if qS i=0 then(if i.op=8∨i.op=9∨i.op=10∨i.op=11∨i.op=14∨i.op=15 then 1 else if i.op=7∨i.op=12∨i.op=13∨i.op=16∨i.op=17 then 2 else 0) else 0
def q1z(i:Ins):Bool:=decide (qS i=0∧(i.op=4∨i.op=5∨i.op=6))
def qax(i:Ins):Int:=if q1z i then i.imm else 0
theorem qd5(W0:World)(own:Own)(hF:qC W0)(i:Ins):qE Tryz.prog W0 155 [i.v] own (.int .i64 (q1M i)):=by
 refine qg (sH [] ?_);have hc:=fun own=>q4Q W0 own hF i
 unfold q1M;generalize qS i=z at*
 repeat'((try(conv=>whnf));first|(refine q14 Y6 ?_)|(apply qp (hc _))|(apply q0b;(exact eM);exact rfl)|(apply q0e;(exact eM);exact rfl)|(refine qf (fun bk hbk=> ?_))|(refine q54 (fun hc=> ?_) (fun hc=> ?_)))
 all_goals(refine⟨q0J (vi ?_),eB⟩;(repeat' split) <;>first|rfl|omega)
theorem qd6(W0:World)(own:Own)(hF:qC W0)(i:Ins):qE Tryz.prog W0 219 [i.v] own (.tuple #[.int .i64 (qax i), .bool (q1z i)]):=by
 refine qg (sH [] ?_);have hc:=fun own=>q4Q W0 own hF i
 unfold qax q1z;generalize qS i=z at*
 repeat'((try(conv=>whnf));first|(refine q14 Y6 ?_)|(apply qp (hc _))|(apply q0b;(exact eM);exact rfl)|(apply q0e;(exact eM);exact rfl)|(refine qf (fun bk hbk=> ?_))|(refine q54 (fun hc=> ?_) (fun hc=> ?_)))
 all_goals(refine⟨qf7 (vi ?_) (vb ?_),eB⟩)
 all_goals first|rfl|(simp;done)|(simp[*];done)|(simp;omega)|(symm;simp;omega)
open Go Go.RowKit
def q1k:List Ins→Nat→Nat
 | [],k=>k
 |x::l,k=>if x.op=8 then k else q1k l (k+1)
def q0t(p:List Ins)(b:Nat):Nat:=q1k (p.drop (b+1)) (b+1)
def q1L(len:Nat):List Ins→Nat→Nat→Bool
 | [],_,_=>false
 |x::l,j,t=>decide (j<t∧x.op=7∧t≤q1k l (j+1)∧t+1≤len)||q1L len l (j+1) t
def q19(len t:Nat):List Ins→Nat→Int→Int×Int
 | [],_,b=>if 0≤b∧b≤t∧t<len then(b,len) else(-1, -1)
 |x::l,k,b=>if b<0∧x.op=7 then q19 len t l (k+1) k else if 0≤b∧x.op=8 then(if b≤t∧t≤k then(b,k) else q19 len t l (k+1) (-1)) else q19 len t l (k+1) b
def qjN(p:List Ins)(t:Nat):Int×Int:=q19 p.length t p 0 (-1)
def q0f(p:List Ins)(k:Nat)(b:Int)(x:Ins):Int:=
 if q1z x then(if(p.length:Int)<k+1+x.imm then 42 else if 0≤b then(if(q0t p b.toNat:Int)<k+1+x.imm then 42 else 0) else(if q1L p.length (p.drop (k+1)) (k+1) (k+1+x.imm.toNat) then 42 else 0)) else 0
def q1Z(p:List Ins)(k t:Nat):Bool:=
 if p.length<t then false else if 0≤(qjN p k).1 then decide ((t:Int)≤(qjN p k).2) else decide ((qjN p t).1<0∨(qjN p t).1=t)
def q3d(p:List Ins)(k:Nat)(x:Ins):Int:=if q1z x then(if q1Z p k (k+1+x.imm.toNat) then 0 else 42) else 0
def q7P(tgt:Int)(b:Int)(x:Ins):Int:=
 if qS x≠0 then qS x else if(x.op=7∧0≤b)∨(x.op=8∧b<0) then 40 else if(q1M x=1∧b<0)∨(q1M x=2∧0≤b) then 41 else tgt
def q18(x:Ins)(k:Nat)(b:Int):Int:=if x.op=7 then k else if x.op=8 then-1 else b
def q0i(tgt:Nat→Int→Ins→Int):List Ins→Nat→Int→Int×Int
 | [],_,b=>if 0≤b then(b,43) else(0,0)
 |x::l,k,b=>if q7P (tgt k b x) b x≠0 then(k,q7P (tgt k b x) b x) else q0i tgt l (k+1) (q18 x k b)
def qw(p:List Ins):Int×Int:=if 64<p.length then(0,3) else q0i (q0f p) p 0 (-1)
def qbx(p:List Ins):Int×Int:=if 64<p.length then(0,3) else q0i (fun k _ x=>q3d p k x) p 0 (-1)
theorem q2P:∀(l:List Ins) (k:Nat),k≤q1k l k∧q1k l k≤k+l.length
 | [],k=>by simp[q1k]
 |x::l,k=>by
  unfold q1k;have:=q2P l (k+1);simp only[zG]
  split <;>omega
theorem q48(len:Nat):∀(l:List Ins) (j t:Nat),t≤j→q1L len l j t=false
 | [],_,_,_=>rfl
 |x::l,j,t,h=>by
  unfold q1L;rw[q48 len l (j+1) t Y6,Bool.or_false,decide_eq_false_iff_not];omega
theorem q2o(len t:Nat):∀(l:List Ins) (j:Nat) (b:Int),(b<0∧t<j)∨((t:Int)<b∧t<j)→(q19 len t l j b).1<0
 | [],j,b,h=>by
  unfold q19;rw[if_neg Y6]
  decide
 |x::l,j,b,h=>by
  unfold q19
  split
  ·exact q2o len t l (j+1) j (.inr ⟨Y6,Y6⟩)
  ·split
   ·rw[if_neg Y6];exact q2o len t l (j+1) (-1) (.inl ⟨Y6,Y6⟩)
   ·exact q2o len t l (j+1) b Y6
theorem qaa(len t:Nat):∀(l:List Ins) (j:Nat),t<j→len=j+l.length→q19 len t l j t=((t:Int),(q1k l j:Int))
 | [],j,h,hl=>by
  simp only[zM,Zy] at hl;unfold q19 q1k;rw[if_pos Y6,hl]
 |x::l,j,h,hl=>by
  simp only[zG] at hl;unfold q19 q1k;rw[if_neg Y6]
  split
  ·rename_i h8;rw[if_pos Y6,if_pos h8.2]
  ·rename_i h8;rw[if_neg Y6];exact qaa len t l (j+1) Y6 Y6
theorem qab(len t:Nat):∀(l:List Ins) (j:Nat) (b:Int),0≤b→b≤t→t<j→len=j+l.length→q19 len t l j b=(b,(q1k l j:Int))
 | [],j,b,h0,h1,h,hl=>by
  simp only[zM,Zy] at hl;unfold q19 q1k;rw[if_pos Y6,hl]
 |x::l,j,b,h0,h1,h,hl=>by
  simp only[zG] at hl;unfold q19 q1k;rw[if_neg Y6]
  split
  ·rename_i h8;rw[if_pos Y6,if_pos h8.2]
  ·rename_i h8;rw[if_neg Y6];exact qab len t l (j+1) b h0 h1 Y6 Y6
mutual
theorem q6B(len t:Nat):∀(l:List Ins) (j:Nat),len=j+l.length→t≤len→(((q19 len t l j (-1)).1<0∨(q19 len t l j (-1)).1=t)↔q1L len l j t=false)
 | [],j,_,_=>by
  unfold q19 q1L;simp
 |x::l,j,hl,ht=>by
  simp only[zG] at hl;unfold q19 q1L
  by_cases h7:x.op=7
  ·rw[if_pos ⟨Y6,h7⟩]
   by_cases hjt:j<t
   ·rw[q7G len t l (j+1) j hjt Y6 ht];rw[yQ,decide_eq_false_iff_not];constructor
    ·intro h;exact⟨Y6,h.2⟩
    ·intro h;exact⟨Y6,h.2⟩
   ·rw[q48 len l (j+1) t Y6]
    by_cases hjt2:j=t
    ·subst hjt2;rw[qaa len j l (j+1) Y6 Y6];simp
    ·have:=q2o len t l (j+1) j (.inr ⟨Y6,Y6⟩);simp[this];omega
  ·rw[if_neg Y6,if_neg Y6,q6B len t l (j+1) Y6 ht];simp[h7]
theorem q7G(len t:Nat):∀(l:List Ins) (j:Nat) (b:Nat),b<t→len=j+l.length→t≤len→(((q19 len t l j b).1<0∨(q19 len t l j b).1=t)↔(¬(t≤q1k l j∧t+1≤len)∧q1L len l j t=false))
 | [],j,b,hb,hl,ht=>by
  simp only[zM,Zy] at hl;unfold q19 q1L q1k
  by_cases h:t<len
  ·rw[if_pos Y6];simp;omega
  ·rw[if_neg Y6];simp;omega
 |x::l,j,b,hb,hl,ht=>by
  simp only[zG] at hl;rw[q19,q1L,show q1k (x::l) j=(if x.op=8 then j else q1k l (j+1)) from rfl];rw[if_neg Y6]
  by_cases h8:x.op=8
  ·rw[if_pos ⟨Y6,h8⟩,if_pos h8]
   by_cases htj:t≤j
   ·rw[if_pos ⟨Y6,Y6⟩];simp;omega
   ·rw[if_neg Y6,q6B len t l (j+1) Y6 ht];have h7:¬x.op=7:=Y6;simp[h7];omega
  ·rw[if_neg Y6,if_neg h8,q7G len t l (j+1) b hb Y6 ht];rw[yQ,decide_eq_false_iff_not];constructor
   ·intro h;exact⟨h.1,Y6,h.2⟩
   ·intro h;exact⟨h.1,h.2.2⟩
end
structure q8W(p:List Ins)(k:Nat)(b:Int):Prop where
 sp:∀t,k≤t→qjN p t=q19 p.length t (p.drop k) k b
 bb:b= -1∨(0≤b∧b<k∧q0t p b.toNat=q1k (p.drop k) k)
theorem q8W.start(p:List Ins):q8W p 0 (-1):=⟨fun _ _=>rfl, .inl rfl⟩
theorem q0C{p:List Ins}{k:Nat}{x:Ins}(hx:p[k]? =some x):p.drop k=x::p.drop (k+1):=by
 obtain⟨hk,he⟩:=z7.1 hx;rw[ZE hk,he]
theorem q8W.step{p:List Ins}{k:Nat}{b:Int}{x:Ins}(h:q8W p k b)(hx:p[k]? =some x)(h7:x.op=7→b<0)(h8:x.op=8→0≤b):q8W p (k+1) (q18 x k b):=by
 have hd:=q0C hx;refine⟨fun t ht=> ?_,?_⟩
 ·rw[h.sp t Y6,hd,q19];unfold q18
  by_cases e7:x.op=7
  ·rw[if_pos ⟨h7 e7,e7⟩,if_pos e7]
  ·by_cases e8:x.op=8
   ·rw[if_neg Y6,if_pos ⟨h8 e8,e8⟩,if_neg Y6,if_neg e7,if_pos e8]
   ·rw[if_neg Y6,if_neg Y6,if_neg e7,if_neg e8]
 ·unfold q18
  by_cases e7:x.op=7
  ·rw[if_pos e7];refine .inr ⟨Y6,Y6,?_⟩;simp[q0t]
  ·by_cases e8:x.op=8
   ·rw[if_neg e7,if_pos e8];exact .inl rfl
   ·rw[if_neg e7,if_neg e8]
    rcases h.bb with hb|⟨h0,h1,h2⟩
    ·exact .inl hb
    ·refine .inr ⟨h0,Y6,?_⟩;rw[h2,hd,q1k,if_neg e8]
theorem q3j{x:Ins}(h:q1z x=true):(x.op=4∨x.op=5∨x.op=6)∧0≤x.imm∧x.imm≤64:=by
 unfold q1z at h;simp only[decide_eq_true_eq] at h;refine⟨h.2,?_⟩;have hc:=h.1;unfold qS at hc
 split at hc
 ·omega
 ·split at hc
  ·split at hc
   ·rename_i hi;unfold q5g at hi;rw[if_neg Y6,if_neg Y6,if_pos Y6] at hi;exact hi
   ·omega
  ·omega
theorem q8W.target{p:List Ins}{k:Nat}{b:Int}{x:Ins}(h:q8W p k b)(hx:p[k]? =some x):q0f p k b x=q3d p k x:=by
 unfold q0f q3d
 by_cases hs:q1z x=true
 ·obtain⟨hop,hi0,hi1⟩:=q3j hs;rw[if_pos hs,if_pos hs];obtain⟨t,ht⟩:∃t:Nat,(t:Int)=k+1+x.imm:=⟨k+1+x.imm.toNat,Y6⟩
  have ht':k+1+x.imm.toNat=t:=Y6;rw[ht',←ht];have hk:=(z7.1 hx).1;have hd:=q0C hx;have hlen:p.length=k+1+(p.drop (k+1)).length:=by rw[ZJ];omega
  by_cases hlt:p.length<t
  ·have hr:q1Z p k t=false:=by unfold q1Z;rw[if_pos hlt]
   rw[hr,if_pos Y6];rfl
  ·rw[if_neg (show ¬(p.length:Int)<t by omega)];have s1:=h.sp k (zu _);rw[hd,q19,if_neg Y6,if_neg Y6] at s1;have s2:=h.sp t Y6;rw[hd,q19,if_neg Y6,if_neg Y6] at s2
   rcases h.bb with hb|⟨h0,h1,h2⟩
   ·subst hb;have hl:=q2o p.length k (p.drop (k+1)) (k+1) (-1) (.inl ⟨Y6,Y6⟩);rw[←s1] at hl;have ho:=q6B p.length t (p.drop (k+1)) (k+1) hlen Y6;rw[←s2] at ho;have hr:q1Z p k t= !q1L p.length (p.drop (k+1)) (k+1) t:=by
     unfold q1Z;rw[if_neg hlt,if_neg (show ¬0≤(qjN p k).1 by omega)];cases hin:q1L p.length (p.drop (k+1)) (k+1) t with
     |true=>rw[hin] at ho;rw[decide_eq_false (by rw[ho];simp)];rfl
     |false=>rw[hin] at ho;rw[decide_eq_true (ho.2 rfl)];rfl
    rw[hr,if_neg Y6];cases q1L p.length (p.drop (k+1)) (k+1) t <;>rfl
   ·have hin:=qab p.length k (p.drop (k+1)) (k+1) b h0 Y6 Y6 hlen;rw[hin] at s1;have hr:q1Z p k t=decide ((t:Int)≤(q1k (p.drop (k+1)) (k+1):Nat)):=by
     unfold q1Z;rw[if_neg hlt,s1,if_pos h0]
    have he:q1k (p.drop k) k=q1k (p.drop (k+1)) (k+1):=by rw[hd,q1k,if_neg Y6]
    rw[hr,if_pos h0,h2,he]
    by_cases hle:(t:Int)≤(q1k (p.drop (k+1)) (k+1):Nat)
    ·rw[if_neg Y6,decide_eq_true hle];rfl
    ·rw[if_pos Y6,decide_eq_false hle];rfl
 ·rw[if_neg hs,if_neg hs]
theorem q6r{t b:Int}{x:Ins}(h:q7P t b x=0):(x.op=7→b<0)∧(x.op=8→0≤b)∧qS x=0∧t=0:=by
 unfold q7P at h
 split at h
 ·omega
 ·split at h
  ·omega
  ·split at h
   ·omega
   ·rename_i h1 h2 _;simp at h1;refine⟨Y6,Y6,h1,h⟩
theorem q5x(p:List Ins):∀(n k:Nat) (b:Int),n+k=p.length→q8W p k b→q0i (q0f p) (p.drop k) k b=q0i (fun k _ x=>q3d p k x) (p.drop k) k b
 |0,k,b,hn,_=>by
  have:p.drop k= []:=List.drop_eq_nil_iff.2 Y6;rw[this,q0i,q0i]
 |n+1,k,b,hn,h=>by
  obtain⟨x,hx⟩:∃x,p[k]? =some x:=⟨_,z6 Y6⟩
  rw[q0C hx,q0i,q0i,h.target hx]
  split
  ·rfl
  ·rename_i h0;have ho:=q6r (t:=q3d p k x) (b:=b) (x:=x) (by simpa using h0);exact q5x p n (k+1) _ Y6 (h.step hx ho.1 ho.2.1)
theorem qeh(p:List Ins):qw p=qbx p:=by
 unfold qw qbx
 split
 ·rfl
 ·exact q5x p p.length 0 (-1) Y6 (q8W.start p)
open Go
theorem q4h{W0:World}{own:Own}{a:Addr}{vs:List Value}{n:Nat}{K:Own→Prop}(h:vs.length=n)(h2:StN W0 own a vs K):vs.length=n∧StN W0 own a vs K:=⟨h,h2⟩
section
variable{W0:World}{own:Own}{a:Option Addr}{cap:Nat}{p:List Ins}
theorem qcT(hR:RdE Ins.enc 5 W0 own a p)(hl:p.length≤1099511627776)(b:Nat)(hb:b+1≤p.length):qE Tryz.prog W0 136 [.slice a p.length cap, .int .i64 b] own (.int .i64 (q0t p b)):=by
 refine qg (sH [] ?_)
 repeat'((try(conv=>whnf));first|(refine fB ?_))
 refine q1O (σ:=Nat) (fun k=> [(5, .int .i64 k)]) (fun k=>k≤p.length∧q1k (p.drop k) k=q0t p b) (fun k=>p.length-k) (b+1) ⟨Y6,rfl⟩ (eF) rfl ?_;rintro k junk ⟨hk,hI⟩
 by_cases hlt:k<p.length
 ·obtain⟨x,hx⟩:∃x,p[k]? =some x:=⟨_,z6 hlt⟩
  rw[q0C hx,q1k] at hI
  repeat'((try(conv=>whnf));first|(refine q14 Y6 ?_)|((apply gLd);first|(refine ldE (k:=0) (RdE.ent hR ?_) hx ?_ rfl ?_;rotate_left;rfl;rotate_left;(solve|(exact eB))))|((apply qJ);first|(refine ixE hR hx ?_ ?_;(first|rfl|omega)))|(refine fB ?_)|(refine q54 (fun hc=> ?_) (fun hc=> ?_)))
  ·rw[if_pos hc] at hI;exact⟨q0J (vi (by rw[hI])),eB⟩
  ·rw[if_neg hc] at hI;exact⟨k+1,⟨Y6,hI⟩,Y6,(eF),Ent.refl⟩
 ·have hk':k=p.length:=Y6;subst hk';rw[ZQ,q1k] at hI
  repeat'((try(conv=>whnf));first|(refine q1H Y6 ?_))
  exact⟨q0J (vi (by rw[←hI])),eB⟩
theorem qiR(hR:RdE Ins.enc 5 W0 own a p)(hl:p.length≤1099511627776)(k t:Nat)(ht:k+1≤t∧t≤p.length):
  qE Tryz.prog W0 220 [.slice a p.length cap, .int .i64 k, .int .i64 t] own (.bool (q1L p.length (p.drop (k+1)) (k+1) t)):=by
 refine qg (sH [] ?_)
 repeat'((try(conv=>whnf));first|(refine fB ?_))
 refine q1O (σ:=Nat) (fun b=> [(7, .int .i64 b)]) (fun b=>b≤t∧q1L p.length (p.drop b) b t=q1L p.length (p.drop (k+1)) (k+1) t) (fun b=>t-b) (k+1) ⟨Y6,rfl⟩ (eF) rfl ?_;rintro b junk ⟨hb,hI⟩
 by_cases hlt:b<t
 ·obtain⟨x,hx⟩:∃x,p[b]? =some x:=⟨_,z6 Y6⟩
  have hE:=fun ex=>qcT (cap:=cap) (hR.ent (Ent.app (A:=ex) Ent.refl)) hl b Y6
  have he:q0t p b=q1k (p.drop (b+1)) (b+1):=rfl;rw[q0C hx,q1L,←he] at hI;have hge:=q2P (p.drop (b+1)) (b+1);rw[←he,ZJ] at hge
  by_cases h7:x.op=7
  ·by_cases hin:t≤q0t p b∧t+1≤p.length
   ·rw[decide_eq_true ⟨hlt,h7,hin.1,hin.2⟩,Bool.true_or] at hI
    repeat'((try(conv=>whnf));first|(refine qQ ?_)|(refine q14 Y6 ?_)|(refine q6M Y6 ?_)|(refine qp (hE []) ?_)|((apply gLd);first|(refine ldE (k:=0) (RdE.ent hR ?_) hx ?_ rfl ?_;rotate_left;rfl;rotate_left;(solve|(exact eB))))|((apply qJ);first|(refine ixE hR hx ?_ ?_;(first|rfl|omega)))|(refine fB ?_)|(refine q5D ?_))
    all_goals first|exact⟨q0J (vb hI),eB⟩|(exfalso;omega)
   ·rw[decide_eq_false Y6,yN] at hI
    repeat'((try(conv=>whnf));first|(refine qQ ?_)|(refine q14 Y6 ?_)|(refine q1H Y6 ?_)|(refine q6M Y6 ?_)|(refine qp (hE []) ?_)|((apply gLd);first|(refine ldE (k:=0) (RdE.ent hR ?_) hx ?_ rfl ?_;rotate_left;rfl;rotate_left;(solve|(exact eB))))|((apply qJ);first|(refine ixE hR hx ?_ ?_;(first|rfl|omega)))|(refine fB ?_)|(refine q5D ?_))
    all_goals first|exact⟨b+1,⟨Y6,hI⟩,Y6,(eF),Ent.refl⟩|(exfalso;omega)
  ·rw[decide_eq_false Y6,yN] at hI
   repeat'((try(conv=>whnf));first|(refine q2V ?_)|(refine q3u ?_)|(refine q14 Y6 ?_)|(refine q2W Y6 ?_)|((apply gLd);first|(refine ldE (k:=0) (RdE.ent hR ?_) hx ?_ rfl ?_;rotate_left;rfl;rotate_left;(solve|(exact eB))))|((apply qJ);first|(refine ixE hR hx ?_ ?_;(first|rfl|omega)))|(refine fB ?_))
   all_goals exact⟨b+1,⟨Y6,hI⟩,Y6,(eF),Ent.refl⟩
 ·rw[q48 _ _ _ _ Y6] at hI
  repeat'((try(conv=>whnf));first|(refine q1H Y6 ?_))
  exact⟨q0J (vb hI),eB⟩
theorem qdu(hF:qC W0)(hR:RdE Ins.enc 5 W0 own a p)(hl:p.length≤64)(k:Nat)(b:Int)(x:Ins)(hx:p[k]? =some x)(hb:b= -1∨(0≤b∧b<k)):
  qE Tryz.prog W0 156 [.slice a p.length cap, .int .i64 k, .int .i64 b] own (.int .i64 (q0f p k b x)):=by
 refine qg (sH [] ?_);have hk:=(z7.1 hx).1;have hs:=fun own=>qd6 W0 own hF x
 unfold q0f;cases hsk:q1z x
 ·have hi:qax x=0:=by unfold qax;rw[hsk];rfl
  rw[hsk,hi] at hs
  repeat'((try(conv=>whnf));first|(refine q2B ?_)|(apply qp (hs _))|((apply qJ);first|(refine ixE hR hx ?_ ?_;(first|rfl|omega)))|((apply q2H);first|(refine qe3 (RdE.ent hR ?_) hx ?_ ?_ ?_;rotate_left;rfl;rfl;rotate_left;(solve|(exact eB))))|(refine fO ?_))
  all_goals exact⟨q0J (vi Y8),eB⟩
 ·obtain⟨hop,hi0,hi1⟩:=q3j hsk;have hi:qax x=x.imm:=by unfold qax;rw[hsk];rfl
  rw[hsk,hi] at hs;simp only[if_true];generalize x.imm=m at*
  by_cases hlt:(p.length:Int)<k+1+m
  ·rw[if_pos hlt]
   repeat'((try(conv=>whnf));first|(refine q3u ?_)|(refine q14 Y6 ?_)|(apply qp (hs _))|((apply qJ);first|(refine ixE hR hx ?_ ?_;(first|rfl|omega)))|((apply q2H);first|(refine qe3 (RdE.ent hR ?_) hx ?_ ?_ ?_;rotate_left;rfl;rfl;rotate_left;(solve|(exact eB))))|(refine fB ?_)|(refine fO ?_))
   all_goals exact⟨rfl,eB⟩
  ·rw[if_neg hlt]
   rcases hb with hb|⟨hb0,hb1⟩
   ·subst hb;rw[if_neg Y6];obtain⟨t,ht⟩:∃t:Nat,(t:Int)=k+1+m:=⟨k+1+m.toNat,Y6⟩
    have ht':k+1+m.toNat=t:=Y6;rw[ht'];have hin:=qiR (cap:=cap) hR Y6 k t Y6;rw[ht] at hin;cases hv:q1L p.length (p.drop (k+1)) (k+1) t <;>rw[hv] at hin
    all_goals
     repeat'((try(conv=>whnf));first|(refine qQ ?_)|(refine q2V ?_)|(refine q2B ?_)|(refine q3u ?_)|(refine q1H Y6 ?_)|(apply qp (hs _))|(refine qp hin ?_)|((apply qJ);first|(refine ixE hR hx ?_ ?_;(first|rfl|omega)))|((apply q2H);first|(refine qe3 (RdE.ent hR ?_) hx ?_ ?_ ?_;rotate_left;rfl;rfl;rotate_left;(solve|(exact eB))))|(refine fB ?_)|(refine fO ?_))
     all_goals exact⟨rfl,eB⟩
   ·rw[if_pos hb0];obtain⟨b,rfl⟩:=Z0 hb0;simp only[zB];have hE:=qcT (cap:=cap) hR Y6 b Y6;have hge:=q2P (p.drop (b+1)) (b+1);have he:q0t p b=q1k (p.drop (b+1)) (b+1):=rfl;rw[←he,ZJ] at hge
    repeat'((try(conv=>whnf));first|(refine qQ ?_)|(refine q2V ?_)|(refine q3u ?_)|(refine q1H Y6 ?_)|(apply qp (hs _))|(refine qp hE ?_)|((apply qJ);first|(refine ixE hR hx ?_ ?_;(first|rfl|omega)))|((apply q2H);first|(refine qe3 (RdE.ent hR ?_) hx ?_ ?_ ?_;rotate_left;rfl;rfl;rotate_left;(solve|(exact eB))))|(refine fB ?_)|(refine fO ?_)|(refine q54 (fun hc=> ?_) (fun hc=> ?_)))
    all_goals(refine⟨q0J (vi ?_),eB⟩;first|(rw[if_pos Y6];done)|(rw[if_neg Y6];done)|(split <;>omega))
theorem qls(hF:qC W0)(hR:RdE Ins.enc 5 W0 own a p)(hl:p.length≤64)(k:Nat)(b:Int)(x:Ins)(hx:p[k]? =some x)(hb:b= -1∨(0≤b∧b<k)):
  qE Tryz.prog W0 108 [.slice a p.length cap, .int .i64 k, .int .i64 b] own (.int .i64 (q7P (q0f p k b x) b x)):=by
 refine qg (sH [] ?_);have hk:=(z7.1 hx).1;have hc:=fun own=>q4Q W0 own hF x
 have hp:=fun own=>qd5 W0 own hF x
 have ht:=qdu (cap:=cap) hF hR hl k b x hx hb;generalize q0f p k b x=t at*;unfold q7P;generalize qS x=z at*;generalize q1M x=q at*
 repeat'((try(conv=>whnf));first|(refine qQ ?_)|(refine q2V ?_)|(refine q3u ?_)|(refine q14 Y6 ?_)|(refine q1H Y6 ?_)|(refine q2W Y6 ?_)|(refine q96 Y6 ?_)|(refine qbr Y6 ?_)|(apply qp (hc _))|(apply qp (hp _))|(refine qp ht ?_)|((apply gLd);first|(refine ldE (k:=0) (RdE.ent hR ?_) hx ?_ rfl ?_;rotate_left;rfl;rotate_left;(solve|(exact eB))))|((apply qJ);first|(refine ixE hR hx ?_ ?_;(first|rfl|omega)))|((apply q2H);first|(refine qe3 (RdE.ent hR ?_) hx ?_ ?_ ?_;rotate_left;rfl;rfl;rotate_left;(solve|(exact eB))))|(refine q6L (fun hc=> ?_) (fun hc=> ?_))|(refine q54 (fun hc=> ?_) (fun hc=> ?_))|(refine qhv (fun hc=> ?_) (fun hc=> ?_)))
 all_goals(refine⟨q0J (vi ?_),eB⟩;(repeat' split) <;>first|rfl|(exfalso;omega)|omega)
theorem q4R(hF:qC W0)(hR:RdE Ins.enc 5 W0 own a p):
  qE Tryz.prog W0 77 [.slice a p.length cap] own (.tuple #[.int .i64 (qw p).1, .int .i64 (qw p).2]):=by
 refine qg (sH [] ?_);unfold qw
 by_cases h64:64<p.length
 ·rw[if_pos h64]
  repeat'((try(conv=>whnf));first|(refine q14 Y6 ?_))
  all_goals first|exact⟨rfl,eB⟩|(exfalso;omega)
 ·rw[if_neg h64];generalize hres:q0i (q0f p) p 0 (-1)=res
  repeat'((try(conv=>whnf));first|(refine q1H Y6 ?_))
  refine q1O (σ:=Nat×Int) (fun s=> [(13, .int .i64 s.1),(4, .int .i64 s.2)]) (fun s=>s.1≤p.length∧(s.2= -1∨(0≤s.2∧s.2<s.1))∧q0i (q0f p) (p.drop s.1) s.1 s.2=res) (fun s=>p.length-s.1) (0, -1) ⟨Y8,Y8,hres⟩ (eF) rfl ?_;rintro⟨k,b⟩ junk ⟨hk,hb,hI⟩;simp only[] at hk hb hI
  by_cases hlt:k<p.length
  ·obtain⟨x,hx⟩:∃x,p[k]? =some x:=⟨_,z6 hlt⟩
   rw[q0C hx,q0i] at hI;have ho:=fun ex=>qls (cap:=cap) hF (hR.ent (Ent.app (A:=ex) Ent.refl)) Y6 k b x hx hb
   have hnb:q18 x k b= -1∨(0≤q18 x k b∧q18 x k b<(k+1:Nat)):=by unfold q18;(repeat' split) <;>omega
   generalize hz:q7P (q0f p k b x) b x=z at*
   by_cases h0:z=0
   ·rw[if_neg (by simpa using h0)] at hI;unfold q18 at hI hnb;subst h0
    by_cases h7:x.op=7
    ·rw[if_pos h7] at hI hnb
     repeat'((try(conv=>whnf));first|(refine q3u ?_)|(refine q14 Y6 ?_)|(refine q4h rfl ?_)|(refine qp (ho [_]) ?_)|((apply qJ);first|(refine ixE hR hx ?_ ?_;(first|rfl|omega)))|((apply q2H);first|(refine qe3 (RdE.ent hR ?_) hx ?_ ?_ ?_;rotate_left;rfl;rfl;rotate_left;(solve|(exact eB))))|(refine fB ?_)|(apply q0b;(exact eM);exact rfl)|(apply q51;(first|(solve|repeat(first|with_reducible exact Up.head|with_reducible apply Up.tail|with_reducible apply Up.app))|(repeat(first|exact Up.head|apply Up.tail|apply Up.app)));(solve|((try(conv=>arg 2;whnf));repeat'(first|exact Lis.nil|apply Lis.cons|apply q2M.here|apply q2M.there|apply q1D.done|apply q1D.put|apply q1D.skip)));exact rfl)|(refine qf (fun bk hbk=> ?_)))
     all_goals exact⟨(k+1,(k:Int)),⟨by simp;omega,hnb,hI⟩,by simp;omega,(eF),eB⟩
    ·by_cases h8:x.op=8
     ·rw[if_neg h7,if_pos h8] at hI hnb
      repeat'((try(conv=>whnf));first|(refine q3u ?_)|(refine q14 Y6 ?_)|(refine q1H Y6 ?_)|(refine q4h rfl ?_)|(refine qp (ho [_]) ?_)|((apply qJ);first|(refine ixE hR hx ?_ ?_;(first|rfl|omega)))|((apply q2H);first|(refine qe3 (RdE.ent hR ?_) hx ?_ ?_ ?_;rotate_left;rfl;rfl;rotate_left;(solve|(exact eB))))|(refine fB ?_)|(apply q0b;(exact eM);exact rfl)|(apply q51;(first|(solve|repeat(first|with_reducible exact Up.head|with_reducible apply Up.tail|with_reducible apply Up.app))|(repeat(first|exact Up.head|apply Up.tail|apply Up.app)));(solve|((try(conv=>arg 2;whnf));repeat'(first|exact Lis.nil|apply Lis.cons|apply q2M.here|apply q2M.there|apply q1D.done|apply q1D.put|apply q1D.skip)));exact rfl)|(refine qf (fun bk hbk=> ?_)))
      all_goals exact⟨(k+1, -1),⟨by simp;omega,hnb,hI⟩,by simp;omega,(eF),eB⟩
     ·rw[if_neg h7,if_neg h8] at hI hnb
      repeat'((try(conv=>whnf));first|(refine q3u ?_)|(refine q14 Y6 ?_)|(refine q1H Y6 ?_)|(refine q4h rfl ?_)|(refine qp (ho [_]) ?_)|((apply qJ);first|(refine ixE hR hx ?_ ?_;(first|rfl|omega)))|((apply q2H);first|(refine qe3 (RdE.ent hR ?_) hx ?_ ?_ ?_;rotate_left;rfl;rfl;rotate_left;(solve|(exact eB))))|(refine fB ?_)|(apply q0b;(exact eM);exact rfl)|(apply q51;(first|(solve|repeat(first|with_reducible exact Up.head|with_reducible apply Up.tail|with_reducible apply Up.app))|(repeat(first|exact Up.head|apply Up.tail|apply Up.app)));(solve|((try(conv=>arg 2;whnf));repeat'(first|exact Lis.nil|apply Lis.cons|apply q2M.here|apply q2M.there|apply q1D.done|apply q1D.put|apply q1D.skip)));exact rfl)|(refine qf (fun bk hbk=> ?_)))
      all_goals exact⟨(k+1,b),⟨by simp;omega,hnb,hI⟩,by simp;omega,(eF),eB⟩
   ·rw[if_pos h0] at hI
    repeat'((try(conv=>whnf));first|(refine q14 Y6 ?_)|(refine q4h rfl ?_)|(refine qp (ho [_]) ?_)|((apply qJ);first|(refine ixE hR hx ?_ ?_;(first|rfl|omega)))|((apply q2H);first|(refine qe3 (RdE.ent hR ?_) hx ?_ ?_ ?_;rotate_left;rfl;rfl;rotate_left;(solve|(exact eB))))|(apply q51;(first|(solve|repeat(first|with_reducible exact Up.head|with_reducible apply Up.tail|with_reducible apply Up.app))|(repeat(first|exact Up.head|apply Up.tail|apply Up.app)));(solve|((try(conv=>arg 2;whnf));repeat'(first|exact Lis.nil|apply Lis.cons|apply q2M.here|apply q2M.there|apply q1D.done|apply q1D.put|apply q1D.skip)));exact rfl)|(refine qf (fun bk hbk=> ?_)))
    all_goals(rw[←hI];exact⟨rfl,eB⟩)
  ·have hk':k=p.length:=Y6;subst hk';rw[ZQ,q0i] at hI;rw[←hI]
   repeat'((try(conv=>whnf));first|(refine q1H Y6 ?_)|(refine q54 (fun hc=> ?_) (fun hc=> ?_)))
   all_goals(refine⟨qf7 (vi ?_) (vi ?_),eB⟩ <;>split <;>first|rfl|(exfalso;omega))
end
open Go
structure Cfg where
 words:Int
 orecs:Int
 base:Int
 c0:Int
 c1:Int
 c2:Int
 c3:Int
 reads:Int
 writes:Int
 allocs:Int
 frees:Int
 clock:Int
 strong:Bool
def Cfg.cs(c:Cfg):Array Value:= #[.int .i64 c.words, .int .i64 c.orecs, .int .i64 c.base, .int .i64 c.c0, .int .i64 c.c1, .int .i64 c.c2, .int .i64 c.c3, .int .i64 c.reads, .int .i64 c.writes, .int .i64 c.allocs, .int .i64 c.frees, .int .i64 c.clock, .bool c.strong]
def Cfg.v(c:Cfg):Value:= .agg c.cs
def okW(c:Cfg):Prop:=1≤c.words∧c.words≤64∧1≤c.orecs∧c.orecs≤64
def okC(c:Cfg):Prop:=0≤c.c0∧c.c0≤64∧0≤c.c1∧c.c1≤64∧0≤c.c2∧c.c2≤64∧0≤c.c3∧c.c3≤64
def nB(c:Cfg):Int:=c.c0+c.c1+c.c2+c.c3
def nW(c:Cfg):Int:=c.c0+c.c1*2+c.c2*4+c.c3*8
def okH(c:Cfg):Prop:=okC c∧nB c≤64∧0≤c.base∧c.base≤c.words∧c.base+nW c≤c.words
def okL(c:Cfg):Prop:=1≤c.reads∧c.reads≤32∧1≤c.writes∧c.writes≤32∧0≤c.allocs∧c.allocs≤8∧0≤c.frees∧c.frees≤8
def okK(c:Cfg):Prop:=0≤c.clock∧c.clock≤1099511627776
instance(c:Cfg):Decidable (okW c):=by unfold okW;exact Y9
instance(c:Cfg):Decidable (okC c):=by unfold okC;exact Y9
instance(c:Cfg):Decidable (okH c):=by unfold okH;exact Y9
instance(c:Cfg):Decidable (okL c):=by unfold okL;exact Y9
instance(c:Cfg):Decidable (okK c):=by unfold okK;exact Y9
def qH(c:Cfg):Int:=if okW c then if okH c then if okL c then if okK c then 0 else 53 else 52 else 51 else 50
theorem qnl{c:Cfg}(h1:¬okW c):50=qH c:=by simp[qH,h1]
theorem qnm{c:Cfg}(h1:okW c)(h2:¬okH c):51=qH c:=by simp[qH,h1,h2]
theorem qnn{c:Cfg}(h1:okW c)(h2:okH c)(h3:¬okL c):52=qH c:=by simp[qH,h1,h2,h3]
theorem qno{c:Cfg}(h1:okW c)(h2:okH c)(h3:okL c)(h4:¬okK c):53=qH c:=by simp[qH,h1,h2,h3,h4]
theorem cm0{c:Cfg}(h1:okW c)(h2:okH c)(h3:okL c)(h4:okK c):0=qH c:=by simp[qH,h1,h2,h3,h4]
def qA(c:Cfg):Int:=if qH c=0 then nB c else 0
theorem q2n(W0:World)(own:Own)(a b c:Int):qE Tryz.prog W0 76 [.int .i64 a, .int .i64 b, .int .i64 c] own (.bool (decide (b≤a∧a≤c))):=by
 refine qg (sH [] ?_)
 repeat'((try(conv=>whnf));first|(refine qQ ?_)|(refine q2V ?_)|(refine q6L (fun hc=> ?_) (fun hc=> ?_)))
 all_goals(refine⟨q0J (vb ?_),eB⟩;(first|rfl|(refine dd ?_;omega)|(refine df ?_;omega)|(refine dt ?_;omega)|(refine dn ?_;omega)))
theorem qd2(W0:World)(own:Own)(c:Cfg):qE Tryz.prog W0 107 [c.v] own
  (.tuple #[.int .i64 (if okC c then nB c else 0), .int .i64 (if okC c then nW c else 0), .bool (decide (okC c∧nB c≤64))]):=by
 refine qg (sH [] ?_)
 repeat'((try(conv=>whnf));first|(refine q1P 5 ?_)|(refine qQ ?_)|(refine q0g ?_)|(refine q2B ?_)|(refine q3u ?_)|(refine fB ?_)|(refine fO ?_)|(refine ix0 rfl ?_)|(refine ix1 rfl ?_)|(refine ix2 rfl ?_)|(refine ix3 rfl ?_)|(apply q1n;(exact eM);exact rfl;exact rfl)|(refine qf (fun bk hbk=> ?_))|(refine q1p (fun hc=> ?_) (fun hc=> ?_))|(refine q54 (fun hc=> ?_) (fun hc=> ?_))|(refine qnv ?_ ?_;omega)|(refine qnw ?_ ?_;omega)|(refine qnx ?_ ?_;omega)|(refine qny ?_ ?_;omega))
 all_goals
  refine⟨qnL (vi ?_) (vi ?_) (vb ?_),eB⟩
  ·(try simp only[okC,nB]);(first|rfl|omega|(split <;>omega)|(split <;>split <;>omega))
  ·(try simp only[okC,nW]);(first|rfl|omega|(split <;>omega)|(split <;>split <;>omega))
  ·(try simp only[okC,nB]);(first|rfl|(refine dd ?_;omega)|(refine df ?_;omega)|(refine dt ?_;omega)|(refine dn ?_;omega))
theorem q7u(W0:World)(own:Own)(c:Cfg)(h:okC c):qE Tryz.prog W0 107 [c.v] own (.tuple #[.int .i64 (nB c), .int .i64 (nW c), .bool (decide (nB c≤64))]):=by
 have:=qd2 W0 own c
 simpa [h] using this
theorem qd3(W0:World)(own:Own)(c:Cfg)(h:¬okC c):qE Tryz.prog W0 107 [c.v] own (.tuple #[.int .i64 0, .int .i64 0, .bool false]):=by
 have:=qd2 W0 own c
 simpa [h] using this
theorem q1i(W0:World)(own:Own)(c:Cfg):qE Tryz.prog W0 75 [c.v] own (.int .i64 (qH c)):=by
 refine qg (sH [] ?_)
 by_cases hc:okC c
 ·have hc':=hc;unfold okC at hc'
  repeat'((try(conv=>whnf));first|(apply qp (q2n _ _ _ _ _))|(apply qp (q7u _ _ c hc))|(refine qQ ?_)|(refine q0g ?_)|(refine q2B ?_)|(refine fB ?_)|(refine fO ?_)|(apply q0b;(exact eM);exact rfl)|(apply q0e;(exact eM);exact rfl)|(refine qf (fun bk hbk=> ?_))|(refine q4i (fun hc=> ?_) (fun hc=> ?_))|(refine q54 (fun hc=> ?_) (fun hc=> ?_))|(refine qhv (fun hc=> ?_) (fun hc=> ?_)))
  all_goals(refine⟨q0J (vi ?_),eB⟩;(try unfold nB at*);(try unfold nW at*))
  all_goals first|exact qnl (by unfold okW;omega)|exact qnm (by unfold okW;omega) (by unfold okH okC nB nW;omega)|exact qnn (by unfold okW;omega) (by unfold okH okC nB nW;omega) (by unfold okL;omega)|exact qno (by unfold okW;omega) (by unfold okH okC nB nW;omega) (by unfold okL;omega) (by unfold okK;omega)|exact cm0 (by unfold okW;omega) (by unfold okH okC nB nW;omega) (by unfold okL;omega) (by unfold okK;omega)
 ·repeat'((try(conv=>whnf));first|(apply qp (q2n _ _ _ _ _))|(apply qp (qd3 _ _ c hc))|(refine qQ ?_)|(refine q0g ?_)|(refine q2B ?_)|(refine fO ?_)|(apply q0b;(exact eM);exact rfl)|(apply q0e;(exact eM);exact rfl)|(refine qf (fun bk hbk=> ?_))|(refine q4i (fun hc=> ?_) (fun hc=> ?_))|(refine qhv (fun hc=> ?_) (fun hc=> ?_)))
  all_goals(refine⟨q0J (vi ?_),eB⟩;(try unfold okC at*))
  all_goals first|exact qnl (by unfold okW;omega)|exact qnm (by unfold okW;omega) (by unfold okH okC nB nW;omega)|exact qnn (by unfold okW;omega) (by unfold okH okC nB nW;omega) (by unfold okL;omega)|exact qno (by unfold okW;omega) (by unfold okH okC nB nW;omega) (by unfold okL;omega) (by unfold okK;omega)|exact cm0 (by unfold okW;omega) (by unfold okH okC nB nW;omega) (by unfold okL;omega) (by unfold okK;omega)
theorem q1g{c:Cfg}(h:qH c=0):okW c∧okH c∧okL c∧okK c:=by
 unfold qH at h
 split at h
 ·split at h
  ·split at h
   ·split at h
    ·exact⟨by assumption,by assumption,by assumption,by assumption⟩
    ·omega
   ·omega
  ·omega
 ·omega
theorem q35{c:Cfg}(h:qH c=0):1≤c.words∧c.words≤64∧1≤c.orecs∧c.orecs≤64∧0≤c.c0∧0≤c.c1∧0≤c.c2∧0≤c.c3∧c.c0+c.c1+c.c2+c.c3≤64∧0≤c.base∧c.base+(c.c0+c.c1*2+c.c2*4+c.c3*8)≤c.words:=by
 obtain⟨h1,h2,_,_⟩:=q1g h;unfold okW at h1;unfold okH okC nB nW at h2;omega
theorem q3k(W0:World)(own:Own)(c:Cfg):qE Tryz.prog W0 109 [c.v] own (.int .i64 (qA c)):=by
 refine qg (sH [] ?_)
 by_cases h0:qH c=0
 ·have hC:okC c:=(q1g h0).2.1.1
  repeat'((try(conv=>whnf));first|(apply qp (q1i _ _ c))|(apply qp (q7u _ _ c hC))|(refine fO ?_)|(apply q0e;(exact eM);exact rfl)|(refine qf (fun bk hbk=> ?_))|(refine q54 (fun hc=> ?_) (fun hc=> ?_)))
  all_goals first|(exfalso;omega)|(refine⟨q0J (vi ?_),eB⟩;simp only[qA,h0,if_true])
 ·repeat'((try(conv=>whnf));first|(apply qp (q1i _ _ c))|(apply q0e;(exact eM);exact rfl)|(refine qf (fun bk hbk=> ?_))|(refine q54 (fun hc=> ?_) (fun hc=> ?_)))
  all_goals first|(exfalso;omega)|(refine⟨q0J (vi ?_),eB⟩;simp only[qA,h0,if_false])
def q2a(c:Cfg)(b:Int):Int:=
 if qH c=0∧0≤b then if b<c.c0 then 0 else if b<c.c0+c.c1 then 1 else if b<c.c0+c.c1+c.c2 then 2 else if b<c.c0+c.c1+c.c2+c.c3 then 3 else-1 else-1
def q1m(c:Cfg)(b:Int):Int:=
 if qH c=0∧0≤b then if b<c.c0 then c.base+b else if b<c.c0+c.c1 then c.base+c.c0+(b-c.c0)*2
  else if b<c.c0+c.c1+c.c2 then c.base+c.c0+c.c1*2+(b-c.c0-c.c1)*4 else if b<c.c0+c.c1+c.c2+c.c3 then c.base+c.c0+c.c1*2+c.c2*4+(b-c.c0-c.c1-c.c2)*8 else-1 else-1
theorem q7x(W0:World)(own:Own)(c:Cfg)(b:Int)(hb: -9223372036854775808≤b∧b≤9223372036854775807):
  qE Tryz.prog W0 90 [c.v, .int .i64 b] own (.tuple #[.int .i64 (q2a c b), .int .i64 (q1m c b)]):=by
 refine qg (sH [3,5,7,9,11,13,15,17,0] ?_)
 by_cases h0:qH c=0∧0≤b
 ·have hbd:=q35 h0.1
  repeat'((try(conv=>whnf));first|(apply qp (q1i _ _ c))|(refine q1P 5 ?_)|(refine qQ ?_)|(refine q0g ?_)|(refine q2B ?_)|(refine q3u ?_)|(refine fB ?_)|(refine fO ?_)|(refine ix0 rfl ?_)|(refine ix1 rfl ?_)|(refine ix2 rfl ?_)|(refine ix3 rfl ?_)|(apply q0b;(exact eM);exact rfl)|(apply q0e;(exact eM);exact rfl)|(apply q1n;(exact eM);exact rfl;exact rfl)|(refine qf (fun bk hbk=> ?_))|(refine q1p (fun hc=> ?_) (fun hc=> ?_))|(refine q54 (fun hc=> ?_) (fun hc=> ?_))|(refine qnv ?_ ?_;omega)|(refine qnw ?_ ?_;omega)|(refine qnx ?_ ?_;omega)|(refine qny ?_ ?_;omega))
  all_goals first|(exfalso;omega)|refine⟨qf7 (vi ?_) (vi ?_),eB⟩
  all_goals(simp only[q2a,q1m,h0,if_true,and_self];repeat'(first|omega|(rw[if_pos Y6])|(rw[if_neg Y6])))
 ·repeat'((try(conv=>whnf));first|(apply qp (q1i _ _ c))|(refine qQ ?_)|(refine q0g ?_)|(refine q2B ?_)|(apply q0b;(exact eM);exact rfl)|(apply q0e;(exact eM);exact rfl)|(apply q1n;(exact eM);exact rfl;exact rfl)|(refine qf (fun bk hbk=> ?_))|(refine q1p (fun hc=> ?_) (fun hc=> ?_))|(refine q54 (fun hc=> ?_) (fun hc=> ?_)))
  all_goals first|(exfalso;omega)|refine⟨qf7 (vi ?_) (vi ?_),eB⟩
  all_goals simp only[q2a,q1m,h0,if_false]
theorem qfm(W0:World)(own:Own)(c:Cfg)(b:Int)(hb: -9223372036854775808≤b∧b≤9223372036854775807):
  qE Tryz.prog W0 161 [c.v, .int .i64 b] own (.int .i64 (q2a c b)):=by
 refine qg (sH [] ?_)
 repeat'((try(conv=>whnf));first|(apply qp (q7x _ _ c b hb))|(refine fO ?_)|(apply q0e;(exact eM);exact rfl)|(refine qf (fun bk hbk=> ?_))|(exact Ent.refl)|(refine Ent.cons ?_)|(refine And.intro rfl ?_))
 all_goals exact⟨rfl,eB⟩
theorem qa1(W0:World)(own:Own)(c:Cfg)(b:Int)(hb: -9223372036854775808≤b∧b≤9223372036854775807):
  qE Tryz.prog W0 58 [c.v, .int .i64 b] own (.int .i64 (q1m c b)):=by
 refine qg (sH [] ?_)
 repeat'((try(conv=>whnf));first|(apply qp (q7x _ _ c b hb))|(refine fO ?_)|(apply q0e;(exact eM);exact rfl)|(refine qf (fun bk hbk=> ?_))|(exact Ent.refl)|(refine Ent.cons ?_)|(refine And.intro rfl ?_))
 all_goals exact⟨rfl,eB⟩
theorem q34(c:Cfg):0≤qA c∧qA c≤64:=by
 unfold qA
 split
 ·have:=q35 (by assumption);unfold nB;omega
 ·omega
theorem q5s{c:Cfg}{b:Int}(h0:0≤b)(h:b<qA c):qH c=0∧b<c.c0+c.c1+c.c2+c.c3:=by
 unfold qA at h
 split at h
 ·exact⟨by assumption,h⟩
 ·omega
theorem qex{c:Cfg}{b:Int}(h0:0≤b)(h:b<qA c):0≤q1m c b∧q1m c b<64:=by
 have hp:=q5s h0 h;have hb:=q35 hp.1;simp only[q1m,hp.1,h0,and_self,if_true]
 repeat' split
 all_goals omega
def q5f(c:Cfg)(a:Int):Nat→Int→Int
 |0,_=> -1
 |n+1,k=>if q1m c k=a then k else q5f c a n (k+1)
def qV(c:Cfg)(a:Int):Int:=q5f c a (qA c).toNat 0
theorem qcZ(W0:World)(own:Own)(c:Cfg)(a:Int):qE Tryz.prog W0 276 [c.v, .int .u64 a] own (.int .i64 (qV c a)):=by
 refine qg (sH [] ?_);have hB:=q34 c
 repeat'((try(conv=>whnf));first|(apply qp (q3k _ _ c))|(apply q0e;(exact eM);exact rfl)|(refine qf (fun bk hbk=> ?_)))
 refine q1O (σ:=Int) (fun k=> [(8, .int .i64 k)]) (fun k=>0≤k∧k≤qA c∧q5f c a (qA c-k).toNat k=qV c a) (fun k=>(qA c-k).toNat) 0 ⟨Y6,Y6,by simp[qV]⟩ (eF) rfl ?_;rintro k junk ⟨hk0,hk1,hk⟩
 by_cases hlt:k<qA c
 ·have hf:=qex hk0 hlt;have e:(qA c-k).toNat=(qA c-(k+1)).toNat+1:=Y6;rw[e,q5f] at hk
  repeat'((try(conv=>whnf));first|(apply qp (qa1 _ _ c k Y6))|(refine fB ?_)|(refine fC ?_)|(apply q0e;(exact eM);exact rfl)|(refine q54 (fun hc=> ?_) (fun hc=> ?_)))
  ·rw[if_pos (by assumption)] at hk;exact⟨q0J (vi hk),eB⟩
  ·rw[if_neg (by assumption)] at hk;exact⟨k+1,⟨Y6,Y6,hk⟩,Y6,(eF),Ent.refl⟩
  ·omega
 ·repeat'((try(conv=>whnf));first|(apply qp (qa1 _ _ c k Y6))|(refine fB ?_)|(refine fC ?_)|(apply q0e;(exact eM);exact rfl)|(refine q54 (fun hc=> ?_) (fun hc=> ?_)))
  ·omega
  ·omega
  ·have e:(qA c-k).toNat=0:=Y6;rw[e,q5f] at hk;exact⟨q0J (vi hk),eB⟩
def qF(c:Cfg)(a:Int):Int:=if qH c=0∧0≤a∧a<c.words+qA c then a % c.orecs else-1
theorem q3I(W0:World)(own:Own)(c:Cfg)(a:Int):qE Tryz.prog W0 235 [c.v, .int .i64 a] own (.int .i64 (qF c a)):=by
 refine qg (sH [3,5,7,9,11,13,15,17,19,21,23,25,27,29,31,33,0] ?_);have hB:=q34 c
 by_cases h0:qH c=0
 ·have hbd:=q35 h0
  repeat'((try(conv=>whnf));first|(apply q5v (fun _=>q1i _ _ c))|(apply q5v (fun _=>q3k _ _ c))|(refine qQ ?_)|(refine q0g ?_)|(refine q2B ?_)|(refine fB ?_)|(apply q0b;(exact eM);exact rfl)|(apply q0e;(exact eM);exact rfl)|(refine qf (fun bk hbk=> ?_))|(refine q1p (fun hc=> ?_) (fun hc=> ?_))|(refine q54 (fun hc=> ?_) (fun hc=> ?_))|(refine q8A ?_ ?_;omega))
  all_goals first|(exfalso;omega)|(refine⟨q0J (vi ?_),eB⟩;unfold qF;first|(rw[if_neg Y6])|(rw[if_pos Y6]))
 ·repeat'((try(conv=>whnf));first|(apply q5v (fun _=>q1i _ _ c))|(apply q5v (fun _=>q3k _ _ c))|(refine qQ ?_)|(refine q0g ?_)|(refine q2B ?_)|(refine fB ?_)|(apply q0b;(exact eM);exact rfl)|(apply q0e;(exact eM);exact rfl)|(refine qf (fun bk hbk=> ?_))|(refine q1p (fun hc=> ?_) (fun hc=> ?_))|(refine q54 (fun hc=> ?_) (fun hc=> ?_))|(refine q8A ?_ ?_;omega))
  all_goals first|(exfalso;omega)|(refine⟨q0J (vi ?_),eB⟩;unfold qF;rw[if_neg Y6])
end Go.Proofs.YtbhbldllneadeaaGreatDoor
