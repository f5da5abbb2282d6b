/- What the laws share, part 13. No condition. -/
import Derived.LaidMore
import Derived.Lay
import Derived.LaidByTextLater
import Derived.Stop.Joined
import Derived.SevenTiedAt
import Derived.Test.YtkieffpjjfebjaaGreatDoorZ12
set_option maxHeartbeats 4000000
set_option maxRecDepth 10000
namespace Go.Proofs.YtkieffpjjfebjaaGreatDoor
open Go Go.ChangeShapes Go.WideShapes Go.ChangeAt Go.RowKit
structure q1C(W0:World)(g:Nat)(cs:List Value):Prop where
 size:g<W0.heap.size
 cell:∀j v,cs[j]? =some v→W0.cell? ⟨g,j,none⟩=some v
theorem q1C.st{W0 w:World}{own:Own}{g:Nat}{cs:List Value}(h:q1C W0 g cs)(hw:St W0 own w):q1C w g cs:=
 ⟨Nat.lt_of_lt_of_le h.size hw.size,fun j v hv=>(World.cell?_of_block (w:=W0) (hw.base g h.size)).trans (h.cell j v hv)⟩
theorem q1C.kn{W0:World}{own:Own}{g:Nat}{cs:List Value}(h:q1C W0 g cs){j:Nat}{v:Value}(hv:cs[j]? =some v):Kn W0 own (fun w=>w.cell? ⟨g,j,none⟩=some v):=fun _ hw=>(h.st hw).cell j v hv
theorem qhB{W0:World}{own:Own}{g:Nat}{cs:List Value}(h:q1C W0 g cs){j:Nat}{K:Value→Prop}(v:Value)(hv:cs[j]? =some v)(hk:K v):Ld W0 own ⟨g,j,none⟩ K:=⟨v,h.kn hv,hk⟩
theorem q14{W0:World}{own:Own}{g:Nat}{cs:List Value}(h:q1C W0 g cs){j n:Nat}{K:Array Value→Prop}(vs:List Value)(hv:(cs.drop j).take n=vs)(hl:vs.length=n)(hk:K vs.toArray):LdN W0 own ⟨g,j,none⟩ n K:=by
 refine⟨vs.toArray,by simpa using hl,fun w hw i hi=> ?_,hk⟩
 rw[qJ]
 have hi':i<vs.length:=by omega
 refine(h.kn (own:=own) (v:=vs[i]) ?_ w hw).trans (by simp[hi'])
 subst hv
 rw[List.getElem?_eq_some_iff]
 simp only[List.length_take,List.length_drop] at hi'
 exact⟨by omega,by simp[List.getElem_take,List.getElem_drop]⟩
namespace Alu
open Go
theorem qjL:FloatKind.f64.format=Ieee.double:=rfl
theorem sw:Ieee.double.signWeight=9223372036854775808:=by decide
theorem bn:Ieee.double.binade=4503599627370496:=by decide
theorem ir:Ieee.double.infRung=9218868437227405312:=by decide
def isN(x:Nat):Bool:=decide (9218868437227405312<x % 9223372036854775808)
theorem qbc(x:Nat):(Ieee.double.read x).isNaN=isN x:=by
 unfold Ieee.Format.read isN
 simp only[sw,bn,ir]
 split
 ·simp only[Ieee.Datum.isNaN];symm;rw[decide_eq_false_iff_not];omega
 ·split
  ·simp only[Ieee.Datum.isNaN];symm;rw[decide_eq_false_iff_not];omega
  ·split
   ·simp only[Ieee.Datum.isNaN];symm;rw[decide_eq_false_iff_not];omega
   ·simp only[Ieee.Datum.isNaN];symm;rw[decide_eq_true_eq];omega
theorem qc5(d:Ieee.Datum):d.order d=if d.isNaN then none else some .eq:=by
 cases d with
 |nan=>rfl
 |infinity s=>simp[Ieee.Datum.order,Ieee.Datum.isNaN]
 |number s m i=>simp[Ieee.Datum.order,Ieee.Datum.isNaN]
theorem qc9(x:Nat):FloatKind.f64.format.order x x=if isN x then none else some .eq:=by
 rw[←qbc]
 exact qc5 _
theorem qeV(x:Nat):q7h .neq (FloatKind.f64.format.order x x)=isN x:=by
 rw[qc9]
 cases isN x <;>rfl
theorem qfR{r:Nat}(h:qke r):isN r=true:=by
 obtain⟨s,t,hs,ht,rfl⟩:=h
 unfold isN
 rw[decide_eq_true_eq]
 have h1:(2:Nat) ^ 63=9223372036854775808:=by decide
 have h2:(2:Nat) ^ 52=4503599627370496:=by decide
 rw[h2] at ht
 rw[h1]
 omega
theorem qdt(k:Nat)(m:Int)(n:Int)(h0:0≤m)(h1:m<18446744073709551616)(hn:n=2 ^ k-1)(hk:k<64):qbd .and .u64 m n=m % 2 ^ k:=by
 unfold qbd
 subst hn
 obtain⟨m,rfl⟩:=Int.eq_ofNat_of_zero_le h0
 have hp:(0:Int)<2 ^ k:=Int.pow_pos (by omega)
 have e1:((2:Int) ^ k-1)=((2 ^ k-1:Nat):Int):=by
  have:1≤2 ^ k:=Nat.one_le_two_pow
  rw[Int.ofNat_sub this,Int.natCast_pow]
  rfl
 have hlt:2 ^ k-1<2 ^ 64:=by
  have:2 ^ k≤2 ^ 64:=Nat.pow_le_pow_right (by omega) (by omega)
  omega
 have hm:m<2 ^ 64:=by
  have:(2:Nat) ^ 64=18446744073709551616:=by decide
  omega
 rw[e1,BitVec.toNat_and,BitVec.ofInt_natCast,BitVec.ofInt_natCast,BitVec.toNat_ofNat,BitVec.toNat_ofNat]
 show IntKind.u64.wrap ((m % 2 ^ 64&&&(2 ^ k-1) % 2 ^ 64:Nat):Int)=_
 rw[Nat.mod_eq_of_lt hm,Nat.mod_eq_of_lt hlt,Nat.and_two_pow_sub_one_eq_mod]
 have hb:m % 2 ^ k≤m:=Nat.mod_le _ _
 rw[q8R (by omega) (by omega),Int.natCast_emod,Int.natCast_pow]
 rfl
def okW(x:Int):Prop:=0≤x∧x≤18446744073709551615
def qkl(x:Int):Bool:=isN x.toNat
def truthM(b:Bool):Int:=if b then 1 else 0
def nanW:Int:=9221120237041090560
def plainM(x:Nat):Int:=if isN x then nanW else x
theorem q4R(W0:World)(own:Own)(a:Nat):qD Tryz.prog W0 179 [.float .f64 a] own (.bool (isN a)):=by
 refine qe (qa qj q7l (by simp[q2w]) ?_)
 repeat'((try(conv=>whnf));first|(refine q7W _ (qeV _) ?_)|(exact Ent.refl)|(refine And.intro rfl ?_))
 all_goals exact⟨rfl,eB⟩
theorem q3w(W0:World)(own:Own)(a:Nat):qD Tryz.prog W0 180 [.float .f64 a] own (.int .u64 (plainM a)):=by
 refine qe (qa qj q8p (by simp[q2S]) ?_)
 cases hn:isN a
 ·have h1:∀own,qD Tryz.prog W0 179 [.float .f64 a] own (.bool false):=fun own=>by rw[←hn];exact q4R W0 own a
  repeat'((try(conv=>whnf));first|(apply qf (h1 _))|(refine q4C ?_))
  all_goals(refine⟨q0I (vi ?_),eB⟩;simp[plainM,hn])
 ·have h1:∀own,qD Tryz.prog W0 179 [.float .f64 a] own (.bool true):=fun own=>by rw[←hn];exact q4R W0 own a
  repeat'((try(conv=>whnf));first|(apply qf (h1 _))|(refine q3T ?_))
  all_goals(refine⟨q0I (vi ?_),eB⟩;simp[plainM,hn,nanW])
theorem qbI(W0:World)(own:Own)(b:Bool):qD Tryz.prog W0 181 [.bool b] own (.int .u64 (truthM b)):=by
 refine qe (qa qj q8I (by simp[q30]) ?_)
 cases b <;>(repeat'((try(conv=>whnf));first|(refine q3T ?_)|(refine q4C ?_));all_goals exact⟨rfl,eB⟩)
theorem qhZ{m:Int}(h:0≤m∧m<18446744073709551616):qbd .and .u64 m 2047=m % 2048:=qdt 11 m 2047 h.1 h.2 rfl (by omega)
theorem qgR{m:Int}(h:0≤m∧m<18446744073709551616):qbd .and .u64 m 4503599627370495=m % 4503599627370496:=qdt 52 m 4503599627370495 h.1 h.2 rfl (by omega)
theorem qgO(W0:World)(own:Own)(x:Int)(hx:okW x):qD Tryz.prog W0 159 [.int .u64 x] own (.bool (qkl x)):=by
 unfold okW at hx
 refine qe (qa qj q8W (by simp[q37]) ?_)
 repeat'((try(conv=>whnf));first|(refine ql3 52 4503599627370496 rfl rfl (by omega) rfl ?_)|(refine qjI _ (qhZ (by omega)) ?_)|(refine qjI _ (qgR (by omega)) ?_)|(refine qC ?_)|(refine q2l ?_)|(refine q4E (fun hc=> ?_) (fun hc=> ?_)))
 all_goals(refine⟨q0I (vb ?_),eB⟩;unfold qkl isN)
 all_goals first|(refine dd ?_;omega)|(refine dn ?_;omega)|(refine df ?_;omega)|(refine dt ?_;omega)
theorem qkB{k:IntKind}{m n:Int}{K:Int→Prop}(h0:0≤n)(h:K (k.wrap (m*2 ^ (min n.toNat k.bits)))):Shl k m n K:=⟨h0,h⟩
theorem qkx{k:IntKind}{m n:Int}{K:Int→Prop}(h0:0≤n)(h:K (m.fdiv (2 ^ (min n.toNat k.bits)))):Shr k m n K:=⟨h0,h⟩
def intsM(fn x y:Int):Int:=
 if fn=0 then IntKind.u64.wrap (x+y) else if fn=1 then IntKind.u64.wrap (x-y) else if fn=2 then IntKind.u64.wrap (x*y) else if fn=3 then qbd .and .u64 x y else if fn=4 then qbd .or .u64 x y
 else if fn=5 then qbd .xor .u64 x y else if fn=6 then IntKind.u64.wrap (x*2 ^ (min (y % 64).toNat IntKind.u64.bits)) else if fn=7 then x.fdiv (2 ^ (min (y % 64).toNat IntKind.u64.bits))
 else if fn=8 then truthM (decide (x=y)) else if fn=9 then truthM (decide (x≠y)) else if fn=10 then truthM (decide (IntKind.i64.wrap x<IntKind.i64.wrap y)) else truthM (decide (x<y))
theorem qh0(W0:World)(own:Own)(fn x y:Int)(hf:0≤fn∧fn<12)(hy:okW y):qD Tryz.prog W0 153 [.int .i64 fn, .int .u64 x, .int .u64 y] own (.int .u64 (intsM fn x y)):=by
 unfold okW at hy
 have hw:fn=0∨fn=1∨fn=2∨fn=3∨fn=4∨fn=5∨fn=6∨fn=7∨fn=8∨fn=9∨fn=10∨fn=11:=by omega
 refine qe (qa qj q67 (by simp[q1u]) ?_)
 rcases hw with rfl|rfl|rfl|rfl|rfl|rfl|rfl|rfl|rfl|rfl|rfl|rfl
 all_goals
  repeat'((try(conv=>whnf));first|(refine q3T ?_)|(refine q4C ?_)|(refine arw ?_)|(refine qkC ?_)|(refine qkB (by omega) ?_)|(refine qkx (by omega) ?_)|(apply qf (qbI _ _ _))|(refine q9M ?_ ?_;omega)|(exact Ent.refl)|(refine And.intro rfl ?_))
  all_goals exact⟨rfl,eB⟩
theorem q9s(W0:World)(own:Own)(a:Nat)(ha:a<18446744073709551616):qD Tryz.prog W0 158 [.float .f64 a] own (.int .u64 (plainM a)):=by
 refine qe (qa qj q68 (by simp[q1B]) ?_)
 have h0:=fun own=>qgO W0 own (a:Int) (by unfold okW;omega)
 have e:qkl (a:Int)=isN a:=by unfold qkl;rw[Int.toNat_natCast]
 rw[e] at h0
 cases hn:isN a
 ·rw[hn] at h0
  repeat'((try(conv=>whnf));first|(apply qf (h0 _))|(refine q4C ?_))
  all_goals(refine⟨q0I (vi ?_),eB⟩;simp[plainM,hn])
 ·rw[hn] at h0
  repeat'((try(conv=>whnf));first|(apply qf (h0 _))|(refine q3T ?_))
  all_goals(refine⟨q0I (vi ?_),eB⟩;simp[plainM,hn,nanW])
def fopM(op:BinOp)(a b:Nat):Int:=match floatBits op .f64 a b with|some r=>plainM r|none=>nanW
theorem q5o{r:Nat}(h:qke r):plainM r=nanW:=by unfold plainM;rw[qfR h];rfl
theorem qk2(W0:World)(own:Own)(a b:Nat):qD Tryz.prog W0 182 [.float .f64 a, .float .f64 b] own (.float .f64 (q6F true a b)):=by
 refine qe (qa qj q9O (by simp[q3r]) ?_)
 repeat'((try(conv=>whnf));first|(refine q3T ?_)|(exact Ent.refl)|(refine And.intro rfl ?_))
 all_goals exact⟨rfl,eB⟩
theorem qj2(W0:World)(own:Own)(a b:Nat):qD Tryz.prog W0 183 [.float .f64 a, .float .f64 b] own (.float .f64 (q6F false a b)):=by
 refine qe (qa qj q9A (by simp[q3B]) ?_)
 repeat'((try(conv=>whnf));first|(refine q3T ?_)|(exact Ent.refl)|(refine And.intro rfl ?_))
 all_goals exact⟨rfl,eB⟩
def floatsM(fn:Int)(a b:Nat):Int:=
 if fn=12 then fopM .add a b else if fn=13 then fopM .sub a b else if fn=14 then fopM .mul a b else if fn=15 then fopM .quo a b
 else if fn=16 then(if isN a||isN b then nanW else plainM (q6F true a b)) else if fn=17 then(if isN a||isN b then nanW else plainM (q6F false a b))
 else if fn=18 then truthM (q7h .eql (FloatKind.f64.format.order a b)) else truthM (q7h .lss (FloatKind.f64.format.order a b))
theorem qd7(W0:World)(own:Own)(fn:Int)(a b:Nat)(hf:12≤fn∧fn<20):qD Tryz.prog W0 152 [.int .i64 fn, .float .f64 a, .float .f64 b] own (.int .u64 (floatsM fn a b)):=by
 have hA:=fun own=>q4R W0 own a
 have hB:=fun own=>q4R W0 own b
 generalize e1:isN a=na at hA
 generalize e2:isN b=nb at hB
 refine qe (qa qj q7J (by simp[q2C]) ?_)
 have hw:fn=12∨fn=13∨fn=14∨fn=15∨fn=16∨fn=17∨fn=18∨fn=19:=by omega
 rcases hw with rfl|rfl|rfl|rfl|rfl|rfl|rfl|rfl
 case inl=>
  cases hfb:floatBits .add .f64 a b <;>cases na <;>cases nb
  all_goals
   repeat'((try(conv=>whnf));first|(refine qC ?_)|(refine q0C ?_)|(refine q3T ?_)|(refine qfV _ hfb ?_)|(refine qfr hfb (fun r hr=> ?_))|(apply qf (hA _))|(apply qf (hB _))|(apply qf (q3w _ _ _)))
   all_goals(refine⟨q0I (vi ?_),eB⟩;simp[floatsM,fopM,hfb];try exact q5o (by assumption))
 case inr.inl=>
  cases hfb:floatBits .sub .f64 a b <;>cases na <;>cases nb
  all_goals
   repeat'((try(conv=>whnf));first|(refine qC ?_)|(refine q0C ?_)|(refine q3T ?_)|(refine q4C ?_)|(refine qfV _ hfb ?_)|(refine qfr hfb (fun r hr=> ?_))|(apply qf (hA _))|(apply qf (hB _))|(apply qf (q3w _ _ _)))
   all_goals(refine⟨q0I (vi ?_),eB⟩;simp[floatsM,fopM,hfb];try exact q5o (by assumption))
 case inr.inr.inl=>
  cases hfb:floatBits .mul .f64 a b <;>cases na <;>cases nb
  all_goals
   repeat'((try(conv=>whnf));first|(refine qC ?_)|(refine q0C ?_)|(refine q3T ?_)|(refine q4C ?_)|(refine qfV _ hfb ?_)|(refine qfr hfb (fun r hr=> ?_))|(apply qf (hA _))|(apply qf (hB _))|(apply qf (q3w _ _ _)))
   all_goals(refine⟨q0I (vi ?_),eB⟩;simp[floatsM,fopM,hfb];try exact q5o (by assumption))
 case inr.inr.inr.inl=>
  cases hfb:floatBits .quo .f64 a b <;>cases na <;>cases nb
  all_goals
   repeat'((try(conv=>whnf));first|(refine qC ?_)|(refine q0C ?_)|(refine q3T ?_)|(refine q4C ?_)|(refine qfV _ hfb ?_)|(refine qfr hfb (fun r hr=> ?_))|(apply qf (hA _))|(apply qf (hB _))|(apply qf (q3w _ _ _)))
   all_goals(refine⟨q0I (vi ?_),eB⟩;simp[floatsM,fopM,hfb];try exact q5o (by assumption))
 all_goals
  cases na <;>cases nb
  all_goals
   repeat'((try(conv=>whnf));first|(refine qC ?_)|(refine q0C ?_)|(refine q3T ?_)|(refine q4C ?_)|(refine qk5 ?_)|(apply qf (hA _))|(apply qf (hB _))|(apply qf (q3w _ _ _))|(apply qf (qbI _ _ _))|(apply qf (qk2 _ _ _ _))|(apply qf (qj2 _ _ _ _))|(exact Ent.refl)|(refine And.intro rfl ?_))
   all_goals(refine⟨q0I (vi ?_),eB⟩;simp[floatsM,e1,e2,nanW])
def qkg:Nat:=4890909195324358656
def qkj:Nat:=14114281232179134464
theorem qfv:Ieee.double.read qkg= .number false 4503599627370496 11:=by decide
theorem qcY:Ieee.double.read qkj= .number true 4503599627370496 11:=by decide
theorem qaP(s:Bool)(n drop:Nat):Ieee.Toward.zero.cut s n drop=n/2 ^ (min drop (n.log2+2)):=by
 simp[Ieee.Toward.cut,Nat.shiftLeft_eq]
theorem qiP{s:Bool}{n drop j:Nat}(h:n<2 ^ (drop+j)):Ieee.Toward.zero.cut s n drop<2 ^ j:=by
 rw[qaP]
 by_cases hd:drop≤n.log2+2
 ·rw[Nat.min_eq_left hd]
  refine(Nat.div_lt_iff_lt_mul (Nat.two_pow_pos _)).2 ?_
  rw[←Nat.pow_add,Nat.add_comm j drop]
  exact h
 ·rw[Nat.min_eq_right (by omega)]
  have h1:n<2 ^ (n.log2+2):=Nat.lt_of_lt_of_le Nat.lt_log2_self (Nat.pow_le_pow_right (by omega) (by omega))
  rw[Nat.div_eq_of_lt h1]
  exact Nat.two_pow_pos _
theorem qjT{s:Bool}{n drop j:Nat}(h:n≤2 ^ (drop+j)):Ieee.Toward.zero.cut s n drop≤2 ^ j:=by
 rw[qaP]
 by_cases hd:drop≤n.log2+2
 ·rw[Nat.min_eq_left hd]
  refine Nat.div_le_of_le_mul ?_
  rw[←Nat.pow_add]
  exact h
 ·rw[Nat.min_eq_right (by omega)]
  have h1:n<2 ^ (n.log2+2):=Nat.lt_of_lt_of_le Nat.lt_log2_self (Nat.pow_le_pow_right (by omega) (by omega))
  rw[Nat.div_eq_of_lt h1]
  exact Nat.zero_le _
theorem qdb{s:Bool}{m:Nat}{e:Int}(h:m<<<(e-min e 11).toNat<4503599627370496<<<(11-min e 11).toNat):Ieee.Toward.zero.cut s (m<<<e.toNat) (-e).toNat<9223372036854775808:=by
 have hp:(9223372036854775808:Nat)=2 ^ 63:=by decide
 have h52:(4503599627370496:Nat)=2 ^ 52:=by decide
 rw[hp]
 refine qiP ?_
 rw[h52,Nat.shiftLeft_eq,Nat.shiftLeft_eq,←Nat.pow_add] at h
 rw[Nat.shiftLeft_eq]
 by_cases h11:11≤e
 ·have e1:min e 11=11:=by omega
  rw[e1] at h
  have e2:(-e).toNat=0:=by omega
  have e3:e.toNat=(e-11).toNat+11:=by omega
  rw[e2,e3,Nat.pow_add,←Nat.mul_assoc]
  have:=Nat.mul_lt_mul_of_pos_right h (show 0<2 ^ 11 by decide)
  rw[←Nat.pow_add] at this
  simpa using this
 ·have e1:min e 11=e:=by omega
  rw[e1] at h
  have e0:(e-e).toNat=0:=by omega
  rw[e0,Nat.pow_zero,Nat.mul_one] at h
  by_cases hneg:e<0
  ·have e2:e.toNat=0:=by omega
   rw[e2,Nat.pow_zero,Nat.mul_one]
   have e3:(-e).toNat+63=52+(11-e).toNat:=by omega
   rw[e3]
   exact h
  ·have e2:(-e).toNat=0:=by omega
   have e3:0+63=52+(11-e).toNat+e.toNat:=by omega
   rw[e2,e3,Nat.pow_add _ _ e.toNat]
   exact Nat.mul_lt_mul_of_pos_right h (Nat.two_pow_pos _)
theorem qbQ{s:Bool}{m:Nat}{e:Int}(h:m<<<(e-min e 11).toNat≤4503599627370496<<<(11-min e 11).toNat):Ieee.Toward.zero.cut s (m<<<e.toNat) (-e).toNat≤9223372036854775808:=by
 have hp:(9223372036854775808:Nat)=2 ^ 63:=by decide
 have h52:(4503599627370496:Nat)=2 ^ 52:=by decide
 rw[hp]
 refine qjT ?_
 rw[h52,Nat.shiftLeft_eq,Nat.shiftLeft_eq,←Nat.pow_add] at h
 rw[Nat.shiftLeft_eq]
 by_cases h11:11≤e
 ·have e1:min e 11=11:=by omega
  rw[e1] at h
  have e2:(-e).toNat=0:=by omega
  have e3:e.toNat=(e-11).toNat+11:=by omega
  rw[e2,e3,Nat.pow_add,←Nat.mul_assoc]
  have:=Nat.mul_le_mul_right (2 ^ 11) h
  rw[←Nat.pow_add] at this
  simpa using this
 ·have e1:min e 11=e:=by omega
  rw[e1] at h
  have e0:(e-e).toNat=0:=by omega
  rw[e0,Nat.pow_zero,Nat.mul_one] at h
  by_cases hneg:e<0
  ·have e2:e.toNat=0:=by omega
   rw[e2,Nat.pow_zero,Nat.mul_one]
   have e3:(-e).toNat+63=52+(11-e).toNat:=by omega
   rw[e3]
   exact h
  ·have e2:(-e).toNat=0:=by omega
   have e3:0+63=52+(11-e).toNat+e.toNat:=by omega
   rw[e2,e3,Nat.pow_add _ _ e.toNat]
   exact Nat.mul_le_mul_right _ h
theorem qeE{b:Nat}(hn:isN b=false)(h1:q7h .geq (FloatKind.f64.format.order b qkg)=false)(h2:q7h .lss (FloatKind.f64.format.order b qkj)=false):∃n,floatToIntVal .f64 b .i64=some n:=by
 rw[←qbc] at hn
 unfold floatToIntVal FloatKind.decode
 rw[qjL] at*
 unfold Ieee.Format.order at h1 h2
 rw[qfv] at h1
 rw[qcY] at h2
 generalize Ieee.double.read b=d at*
 cases d with
 |nan=>simp[Ieee.Datum.isNaN] at hn
 |infinity s=>cases s <;>simp[Ieee.Datum.order,q7h] at h1 h2
 |number s m e=>
  simp only[Ieee.Datum.order,q7h] at h1 h2
  simp only[Ieee.Datum.toInt,Ieee.Datum.integral]
  have hmin:IntKind.i64.min= -9223372036854775808:=rfl
  have hmax:IntKind.i64.max=9223372036854775807:=rfl
  have hin:IntKind.i64.min≤Ieee.signed s (Ieee.Toward.zero.cut s (m<<<e.toNat) (-e).toNat) 0∧Ieee.signed s (Ieee.Toward.zero.cut s (m<<<e.toNat) (-e).toNat) 0≤IntKind.i64.max:=by
   rw[hmin,hmax]
   cases s with
   |false=>
    have hlt:m<<<(e-min e 11).toNat<4503599627370496<<<(11-min e 11).toNat:=by
     rcases Nat.lt_or_ge (m<<<(e-min e 11).toNat) (4503599627370496<<<(11-min e 11).toNat) with h|h
     ·exact h
     ·exfalso
      have hc:compare (Ieee.signed false m (e-min e 11).toNat) (Ieee.signed false 4503599627370496 (11-min e 11).toNat)≠ .lt:=by
       simp only[Ieee.signed,Bool.false_eq_true,if_false,ne_eq,Int.compare_eq_lt]
       omega
      revert h1 hc
      generalize compare (Ieee.signed false m (e-min e 11).toNat) (Ieee.signed false 4503599627370496 (11-min e 11).toNat)=c
      cases c <;>simp
    have:=qdb (s:=false) hlt
    simp only[Ieee.signed,Bool.false_eq_true,if_false,Nat.shiftLeft_zero]
    omega
   |true=>
    have hle:m<<<(e-min e 11).toNat≤4503599627370496<<<(11-min e 11).toNat:=by
     rcases Nat.lt_or_ge (4503599627370496<<<(11-min e 11).toNat) (m<<<(e-min e 11).toNat) with h|h
     ·exfalso
      have hc:compare (Ieee.signed true m (e-min e 11).toNat) (Ieee.signed true 4503599627370496 (11-min e 11).toNat)= .lt:=by
       simp only[Ieee.signed,if_true,Int.compare_eq_lt]
       omega
      rw[hc] at h2
      simp at h2
     ·exact h
    have:=qbQ (s:=true) hle
    simp only[Ieee.signed,if_true,Nat.shiftLeft_zero]
    omega
  exact⟨_,if_pos hin⟩
def q8c(b:Nat):Int:=
 if isN b then 0 else if q7h .geq (FloatKind.f64.format.order b qkg) then 9223372036854775807 else if q7h .lss (FloatKind.f64.format.order b qkj) then-9223372036854775808 else(floatToIntVal .f64 b .i64).getD 0
theorem qeJ(W0:World)(own:Own)(a:Nat):qD Tryz.prog W0 150 [.float .f64 a] own (.int .i64 (q8c a)):=by
 have hA:=fun own=>q4R W0 own a
 refine qe (qa qj q8O (by simp[q3a]) ?_)
 cases hn:isN a <;>rw[hn] at hA
 ·cases h1:q7h .geq (FloatKind.f64.format.order a qkg)
  ·cases h2:q7h .lss (FloatKind.f64.format.order a qkj)
   ·obtain⟨n,he⟩:=qeE hn h1 h2
    repeat'((try(conv=>whnf));first|(refine q4C ?_)|(apply qf (hA _))|(refine q7W _ h1 ?_)|(refine q7W _ h2 ?_)|(refine qkJ _ he ?_))
    all_goals(refine⟨q0I (vi ?_),eB⟩;simp[q8c,hn,h1,h2,he])
   ·repeat'((try(conv=>whnf));first|(refine q3T ?_)|(refine q4C ?_)|(apply qf (hA _))|(refine q7W _ h1 ?_)|(refine q7W _ h2 ?_))
    all_goals(refine⟨q0I (vi ?_),eB⟩;simp[q8c,hn,h1,h2])
  ·repeat'((try(conv=>whnf));first|(refine q3T ?_)|(refine q4C ?_)|(apply qf (hA _))|(refine q7W _ h1 ?_))
   all_goals(refine⟨q0I (vi ?_),eB⟩;simp[q8c,hn,h1])
 ·repeat'((try(conv=>whnf));first|(refine q3T ?_)|(apply qf (hA _)))
  all_goals(refine⟨q0I (vi ?_),eB⟩;simp[q8c,hn])
def applyW(fn x y:Int):Int:=
 if 0≤fn∧fn<22 then
  if fn=20 then(FloatKind.f64.nearest (IntKind.i64.wrap x):Int) else if fn=21 then IntKind.u64.wrap (q8c x.toNat) else if 12≤fn then floatsM fn x.toNat y.toNat else intsM fn x y
 else 0
def q7U(fn:Int):Int:=if 0≤fn∧fn<22 then 0 else 10
theorem sp_apply(W0:World)(own:Own)(fn x y:Int)(hy:okW y):
  qD Tryz.prog W0 127 [.int .i64 fn, .int .u64 x, .int .u64 y] own (.tuple #[.int .u64 (applyW fn x y), .int .i64 (q7U fn)]):=by
 refine qe (qa qj q8E (by simp[q2V]) ?_)
 by_cases h:0≤fn∧fn<22
 ·by_cases h20:fn=20
  ·subst h20
   repeat'((try(conv=>whnf));first|(refine qC ?_)|(refine q3T ?_)|(refine q4C ?_)|(refine arw ?_))
   all_goals(refine⟨qcy (vi ?_) (vi ?_),eB⟩ <;>simp[applyW,q7U])
  ·by_cases h21:fn=21
   ·subst h21
    repeat'((try(conv=>whnf));first|(refine qC ?_)|(refine q3T ?_)|(refine q4C ?_)|(apply qf (qeJ _ _ _))|(refine arw ?_))
    all_goals(refine⟨qcy (vi ?_) (vi ?_),eB⟩ <;>simp[applyW,q7U])
   ·by_cases h12:12≤fn
    ·repeat'((try(conv=>whnf));first|(refine qC ?_)|(refine q18 (by omega) ?_)|(refine q2i (by omega) ?_)|(refine q4G (by omega) ?_)|(apply qf (qd7 _ _ fn _ _ (by omega))))
     all_goals(refine⟨qcy (vi ?_) (vi ?_),eB⟩ <;>simp[applyW,q7U,h,h20,h21,h12])
    ·repeat'((try(conv=>whnf));first|(refine qC ?_)|(refine q2i (by omega) ?_)|(refine q4G (by omega) ?_)|(apply qf (qh0 _ _ fn _ _ (by omega) hy)))
     all_goals(refine⟨qcy (vi ?_) (vi ?_),eB⟩ <;>simp[applyW,q7U,h,h20,h21,h12])
 ·repeat'((try(conv=>whnf));first|(refine qC ?_)|(refine q0C ?_)|(refine q3T ?_)|(refine q18 (by omega) ?_)|(refine q2k (fun hc=> ?_) (fun hc=> ?_)))
  all_goals first|(exfalso;omega)|(refine⟨qcy (vi ?_) (vi ?_),eB⟩ <;>simp[applyW,q7U,h])
def qiw(x:Nat):Nat:=x % 9223372036854775808
def sgn(x:Nat):Bool:=x/9223372036854775808 % 2==1
def qlt(x:Nat):Nat:=if qiw x<4503599627370496 then qiw x else 4503599627370496+qiw x % 4503599627370496
def qlG(x:Nat):Nat:=if qiw x<4503599627370496 then 0 else qiw x/4503599627370496-1
def qkU(x:Nat):Nat:=qlt x*2 ^ qlG x
def qlx:Nat→Nat:=fun N=>9007199254740992*2 ^ N
def qlf(N x:Nat):Nat:=if qiw x=9218868437227405312 then qlx N else qkU x
def key(N x:Nat):Int:=if sgn x then-(qlf N x:Int) else(qlf N x:Int)
theorem fb_lt{op:BinOp}{a b r:Nat}(h:floatBits op .f64 a b=some r):r<18446744073709551616:=by
 have:=floatBits_wf h
 simpa [Lit.wf] using this
end Alu
open Go
structure Ins where
 op:Int
 a:Int
 b:Int
 c:Int
 imm:Int
abbrev Ins.enc(i:Ins):List Value:= [.int .i64 i.op, .int .i64 i.a, .int .i64 i.b, .int .i64 i.c, .int .i64 i.imm]
abbrev Ins.v(i:Ins):Value:= .agg #[.int .i64 i.op, .int .i64 i.a, .int .i64 i.b, .int .i64 i.c, .int .i64 i.imm]
def has(s:ByteArray)(c:Int):Bool:=decide (0≤qet s c)
theorem qcv(c:UInt8):(⟨#[c]⟩:ByteArray).size=1:=rfl
theorem qfy(W0:World)(own:Own)(s:ByteArray)(c:Int):qD Tryz.prog W0 209 [.string s, .int .u8 c] own (.int .i64 (qet s c)):=by
 refine qe (qa qj q1q (by simp[qu]) ?_)
 repeat'((try(conv=>whnf));first|(exact Ent.refl)|(refine And.intro rfl ?_))
 all_goals exact⟨rfl,eB⟩
theorem qks{c:UInt8}{K:Value→Prop}(h:K (.int .u8 c.toNat)):qln ⟨#[c]⟩ 0 K:=⟨0,c,rfl,rfl,h⟩
theorem qf3(c:UInt8):qet ⟨#[c]⟩ c.toNat=0:=by
 unfold qet
 have e:((c.toNat:Int).toNat.toUInt8)=c:=by simp
 have h0:((⟨#[c]⟩:ByteArray)[0]!)=c:=rfl
 have hf:(List.range (⟨#[c]⟩:ByteArray).size).find? (fun i=>(⟨#[c]⟩:ByteArray)[i]! ==(c.toNat:Int).toNat.toUInt8)=some 0:=by
  show(List.range 1).find? _=some 0
  simp only[List.range_succ,List.range_zero,List.nil_append,List.find?_cons,h0,e,beq_self_eq_true]
 rw[hf]
 rfl
theorem qcS(W0:World)(own:Own)(s:ByteArray)(c:UInt8):qD Tryz.prog W0 207 [.string s, .string ⟨#[c]⟩] own (.int .i64 (qet s c.toNat)):=by
 refine qe (qa qj q2d (by simp[qz]) ?_)
 by_cases hs:(⟨#[c]⟩:ByteArray).toList=s.toList
 ·have e:s=⟨#[c]⟩:=by
   rw[ByteArray.toList_eq,ByteArray.toList_eq] at hs
   have:=Array.toList_inj.1 hs
   cases s
   simp at this
   rw[←this]
  subst e
  repeat'((try(conv=>whnf));first|(refine q18 ?_ ?_;(solve|simp|(simp;omega)))|(refine qC ?_))
  all_goals(refine⟨q0I (vi ?_),eB⟩;first|rfl|exact(qf3 c).symm)
 ·repeat'((try(conv=>whnf));first|(refine q2i hs ?_)|(refine qks ?_)|(apply qf (qfy _ _ s c.toNat))|(refine qC ?_)|(refine q3T ?_)|(exact Ent.refl)|(refine And.intro rfl ?_))
  all_goals exact⟨rfl,eB⟩
theorem q8K(W0:World)(own:Own)(s:ByteArray)(c:UInt8):qD Tryz.prog W0 201 [.string s, .string ⟨#[c]⟩] own (.int .i64 (qet s c.toNat)):=by
 refine qe (qa qj q5v (by simp[q1k]) ?_)
 repeat'((try(conv=>whnf));first|(apply qf (qcS _ _ s c))|(exact Ent.refl)|(refine And.intro rfl ?_))
 all_goals exact⟨rfl,eB⟩
theorem q4K(W0:World)(own:Own)(s:ByteArray)(c:UInt8):qD Tryz.prog W0 184 [.string s, .string ⟨#[c]⟩] own (.bool (has s c.toNat)):=by
 refine qe (qa qj q4y (by simp[q0K]) ?_)
 repeat'((try(conv=>whnf));first|(apply qf (q8K _ _ s c))|(exact Ent.refl)|(refine And.intro rfl ?_))
 all_goals exact⟨rfl,eB⟩
def qfi(op:Int):Bool:=op==1||op==2||op==3||op==5||op==6||op==10||op==11||op==12||op==13||op==14||op==15||op==17
def qhV(op:Int):Bool:=op==2||op==3||op==10||op==11||op==12||op==13
def qhx(op:Int):Bool:=op==3
def q2p(u:Bool)(r:Int):Prop:=if u then 0≤r∧r<8 else r=0
instance(u:Bool)(r:Int):Decidable (q2p u r):=by unfold q2p;infer_instance
def q5t(op imm:Int):Prop:=
 if op=1∨op=10∨op=11∨op=12∨op=13 then True else if op=3 then 0≤imm∧imm<22 else if op=4∨op=5∨op=6 then 0≤imm∧imm≤64 else if op=7 then 1≤imm∧imm≤8 else if op=14 then 0≤imm∧imm<4 else imm=0
instance(op imm:Int):Decidable (q5t op imm):=by unfold q5t;infer_instance
def qv(i:Ins):Int:=
 if i.op<0∨18≤i.op then 10 else if q2p (qfi i.op) i.a∧q2p (qhV i.op) i.b∧q2p (qhx i.op) i.c then(if q5t i.op i.imm then 0 else 11) else 11
def qiU:List Value:= [.string ⟨#[110,111,112]⟩, .string ⟨#[]⟩, .string ⟨#[99,111,110,115,116]⟩, .string ⟨#[65,73]⟩, .string ⟨#[109,111,118,101]⟩, .string ⟨#[65,66]⟩, .string ⟨#[]⟩, .string ⟨#[65,66,67]⟩, .string ⟨#[106,117,109,112]⟩, .string ⟨#[73]⟩,
 .string ⟨#[122,101,114,111]⟩, .string ⟨#[65,73]⟩, .string ⟨#[110,111,110,122,101,114,111]⟩, .string ⟨#[65,73]⟩, .string ⟨#[98,101,103,105,110]⟩, .string ⟨#[73]⟩, .string ⟨#[99,111,109,109,105,116]⟩, .string ⟨#[]⟩, .string ⟨#[97,98,111,114,116]⟩, .string ⟨#[]⟩,
 .string ⟨#[116,114,101,97,100]⟩, .string ⟨#[65,66,73]⟩, .string ⟨#[116,119,114,105,116,101]⟩, .string ⟨#[65,66,73]⟩, .string ⟨#[112,114,101,97,100]⟩, .string ⟨#[65,66,73]⟩, .string ⟨#[112,119,114,105,116,101]⟩, .string ⟨#[65,66,73]⟩,
 .string ⟨#[97,108,108,111,99]⟩, .string ⟨#[65,73]⟩, .string ⟨#[102,114,101,101]⟩, .string ⟨#[65]⟩, .string ⟨#[102,101,110,99,101]⟩, .string ⟨#[]⟩, .string ⟨#[111,117,116,99,111,109,101]⟩, .string ⟨#[65]⟩]
def q0B(W0:World):Prop:=q1C W0 2 qiU
theorem qhf{s:ByteArray}{lo hi:Option Int}{K:Value→Prop}(l r:Nat)(t:ByteArray)(h1:lo.getD 0=l)(h2:hi.getD s.size=r)(hlr:Nat.ble l r=true)(hrs:Nat.ble r s.size=true)(ht:s.extract l r=t)(h:K (.string t)):qlj s lo hi K:=
 ⟨l,r,h1,h2,by simpa using hlr,by simpa using hrs,by rw[ht];exact h⟩
theorem qgQ:(⟨#[65,66,67]⟩:ByteArray).extract 0 1=⟨#[65]⟩:=by decide+kernel
theorem qi7:(⟨#[65,66,67]⟩:ByteArray).extract 1 2=⟨#[66]⟩:=by decide+kernel
theorem qic:(⟨#[65,66,67]⟩:ByteArray).extract 2 3=⟨#[67]⟩:=by decide+kernel
theorem qgj{W0:World}{own:Own}{s:ByteArray}{c:UInt8}{K:Value→Prop}(b:Bool)(hb:has s c.toNat=b)(h:K (.bool b)):q0d Tryz.prog W0 own 184 [.string s, .string ⟨#[c]⟩] K:=
 q79 (fun _=>q4K _ _ s c) (by rw[hb];exact h)
theorem q9s(W0:World)(own:Own)(i:Ins):qD Tryz.prog W0 185 [i.v] own (.bool (decide (q5t i.op i.imm))):=by
 refine qe (qa qj q7I (by simp[q2z]) ?_)
 repeat'((try(conv=>whnf));first|(refine qC ?_)|(refine q2l ?_)|(refine q18 (by omega) ?_)|(apply qH;(exact eM);exact rfl)|(refine qc (fun bk hbk=> ?_))|(refine q4E (fun hc=> ?_) (fun hc=> ?_))|(refine q5X (fun hc=> ?_) (fun hc=> ?_)))
 all_goals(refine⟨q0I (vb ?_),eB⟩)
 all_goals first|(refine dd ?_;unfold q5t;(repeat' split) <;>omega)|(refine dt ?_;unfold q5t;(repeat' split) <;>first|exact True.intro|omega)|(refine df ?_;unfold q5t;(repeat' split) <;>omega)
theorem qc2(W0:World)(own:Own)(hF:q0B W0)(op a b c imm:Int)(I:Bool)(hn:∀own,qD Tryz.prog W0 185 [.agg #[.int .i64 op, .int .i64 a, .int .i64 b, .int .i64 c, .int .i64 imm]] own (.bool I)):
  qD Tryz.prog W0 154 [.agg #[.int .i64 op, .int .i64 a, .int .i64 b, .int .i64 c, .int .i64 imm]] own (.int .i64 (if op<0∨18≤op then 10 else if q2p (qfi op) a∧q2p (qhV op) b∧q2p (qhx op) c then(if I then 0 else 11) else 11)):=by
 refine qe (qa qj q8D (by simp[q35]) ?_)
 by_cases hop:op<0∨18≤op
 ·rw[if_pos hop]
  repeat'((try(conv=>whnf));first|(refine qC ?_)|(refine q0C ?_)|(refine q3T ?_)|(refine q18 (by omega) ?_)|(apply qH;(exact eM);exact rfl)|(refine qc (fun bk hbk=> ?_))|(refine q2k (fun hc=> ?_) (fun hc=> ?_))|(exact Ent.refl)|(refine Ent.cons ?_)|(refine And.intro rfl ?_))
  all_goals first|exact⟨rfl,eB⟩|(exfalso;omega)
 ·rw[if_neg hop]
  have hw:op=0∨op=1∨op=2∨op=3∨op=4∨op=5∨op=6∨op=7∨op=8∨op=9∨op=10∨op=11∨op=12∨op=13∨op=14∨op=15∨op=16∨op=17:=by omega
  cases I <;>rcases hw with rfl|rfl|rfl|rfl|rfl|rfl|rfl|rfl|rfl|rfl|rfl|rfl|rfl|rfl|rfl|rfl|rfl|rfl
  all_goals
   repeat'((try(conv=>whnf));first|(refine qC ?_)|(refine q2l ?_)|(refine q0C ?_)|(refine q3T ?_)|(refine q4C ?_)|(refine q56 4 ?_)|(refine qhB hF _ rfl ?_)|(refine qhf 0 1 _ rfl rfl rfl rfl qgQ ?_)|(refine qhf 1 2 _ rfl rfl rfl rfl qi7 ?_)|(refine qhf 2 3 _ rfl rfl rfl rfl qic ?_)|(refine qgj true rfl ?_)|(refine qgj false rfl ?_)|(apply qf (hn _))|(refine fB ?_)|(refine fO ?_)|(refine ix0 rfl ?_)|(refine ix1 rfl ?_)|(refine ix2 rfl ?_)|(refine ix3 rfl ?_)|(refine ix4 rfl ?_)|(refine fP ?_)|(apply qH;(exact eM);exact rfl)|(apply qX;(exact eM);exact rfl)|(refine qc (fun bk hbk=> ?_))|(refine q2k (fun hc=> ?_) (fun hc=> ?_))|(refine q5X (fun hc=> ?_) (fun hc=> ?_)))
   all_goals(refine⟨q0I (vi ?_),eB⟩;simp[q2p,qfi,qhV,qhx];try omega)
theorem q73(W0:World)(own:Own)(hF:q0B W0)(i:Ins):qD Tryz.prog W0 154 [i.v] own (.int .i64 (qv i)):=by
 have h:=qc2 W0 own hF i.op i.a i.b i.c i.imm _ (fun own=>q9s W0 own i)
 simp only[decide_eq_true_eq] at h
 exact h
def qga(c:Int):List UInt8→Bool
 | []=>false
 |x::l=>if(x.toNat:Int)=c then true else qga c l
theorem qaq(W0:World)(own:Own)(s:ByteArray)(c:Int)(hs:s.size≤9223372036854775807):qD Tryz.prog W0 132 [.string s, .int .u8 c] own (.bool (qga c s.data.toList)):=by
 refine qe (qa qj q8B (by simp[q2T]) ?_)
 have hsz:s.data.toList.length=s.size:=by simp
 refine q1L (σ:=Nat) (fun k=> [(5, .int .i64 k)]) (fun k=>k≤s.size∧qga c (s.data.toList.drop k)=qga c s.data.toList) (fun k=>s.size-k) 0 ⟨by omega,rfl⟩ (eF) rfl ?_
 rintro k junk ⟨hk,hI⟩
 by_cases hlt:k<s.size
 ·obtain⟨x,hx⟩:∃x,s.data.toList[k]? =some x:=⟨_,List.getElem?_eq_getElem (by omega)⟩
  have hd:s.data.toList.drop k=x::s.data.toList.drop (k+1):=by
   rw[List.drop_eq_getElem_cons (by omega)]
   congr 1
   exact(List.getElem?_eq_some_iff.1 hx).2
  rw[hd,qga] at hI
  repeat'((try(conv=>whnf));first|(refine q18 (by omega) ?_)|(refine⟨k,x,rfl,hx,?_⟩)|(refine fB ?_)|(refine q5X (fun hc=> ?_) (fun hc=> ?_)))
  ·rw[if_pos hc] at hI
   exact⟨q0I (vb hI),eB⟩
  ·rw[if_neg hc] at hI
   exact⟨k+1,⟨by omega,hI⟩,by omega,(eF),Ent.refl⟩
 ·have:k=s.data.toList.length:=by omega
  rw[this,List.drop_length] at hI
  repeat'((try(conv=>whnf));first|(refine q2i (by omega) ?_))
  exact⟨q0I (vb hI),eB⟩
def qeh:List ByteArray:= [⟨#[]⟩,⟨#[114,105]⟩,⟨#[114,115]⟩,⟨#[114,115,116,102]⟩,⟨#[106]⟩,⟨#[114,106]⟩,⟨#[114,106]⟩,⟨#[97]⟩,⟨#[]⟩,⟨#[]⟩,⟨#[114,115,105]⟩,⟨#[114,115,105]⟩,⟨#[114,115,105]⟩,⟨#[114,115,105]⟩,⟨#[114,99]⟩,⟨#[114]⟩,⟨#[]⟩,⟨#[114]⟩]
def qbY(op:Int):ByteArray:=qeh.getD op.toNat ⟨#[]⟩
theorem qb0(W0:World)(own:Own)(op:Int)(h:0≤op∧op<18):qD Tryz.prog W0 130 [.int .i64 op] own (.string (qbY op)):=by
 refine qe (qa qj q7z (by simp[q2t]) ?_)
 have hl:qeh.length=18:=rfl
 have hk:(qeh.map Value.string)[0+op.toNat*1]? =some (.string (qbY op)):=by
  have e:0+op.toNat*1=op.toNat:=by omega
  rw[e]
  have:op.toNat<18:=by omega
  simp[qbY,hl,this]
 repeat'((try(conv=>whnf));first|(refine qH _ (List.Mem.head _) hk ?_)|(refine qi3 ?_ ?_;omega)|(refine qc (fun bk hbk=> ?_)))
 all_goals exact⟨rfl,eB⟩
theorem q9W(W0:World)(own:Own)(r:Int)(u:Bool):qD Tryz.prog W0 131 [.int .i64 r, .bool u] own (.bool (decide (q2p u r))):=by
 refine qe (qa qj q55 (by simp[q16]) ?_)
 cases u
 all_goals
  repeat'((try(conv=>whnf));first|(refine qC ?_)|(refine q2l ?_)|(refine q3T ?_)|(refine q4C ?_)|(refine q4E (fun hc=> ?_) (fun hc=> ?_))|(exact Ent.refl)|(refine And.intro rfl ?_))
  all_goals(refine⟨q0I (vb ?_),eB⟩)
  all_goals first|(refine dd ?_;simp[q2p];try omega)|(refine df ?_;simp[q2p];try omega)|(refine dt ?_;simp[q2p];try omega)
theorem qgc{W0:World}{own:Own}{s:ByteArray}{c:Int}{K:Value→Prop}(b:Bool)(hb:qga c s.data.toList=b)(hs:Nat.ble s.size 10=true)(h:K (.bool b)):q0d Tryz.prog W0 own 132 [.string s, .int .u8 c] K:=
 q79 (fun _=>qaq _ _ s c (by have:=Nat.le_of_ble_eq_true hs;omega)) (by rw[hb];exact h)
theorem qgG{W0:World}{own:Own}{s:ByteArray}{c:Int}{K:Value→Own→Prop}(b:Bool)(hb:qga c s.data.toList=b)(hs:Nat.ble s.size 10=true)(h:K (.bool b) own):qg Tryz.prog W0 own 132 [.string s, .int .u8 c] K:=
 qf (qaq _ _ s c (by have:=Nat.le_of_ble_eq_true hs;omega)) (by rw[hb];exact h)
theorem qbP(W0:World)(own:Own)(op a b c imm:Int):
  qD Tryz.prog W0 101 [.agg #[.int .i64 op, .int .i64 a, .int .i64 b, .int .i64 c, .int .i64 imm]] own (.int .i64 (qv ⟨op,a,b,c,imm⟩)):=by
 refine qe (qa qj q6Y (by simp[q22]) ?_)
 simp only[qv]
 by_cases hop:op<0∨18≤op
 ·rw[if_pos hop]
  repeat'((try(conv=>whnf));first|(refine qC ?_)|(refine q0C ?_)|(refine q3T ?_)|(refine q18 (by omega) ?_)|(apply qH;(exact eM);exact rfl)|(refine qc (fun bk hbk=> ?_))|(refine q2k (fun hc=> ?_) (fun hc=> ?_))|(exact Ent.refl)|(refine Ent.cons ?_)|(refine And.intro rfl ?_))
  all_goals first|exact⟨rfl,eB⟩|(exfalso;omega)
 ·rw[if_neg hop]
  have hw:op=0∨op=1∨op=2∨op=3∨op=4∨op=5∨op=6∨op=7∨op=8∨op=9∨op=10∨op=11∨op=12∨op=13∨op=14∨op=15∨op=16∨op=17:=by omega
  by_cases h1:q2p (qfi op) a <;>by_cases h2:q2p (qhV op) b <;>by_cases h3:q2p (qhx op) c
  all_goals rcases hw with rfl|rfl|rfl|rfl|rfl|rfl|rfl|rfl|rfl|rfl|rfl|rfl|rfl|rfl|rfl|rfl|rfl|rfl
  all_goals
   repeat'((try(conv=>whnf));first|(refine qC ?_)|(refine q0C ?_)|(refine q3T ?_)|(refine q4C ?_)|(refine q90 h1 ?_)|(refine q8T h1 ?_)|(refine q90 h2 ?_)|(refine q8T h2 ?_)|(refine q9N h3 ?_)|(refine qb1 h3 ?_)|(apply qf (qb0 _ _ _ (by decide)))|(refine qgc true rfl rfl ?_)|(refine qgc false rfl rfl ?_)|(refine qgG true rfl rfl ?_)|(refine qgG false rfl rfl ?_)|(apply q79 (fun _=>q9W _ _ _ _))|(apply qH;(exact eM);exact rfl)|(refine qc (fun bk hbk=> ?_))|(refine q2k (fun hc=> ?_) (fun hc=> ?_))|(refine q5X (fun hc=> ?_) (fun hc=> ?_)))
   all_goals(refine⟨q0I (vi ?_),eB⟩;simp[h1,h2,h3,q5t];try omega)
theorem q4T(W0:World)(own:Own)(i:Ins):qD Tryz.prog W0 101 [i.v] own (.int .i64 (qv i)):=qbP W0 own i.op i.a i.b i.c i.imm
def q38(i:Ins):Int:=
 if qv i=0 then(if i.op=8∨i.op=9∨i.op=10∨i.op=11∨i.op=14∨i.op=15 then 1 else if i.op=7∨i.op=12∨i.op=13∨i.op=16∨i.op=17 then 2 else 0) else 0
def q1M(i:Ins):Bool:=decide (qv i=0∧(i.op=4∨i.op=5∨i.op=6))
def q7m(i:Ins):Int:=if q1M i then i.imm else 0
theorem qcL(W0:World)(own:Own)(hF:q0B W0)(i:Ins):qD Tryz.prog W0 155 [i.v] own (.int .i64 (q38 i)):=by
 refine qe (qa qj q8X (by simp[q32]) ?_)
 have hc:=fun own=>q73 W0 own hF i
 unfold q38
 generalize qv i=z at*
 repeat'((try(conv=>whnf));first|(refine q18 (by omega) ?_)|(apply qf (hc _))|(apply qH;(exact eM);exact rfl)|(apply qX;(exact eM);exact rfl)|(refine qc (fun bk hbk=> ?_))|(refine q5X (fun hc=> ?_) (fun hc=> ?_)))
 all_goals(refine⟨q0I (vi ?_),eB⟩;(repeat' split) <;>first|rfl|omega)
theorem qdQ(W0:World)(own:Own)(i:Ins):qD Tryz.prog W0 99 [i.v] own (.int .i64 (q38 i)):=by
 refine qe (qa qj q6y (by simp[q1W]) ?_)
 have hc:=fun own=>q4T W0 own i
 unfold q38
 generalize qv i=z at*
 repeat'((try(conv=>whnf));first|(refine q18 (by omega) ?_)|(apply qf (hc _))|(apply qH;(exact eM);exact rfl)|(apply qX;(exact eM);exact rfl)|(refine qc (fun bk hbk=> ?_))|(refine q5X (fun hc=> ?_) (fun hc=> ?_)))
 all_goals(refine⟨q0I (vi ?_),eB⟩;(repeat' split) <;>first|rfl|omega)
theorem qdx(W0:World)(own:Own)(hF:q0B W0)(i:Ins):qD Tryz.prog W0 186 [i.v] own (.tuple #[.int .i64 (q7m i), .bool (q1M i)]):=by
 refine qe (qa qj q8V (by simp[q2X]) ?_)
 have hc:=fun own=>q73 W0 own hF i
 unfold q7m q1M
 generalize qv i=z at*
 repeat'((try(conv=>whnf));first|(refine q18 (by omega) ?_)|(apply qf (hc _))|(apply qH;(exact eM);exact rfl)|(apply qX;(exact eM);exact rfl)|(refine qc (fun bk hbk=> ?_))|(refine q5X (fun hc=> ?_) (fun hc=> ?_)))
 all_goals(refine⟨qcy (vi ?_) (vb ?_),eB⟩)
 all_goals first|rfl|(simp;done)|(simp[*];done)|(simp;omega)|(symm;simp;omega)
theorem qcZ(W0:World)(own:Own)(i:Ins):qD Tryz.prog W0 102 [i.v] own (.tuple #[.int .i64 (q7m i), .bool (q1M i)]):=by
 refine qe (qa qj q6t (by simp[q25]) ?_)
 have hc:=fun own=>q4T W0 own i
 unfold q7m q1M
 by_cases h0:qv i=0
 ·have hop:¬(i.op<0∨18≤i.op):=by
   intro h
   unfold qv at h0
   rw[if_pos h] at h0
   omega
  have hf:=fun own=>qb0 W0 own i.op (by omega)
  have hh:qga 106 (qbY i.op).data.toList=decide (i.op=4∨i.op=5∨i.op=6):=by
   obtain⟨op,hop2⟩:∃op,op=i.op:=⟨_,rfl⟩
   rw[←hop2] at hop ⊢
   have hw:op=0∨op=1∨op=2∨op=3∨op=4∨op=5∨op=6∨op=7∨op=8∨op=9∨op=10∨op=11∨op=12∨op=13∨op=14∨op=15∨op=16∨op=17:=by omega
   rcases hw with rfl|rfl|rfl|rfl|rfl|rfl|rfl|rfl|rfl|rfl|rfl|rfl|rfl|rfl|rfl|rfl|rfl|rfl <;>decide+kernel
  have hsz:(qbY i.op).size≤10:=by
   obtain⟨op,hop2⟩:∃op,op=i.op:=⟨_,rfl⟩
   rw[←hop2] at hop ⊢
   have hw:op=0∨op=1∨op=2∨op=3∨op=4∨op=5∨op=6∨op=7∨op=8∨op=9∨op=10∨op=11∨op=12∨op=13∨op=14∨op=15∨op=16∨op=17:=by omega
   rcases hw with rfl|rfl|rfl|rfl|rfl|rfl|rfl|rfl|rfl|rfl|rfl|rfl|rfl|rfl|rfl|rfl|rfl|rfl <;>decide+kernel
  have hq:=fun own=>qaq W0 own (qbY i.op) 106 (by omega)
  rw[hh] at hq
  rw[h0] at hc ⊢
  repeat'((try(conv=>whnf));first|(refine qC ?_)|(apply qf (hc _))|(apply qf (hf _))|(apply qf (hq _))|(apply qH;(exact eM);exact rfl)|(apply qX;(exact eM);exact rfl)|(refine qc (fun bk hbk=> ?_))|(refine qea (fun hc=> ?_) (fun hc=> ?_)))
  all_goals(refine⟨qcy (vi ?_) (vb ?_),eB⟩)
  all_goals first|rfl|(simp[*];done)|(simp;omega)|(symm;simp;omega)
 ·generalize qv i=z at*
  repeat'((try(conv=>whnf));first|(refine q0C ?_)|(refine q3T ?_)|(refine q6v (by omega) ?_)|(apply qf (hc _))|(apply qX;(exact eM);exact rfl)|(refine qc (fun bk hbk=> ?_)))
  all_goals(refine⟨qcy (vi ?_) (vb ?_),eB⟩)
  all_goals first|rfl|(simp[*];done)|(simp;omega)|(symm;simp;omega)
end Go.Proofs.YtkieffpjjfebjaaGreatDoor
