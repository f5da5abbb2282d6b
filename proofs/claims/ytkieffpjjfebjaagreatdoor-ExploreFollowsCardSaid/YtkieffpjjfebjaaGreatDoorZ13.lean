/- What the laws share, part 13. No condition. -/
import Derived.LaidMore
import Derived.Lay
import Derived.LaidByTextLater
import Derived.Stop.Joined
import Derived.SevenTiedAt
import Derived.Test.YtkieffpjjfebjaaGreatDoorZ12
set_option maxHeartbeats 4000000
set_option maxRecDepth 10000
namespace Go.Proofs.YtkieffpjjfebjaaGreatDoor
open Go Go.ChangeShapes Go.WideShapes Go.ChangeAt Go.RowKit
structure q1s(W0:World)(g:Nat)(cs:List Value):Prop where
 size:g<W0.heap.size
 cell:∀j v,cs[j]? =some v→W0.cell? ⟨g,j,none⟩=some v
theorem q1s.st{W0 w:World}{own:Own}{g:Nat}{cs:List Value}(h:q1s W0 g cs)(hw:St W0 own w):q1s w g cs:=
 ⟨Nat.lt_of_lt_of_le h.size hw.size,fun j v hv=>(World.cell?_of_block (w:=W0) (hw.base g h.size)).trans (h.cell j v hv)⟩
theorem q1s.kn{W0:World}{own:Own}{g:Nat}{cs:List Value}(h:q1s W0 g cs){j:Nat}{v:Value}(hv:cs[j]? =some v):Kn W0 own (fun w=>w.cell? ⟨g,j,none⟩=some v):=fun _ hw=>(h.st hw).cell j v hv
theorem qhH{W0:World}{own:Own}{g:Nat}{cs:List Value}(h:q1s W0 g cs){j:Nat}{K:Value→Prop}(v:Value)(hv:cs[j]? =some v)(hk:K v):Ld W0 own ⟨g,j,none⟩ K:=⟨v,h.kn hv,hk⟩
theorem q15{W0:World}{own:Own}{g:Nat}{cs:List Value}(h:q1s W0 g cs){j n:Nat}{K:Array Value→Prop}(vs:List Value)(hv:(cs.drop j).take n=vs)(hl:vs.length=n)(hk:K vs.toArray):LdN W0 own ⟨g,j,none⟩ n K:=by
 refine⟨vs.toArray,by simpa using hl,fun w hw i hi=> ?_,hk⟩
 rw[qI]
 have hi':i<vs.length:=by omega
 refine(h.kn (own:=own) (v:=vs[i]) ?_ w hw).trans (by simp[hi'])
 subst hv
 rw[List.getElem?_eq_some_iff]
 simp only[List.length_take,List.length_drop] at hi'
 exact⟨by omega,by simp[List.getElem_take,List.getElem_drop]⟩
namespace Alu
open Go
theorem qjm:FloatKind.f64.format=Ieee.double:=rfl
theorem sw:Ieee.double.signWeight=9223372036854775808:=by decide
theorem bn:Ieee.double.binade=4503599627370496:=by decide
theorem ir:Ieee.double.infRung=9218868437227405312:=by decide
def isN(x:Nat):Bool:=decide (9218868437227405312<x % 9223372036854775808)
theorem qby(x:Nat):(Ieee.double.read x).isNaN=isN x:=by
 unfold Ieee.Format.read isN
 simp only[sw,bn,ir]
 split
 ·simp only[Ieee.Datum.isNaN];symm;rw[decide_eq_false_iff_not];omega
 ·split
  ·simp only[Ieee.Datum.isNaN];symm;rw[decide_eq_false_iff_not];omega
  ·split
   ·simp only[Ieee.Datum.isNaN];symm;rw[decide_eq_false_iff_not];omega
   ·simp only[Ieee.Datum.isNaN];symm;rw[decide_eq_true_eq];omega
theorem qc8(d:Ieee.Datum):d.order d=if d.isNaN then none else some .eq:=by
 cases d with
 |nan=>rfl
 |infinity s=>simp[Ieee.Datum.order,Ieee.Datum.isNaN]
 |number s m i=>simp[Ieee.Datum.order,Ieee.Datum.isNaN]
theorem qc9(x:Nat):FloatKind.f64.format.order x x=if isN x then none else some .eq:=by
 rw[←qby]
 exact qc8 _
theorem qeU(x:Nat):q7k .neq (FloatKind.f64.format.order x x)=isN x:=by
 rw[qc9]
 cases isN x <;>rfl
theorem qfl{r:Nat}(h:qkl r):isN r=true:=by
 obtain⟨s,t,hs,ht,rfl⟩:=h
 unfold isN
 rw[decide_eq_true_eq]
 have h1:(2:Nat) ^ 63=9223372036854775808:=by decide
 have h2:(2:Nat) ^ 52=4503599627370496:=by decide
 rw[h2] at ht
 rw[h1]
 omega
theorem qcL(k:Nat)(m:Int)(n:Int)(h0:0≤m)(h1:m<18446744073709551616)(hn:n=2 ^ k-1)(hk:k<64):qaO .and .u64 m n=m % 2 ^ k:=by
 unfold qaO
 subst hn
 obtain⟨m,rfl⟩:=Int.eq_ofNat_of_zero_le h0
 have hp:(0:Int)<2 ^ k:=Int.pow_pos (by omega)
 have e1:((2:Int) ^ k-1)=((2 ^ k-1:Nat):Int):=by
  have:1≤2 ^ k:=Nat.one_le_two_pow
  rw[Int.ofNat_sub this,Int.natCast_pow]
  rfl
 have hlt:2 ^ k-1<2 ^ 64:=by
  have:2 ^ k≤2 ^ 64:=Nat.pow_le_pow_right (by omega) (by omega)
  omega
 have hm:m<2 ^ 64:=by
  have:(2:Nat) ^ 64=18446744073709551616:=by decide
  omega
 rw[e1,BitVec.toNat_and,BitVec.ofInt_natCast,BitVec.ofInt_natCast,BitVec.toNat_ofNat,BitVec.toNat_ofNat]
 show IntKind.u64.wrap ((m % 2 ^ 64&&&(2 ^ k-1) % 2 ^ 64:Nat):Int)=_
 rw[Nat.mod_eq_of_lt hm,Nat.mod_eq_of_lt hlt,Nat.and_two_pow_sub_one_eq_mod]
 have hb:m % 2 ^ k≤m:=Nat.mod_le _ _
 rw[q9i (by omega) (by omega),Int.natCast_emod,Int.natCast_pow]
 rfl
def okW(x:Int):Prop:=0≤x∧x≤18446744073709551615
def qkg(x:Int):Bool:=isN x.toNat
def truthM(b:Bool):Int:=if b then 1 else 0
def nanW:Int:=9221120237041090560
def plainM(x:Nat):Int:=if isN x then nanW else x
theorem q5k(W0:World)(own:Own)(a:Nat):qD Tryz.prog W0 179 [.float .f64 a] own (.bool (isN a)):=by
 refine qe (qa qj q7z (by simp[q2z]) ?_)
 repeat'((try(conv=>whnf));first|(refine q81 _ (qeU _) ?_)|(exact Ent.refl)|(refine And.intro rfl ?_))
 all_goals exact⟨rfl,eB⟩
theorem q3H(W0:World)(own:Own)(a:Nat):qD Tryz.prog W0 180 [.float .f64 a] own (.int .u64 (plainM a)):=by
 refine qe (qa qj q8M (by simp[q30]) ?_)
 cases hn:isN a
 ·have h1:∀own,qD Tryz.prog W0 179 [.float .f64 a] own (.bool false):=fun own=>by rw[←hn];exact q5k W0 own a
  repeat'((try(conv=>whnf));first|(apply qg (h1 _))|(refine q4B ?_))
  all_goals(refine⟨q0N (vi ?_),eB⟩;simp[plainM,hn])
 ·have h1:∀own,qD Tryz.prog W0 179 [.float .f64 a] own (.bool true):=fun own=>by rw[←hn];exact q5k W0 own a
  repeat'((try(conv=>whnf));first|(apply qg (h1 _))|(refine q3M ?_))
  all_goals(refine⟨q0N (vi ?_),eB⟩;simp[plainM,hn,nanW])
theorem qbI(W0:World)(own:Own)(b:Bool):qD Tryz.prog W0 181 [.bool b] own (.int .u64 (truthM b)):=by
 refine qe (qa qj q8O (by simp[q32]) ?_)
 cases b <;>(repeat'((try(conv=>whnf));first|(refine q3M ?_)|(refine q4B ?_));all_goals exact⟨rfl,eB⟩)
theorem qgR{m:Int}(h:0≤m∧m<18446744073709551616):qaO .and .u64 m 2047=m % 2048:=qcL 11 m 2047 h.1 h.2 rfl (by omega)
theorem qgS{m:Int}(h:0≤m∧m<18446744073709551616):qaO .and .u64 m 4503599627370495=m % 4503599627370496:=qcL 52 m 4503599627370495 h.1 h.2 rfl (by omega)
theorem qia(W0:World)(own:Own)(x:Int)(hx:okW x):qD Tryz.prog W0 159 [.int .u64 x] own (.bool (qkg x)):=by
 unfold okW at hx
 refine qe (qa qj q8T (by simp[q37]) ?_)
 repeat'((try(conv=>whnf));first|(refine qkY 52 4503599627370496 rfl rfl (by omega) rfl ?_)|(refine qiT _ (qgR (by omega)) ?_)|(refine qiT _ (qgS (by omega)) ?_)|(refine qC ?_)|(refine q2q ?_)|(refine q4Q (fun hc=> ?_) (fun hc=> ?_)))
 all_goals(refine⟨q0N (vb ?_),eB⟩;unfold qkg isN)
 all_goals first|(refine dd ?_;omega)|(refine dn ?_;omega)|(refine df ?_;omega)|(refine dt ?_;omega)
theorem qkU{k:IntKind}{m n:Int}{K:Int→Prop}(h0:0≤n)(h:K (k.wrap (m*2 ^ (min n.toNat k.bits)))):Shl k m n K:=⟨h0,h⟩
theorem qkX{k:IntKind}{m n:Int}{K:Int→Prop}(h0:0≤n)(h:K (m.fdiv (2 ^ (min n.toNat k.bits)))):Shr k m n K:=⟨h0,h⟩
def intsM(fn x y:Int):Int:=
 if fn=0 then IntKind.u64.wrap (x+y) else if fn=1 then IntKind.u64.wrap (x-y) else if fn=2 then IntKind.u64.wrap (x*y) else if fn=3 then qaO .and .u64 x y else if fn=4 then qaO .or .u64 x y
 else if fn=5 then qaO .xor .u64 x y else if fn=6 then IntKind.u64.wrap (x*2 ^ (min (y % 64).toNat IntKind.u64.bits)) else if fn=7 then x.fdiv (2 ^ (min (y % 64).toNat IntKind.u64.bits))
 else if fn=8 then truthM (decide (x=y)) else if fn=9 then truthM (decide (x≠y)) else if fn=10 then truthM (decide (IntKind.i64.wrap x<IntKind.i64.wrap y)) else truthM (decide (x<y))
theorem qi7(W0:World)(own:Own)(fn x y:Int)(hf:0≤fn∧fn<12)(hy:okW y):qD Tryz.prog W0 153 [.int .i64 fn, .int .u64 x, .int .u64 y] own (.int .u64 (intsM fn x y)):=by
 unfold okW at hy
 have hw:fn=0∨fn=1∨fn=2∨fn=3∨fn=4∨fn=5∨fn=6∨fn=7∨fn=8∨fn=9∨fn=10∨fn=11:=by omega
 refine qe (qa qj q6b (by simp[q1x]) ?_)
 rcases hw with rfl|rfl|rfl|rfl|rfl|rfl|rfl|rfl|rfl|rfl|rfl|rfl
 all_goals
  repeat'((try(conv=>whnf));first|(refine q3M ?_)|(refine q4B ?_)|(refine arw ?_)|(refine qkA ?_)|(refine qkU (by omega) ?_)|(refine qkX (by omega) ?_)|(apply qg (qbI _ _ _))|(refine q9M ?_ ?_;omega)|(exact Ent.refl)|(refine And.intro rfl ?_))
  all_goals exact⟨rfl,eB⟩
theorem q9W(W0:World)(own:Own)(a:Nat)(ha:a<18446744073709551616):qD Tryz.prog W0 158 [.float .f64 a] own (.int .u64 (plainM a)):=by
 refine qe (qa qj q6g (by simp[q1C]) ?_)
 have h0:=fun own=>qia W0 own (a:Int) (by unfold okW;omega)
 have e:qkg (a:Int)=isN a:=by unfold qkg;rw[Int.toNat_natCast]
 rw[e] at h0
 cases hn:isN a
 ·rw[hn] at h0
  repeat'((try(conv=>whnf));first|(apply qg (h0 _))|(refine q4B ?_))
  all_goals(refine⟨q0N (vi ?_),eB⟩;simp[plainM,hn])
 ·rw[hn] at h0
  repeat'((try(conv=>whnf));first|(apply qg (h0 _))|(refine q3M ?_))
  all_goals(refine⟨q0N (vi ?_),eB⟩;simp[plainM,hn,nanW])
def fopM(op:BinOp)(a b:Nat):Int:=match floatBits op .f64 a b with|some r=>plainM r|none=>nanW
theorem q5c{r:Nat}(h:qkl r):plainM r=nanW:=by unfold plainM;rw[qfl h];rfl
theorem qjR(W0:World)(own:Own)(a b:Nat):qD Tryz.prog W0 182 [.float .f64 a, .float .f64 b] own (.float .f64 (q73 true a b)):=by
 refine qe (qa qj q9F (by simp[q3v]) ?_)
 repeat'((try(conv=>whnf));first|(refine q3M ?_)|(exact Ent.refl)|(refine And.intro rfl ?_))
 all_goals exact⟨rfl,eB⟩
theorem qjQ(W0:World)(own:Own)(a b:Nat):qD Tryz.prog W0 183 [.float .f64 a, .float .f64 b] own (.float .f64 (q73 false a b)):=by
 refine qe (qa qj q9E (by simp[q3u]) ?_)
 repeat'((try(conv=>whnf));first|(refine q3M ?_)|(exact Ent.refl)|(refine And.intro rfl ?_))
 all_goals exact⟨rfl,eB⟩
def floatsM(fn:Int)(a b:Nat):Int:=
 if fn=12 then fopM .add a b else if fn=13 then fopM .sub a b else if fn=14 then fopM .mul a b else if fn=15 then fopM .quo a b
 else if fn=16 then(if isN a||isN b then nanW else plainM (q73 true a b)) else if fn=17 then(if isN a||isN b then nanW else plainM (q73 false a b))
 else if fn=18 then truthM (q7k .eql (FloatKind.f64.format.order a b)) else truthM (q7k .lss (FloatKind.f64.format.order a b))
theorem qe1(W0:World)(own:Own)(fn:Int)(a b:Nat)(hf:12≤fn∧fn<20):qD Tryz.prog W0 152 [.int .i64 fn, .float .f64 a, .float .f64 b] own (.int .u64 (floatsM fn a b)):=by
 have hA:=fun own=>q5k W0 own a
 have hB:=fun own=>q5k W0 own b
 generalize e1:isN a=na at hA
 generalize e2:isN b=nb at hB
 refine qe (qa qj q7x (by simp[q2x]) ?_)
 have hw:fn=12∨fn=13∨fn=14∨fn=15∨fn=16∨fn=17∨fn=18∨fn=19:=by omega
 rcases hw with rfl|rfl|rfl|rfl|rfl|rfl|rfl|rfl
 case inl=>
  cases hfb:floatBits .add .f64 a b <;>cases na <;>cases nb
  all_goals
   repeat'((try(conv=>whnf));first|(refine qC ?_)|(refine q0D ?_)|(refine q3M ?_)|(refine qf9 _ hfb ?_)|(refine qf8 hfb (fun r hr=> ?_))|(apply qg (hA _))|(apply qg (hB _))|(apply qg (q3H _ _ _)))
   all_goals(refine⟨q0N (vi ?_),eB⟩;simp[floatsM,fopM,hfb];try exact q5c (by assumption))
 case inr.inl=>
  cases hfb:floatBits .sub .f64 a b <;>cases na <;>cases nb
  all_goals
   repeat'((try(conv=>whnf));first|(refine qC ?_)|(refine q0D ?_)|(refine q3M ?_)|(refine q4B ?_)|(refine qf9 _ hfb ?_)|(refine qf8 hfb (fun r hr=> ?_))|(apply qg (hA _))|(apply qg (hB _))|(apply qg (q3H _ _ _)))
   all_goals(refine⟨q0N (vi ?_),eB⟩;simp[floatsM,fopM,hfb];try exact q5c (by assumption))
 case inr.inr.inl=>
  cases hfb:floatBits .mul .f64 a b <;>cases na <;>cases nb
  all_goals
   repeat'((try(conv=>whnf));first|(refine qC ?_)|(refine q0D ?_)|(refine q3M ?_)|(refine q4B ?_)|(refine qf9 _ hfb ?_)|(refine qf8 hfb (fun r hr=> ?_))|(apply qg (hA _))|(apply qg (hB _))|(apply qg (q3H _ _ _)))
   all_goals(refine⟨q0N (vi ?_),eB⟩;simp[floatsM,fopM,hfb];try exact q5c (by assumption))
 case inr.inr.inr.inl=>
  cases hfb:floatBits .quo .f64 a b <;>cases na <;>cases nb
  all_goals
   repeat'((try(conv=>whnf));first|(refine qC ?_)|(refine q0D ?_)|(refine q3M ?_)|(refine q4B ?_)|(refine qf9 _ hfb ?_)|(refine qf8 hfb (fun r hr=> ?_))|(apply qg (hA _))|(apply qg (hB _))|(apply qg (q3H _ _ _)))
   all_goals(refine⟨q0N (vi ?_),eB⟩;simp[floatsM,fopM,hfb];try exact q5c (by assumption))
 all_goals
  cases na <;>cases nb
  all_goals
   repeat'((try(conv=>whnf));first|(refine qC ?_)|(refine q0D ?_)|(refine q3M ?_)|(refine q4B ?_)|(refine qjn ?_)|(apply qg (hA _))|(apply qg (hB _))|(apply qg (q3H _ _ _))|(apply qg (qbI _ _ _))|(apply qg (qjR _ _ _ _))|(apply qg (qjQ _ _ _ _))|(exact Ent.refl)|(refine And.intro rfl ?_))
   all_goals(refine⟨q0N (vi ?_),eB⟩;simp[floatsM,e1,e2,nanW])
def qkj:Nat:=4890909195324358656
def qki:Nat:=14114281232179134464
theorem qfu:Ieee.double.read qkj= .number false 4503599627370496 11:=by decide
theorem qdK:Ieee.double.read qki= .number true 4503599627370496 11:=by decide
theorem qaZ(s:Bool)(n drop:Nat):Ieee.Toward.zero.cut s n drop=n/2 ^ (min drop (n.log2+2)):=by
 simp[Ieee.Toward.cut,Nat.shiftLeft_eq]
theorem qiY{s:Bool}{n drop j:Nat}(h:n<2 ^ (drop+j)):Ieee.Toward.zero.cut s n drop<2 ^ j:=by
 rw[qaZ]
 by_cases hd:drop≤n.log2+2
 ·rw[Nat.min_eq_left hd]
  refine(Nat.div_lt_iff_lt_mul (Nat.two_pow_pos _)).2 ?_
  rw[←Nat.pow_add,Nat.add_comm j drop]
  exact h
 ·rw[Nat.min_eq_right (by omega)]
  have h1:n<2 ^ (n.log2+2):=Nat.lt_of_lt_of_le Nat.lt_log2_self (Nat.pow_le_pow_right (by omega) (by omega))
  rw[Nat.div_eq_of_lt h1]
  exact Nat.two_pow_pos _
theorem qiX{s:Bool}{n drop j:Nat}(h:n≤2 ^ (drop+j)):Ieee.Toward.zero.cut s n drop≤2 ^ j:=by
 rw[qaZ]
 by_cases hd:drop≤n.log2+2
 ·rw[Nat.min_eq_left hd]
  refine Nat.div_le_of_le_mul ?_
  rw[←Nat.pow_add]
  exact h
 ·rw[Nat.min_eq_right (by omega)]
  have h1:n<2 ^ (n.log2+2):=Nat.lt_of_lt_of_le Nat.lt_log2_self (Nat.pow_le_pow_right (by omega) (by omega))
  rw[Nat.div_eq_of_lt h1]
  exact Nat.zero_le _
theorem qdR{s:Bool}{m:Nat}{e:Int}(h:m<<<(e-min e 11).toNat<4503599627370496<<<(11-min e 11).toNat):Ieee.Toward.zero.cut s (m<<<e.toNat) (-e).toNat<9223372036854775808:=by
 have hp:(9223372036854775808:Nat)=2 ^ 63:=by decide
 have h52:(4503599627370496:Nat)=2 ^ 52:=by decide
 rw[hp]
 refine qiY ?_
 rw[h52,Nat.shiftLeft_eq,Nat.shiftLeft_eq,←Nat.pow_add] at h
 rw[Nat.shiftLeft_eq]
 by_cases h11:11≤e
 ·have e1:min e 11=11:=by omega
  rw[e1] at h
  have e2:(-e).toNat=0:=by omega
  have e3:e.toNat=(e-11).toNat+11:=by omega
  rw[e2,e3,Nat.pow_add,←Nat.mul_assoc]
  have:=Nat.mul_lt_mul_of_pos_right h (show 0<2 ^ 11 by decide)
  rw[←Nat.pow_add] at this
  simpa using this
 ·have e1:min e 11=e:=by omega
  rw[e1] at h
  have e0:(e-e).toNat=0:=by omega
  rw[e0,Nat.pow_zero,Nat.mul_one] at h
  by_cases hneg:e<0
  ·have e2:e.toNat=0:=by omega
   rw[e2,Nat.pow_zero,Nat.mul_one]
   have e3:(-e).toNat+63=52+(11-e).toNat:=by omega
   rw[e3]
   exact h
  ·have e2:(-e).toNat=0:=by omega
   have e3:0+63=52+(11-e).toNat+e.toNat:=by omega
   rw[e2,e3,Nat.pow_add _ _ e.toNat]
   exact Nat.mul_lt_mul_of_pos_right h (Nat.two_pow_pos _)
theorem qcg{s:Bool}{m:Nat}{e:Int}(h:m<<<(e-min e 11).toNat≤4503599627370496<<<(11-min e 11).toNat):Ieee.Toward.zero.cut s (m<<<e.toNat) (-e).toNat≤9223372036854775808:=by
 have hp:(9223372036854775808:Nat)=2 ^ 63:=by decide
 have h52:(4503599627370496:Nat)=2 ^ 52:=by decide
 rw[hp]
 refine qiX ?_
 rw[h52,Nat.shiftLeft_eq,Nat.shiftLeft_eq,←Nat.pow_add] at h
 rw[Nat.shiftLeft_eq]
 by_cases h11:11≤e
 ·have e1:min e 11=11:=by omega
  rw[e1] at h
  have e2:(-e).toNat=0:=by omega
  have e3:e.toNat=(e-11).toNat+11:=by omega
  rw[e2,e3,Nat.pow_add,←Nat.mul_assoc]
  have:=Nat.mul_le_mul_right (2 ^ 11) h
  rw[←Nat.pow_add] at this
  simpa using this
 ·have e1:min e 11=e:=by omega
  rw[e1] at h
  have e0:(e-e).toNat=0:=by omega
  rw[e0,Nat.pow_zero,Nat.mul_one] at h
  by_cases hneg:e<0
  ·have e2:e.toNat=0:=by omega
   rw[e2,Nat.pow_zero,Nat.mul_one]
   have e3:(-e).toNat+63=52+(11-e).toNat:=by omega
   rw[e3]
   exact h
  ·have e2:(-e).toNat=0:=by omega
   have e3:0+63=52+(11-e).toNat+e.toNat:=by omega
   rw[e2,e3,Nat.pow_add _ _ e.toNat]
   exact Nat.mul_le_mul_right _ h
theorem qf2{b:Nat}(hn:isN b=false)(h1:q7k .geq (FloatKind.f64.format.order b qkj)=false)(h2:q7k .lss (FloatKind.f64.format.order b qki)=false):∃n,floatToIntVal .f64 b .i64=some n:=by
 rw[←qby] at hn
 unfold floatToIntVal FloatKind.decode
 rw[qjm] at*
 unfold Ieee.Format.order at h1 h2
 rw[qfu] at h1
 rw[qdK] at h2
 generalize Ieee.double.read b=d at*
 cases d with
 |nan=>simp[Ieee.Datum.isNaN] at hn
 |infinity s=>cases s <;>simp[Ieee.Datum.order,q7k] at h1 h2
 |number s m e=>
  simp only[Ieee.Datum.order,q7k] at h1 h2
  simp only[Ieee.Datum.toInt,Ieee.Datum.integral]
  have hmin:IntKind.i64.min= -9223372036854775808:=rfl
  have hmax:IntKind.i64.max=9223372036854775807:=rfl
  have hin:IntKind.i64.min≤Ieee.signed s (Ieee.Toward.zero.cut s (m<<<e.toNat) (-e).toNat) 0∧Ieee.signed s (Ieee.Toward.zero.cut s (m<<<e.toNat) (-e).toNat) 0≤IntKind.i64.max:=by
   rw[hmin,hmax]
   cases s with
   |false=>
    have hlt:m<<<(e-min e 11).toNat<4503599627370496<<<(11-min e 11).toNat:=by
     rcases Nat.lt_or_ge (m<<<(e-min e 11).toNat) (4503599627370496<<<(11-min e 11).toNat) with h|h
     ·exact h
     ·exfalso
      have hc:compare (Ieee.signed false m (e-min e 11).toNat) (Ieee.signed false 4503599627370496 (11-min e 11).toNat)≠ .lt:=by
       simp only[Ieee.signed,Bool.false_eq_true,if_false,ne_eq,Int.compare_eq_lt]
       omega
      revert h1 hc
      generalize compare (Ieee.signed false m (e-min e 11).toNat) (Ieee.signed false 4503599627370496 (11-min e 11).toNat)=c
      cases c <;>simp
    have:=qdR (s:=false) hlt
    simp only[Ieee.signed,Bool.false_eq_true,if_false,Nat.shiftLeft_zero]
    omega
   |true=>
    have hle:m<<<(e-min e 11).toNat≤4503599627370496<<<(11-min e 11).toNat:=by
     rcases Nat.lt_or_ge (4503599627370496<<<(11-min e 11).toNat) (m<<<(e-min e 11).toNat) with h|h
     ·exfalso
      have hc:compare (Ieee.signed true m (e-min e 11).toNat) (Ieee.signed true 4503599627370496 (11-min e 11).toNat)= .lt:=by
       simp only[Ieee.signed,if_true,Int.compare_eq_lt]
       omega
      rw[hc] at h2
      simp at h2
     ·exact h
    have:=qcg (s:=true) hle
    simp only[Ieee.signed,if_true,Nat.shiftLeft_zero]
    omega
  exact⟨_,if_pos hin⟩
def q8i(b:Nat):Int:=
 if isN b then 0 else if q7k .geq (FloatKind.f64.format.order b qkj) then 9223372036854775807 else if q7k .lss (FloatKind.f64.format.order b qki) then-9223372036854775808 else(floatToIntVal .f64 b .i64).getD 0
theorem qfP(W0:World)(own:Own)(a:Nat):qD Tryz.prog W0 150 [.float .f64 a] own (.int .i64 (q8i a)):=by
 have hA:=fun own=>q5k W0 own a
 refine qe (qa qj q8N (by simp[q31]) ?_)
 cases hn:isN a <;>rw[hn] at hA
 ·cases h1:q7k .geq (FloatKind.f64.format.order a qkj)
  ·cases h2:q7k .lss (FloatKind.f64.format.order a qki)
   ·obtain⟨n,he⟩:=qf2 hn h1 h2
    repeat'((try(conv=>whnf));first|(refine q4B ?_)|(apply qg (hA _))|(refine q81 _ h1 ?_)|(refine q81 _ h2 ?_)|(refine qkG _ he ?_))
    all_goals(refine⟨q0N (vi ?_),eB⟩;simp[q8i,hn,h1,h2,he])
   ·repeat'((try(conv=>whnf));first|(refine q3M ?_)|(refine q4B ?_)|(apply qg (hA _))|(refine q81 _ h1 ?_)|(refine q81 _ h2 ?_))
    all_goals(refine⟨q0N (vi ?_),eB⟩;simp[q8i,hn,h1,h2])
  ·repeat'((try(conv=>whnf));first|(refine q3M ?_)|(refine q4B ?_)|(apply qg (hA _))|(refine q81 _ h1 ?_))
   all_goals(refine⟨q0N (vi ?_),eB⟩;simp[q8i,hn,h1])
 ·repeat'((try(conv=>whnf));first|(refine q3M ?_)|(apply qg (hA _)))
  all_goals(refine⟨q0N (vi ?_),eB⟩;simp[q8i,hn])
def applyW(fn x y:Int):Int:=
 if 0≤fn∧fn<22 then
  if fn=20 then(FloatKind.f64.nearest (IntKind.i64.wrap x):Int) else if fn=21 then IntKind.u64.wrap (q8i x.toNat) else if 12≤fn then floatsM fn x.toNat y.toNat else intsM fn x y
 else 0
def q7Q(fn:Int):Int:=if 0≤fn∧fn<22 then 0 else 10
theorem sp_apply(W0:World)(own:Own)(fn x y:Int)(hy:okW y):
  qD Tryz.prog W0 127 [.int .i64 fn, .int .u64 x, .int .u64 y] own (.tuple #[.int .u64 (applyW fn x y), .int .i64 (q7Q fn)]):=by
 refine qe (qa qj q8L (by simp[q2Z]) ?_)
 by_cases h:0≤fn∧fn<22
 ·by_cases h20:fn=20
  ·subst h20
   repeat'((try(conv=>whnf));first|(refine qC ?_)|(refine q3M ?_)|(refine q4B ?_)|(refine arw ?_))
   all_goals(refine⟨qcC (vi ?_) (vi ?_),eB⟩ <;>simp[applyW,q7Q])
  ·by_cases h21:fn=21
   ·subst h21
    repeat'((try(conv=>whnf));first|(refine qC ?_)|(refine q3M ?_)|(refine q4B ?_)|(apply qg (qfP _ _ _))|(refine arw ?_))
    all_goals(refine⟨qcC (vi ?_) (vi ?_),eB⟩ <;>simp[applyW,q7Q])
   ·by_cases h12:12≤fn
    ·repeat'((try(conv=>whnf));first|(refine qC ?_)|(refine q17 (by omega) ?_)|(refine q2j (by omega) ?_)|(refine q4R (by omega) ?_)|(apply qg (qe1 _ _ fn _ _ (by omega))))
     all_goals(refine⟨qcC (vi ?_) (vi ?_),eB⟩ <;>simp[applyW,q7Q,h,h20,h21,h12])
    ·repeat'((try(conv=>whnf));first|(refine qC ?_)|(refine q2j (by omega) ?_)|(refine q4R (by omega) ?_)|(apply qg (qi7 _ _ fn _ _ (by omega) hy)))
     all_goals(refine⟨qcC (vi ?_) (vi ?_),eB⟩ <;>simp[applyW,q7Q,h,h20,h21,h12])
 ·repeat'((try(conv=>whnf));first|(refine qC ?_)|(refine q0D ?_)|(refine q3M ?_)|(refine q17 (by omega) ?_)|(refine q2p (fun hc=> ?_) (fun hc=> ?_)))
  all_goals first|(exfalso;omega)|(refine⟨qcC (vi ?_) (vi ?_),eB⟩ <;>simp[applyW,q7Q,h])
def qiE(x:Nat):Nat:=x % 9223372036854775808
def sgn(x:Nat):Bool:=x/9223372036854775808 % 2==1
def qlA(x:Nat):Nat:=if qiE x<4503599627370496 then qiE x else 4503599627370496+qiE x % 4503599627370496
def qlx(x:Nat):Nat:=if qiE x<4503599627370496 then 0 else qiE x/4503599627370496-1
def qla(x:Nat):Nat:=qlA x*2 ^ qlx x
def qlu:Nat→Nat:=fun N=>9007199254740992*2 ^ N
def qlo(N x:Nat):Nat:=if qiE x=9218868437227405312 then qlu N else qla x
def key(N x:Nat):Int:=if sgn x then-(qlo N x:Int) else(qlo N x:Int)
theorem fb_lt{op:BinOp}{a b r:Nat}(h:floatBits op .f64 a b=some r):r<18446744073709551616:=by
 have:=floatBits_wf h
 simpa [Lit.wf] using this
end Alu
open Go
structure Ins where
 op:Int
 a:Int
 b:Int
 c:Int
 imm:Int
abbrev Ins.enc(i:Ins):List Value:= [.int .i64 i.op, .int .i64 i.a, .int .i64 i.b, .int .i64 i.c, .int .i64 i.imm]
abbrev Ins.v(i:Ins):Value:= .agg #[.int .i64 i.op, .int .i64 i.a, .int .i64 i.b, .int .i64 i.c, .int .i64 i.imm]
def has(s:ByteArray)(c:Int):Bool:=decide (0≤qeA s c)
theorem qcB(c:UInt8):(⟨#[c]⟩:ByteArray).size=1:=rfl
theorem qfL(W0:World)(own:Own)(s:ByteArray)(c:Int):qD Tryz.prog W0 209 [.string s, .int .u8 c] own (.int .i64 (qeA s c)):=by
 refine qe (qa qj q1q (by simp[qu]) ?_)
 repeat'((try(conv=>whnf));first|(exact Ent.refl)|(refine And.intro rfl ?_))
 all_goals exact⟨rfl,eB⟩
theorem qkZ{c:UInt8}{K:Value→Prop}(h:K (.int .u8 c.toNat)):qlh ⟨#[c]⟩ 0 K:=⟨0,c,rfl,rfl,h⟩
theorem qfe(c:UInt8):qeA ⟨#[c]⟩ c.toNat=0:=by
 unfold qeA
 have e:((c.toNat:Int).toNat.toUInt8)=c:=by simp
 have h0:((⟨#[c]⟩:ByteArray)[0]!)=c:=rfl
 have hf:(List.range (⟨#[c]⟩:ByteArray).size).find? (fun i=>(⟨#[c]⟩:ByteArray)[i]! ==(c.toNat:Int).toNat.toUInt8)=some 0:=by
  show(List.range 1).find? _=some 0
  simp only[List.range_succ,List.range_zero,List.nil_append,List.find?_cons,h0,e,beq_self_eq_true]
 rw[hf]
 rfl
theorem qee(W0:World)(own:Own)(s:ByteArray)(c:UInt8):qD Tryz.prog W0 207 [.string s, .string ⟨#[c]⟩] own (.int .i64 (qeA s c.toNat)):=by
 refine qe (qa qj q2f (by simp[qz]) ?_)
 by_cases hs:(⟨#[c]⟩:ByteArray).toList=s.toList
 ·have e:s=⟨#[c]⟩:=by
   rw[ByteArray.toList_eq,ByteArray.toList_eq] at hs
   have:=Array.toList_inj.1 hs
   cases s
   simp at this
   rw[←this]
  subst e
  repeat'((try(conv=>whnf));first|(refine q17 ?_ ?_;(solve|simp|(simp;omega)))|(refine qC ?_))
  all_goals(refine⟨q0N (vi ?_),eB⟩;first|rfl|exact(qfe c).symm)
 ·repeat'((try(conv=>whnf));first|(refine q2j hs ?_)|(refine qkZ ?_)|(apply qg (qfL _ _ s c.toNat))|(refine qC ?_)|(refine q3M ?_)|(exact Ent.refl)|(refine And.intro rfl ?_))
  all_goals exact⟨rfl,eB⟩
theorem q98(W0:World)(own:Own)(s:ByteArray)(c:UInt8):qD Tryz.prog W0 201 [.string s, .string ⟨#[c]⟩] own (.int .i64 (qeA s c.toNat)):=by
 refine qe (qa qj q5K (by simp[q1k]) ?_)
 repeat'((try(conv=>whnf));first|(apply qg (qee _ _ s c))|(exact Ent.refl)|(refine And.intro rfl ?_))
 all_goals exact⟨rfl,eB⟩
theorem q4O(W0:World)(own:Own)(s:ByteArray)(c:UInt8):qD Tryz.prog W0 184 [.string s, .string ⟨#[c]⟩] own (.bool (has s c.toNat)):=by
 refine qe (qa qj q4z (by simp[q0M]) ?_)
 repeat'((try(conv=>whnf));first|(apply qg (q98 _ _ s c))|(exact Ent.refl)|(refine And.intro rfl ?_))
 all_goals exact⟨rfl,eB⟩
def qfY(op:Int):Bool:=op==1||op==2||op==3||op==5||op==6||op==10||op==11||op==12||op==13||op==14||op==15||op==17
def qiv(op:Int):Bool:=op==2||op==3||op==10||op==11||op==12||op==13
def qiw(op:Int):Bool:=op==3
def q2o(u:Bool)(r:Int):Prop:=if u then 0≤r∧r<8 else r=0
instance(u:Bool)(r:Int):Decidable (q2o u r):=by unfold q2o;infer_instance
def q5z(op imm:Int):Prop:=
 if op=1∨op=10∨op=11∨op=12∨op=13 then True else if op=3 then 0≤imm∧imm<22 else if op=4∨op=5∨op=6 then 0≤imm∧imm≤64 else if op=7 then 1≤imm∧imm≤8 else if op=14 then 0≤imm∧imm<4 else imm=0
instance(op imm:Int):Decidable (q5z op imm):=by unfold q5z;infer_instance
def qv(i:Ins):Int:=
 if i.op<0∨18≤i.op then 10 else if q2o (qfY i.op) i.a∧q2o (qiv i.op) i.b∧q2o (qiw i.op) i.c then(if q5z i.op i.imm then 0 else 11) else 11
def qjp:List Value:= [.string ⟨#[110,111,112]⟩, .string ⟨#[]⟩, .string ⟨#[99,111,110,115,116]⟩, .string ⟨#[65,73]⟩, .string ⟨#[109,111,118,101]⟩, .string ⟨#[65,66]⟩, .string ⟨#[]⟩, .string ⟨#[65,66,67]⟩, .string ⟨#[106,117,109,112]⟩, .string ⟨#[73]⟩,
 .string ⟨#[122,101,114,111]⟩, .string ⟨#[65,73]⟩, .string ⟨#[110,111,110,122,101,114,111]⟩, .string ⟨#[65,73]⟩, .string ⟨#[98,101,103,105,110]⟩, .string ⟨#[73]⟩, .string ⟨#[99,111,109,109,105,116]⟩, .string ⟨#[]⟩, .string ⟨#[97,98,111,114,116]⟩, .string ⟨#[]⟩,
 .string ⟨#[116,114,101,97,100]⟩, .string ⟨#[65,66,73]⟩, .string ⟨#[116,119,114,105,116,101]⟩, .string ⟨#[65,66,73]⟩, .string ⟨#[112,114,101,97,100]⟩, .string ⟨#[65,66,73]⟩, .string ⟨#[112,119,114,105,116,101]⟩, .string ⟨#[65,66,73]⟩,
 .string ⟨#[97,108,108,111,99]⟩, .string ⟨#[65,73]⟩, .string ⟨#[102,114,101,101]⟩, .string ⟨#[65]⟩, .string ⟨#[102,101,110,99,101]⟩, .string ⟨#[]⟩, .string ⟨#[111,117,116,99,111,109,101]⟩, .string ⟨#[65]⟩]
def q0A(W0:World):Prop:=q1s W0 2 qjp
theorem qin{s:ByteArray}{lo hi:Option Int}{K:Value→Prop}(l r:Nat)(t:ByteArray)(h1:lo.getD 0=l)(h2:hi.getD s.size=r)(hlr:Nat.ble l r=true)(hrs:Nat.ble r s.size=true)(ht:s.extract l r=t)(h:K (.string t)):qli s lo hi K:=
 ⟨l,r,h1,h2,by simpa using hlr,by simpa using hrs,by rw[ht];exact h⟩
theorem qhn:(⟨#[65,66,67]⟩:ByteArray).extract 0 1=⟨#[65]⟩:=by decide+kernel
theorem qho:(⟨#[65,66,67]⟩:ByteArray).extract 1 2=⟨#[66]⟩:=by decide+kernel
theorem qhp:(⟨#[65,66,67]⟩:ByteArray).extract 2 3=⟨#[67]⟩:=by decide+kernel
theorem qgA{W0:World}{own:Own}{s:ByteArray}{c:UInt8}{K:Value→Prop}(b:Bool)(hb:has s c.toNat=b)(h:K (.bool b)):q0b Tryz.prog W0 own 184 [.string s, .string ⟨#[c]⟩] K:=
 q6y (fun _=>q4O _ _ s c) (by rw[hb];exact h)
theorem q9W(W0:World)(own:Own)(i:Ins):qD Tryz.prog W0 185 [i.v] own (.bool (decide (q5z i.op i.imm))):=by
 refine qe (qa qj q7y (by simp[q2y]) ?_)
 repeat'((try(conv=>whnf));first|(refine qC ?_)|(refine q2q ?_)|(refine q17 (by omega) ?_)|(apply qH;(exact eM);exact rfl)|(refine qc (fun bk hbk=> ?_))|(refine q4Q (fun hc=> ?_) (fun hc=> ?_))|(refine q5Z (fun hc=> ?_) (fun hc=> ?_)))
 all_goals(refine⟨q0N (vb ?_),eB⟩)
 all_goals first|(refine dd ?_;unfold q5z;(repeat' split) <;>omega)|(refine dt ?_;unfold q5z;(repeat' split) <;>first|exact True.intro|omega)|(refine df ?_;unfold q5z;(repeat' split) <;>omega)
theorem qcm(W0:World)(own:Own)(hF:q0A W0)(op a b c imm:Int)(I:Bool)(hn:∀own,qD Tryz.prog W0 185 [.agg #[.int .i64 op, .int .i64 a, .int .i64 b, .int .i64 c, .int .i64 imm]] own (.bool I)):
  qD Tryz.prog W0 154 [.agg #[.int .i64 op, .int .i64 a, .int .i64 b, .int .i64 c, .int .i64 imm]] own (.int .i64 (if op<0∨18≤op then 10 else if q2o (qfY op) a∧q2o (qiv op) b∧q2o (qiw op) c then(if I then 0 else 11) else 11)):=by
 refine qe (qa qj q8P (by simp[q33]) ?_)
 by_cases hop:op<0∨18≤op
 ·rw[if_pos hop]
  repeat'((try(conv=>whnf));first|(refine qC ?_)|(refine q0D ?_)|(refine q3M ?_)|(refine q17 (by omega) ?_)|(apply qH;(exact eM);exact rfl)|(refine qc (fun bk hbk=> ?_))|(refine q2p (fun hc=> ?_) (fun hc=> ?_))|(exact Ent.refl)|(refine Ent.cons ?_)|(refine And.intro rfl ?_))
  all_goals first|exact⟨rfl,eB⟩|(exfalso;omega)
 ·rw[if_neg hop]
  have hw:op=0∨op=1∨op=2∨op=3∨op=4∨op=5∨op=6∨op=7∨op=8∨op=9∨op=10∨op=11∨op=12∨op=13∨op=14∨op=15∨op=16∨op=17:=by omega
  cases I <;>rcases hw with rfl|rfl|rfl|rfl|rfl|rfl|rfl|rfl|rfl|rfl|rfl|rfl|rfl|rfl|rfl|rfl|rfl|rfl
  all_goals
   repeat'((try(conv=>whnf));first|(refine qC ?_)|(refine q2q ?_)|(refine q0D ?_)|(refine q3M ?_)|(refine q4B ?_)|(refine q55 4 ?_)|(refine qhH hF _ rfl ?_)|(refine qin 0 1 _ rfl rfl rfl rfl qhn ?_)|(refine qin 1 2 _ rfl rfl rfl rfl qho ?_)|(refine qin 2 3 _ rfl rfl rfl rfl qhp ?_)|(refine qgA true rfl ?_)|(refine qgA false rfl ?_)|(apply qg (hn _))|(refine fB ?_)|(refine fO ?_)|(refine ix0 rfl ?_)|(refine ix1 rfl ?_)|(refine ix2 rfl ?_)|(refine ix3 rfl ?_)|(refine ix4 rfl ?_)|(refine fP ?_)|(apply qH;(exact eM);exact rfl)|(apply qX;(exact eM);exact rfl)|(refine qc (fun bk hbk=> ?_))|(refine q2p (fun hc=> ?_) (fun hc=> ?_))|(refine q5Z (fun hc=> ?_) (fun hc=> ?_)))
   all_goals(refine⟨q0N (vi ?_),eB⟩;simp[q2o,qfY,qiv,qiw];try omega)
theorem q7d(W0:World)(own:Own)(hF:q0A W0)(i:Ins):qD Tryz.prog W0 154 [i.v] own (.int .i64 (qv i)):=by
 have h:=qcm W0 own hF i.op i.a i.b i.c i.imm _ (fun own=>q9W W0 own i)
 simp only[decide_eq_true_eq] at h
 exact h
def qgm(c:Int):List UInt8→Bool
 | []=>false
 |x::l=>if(x.toNat:Int)=c then true else qgm c l
theorem qaA(W0:World)(own:Own)(s:ByteArray)(c:Int)(hs:s.size≤9223372036854775807):qD Tryz.prog W0 132 [.string s, .int .u8 c] own (.bool (qgm c s.data.toList)):=by
 refine qe (qa qj q8U (by simp[q38]) ?_)
 have hsz:s.data.toList.length=s.size:=by simp
 refine q1N (σ:=Nat) (fun k=> [(5, .int .i64 k)]) (fun k=>k≤s.size∧qgm c (s.data.toList.drop k)=qgm c s.data.toList) (fun k=>s.size-k) 0 ⟨by omega,rfl⟩ (eF) rfl ?_
 rintro k junk ⟨hk,hI⟩
 by_cases hlt:k<s.size
 ·obtain⟨x,hx⟩:∃x,s.data.toList[k]? =some x:=⟨_,List.getElem?_eq_getElem (by omega)⟩
  have hd:s.data.toList.drop k=x::s.data.toList.drop (k+1):=by
   rw[List.drop_eq_getElem_cons (by omega)]
   congr 1
   exact(List.getElem?_eq_some_iff.1 hx).2
  rw[hd,qgm] at hI
  repeat'((try(conv=>whnf));first|(refine q17 (by omega) ?_)|(refine⟨k,x,rfl,hx,?_⟩)|(refine fB ?_)|(refine q5Z (fun hc=> ?_) (fun hc=> ?_)))
  ·rw[if_pos hc] at hI
   exact⟨q0N (vb hI),eB⟩
  ·rw[if_neg hc] at hI
   exact⟨k+1,⟨by omega,hI⟩,by omega,(eF),Ent.refl⟩
 ·have:k=s.data.toList.length:=by omega
  rw[this,List.drop_length] at hI
  repeat'((try(conv=>whnf));first|(refine q2j (by omega) ?_))
  exact⟨q0N (vb hI),eB⟩
def qdL:List ByteArray:= [⟨#[]⟩,⟨#[114,105]⟩,⟨#[114,115]⟩,⟨#[114,115,116,102]⟩,⟨#[106]⟩,⟨#[114,106]⟩,⟨#[114,106]⟩,⟨#[97]⟩,⟨#[]⟩,⟨#[]⟩,⟨#[114,115,105]⟩,⟨#[114,115,105]⟩,⟨#[114,115,105]⟩,⟨#[114,115,105]⟩,⟨#[114,99]⟩,⟨#[114]⟩,⟨#[]⟩,⟨#[114]⟩]
def qcd(op:Int):ByteArray:=qdL.getD op.toNat ⟨#[]⟩
theorem qbH(W0:World)(own:Own)(op:Int)(h:0≤op∧op<18):qD Tryz.prog W0 130 [.int .i64 op] own (.string (qcd op)):=by
 refine qe (qa qj q7A (by simp[q2A]) ?_)
 have hl:qdL.length=18:=rfl
 have hk:(qdL.map Value.string)[0+op.toNat*1]? =some (.string (qcd op)):=by
  have e:0+op.toNat*1=op.toNat:=by omega
  rw[e]
  have:op.toNat<18:=by omega
  simp[qcd,hl,this]
 repeat'((try(conv=>whnf));first|(refine qH _ (List.Mem.head _) hk ?_)|(refine qhF ?_ ?_;omega)|(refine qc (fun bk hbk=> ?_)))
 all_goals exact⟨rfl,eB⟩
theorem q9Y(W0:World)(own:Own)(r:Int)(u:Bool):qD Tryz.prog W0 131 [.int .i64 r, .bool u] own (.bool (decide (q2o u r))):=by
 refine qe (qa qj q59 (by simp[q14]) ?_)
 cases u
 all_goals
  repeat'((try(conv=>whnf));first|(refine qC ?_)|(refine q2q ?_)|(refine q3M ?_)|(refine q4B ?_)|(refine q4Q (fun hc=> ?_) (fun hc=> ?_))|(exact Ent.refl)|(refine And.intro rfl ?_))
  all_goals(refine⟨q0N (vb ?_),eB⟩)
  all_goals first|(refine dd ?_;simp[q2o];try omega)|(refine df ?_;simp[q2o];try omega)|(refine dt ?_;simp[q2o];try omega)
theorem qgB{W0:World}{own:Own}{s:ByteArray}{c:Int}{K:Value→Prop}(b:Bool)(hb:qgm c s.data.toList=b)(hs:Nat.ble s.size 10=true)(h:K (.bool b)):q0b Tryz.prog W0 own 132 [.string s, .int .u8 c] K:=
 q6y (fun _=>qaA _ _ s c (by have:=Nat.le_of_ble_eq_true hs;omega)) (by rw[hb];exact h)
theorem qgy{W0:World}{own:Own}{s:ByteArray}{c:Int}{K:Value→Own→Prop}(b:Bool)(hb:qgm c s.data.toList=b)(hs:Nat.ble s.size 10=true)(h:K (.bool b) own):qf Tryz.prog W0 own 132 [.string s, .int .u8 c] K:=
 qg (qaA _ _ s c (by have:=Nat.le_of_ble_eq_true hs;omega)) (by rw[hb];exact h)
theorem qco(W0:World)(own:Own)(op a b c imm:Int):
  qD Tryz.prog W0 101 [.agg #[.int .i64 op, .int .i64 a, .int .i64 b, .int .i64 c, .int .i64 imm]] own (.int .i64 (qv ⟨op,a,b,c,imm⟩)):=by
 refine qe (qa qj q6S (by simp[q1Z]) ?_)
 simp only[qv]
 by_cases hop:op<0∨18≤op
 ·rw[if_pos hop]
  repeat'((try(conv=>whnf));first|(refine qC ?_)|(refine q0D ?_)|(refine q3M ?_)|(refine q17 (by omega) ?_)|(apply qH;(exact eM);exact rfl)|(refine qc (fun bk hbk=> ?_))|(refine q2p (fun hc=> ?_) (fun hc=> ?_))|(exact Ent.refl)|(refine Ent.cons ?_)|(refine And.intro rfl ?_))
  all_goals first|exact⟨rfl,eB⟩|(exfalso;omega)
 ·rw[if_neg hop]
  have hw:op=0∨op=1∨op=2∨op=3∨op=4∨op=5∨op=6∨op=7∨op=8∨op=9∨op=10∨op=11∨op=12∨op=13∨op=14∨op=15∨op=16∨op=17:=by omega
  by_cases h1:q2o (qfY op) a <;>by_cases h2:q2o (qiv op) b <;>by_cases h3:q2o (qiw op) c
  all_goals rcases hw with rfl|rfl|rfl|rfl|rfl|rfl|rfl|rfl|rfl|rfl|rfl|rfl|rfl|rfl|rfl|rfl|rfl|rfl
  all_goals
   repeat'((try(conv=>whnf));first|(refine qC ?_)|(refine q0D ?_)|(refine q3M ?_)|(refine q4B ?_)|(refine q9e h1 ?_)|(refine q9d h1 ?_)|(refine q9e h2 ?_)|(refine q9d h2 ?_)|(refine q9r h3 ?_)|(refine qaP h3 ?_)|(apply qg (qbH _ _ _ (by decide)))|(refine qgB true rfl rfl ?_)|(refine qgB false rfl rfl ?_)|(refine qgy true rfl rfl ?_)|(refine qgy false rfl rfl ?_)|(apply q6y (fun _=>q9Y _ _ _ _))|(apply qH;(exact eM);exact rfl)|(refine qc (fun bk hbk=> ?_))|(refine q2p (fun hc=> ?_) (fun hc=> ?_))|(refine q5Z (fun hc=> ?_) (fun hc=> ?_)))
   all_goals(refine⟨q0N (vi ?_),eB⟩;simp[h1,h2,h3,q5z];try omega)
theorem q5l(W0:World)(own:Own)(i:Ins):qD Tryz.prog W0 101 [i.v] own (.int .i64 (qv i)):=qco W0 own i.op i.a i.b i.c i.imm
def q2Y(i:Ins):Int:=
 if qv i=0 then(if i.op=8∨i.op=9∨i.op=10∨i.op=11∨i.op=14∨i.op=15 then 1 else if i.op=7∨i.op=12∨i.op=13∨i.op=16∨i.op=17 then 2 else 0) else 0
def q1L(i:Ins):Bool:=decide (qv i=0∧(i.op=4∨i.op=5∨i.op=6))
def q7t(i:Ins):Int:=if q1L i then i.imm else 0
theorem qe6(W0:World)(own:Own)(hF:q0A W0)(i:Ins):qD Tryz.prog W0 155 [i.v] own (.int .i64 (q2Y i)):=by
 refine qe (qa qj q8Q (by simp[q34]) ?_)
 have hc:=fun own=>q7d W0 own hF i
 unfold q2Y
 generalize qv i=z at*
 repeat'((try(conv=>whnf));first|(refine q17 (by omega) ?_)|(apply qg (hc _))|(apply qH;(exact eM);exact rfl)|(apply qX;(exact eM);exact rfl)|(refine qc (fun bk hbk=> ?_))|(refine q5Z (fun hc=> ?_) (fun hc=> ?_)))
 all_goals(refine⟨q0N (vi ?_),eB⟩;(repeat' split) <;>first|rfl|omega)
theorem qec(W0:World)(own:Own)(i:Ins):qD Tryz.prog W0 99 [i.v] own (.int .i64 (q2Y i)):=by
 refine qe (qa qj q6T (by simp[q20]) ?_)
 have hc:=fun own=>q5l W0 own i
 unfold q2Y
 generalize qv i=z at*
 repeat'((try(conv=>whnf));first|(refine q17 (by omega) ?_)|(apply qg (hc _))|(apply qH;(exact eM);exact rfl)|(apply qX;(exact eM);exact rfl)|(refine qc (fun bk hbk=> ?_))|(refine q5Z (fun hc=> ?_) (fun hc=> ?_)))
 all_goals(refine⟨q0N (vi ?_),eB⟩;(repeat' split) <;>first|rfl|omega)
theorem qe7(W0:World)(own:Own)(hF:q0A W0)(i:Ins):qD Tryz.prog W0 186 [i.v] own (.tuple #[.int .i64 (q7t i), .bool (q1L i)]):=by
 refine qe (qa qj q8R (by simp[q35]) ?_)
 have hc:=fun own=>q7d W0 own hF i
 unfold q7t q1L
 generalize qv i=z at*
 repeat'((try(conv=>whnf));first|(refine q17 (by omega) ?_)|(apply qg (hc _))|(apply qH;(exact eM);exact rfl)|(apply qX;(exact eM);exact rfl)|(refine qc (fun bk hbk=> ?_))|(refine q5Z (fun hc=> ?_) (fun hc=> ?_)))
 all_goals(refine⟨qcC (vi ?_) (vb ?_),eB⟩)
 all_goals first|rfl|(simp;done)|(simp[*];done)|(simp;omega)|(symm;simp;omega)
theorem qed(W0:World)(own:Own)(i:Ins):qD Tryz.prog W0 102 [i.v] own (.tuple #[.int .i64 (q7t i), .bool (q1L i)]):=by
 refine qe (qa qj q6U (by simp[q21]) ?_)
 have hc:=fun own=>q5l W0 own i
 unfold q7t q1L
 by_cases h0:qv i=0
 ·have hop:¬(i.op<0∨18≤i.op):=by
   intro h
   unfold qv at h0
   rw[if_pos h] at h0
   omega
  have hf:=fun own=>qbH W0 own i.op (by omega)
  have hh:qgm 106 (qcd i.op).data.toList=decide (i.op=4∨i.op=5∨i.op=6):=by
   obtain⟨op,hop2⟩:∃op,op=i.op:=⟨_,rfl⟩
   rw[←hop2] at hop ⊢
   have hw:op=0∨op=1∨op=2∨op=3∨op=4∨op=5∨op=6∨op=7∨op=8∨op=9∨op=10∨op=11∨op=12∨op=13∨op=14∨op=15∨op=16∨op=17:=by omega
   rcases hw with rfl|rfl|rfl|rfl|rfl|rfl|rfl|rfl|rfl|rfl|rfl|rfl|rfl|rfl|rfl|rfl|rfl|rfl <;>decide+kernel
  have hsz:(qcd i.op).size≤10:=by
   obtain⟨op,hop2⟩:∃op,op=i.op:=⟨_,rfl⟩
   rw[←hop2] at hop ⊢
   have hw:op=0∨op=1∨op=2∨op=3∨op=4∨op=5∨op=6∨op=7∨op=8∨op=9∨op=10∨op=11∨op=12∨op=13∨op=14∨op=15∨op=16∨op=17:=by omega
   rcases hw with rfl|rfl|rfl|rfl|rfl|rfl|rfl|rfl|rfl|rfl|rfl|rfl|rfl|rfl|rfl|rfl|rfl|rfl <;>decide+kernel
  have hq:=fun own=>qaA W0 own (qcd i.op) 106 (by omega)
  rw[hh] at hq
  rw[h0] at hc ⊢
  repeat'((try(conv=>whnf));first|(refine qC ?_)|(apply qg (hc _))|(apply qg (hf _))|(apply qg (hq _))|(apply qH;(exact eM);exact rfl)|(apply qX;(exact eM);exact rfl)|(refine qc (fun bk hbk=> ?_))|(refine qcT (fun hc=> ?_) (fun hc=> ?_)))
  all_goals(refine⟨qcC (vi ?_) (vb ?_),eB⟩)
  all_goals first|rfl|(simp[*];done)|(simp;omega)|(symm;simp;omega)
 ·generalize qv i=z at*
  repeat'((try(conv=>whnf));first|(refine q0D ?_)|(refine q3M ?_)|(refine q7i (by omega) ?_)|(apply qg (hc _))|(apply qX;(exact eM);exact rfl)|(refine qc (fun bk hbk=> ?_)))
  all_goals(refine⟨qcC (vi ?_) (vb ?_),eB⟩)
  all_goals first|rfl|(simp[*];done)|(simp;omega)|(symm;simp;omega)
end Go.Proofs.YtkieffpjjfebjaaGreatDoor
