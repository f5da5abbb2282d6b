/- What the laws share, part 15. No condition. -/
import Derived.Test.YtkieffpjjfebjaaGreatDoorZ14
set_option maxHeartbeats 4000000
set_option maxRecDepth 10000
namespace Go.Proofs.YtkieffpjjfebjaaGreatDoor
open Go
structure Cfg where
 words:Int
 orecs:Int
 base:Int
 c0:Int
 c1:Int
 c2:Int
 c3:Int
 reads:Int
 writes:Int
 allocs:Int
 frees:Int
 clock:Int
 strong:Bool
def Cfg.cs(c:Cfg):Array Value:= #[.int .i64 c.words, .int .i64 c.orecs, .int .i64 c.base, .int .i64 c.c0, .int .i64 c.c1, .int .i64 c.c2, .int .i64 c.c3, .int .i64 c.reads, .int .i64 c.writes, .int .i64 c.allocs, .int .i64 c.frees, .int .i64 c.clock, .bool c.strong]
def Cfg.v(c:Cfg):Value:= .agg c.cs
def okW(c:Cfg):Prop:=1≤c.words∧c.words≤64∧1≤c.orecs∧c.orecs≤64
def okC(c:Cfg):Prop:=0≤c.c0∧c.c0≤64∧0≤c.c1∧c.c1≤64∧0≤c.c2∧c.c2≤64∧0≤c.c3∧c.c3≤64
def nB(c:Cfg):Int:=c.c0+c.c1+c.c2+c.c3
def nW(c:Cfg):Int:=c.c0+c.c1*2+c.c2*4+c.c3*8
def okH(c:Cfg):Prop:=okC c∧nB c≤64∧0≤c.base∧c.base≤c.words∧c.base+nW c≤c.words
def okL(c:Cfg):Prop:=1≤c.reads∧c.reads≤32∧1≤c.writes∧c.writes≤32∧0≤c.allocs∧c.allocs≤8∧0≤c.frees∧c.frees≤8
def okK(c:Cfg):Prop:=0≤c.clock∧c.clock≤1099511627776
instance(c:Cfg):Decidable (okW c):=by unfold okW;exact inferInstance
instance(c:Cfg):Decidable (okC c):=by unfold okC;exact inferInstance
instance(c:Cfg):Decidable (okH c):=by unfold okH;exact inferInstance
instance(c:Cfg):Decidable (okL c):=by unfold okL;exact inferInstance
instance(c:Cfg):Decidable (okK c):=by unfold okK;exact inferInstance
def qL(c:Cfg):Int:=if okW c then if okH c then if okL c then if okK c then 0 else 53 else 52 else 51 else 50
theorem qkB{c:Cfg}(h1:¬okW c):50=qL c:=by simp[qL,h1]
theorem qkC{c:Cfg}(h1:okW c)(h2:¬okH c):51=qL c:=by simp[qL,h1,h2]
theorem qkD{c:Cfg}(h1:okW c)(h2:okH c)(h3:¬okL c):52=qL c:=by simp[qL,h1,h2,h3]
theorem qkE{c:Cfg}(h1:okW c)(h2:okH c)(h3:okL c)(h4:¬okK c):53=qL c:=by simp[qL,h1,h2,h3,h4]
theorem cm0{c:Cfg}(h1:okW c)(h2:okH c)(h3:okL c)(h4:okK c):0=qL c:=by simp[qL,h1,h2,h3,h4]
def qy(c:Cfg):Int:=if qL c=0 then nB c else 0
theorem q4k(W0:World)(own:Own)(a b c:Int):qD Tryz.prog W0 97 [.int .i64 a, .int .i64 b, .int .i64 c] own (.bool (decide (b≤a∧a≤c))):=by
 refine qe (qa qj q5E (by simp[q1e]) ?_)
 repeat'((try(conv=>whnf));first|(refine qC ?_)|(refine q2q ?_)|(refine q4Q (fun hc=> ?_) (fun hc=> ?_)))
 all_goals(refine⟨q0N (vb ?_),eB⟩;(first|rfl|(refine dd ?_;omega)|(refine df ?_;omega)|(refine dt ?_;omega)|(refine dn ?_;omega)))
theorem qcr(W0:World)(own:Own)(a b c:Int):qD Tryz.prog W0 100 [.int .i64 a, .int .i64 b, .int .i64 c] own (.bool (decide (b≤a∧a≤c))):=by
 refine qe (qa qj q6i (by simp[q1E]) ?_)
 repeat'((try(conv=>whnf));first|(refine qC ?_)|(refine q2q ?_)|(refine q4Q (fun hc=> ?_) (fun hc=> ?_)))
 all_goals(refine⟨q0N (vb ?_),eB⟩;(first|rfl|(refine dd ?_;omega)|(refine df ?_;omega)|(refine dt ?_;omega)|(refine dn ?_;omega)))
theorem qe3(W0:World)(own:Own)(c:Cfg):qD Tryz.prog W0 128 [c.v] own
  (.tuple #[.int .i64 (if okC c then nB c else 0), .int .i64 (if okC c then nW c else 0), .bool (decide (okC c∧nB c≤64))]):=by
 refine qe (qa qj q6O (by simp[q1V]) ?_)
 repeat'((try(conv=>whnf));first|(refine q55 5 ?_)|(refine qC ?_)|(refine q0D ?_)|(refine q3M ?_)|(refine q4B ?_)|(refine fB ?_)|(refine fO ?_)|(refine ix0 rfl ?_)|(refine ix1 rfl ?_)|(refine ix2 rfl ?_)|(refine ix3 rfl ?_)|(apply q3y;(exact eM);exact rfl;exact rfl)|(refine qc (fun bk hbk=> ?_))|(refine q2p (fun hc=> ?_) (fun hc=> ?_))|(refine q5Z (fun hc=> ?_) (fun hc=> ?_))|(refine qkQ ?_ ?_;omega)|(refine qkR ?_ ?_;omega)|(refine qkS ?_ ?_;omega)|(refine qkT ?_ ?_;omega))
 all_goals
  refine⟨qlD (vi ?_) (vi ?_) (vb ?_),eB⟩
  ·(try simp only[okC,nB]);(first|rfl|omega|(split <;>omega)|(split <;>split <;>omega))
  ·(try simp only[okC,nW]);(first|rfl|omega|(split <;>omega)|(split <;>split <;>omega))
  ·(try simp only[okC,nB]);(first|rfl|(refine dd ?_;omega)|(refine df ?_;omega)|(refine dt ?_;omega)|(refine dn ?_;omega))
theorem q9R(W0:World)(own:Own)(c:Cfg)(h:okC c):qD Tryz.prog W0 128 [c.v] own (.tuple #[.int .i64 (nB c), .int .i64 (nW c), .bool (decide (nB c≤64))]):=by
 have:=qe3 W0 own c
 simpa [h] using this
theorem qe4(W0:World)(own:Own)(c:Cfg)(h:¬okC c):qD Tryz.prog W0 128 [c.v] own (.tuple #[.int .i64 0, .int .i64 0, .bool false]):=by
 have:=qe3 W0 own c
 simpa [h] using this
theorem q5h(W0:World)(own:Own)(c:Cfg):qD Tryz.prog W0 96 [c.v] own (.int .i64 (qL c)):=by
 refine qe (qa qj q6c (by simp[q1y]) ?_)
 by_cases hc:okC c
 ·have hc':=hc
  unfold okC at hc'
  repeat'((try(conv=>whnf));first|(apply qg (q4k _ _ _ _ _))|(apply qg (q9R _ _ c hc))|(refine qC ?_)|(refine q0D ?_)|(refine q3M ?_)|(refine fB ?_)|(refine fO ?_)|(apply qH;(exact eM);exact rfl)|(apply qX;(exact eM);exact rfl)|(refine qc (fun bk hbk=> ?_))|(refine q5n (fun hc=> ?_) (fun hc=> ?_))|(refine q5Z (fun hc=> ?_) (fun hc=> ?_))|(refine qcT (fun hc=> ?_) (fun hc=> ?_)))
  all_goals(refine⟨q0N (vi ?_),eB⟩;(try unfold nB at*);(try unfold nW at*))
  all_goals first|exact qkB (by unfold okW;omega)|exact qkC (by unfold okW;omega) (by unfold okH okC nB nW;omega)|exact qkD (by unfold okW;omega) (by unfold okH okC nB nW;omega) (by unfold okL;omega)|exact qkE (by unfold okW;omega) (by unfold okH okC nB nW;omega) (by unfold okL;omega) (by unfold okK;omega)|exact cm0 (by unfold okW;omega) (by unfold okH okC nB nW;omega) (by unfold okL;omega) (by unfold okK;omega)
 ·repeat'((try(conv=>whnf));first|(apply qg (q4k _ _ _ _ _))|(apply qg (qe4 _ _ c hc))|(refine qC ?_)|(refine q0D ?_)|(refine q3M ?_)|(refine fO ?_)|(apply qH;(exact eM);exact rfl)|(apply qX;(exact eM);exact rfl)|(refine qc (fun bk hbk=> ?_))|(refine q5n (fun hc=> ?_) (fun hc=> ?_))|(refine qcT (fun hc=> ?_) (fun hc=> ?_)))
  all_goals(refine⟨q0N (vi ?_),eB⟩;(try unfold okC at*))
  all_goals first|exact qkB (by unfold okW;omega)|exact qkC (by unfold okW;omega) (by unfold okH okC nB nW;omega)|exact qkD (by unfold okW;omega) (by unfold okH okC nB nW;omega) (by unfold okL;omega)|exact qkE (by unfold okW;omega) (by unfold okH okC nB nW;omega) (by unfold okL;omega) (by unfold okK;omega)|exact cm0 (by unfold okW;omega) (by unfold okH okC nB nW;omega) (by unfold okL;omega) (by unfold okK;omega)
theorem q8g(W0:World)(own:Own)(c:Cfg):qD Tryz.prog W0 71 [c.v] own (.int .i64 (qL c)):=by
 refine qe (qa qj q6W (by simp[q23]) ?_)
 repeat'((try(conv=>whnf));first|(apply qg (qcr _ _ _ _ _))|(refine q55 5 ?_)|(refine qC ?_)|(refine q0D ?_)|(refine q3M ?_)|(refine q4B ?_)|(refine fB ?_)|(refine ix0 rfl ?_)|(refine ix1 rfl ?_)|(refine ix2 rfl ?_)|(refine ix3 rfl ?_)|(apply qH;(exact eM);exact rfl)|(refine qc (fun bk hbk=> ?_))|(refine q2p (fun hc=> ?_) (fun hc=> ?_))|(refine q5n (fun hc=> ?_) (fun hc=> ?_))|(refine q5Z (fun hc=> ?_) (fun hc=> ?_))|(refine qcT (fun hc=> ?_) (fun hc=> ?_))|(refine qkQ ?_ ?_;omega)|(refine qkR ?_ ?_;omega)|(refine qkS ?_ ?_;omega)|(refine qkT ?_ ?_;omega))
 all_goals refine⟨q0N (vi ?_),eB⟩
 all_goals first|exact qkB (by unfold okW;omega)|exact qkC (by unfold okW;omega) (by unfold okH okC nB nW;omega)|exact qkD (by unfold okW;omega) (by unfold okH okC nB nW;omega) (by unfold okL;omega)|exact qkE (by unfold okW;omega) (by unfold okH okC nB nW;omega) (by unfold okL;omega) (by unfold okK;omega)|exact cm0 (by unfold okW;omega) (by unfold okH okC nB nW;omega) (by unfold okL;omega) (by unfold okK;omega)
theorem q1R{c:Cfg}(h:qL c=0):okW c∧okH c∧okL c∧okK c:=by
 unfold qL at h
 split at h
 ·split at h
  ·split at h
   ·split at h
    ·exact⟨by assumption,by assumption,by assumption,by assumption⟩
    ·omega
   ·omega
  ·omega
 ·omega
theorem q4Z{c:Cfg}(h:qL c=0):1≤c.words∧c.words≤64∧1≤c.orecs∧c.orecs≤64∧0≤c.c0∧0≤c.c1∧0≤c.c2∧0≤c.c3∧c.c0+c.c1+c.c2+c.c3≤64∧0≤c.base∧c.base+(c.c0+c.c1*2+c.c2*4+c.c3*8)≤c.words:=by
 obtain⟨h1,h2,_,_⟩:=q1R h
 unfold okW at h1
 unfold okH okC nB nW at h2
 omega
theorem qdS(W0:World)(own:Own)(c:Cfg):qD Tryz.prog W0 194 [c.v] own (.int .i64 (qy c)):=by
 refine qe (qa qj q5C (by simp[q1c]) ?_)
 by_cases h0:qL c=0
 ·have hC:okC c:=(q1R h0).2.1.1
  repeat'((try(conv=>whnf));first|(apply qg (q5h _ _ c))|(apply qg (q9R _ _ c hC))|(refine fO ?_)|(apply qX;(exact eM);exact rfl)|(refine qc (fun bk hbk=> ?_))|(refine q5Z (fun hc=> ?_) (fun hc=> ?_)))
  all_goals first|(exfalso;omega)|(refine⟨q0N (vi ?_),eB⟩;simp only[qy,h0,if_true])
 ·repeat'((try(conv=>whnf));first|(apply qg (q5h _ _ c))|(apply qX;(exact eM);exact rfl)|(refine qc (fun bk hbk=> ?_))|(refine q5Z (fun hc=> ?_) (fun hc=> ?_)))
  all_goals first|(exfalso;omega)|(refine⟨q0N (vi ?_),eB⟩;simp only[qy,h0,if_false])
theorem q8f(W0:World)(own:Own)(c:Cfg):qD Tryz.prog W0 43 [c.v] own (.int .i64 (qy c)):=by
 refine qe (qa qj q6h (by simp[q1D]) ?_)
 by_cases h0:qL c=0
 ·have hb:=q4Z h0
  repeat'((try(conv=>whnf));first|(apply qg (q8g _ _ c))|(refine fB ?_)|(refine ix0 rfl ?_)|(refine ix1 rfl ?_)|(refine ix2 rfl ?_)|(refine ix3 rfl ?_)|(apply qH;(exact eM);exact rfl)|(apply qX;(exact eM);exact rfl)|(refine qc (fun bk hbk=> ?_))|(refine q5Z (fun hc=> ?_) (fun hc=> ?_)))
  all_goals first|(exfalso;omega)|(refine⟨q0N (vi ?_),eB⟩;simp only[qy,h0,if_true,nB])
 ·repeat'((try(conv=>whnf));first|(apply qg (q8g _ _ c))|(refine fB ?_)|(refine ix0 rfl ?_)|(refine ix1 rfl ?_)|(refine ix2 rfl ?_)|(refine ix3 rfl ?_)|(apply qH;(exact eM);exact rfl)|(apply qX;(exact eM);exact rfl)|(refine qc (fun bk hbk=> ?_))|(refine q5Z (fun hc=> ?_) (fun hc=> ?_)))
  all_goals first|(exfalso;omega)|(refine⟨q0N (vi ?_),eB⟩;simp only[qy,h0,if_false])
def q3K(c:Cfg)(b:Int):Int:=
 if qL c=0∧0≤b then if b<c.c0 then 0 else if b<c.c0+c.c1 then 1 else if b<c.c0+c.c1+c.c2 then 2 else if b<c.c0+c.c1+c.c2+c.c3 then 3 else-1 else-1
def q2K(c:Cfg)(b:Int):Int:=
 if qL c=0∧0≤b then if b<c.c0 then c.base+b else if b<c.c0+c.c1 then c.base+c.c0+(b-c.c0)*2
  else if b<c.c0+c.c1+c.c2 then c.base+c.c0+c.c1*2+(b-c.c0-c.c1)*4 else if b<c.c0+c.c1+c.c2+c.c3 then c.base+c.c0+c.c1*2+c.c2*4+(b-c.c0-c.c1-c.c2)*8 else-1 else-1
theorem q9T(W0:World)(own:Own)(c:Cfg)(b:Int)(hb: -9223372036854775808≤b∧b≤9223372036854775807):
  qD Tryz.prog W0 196 [c.v, .int .i64 b] own (.tuple #[.int .i64 (q3K c b), .int .i64 (q2K c b)]):=by
 refine qe (qa qj q5D (by simp[q1d]) ?_)
 by_cases h0:qL c=0∧0≤b
 ·have hbd:=q4Z h0.1
  repeat'((try(conv=>whnf));first|(apply qg (q5h _ _ c))|(refine q55 5 ?_)|(refine qC ?_)|(refine q0D ?_)|(refine q3M ?_)|(refine q4B ?_)|(refine fB ?_)|(refine fO ?_)|(refine ix0 rfl ?_)|(refine ix1 rfl ?_)|(refine ix2 rfl ?_)|(refine ix3 rfl ?_)|(apply qH;(exact eM);exact rfl)|(apply qX;(exact eM);exact rfl)|(apply q3y;(exact eM);exact rfl;exact rfl)|(refine qc (fun bk hbk=> ?_))|(refine q2p (fun hc=> ?_) (fun hc=> ?_))|(refine q5Z (fun hc=> ?_) (fun hc=> ?_))|(refine qkQ ?_ ?_;omega)|(refine qkR ?_ ?_;omega)|(refine qkS ?_ ?_;omega)|(refine qkT ?_ ?_;omega))
  all_goals first|(exfalso;omega)|refine⟨qcC (vi ?_) (vi ?_),eB⟩
  all_goals(simp only[q3K,q2K,h0,if_true,and_self];repeat'(first|omega|(rw[if_pos (by omega)])|(rw[if_neg (by omega)])))
 ·repeat'((try(conv=>whnf));first|(apply qg (q5h _ _ c))|(refine qC ?_)|(refine q0D ?_)|(refine q3M ?_)|(apply qH;(exact eM);exact rfl)|(apply qX;(exact eM);exact rfl)|(apply q3y;(exact eM);exact rfl;exact rfl)|(refine qc (fun bk hbk=> ?_))|(refine q2p (fun hc=> ?_) (fun hc=> ?_))|(refine q5Z (fun hc=> ?_) (fun hc=> ?_)))
  all_goals first|(exfalso;omega)|refine⟨qcC (vi ?_) (vi ?_),eB⟩
  all_goals simp only[q3K,q2K,h0,if_false]
theorem qfJ(W0:World)(own:Own)(c:Cfg)(b:Int)(hb: -9223372036854775808≤b∧b≤9223372036854775807):
  qD Tryz.prog W0 178 [c.v, .int .i64 b] own (.int .i64 (q3K c b)):=by
 refine qe (qa qj q6d (by simp[q1z]) ?_)
 repeat'((try(conv=>whnf));first|(apply qg (q9T _ _ c b hb))|(refine fO ?_)|(apply qX;(exact eM);exact rfl)|(refine qc (fun bk hbk=> ?_))|(exact Ent.refl)|(refine Ent.cons ?_)|(refine And.intro rfl ?_))
 all_goals exact⟨rfl,eB⟩
theorem qbD(W0:World)(own:Own)(c:Cfg)(b:Int)(hb: -9223372036854775808≤b∧b≤9223372036854775807):
  qD Tryz.prog W0 195 [c.v, .int .i64 b] own (.int .i64 (q2K c b)):=by
 refine qe (qa qj q6e (by simp[q1A]) ?_)
 repeat'((try(conv=>whnf));first|(apply qg (q9T _ _ c b hb))|(refine fO ?_)|(apply qX;(exact eM);exact rfl)|(refine qc (fun bk hbk=> ?_))|(exact Ent.refl)|(refine Ent.cons ?_)|(refine And.intro rfl ?_))
 all_goals exact⟨rfl,eB⟩
theorem q6w(c:Cfg):0≤qy c∧qy c≤64:=by
 unfold qy
 split
 ·have:=q4Z (by assumption)
  unfold nB
  omega
 ·omega
theorem q7T{c:Cfg}{b:Int}(h0:0≤b)(h:b<qy c):qL c=0∧b<c.c0+c.c1+c.c2+c.c3:=by
 unfold qy at h
 split at h
 ·exact⟨by assumption,h⟩
 ·omega
theorem qf6{c:Cfg}{b:Int}(h0:0≤b)(h:b<qy c):0≤q2K c b∧q2K c b<64:=by
 have hp:=q7T h0 h
 have hb:=q4Z hp.1
 simp only[q2K,hp.1,h0,and_self,if_true]
 repeat' split
 all_goals omega
def q7r(c:Cfg)(a:Int):Nat→Int→Int
 |0,_=> -1
 |n+1,k=>if q2K c k=a then k else q7r c a n (k+1)
def q0a(c:Cfg)(a:Int):Int:=q7r c a (qy c).toNat 0
theorem qdZ(W0:World)(own:Own)(c:Cfg)(a:Int):qD Tryz.prog W0 177 [c.v, .int .u64 a] own (.int .i64 (q0a c a)):=by
 refine qe (qa qj q6N (by simp[q1U]) ?_)
 have hB:=q6w c
 repeat'((try(conv=>whnf));first|(apply qg (qdS _ _ c))|(apply qX;(exact eM);exact rfl)|(refine qc (fun bk hbk=> ?_)))
 refine q1N (σ:=Int) (fun k=> [(8, .int .i64 k)]) (fun k=>0≤k∧k≤qy c∧q7r c a (qy c-k).toNat k=q0a c a) (fun k=>(qy c-k).toNat) 0 ⟨by omega,by omega,by simp[q0a]⟩ (eF) rfl ?_
 rintro k junk ⟨hk0,hk1,hk⟩
 by_cases hlt:k<qy c
 ·have hf:=qf6 hk0 hlt
  have e:(qy c-k).toNat=(qy c-(k+1)).toNat+1:=by omega
  rw[e,q7r] at hk
  repeat'((try(conv=>whnf));first|(apply qg (qbD _ _ c k (by omega)))|(refine fB ?_)|(refine fC ?_)|(apply qX;(exact eM);exact rfl)|(refine q5Z (fun hc=> ?_) (fun hc=> ?_)))
  ·rw[if_pos (by assumption)] at hk
   exact⟨q0N (vi hk),eB⟩
  ·rw[if_neg (by assumption)] at hk
   exact⟨k+1,⟨by omega,by omega,hk⟩,by omega,(eF),Ent.refl⟩
  ·omega
 ·repeat'((try(conv=>whnf));first|(apply qg (qbD _ _ c k (by omega)))|(refine fB ?_)|(refine fC ?_)|(apply qX;(exact eM);exact rfl)|(refine q5Z (fun hc=> ?_) (fun hc=> ?_)))
  ·omega
  ·omega
  ·have e:(qy c-k).toNat=0:=by omega
   rw[e,q7r] at hk
   exact⟨q0N (vi hk),eB⟩
structure PH where
 a:Option Addr
 cap:Nat
 p:List Ins
abbrev PH.enc(h:PH):List Value:= [.slice h.a h.p.length h.cap]
abbrev qM(n:Int):List Value:= [.int .i64 n]
def psG:List PH→Nat→Option (Int×Int×Int)
 | [],_=>none
 |h::l,t=>if(qx h.p).2≠0 then some (t,(qx h.p).1,(qx h.p).2) else psG l (t+1)
def ksG(n:Nat):List Int→Nat→Int×Int×Int
 | [],_=>(0,0,0)
 |k::l,i=>if k<0∨(n:Int)≤k then(0,i,56) else ksG n l (i+1)
def csM(c:Cfg)(il:Nat)(ps:List PH)(ks:List Int):Int×Int×Int:=
 if qL c≠0 then(0,0,qL c) else if ps.length<1∨16<ps.length then(0,0,54) else if(il:Int)≠c.words then(0,0,55) else
  match psG ps 0 with
  |some r=>r
  |none=>if 65536<ks.length then(0,0,56) else ksG ps.length ks 0
def qlI(r:Int×Int×Int):Value:= .tuple #[.int .i64 r.1, .int .i64 r.2.1, .int .i64 r.2.2]
abbrev qi0(c:Cfg)(ia:Option Addr)(il ic:Nat)(pa:Option Addr)(pn pc:Nat)(ka:Option Addr)(kn kc:Nat):Value:=
 .agg #[.int .i64 c.words, .int .i64 c.orecs, .int .i64 c.base, .int .i64 c.c0, .int .i64 c.c1, .int .i64 c.c2, .int .i64 c.c3, .int .i64 c.reads, .int .i64 c.writes, .int .i64 c.allocs, .int .i64 c.frees, .int .i64 c.clock, .bool c.strong, .slice ia il ic, .slice pa pn pc, .slice ka kn kc]
theorem q4I{α:Type}{l:List α}{k:Nat}{x:α}(hx:l[k]? =some x):l.drop k=x::l.drop (k+1):=by
 obtain⟨hk,he⟩:=List.getElem?_eq_some_iff.1 hx
 rw[List.drop_eq_getElem_cons hk,he]
section
variable{W0:World}{own:Own}{c:Cfg}{ia pa ka:Option Addr}{il ic pc kc:Nat}{ps:List PH}{ks:List Int}
theorem ql3(hF:q0A W0)(hP:RdE PH.enc 1 W0 own pa ps)(hQ:∀h∈ps,RdE Ins.enc 5 W0 own h.a h.p)(hK:RdE qM 1 W0 own ka ks):
  qD Tryz.prog W0 67 [qi0 c ia il ic pa ps.length pc ka ks.length kc] own (qlI (csM c il ps ks)):=by
 refine qe (qa qj q3N (by simp[q0f]) ?_)
 have hck:=fun own=>q5h W0 own c
 unfold csM
 generalize qL c=z at*
 by_cases h0:z=0
 ·subst h0
  simp only[ne_eq,not_true_eq_false,if_false]
  by_cases h1:ps.length<1∨16<ps.length
  ·rw[if_pos h1]
   repeat'((try(conv=>whnf));first|(refine q4B ?_)|(refine qaP (by omega) ?_)|(apply qg (hck _))|(apply qg (q4k _ _ _ _ _))|(apply qH;(exact eM);exact rfl)|(apply q3y;(exact eM);exact rfl;exact rfl)|(refine qc (fun bk hbk=> ?_)))
   all_goals exact⟨rfl,eB⟩
  ·rw[if_neg h1]
   by_cases h2:¬(il:Int)=c.words
   ·rw[if_pos h2]
    repeat'((try(conv=>whnf));first|(refine q4B ?_)|(refine q17 (by omega) ?_)|(refine q9r (by omega) ?_)|(apply qg (hck _))|(apply qg (q4k _ _ _ _ _))|(apply qH;(exact eM);exact rfl)|(apply q3y;(exact eM);exact rfl;exact rfl)|(refine qc (fun bk hbk=> ?_)))
    all_goals exact⟨rfl,eB⟩
   ·rw[if_neg h2]
    repeat'((try(conv=>whnf));first|(refine q4B ?_)|(refine q2j (by omega) ?_)|(refine q9r (by omega) ?_)|(apply qg (hck _))|(apply qg (q4k _ _ _ _ _))|(apply qH;(exact eM);exact rfl)|(apply q3y;(exact eM);exact rfl;exact rfl)|(refine qc (fun bk hbk=> ?_)))
    generalize hres:psG ps 0=res
    refine q1N (σ:=Nat) (fun t=> [(33, .int .i64 t)]) (fun t=>t≤ps.length∧psG (ps.drop t) t=res) (fun t=>ps.length-t) 0 ⟨by omega,hres⟩ (eF) rfl ?_
    rintro t junk ⟨ht,hI⟩
    by_cases hlt:t<ps.length
    ·obtain⟨x,hx⟩:∃x,ps[t]? =some x:=⟨_,List.getElem?_eq_getElem hlt⟩
     have hx1:=hQ x (List.mem_of_getElem? hx)
     have hcp:=fun ex=>q9X (cap:=x.cap) hF (hx1.ent (Ent.app (A:=ex) Ent.refl))
     rw[q4I hx,psG] at hI
     generalize qx x.p=r at*
     by_cases hr:r.2≠0
     ·rw[if_pos hr] at hI
      subst hI
      repeat'((try(conv=>whnf));first|(refine q17 (by omega) ?_)|(refine qg (hcp [_]) ?_)|((with_reducible show Ld _ _ _ _);first|(refine ldE (k:=0) (RdE.ent hP ?_) hx ?_ rfl ?_;rotate_left;rfl;rotate_left;(solve|(exact eB))))|((with_reducible show IxS _ _ _ _ _);first|(refine ixE hP hx ?_ ?_;(first|rfl|omega)))|(refine fO ?_))
      all_goals exact⟨rfl,eB⟩
     ·rw[if_neg hr] at hI
      repeat'((try(conv=>whnf));first|(refine q17 (by omega) ?_)|(refine q2j (by omega) ?_)|(refine qg (hcp [_]) ?_)|((with_reducible show Ld _ _ _ _);first|(refine ldE (k:=0) (RdE.ent hP ?_) hx ?_ rfl ?_;rotate_left;rfl;rotate_left;(solve|(exact eB))))|((with_reducible show IxS _ _ _ _ _);first|(refine ixE hP hx ?_ ?_;(first|rfl|omega)))|(refine fB ?_)|(refine fO ?_))
      all_goals exact⟨t+1,⟨by omega,hI⟩,by omega,(eF),eB⟩
    ·have ht':t=ps.length:=by omega
     subst ht'
     rw[List.drop_length,psG] at hI
     subst hI
     simp only[]
     by_cases h3:65536<ks.length
     ·rw[if_pos h3]
      repeat'((try(conv=>whnf));first|(refine q17 (by omega) ?_)|(refine q2j (by omega) ?_)|(apply qH;(exact eM);exact rfl))
      all_goals exact⟨rfl,eB⟩
     ·rw[if_neg h3]
      generalize hres2:ksG ps.length ks 0=res2
      repeat'((try(conv=>whnf));first|(refine q2j (by omega) ?_)|(apply qH;(exact eM);exact rfl))
      refine q1N (σ:=Nat) (fun i=> [(56, .int .i64 i)]) (fun i=>i≤ks.length∧ksG ps.length (ks.drop i) i=res2) (fun i=>ks.length-i) 0 ⟨by omega,hres2⟩ (eF) rfl ?_
      rintro i junk2 ⟨hi,hI⟩
      by_cases hlt2:i<ks.length
      ·obtain⟨k,hk⟩:∃k,ks[i]? =some k:=⟨_,List.getElem?_eq_getElem hlt2⟩
       rw[q4I hk,ksG] at hI
       by_cases hb:k<0∨(ps.length:Int)≤k
       ·rw[if_pos hb] at hI
        subst hI
        repeat'((try(conv=>whnf));first|(refine qC ?_)|(refine q0D ?_)|(refine q3M ?_)|(refine q17 (by omega) ?_)|((with_reducible show Ld _ _ _ _);first|(refine ldE (k:=0) (RdE.ent hK ?_) hk ?_ rfl ?_;rotate_left;rfl;rotate_left;(solve|(exact eB))))|((with_reducible show IxS _ _ _ _ _);first|(refine ixE hK hk ?_ ?_;(first|rfl|omega)))|(apply qH;(exact eM);exact rfl)|(refine q2p (fun hc=> ?_) (fun hc=> ?_)))
        all_goals exact⟨rfl,eB⟩
       ·rw[if_neg hb] at hI
        repeat'((try(conv=>whnf));first|(refine qC ?_)|(refine q17 (by omega) ?_)|(refine q2j (by omega) ?_)|(refine q4R (by omega) ?_)|((with_reducible show Ld _ _ _ _);first|(refine ldE (k:=0) (RdE.ent hK ?_) hk ?_ rfl ?_;rotate_left;rfl;rotate_left;(solve|(exact eB))))|((with_reducible show IxS _ _ _ _ _);first|(refine ixE hK hk ?_ ?_;(first|rfl|omega)))|(refine fB ?_)|(apply qH;(exact eM);exact rfl))
        all_goals exact⟨i+1,⟨by omega,hI⟩,by omega,(eF),eB⟩
      ·have hi':i=ks.length:=by omega
       subst hi'
       rw[List.drop_length,ksG] at hI
       subst hI
       repeat'((try(conv=>whnf));first|(refine q2j (by omega) ?_))
       all_goals exact⟨rfl,eB⟩
 ·rw[if_pos h0]
  repeat'((try(conv=>whnf));first|(refine q17 (by omega) ?_)|(apply qg (hck _))|(apply q3y;(exact eM);exact rfl;exact rfl)|(refine qc (fun bk hbk=> ?_)))
  all_goals exact⟨rfl,eB⟩
end
open Go
abbrev qcy(n:Int):Int:=IntKind.u64.wrap n
abbrev okU(x:Int):Prop:=0≤x∧x≤18446744073709551615
structure Rg where
 r0:Int
 r1:Int
 r2:Int
 r3:Int
 r4:Int
 r5:Int
 r6:Int
 r7:Int
abbrev Rg.enc(r:Rg):List Value:= [.int .u64 r.r0, .int .u64 r.r1, .int .u64 r.r2, .int .u64 r.r3, .int .u64 r.r4, .int .u64 r.r5, .int .u64 r.r6, .int .u64 r.r7]
def Rg.get(r:Rg):Nat→Int
 |0=>r.r0|1=>r.r1|2=>r.r2|3=>r.r3|4=>r.r4|5=>r.r5|6=>r.r6|7=>r.r7|_=>0
def Rg.set(r:Rg):Nat→Int→Rg
 |0,v=>{r with r0:=v}|1,v=>{r with r1:=v}|2,v=>{r with r2:=v}|3,v=>{r with r3:=v}
 |4,v=>{r with r4:=v}|5,v=>{r with r5:=v}|6,v=>{r with r6:=v}|7,v=>{r with r7:=v}|_,_=>r
theorem lt8{k:Nat}(h:k<8):k=0∨k=1∨k=2∨k=3∨k=4∨k=5∨k=6∨k=7:=by omega
theorem Rg.get_set{r:Rg}{k j:Nat}{v:Int}(h:k<8):(r.set k v).get j=if j=k then v else r.get j:=by
 rcases lt8 h with rfl|rfl|rfl|rfl|rfl|rfl|rfl|rfl
 all_goals
  by_cases hj:j<8
  ·rcases lt8 hj with rfl|rfl|rfl|rfl|rfl|rfl|rfl|rfl <;>rfl
  ·rw[if_neg (by omega)]
   obtain⟨m,rfl⟩:∃m,j=m+8:=⟨j-8,by omega⟩
   rfl
structure Thr where
 pc:Nat
 rg:Rg
 oc:Int
 dn:Bool
abbrev Thr.enc(t:Thr):List Value:= [.int .i64 t.pc, .int .u64 t.rg.r0, .int .u64 t.rg.r1, .int .u64 t.rg.r2, .int .u64 t.rg.r3, .int .u64 t.rg.r4, .int .u64 t.rg.r5, .int .u64 t.rg.r6, .int .u64 t.rg.r7, .int .i64 t.oc, .bool t.dn]
theorem Thr.enc_get{t:Thr}{k:Nat}(h:k<8):t.enc[1+k]? =some (.int .u64 (t.rg.get k)):=by
 rcases lt8 h with rfl|rfl|rfl|rfl|rfl|rfl|rfl|rfl <;>rfl
theorem Thr.enc_set{t:Thr}{k:Nat}{v:Int}(h:k<8):t.enc.set (1+k) (.int .u64 v)={t with rg:=t.rg.set k v:Thr}.enc:=by
 rcases lt8 h with rfl|rfl|rfl|rfl|rfl|rfl|rfl|rfl <;>rfl
structure ObM where
 pc:Nat
 k:Int
 v:Int
abbrev ObM.enc(o:ObM):List Value:= [.int .i64 o.pc, .int .i64 o.k, .int .u64 o.v]
structure EvM where
 ev:Int
 t:Int
 k:Int
 w:Int
 r:List Int
 wl:List Int
def EH.m(e:EH):EvM:=⟨e.ev,e.t,e.k,e.w,e.rl,e.wl⟩
structure ChM where
 t:Int
 f:Int
 ad:List Int
structure GS where
 d:List Int
 tk:List Bool
 T:List Thr
 E:List EvM
 O:List (List ObM)
 n:Nat
def isL(x:Ins):Bool:=decide ((0≤x.op∧x.op≤6)∨x.op=17)
def q85(t:Thr)(x:Ins):Rg:=
 if x.op=1 then t.rg.set x.a.toNat (qcy x.imm) else if x.op=2 then t.rg.set x.a.toNat (t.rg.get x.b.toNat)
 else if x.op=3 then t.rg.set x.a.toNat (Alu.applyW x.imm (t.rg.get x.b.toNat) (t.rg.get x.c.toNat)) else if x.op=17 then t.rg.set x.a.toNat (qcy t.oc) else t.rg
def q60(t:Thr)(x:Ins):Nat:=
 if x.op=4∨(x.op=5∧t.rg.get x.a.toNat=0)∨(x.op=6∧t.rg.get x.a.toNat≠0) then t.pc+1+x.imm.toNat else t.pc+1
def q6a(t:Thr)(x:Ins):Thr:={t with rg:=q85 t x,pc:=q60 t x}
structure BM where
 d:List Int
 tk:List Bool
 t:Thr
 r:List Int
 w:List Int
 o:List ObM
 ad:List Int
def adr(r:Rg)(b imm:Int):Int:=qcy (r.get b.toNat+qcy imm)
def qbU(l:List Int)(a:Int):List Int:=if a∈l then l else l++ [a]
def wrM(b:BM)(a:Nat)(v:Int):BM:={b with d:=b.d.set a v,w:=qbU b.w a}
def wrL(b:BM)(a:Nat):Nat→BM
 |0=>b
 |n+1=>wrM (wrL b a n) (a+n) 0
def BM.put(b:BM)(r:Int)(k v:Int):BM:={b with t:={b.t with rg:=b.t.rg.set r.toNat v,pc:=b.t.pc+1},o:=b.o++ [⟨b.t.pc,k,v⟩]}
def BM.go(b:BM):BM:={b with t:={b.t with pc:=b.t.pc+1}}
def rdM(b:BM)(a:Nat):BM:={b with r:=if(a:Int)∈b.w∨(a:Int)∈b.r then b.r else b.r++ [(a:Int)]}
def alB(c:Cfg)(tk:List Bool)(ad:List Int)(imm:Int):Option (Nat×Nat):=
 match ad with
 | []=>none
 |a::_=>if a<0∨q0a c a<0∨q3K c (q0a c a)≠imm∨tk.getD (q0a c a).toNat false=true then none else some (a.toNat,(q0a c a).toNat)
def q18(c:Cfg)(b:BM)(x:Ins):BM×Int:=
 if x.op=10 then(if c.words≤adr b.t.rg x.b x.imm then(b.go,7) else((rdM b (adr b.t.rg x.b x.imm).toNat).put x.a 1 (b.d.getD (adr b.t.rg x.b x.imm).toNat 0),0))
 else if x.op=11 then(if c.words≤adr b.t.rg x.a x.imm then(b.go,7) else((wrM b (adr b.t.rg x.a x.imm).toNat (b.t.rg.get x.b.toNat)).go,0))
 else if x.op=14 then(match alB c b.tk b.ad x.imm with
  |none=>(b, -1)
  |some (a,k)=>((wrL {b with ad:=b.ad.tail,tk:=b.tk.set k true} a (2 ^ x.imm.toNat)).put x.a 2 a,0))
 else if x.op=15 then(if q0a c (b.t.rg.get x.a.toNat)<0∨b.tk.getD (q0a c (b.t.rg.get x.a.toNat)).toNat false=false then(b.go,8) else({b with tk:=b.tk.set (q0a c (b.t.rg.get x.a.toNat)).toNat false}.go,0))
 else if x.op=8 then(b.go,1) else if x.op=9 then(b.go,2) else({b with t:=q6a b.t x},0)
def q5e(c:Cfg)(p:List Ins):Nat→BM→BM×Int
 |0,b=>(b, -1)
 |n+1,b=>match p[b.t.pc]? with
  |none=>(b, -1)
  |some x=>if(q18 c b x).2=0 then q5e c p n (q18 c b x).1 else q18 c b x
def GS.fin(s:GS)(t:Nat)(th:Thr)(l:List ObM):GS:={s with T:=s.T.set t th,O:=s.O.set t (s.O.getD t []++l)}
def GS.ev(s:GS)(l:List EvM):GS:={s with E:=s.E++l}
def GS.mem(s:GS)(d:List Int)(tk:List Bool):GS:={s with d:=d,tk:=tk}
def txM(c:Cfg)(p:List Ins)(s:GS)(th:Thr)(t:Nat)(f:Int)(ad:List Int):Option GS:=
 if f≠0 then(if(3≤f∧f≤6)∧ad= [] then some (s.fin t ⟨q40 p th.pc+1,th.rg,f,decide (q40 p th.pc+1=p.length)⟩ [⟨th.pc,3,f⟩]) else none)
 else match q5e c p p.length ⟨s.d,s.tk,{th with pc:=th.pc+1},[],[],[],ad⟩ with
  |(b,o)=>if o= -1∨b.ad≠ [] then none
   else if o=1 then some (((s.mem b.d b.tk).ev [⟨s.n,t,3,0,[],[]⟩,⟨s.n,t,4,0,b.r,b.w⟩]).fin t ⟨q40 p th.pc+1,b.t.rg,1,decide (q40 p th.pc+1=p.length)⟩ (b.o++ [⟨th.pc,3,1⟩]))
   else some ((s.ev [⟨s.n,t,3,0,[],[]⟩,⟨s.n,t,4,0,b.r,[]⟩]).fin t ⟨q40 p th.pc+1,th.rg,o,decide (q40 p th.pc+1=p.length)⟩ [⟨th.pc,3,o⟩])
def plE(c:Cfg)(n t:Nat)(k a:Int):List EvM:=
 if c.strong then [⟨n,t,3,0,[],[]⟩,⟨n,t,4,0,if k=1 then [a] else [],if k=1 then [] else [a]⟩] else [⟨n,t,k,a,[],[]⟩]
def Thr.nxt(th:Thr)(len:Nat)(r:Rg):Thr:=⟨th.pc+1,r,th.oc,decide (th.pc+1=len)⟩
def sgM(c:Cfg)(p:List Ins)(s:GS)(th:Thr)(t:Nat)(f:Int)(x:Ins):Option GS:=
 if x.op=12∨x.op=13 then
  (match adr th.rg (if x.op=12 then x.b else x.a) x.imm with
  |a=>if f≠0 then(if f=6∧c.strong=true∧x.op=13∧a<c.words then some (s.fin t (th.nxt p.length th.rg) [⟨th.pc,7,6⟩]) else none)
   else if c.words≤a then some (s.fin t (th.nxt p.length (if x.op=12 then th.rg.set x.a.toNat 0 else th.rg)) [⟨th.pc,7,7⟩])
   else if x.op=12 then some ((s.ev (plE c s.n t 1 a)).fin t (th.nxt p.length (th.rg.set x.a.toNat (s.d.getD a.toNat 0))) [⟨th.pc,4,s.d.getD a.toNat 0⟩])
   else some (((s.mem (s.d.set a.toNat (th.rg.get x.b.toNat)) s.tk).ev (plE c s.n t 2 a)).fin t (th.nxt p.length th.rg) [⟨th.pc,5,th.rg.get x.b.toNat⟩]))
 else if f≠0 then none
 else some (s.fin t {q6a th x with dn:=decide ((q6a th x).pc=p.length)} (if x.op=16 then [⟨th.pc,6,0⟩] else []))
def chM(c:Cfg)(ps:List (List Ins))(s:GS)(ch:ChM):Option GS:=
 if ch.t<0 then none else match s.T[ch.t.toNat]?,ps[ch.t.toNat]? with
 |some th,some p=>if th.dn then none else match p[th.pc]? with
  |some x=>if x.op=7 then txM c p s th ch.t.toNat ch.f ch.ad else if ch.ad= [] then sgM c p s th ch.t.toNat ch.f x else none
  |none=>none
 |_,_=>none
def doM(c:Cfg)(ps:List (List Ins))(s:GS)(ch:ChM):Int×GS:=
 match chM c ps s ch with
 |some s'=>(0,{s' with n:=s.n+1})
 |none=>(70,s)
def q7G(c:Cfg)(ini:List Int)(ps:List (List Ins)):GS:=
 ⟨ini,List.replicate (qy c).toNat false,ps.map fun p=>⟨0,⟨0,0,0,0,0,0,0,0⟩,0,decide (p.length=0)⟩,[],ps.map fun _=> [],0⟩
open Go Go.RowKit
inductive qew (K:Value→Prop):List Value→Prop
 |nil:qew K []
 |cons {x:Value} {l:List Value} (h:K x) (hl:qew K l):qew K (x::l)
theorem qew.mem{K:Value→Prop}{l:List Value}(h:qew K l):∀v∈l,K v:=by
 induction h with
 |nil=>intro v hv;cases hv
 |cons h _ ih=>
  intro v hv
  rcases List.mem_cons.1 hv with rfl|hv
  ·exact h
  ·exact ih v hv
theorem qgq{W0:World}{own:Own}{b off:Nat}{cs:Array Value}{T:TypeId}{fz:Nat×Nat}{K:Value→Prop}(hm:(b,fun o=>o=Obj.cells cs T fz)∈own)(ho:off<cs.toList.length)(h:qew K cs.toList):
  Ld W0 own ⟨b,off,none⟩ K:=qH cs.toList[off] hm (List.getElem?_eq_getElem ho) (h.mem _ (List.getElem_mem ho))
def mkP(op:Int)(x:Ins):Prop:=x.op=op∧qv x=0∧(op=4∨op=5∨op=6→x.imm=0)∧0≤x.imm∧x.imm≤64
theorem qhX{op a b c imm:Int}(h:0≤op∧op<18)(ha:q2o (qfY op) a)(hb:q2o (qiv op) b)(hc:q2o (qiw op) c)(hi:q5z op imm):qv ⟨op,a,b,c,imm⟩=0:=by
 unfold qv
 rw[if_neg (by simp only;omega),if_pos ⟨ha,hb,hc⟩,if_pos hi]
theorem qhZ{op:Int}(h:op=0∨op=4∨op=5∨op=6∨op=8∨op=9∨op=16):qv ⟨op,0,0,0,0⟩=0:=by
 rcases h with rfl|rfl|rfl|rfl|rfl|rfl|rfl <;>rfl
theorem qjP(W0:World)(own:Own)(op n:Int)(h:0≤op∧op<18)(hn:0≤n∧n≤18446744073709551615):
  q0E Tryz.prog W0 73 [.int .i64 op, .int .u64 n] own fun v own'=>∃x:Ins,v=x.v∧mkP op x∧Ent W0 own' own:=by
 refine qa qj q4u (by simp[q0H]) ?_
 repeat'((try(conv=>whnf));first|(refine fF ?_)|(refine qhR ?_ ?_;omega)|(apply qgq;(exact eN);(simp;omega))|(exact qew.nil)|(refine qew.cons ?_ ?_)|(refine fB ?_)|(refine qhF ?_ ?_;omega)|(refine fL ?_)|(refine fM ?_)|(refine qc (fun bk hbk=> ?_))|(apply q9q;(exact rfl);all_goals intro hc)|(refine q9M ?_ ?_;omega))
 all_goals refine⟨⟨_,_,_,_,_⟩,rfl,?_,(eC)⟩
 all_goals(try subst op)
 all_goals refine⟨rfl,?_,fun h=> ?_,?_,?_⟩
 all_goals first
  |(dsimp only;omega)
  |rfl
  |(exfalso;omega)
  |(refine qhX h ?_ ?_ ?_ ?_ <;>simp[q2o,qfY,qiv,qiw,q5z] <;>omega)
  |exact qhZ (by omega)
def qfz:List Ins→Nat→Int→Option Int
 | [],_,b=>some b
 |x::l,k,b=>if qa5 0 b x=0 then qfz l (k+1) (q16 x k b) else none
theorem q9N(x:Ins):∀(l:List Ins) (k:Nat) (b:Int),qfz (l++ [x]) k b=(qfz l k b).bind fun b'=>if qa5 0 b' x=0 then some (q16 x (k+l.length) b') else none
 | [],k,b=>by simp[qfz]
 |y::l,k,b=>by
  simp only[List.cons_append,qfz,List.length_cons]
  split
  ·rw[q9N x l,Nat.add_assoc,Nat.add_comm 1]
  ·rfl
theorem q9u(p:List Ins)(hz:∀x∈p,q1L x=true→x.imm=0){b':Int}(hb':b'<0):∀(n k:Nat) (b:Int),n+k=p.length→qaF p k b→qfz (p.drop k) k b=some b'→qY (q0S p) (p.drop k) k b=(0,0)
 |0,k,b,hn,_,hr=>by
  have:p.drop k= []:=List.drop_eq_nil_iff.2 (by omega)
  rw[this,qfz,Option.some.injEq] at hr
  rw[this,qY,if_neg (by omega)]
 |n+1,k,b,hn,h,hr=>by
  obtain⟨x,hx⟩:∃x,p[k]? =some x:=⟨_,List.getElem?_eq_getElem (by omega)⟩
  rw[q0R hx,qfz] at hr
  split at hr
  ·rename_i h0
   have ho:=q8Y h0
   have ht:q0S p k b x=0:=by
    unfold q0S
    split
    ·rename_i hs
     have hi:=hz x (List.mem_of_getElem? hx) hs
     have h8:=q4q hs
     rw[hi,if_neg (by omega)]
     split
     ·rename_i hb
      rcases h.bb with hb1|⟨_,_,he⟩
      ·omega
      ·have:=q5u (p.drop (k+1)) (k+1)
       rw[he,q0R hx,q2P]
       (repeat' split) <;>omega
     ·rw[q6o _ _ _ _ (by simp)]
      rfl
    ·rfl
   rw[q0R hx,qY,ht,if_neg (by simpa using h0)]
   exact q9u p hz hb' n (k+1) _ (by omega) (h.step hx ho.1 ho.2.1) hr
  ·cases hr
structure Mk(p:List Ins)(b:Int):Prop where
 run:qfz p 0 (-1)=some b
 zer:∀x∈p,q1L x=true→x.imm=0
theorem Mk.nil:Mk [] (-1):=⟨rfl,fun _ h=>by cases h⟩
theorem Mk.snoc{p:List Ins}{b:Int}{x:Ins}(h:Mk p b)(ho:qa5 0 b x=0)(hi:q1L x=true→x.imm=0):Mk (p++ [x]) (q16 x p.length b):=by
 refine⟨by rw[q9N,h.run];simp[ho],fun y hy hs=> ?_⟩
 rcases List.mem_append.1 hy with hy|hy
 ·exact h.zer y hy hs
 ·obtain rfl:=List.mem_singleton.1 hy
  exact hi hs
theorem Mk.ok{p:List Ins}{b:Int}(h:Mk p b)(hb:b<0)(hl:p.length≤64):q1v p=(0,0):=by
 rw[←qeS]
 unfold qx
 rw[if_neg (by omega)]
 exact q9u p h.zer hb p.length 0 (-1) (by omega) (qaF.start p) h.run
def qhr(o:Bool)(op:Int):Prop:=
 (1≤op∧op≤6)∨(o=false∧(op=7∨op=12∨op=13∨op=16∨op=17))∨(o=true∧(op=8∨op=9∨op=10∨op=11∨op=14∨op=15))
theorem qb7{o:Bool}{b:Int}{x:Ins}(hf:qhr o x.op)(hc:qv x=0)(hb:o=decide (0≤b)):qa5 0 b x=0:=by
 unfold qa5
 have hp:q2Y x=if x.op=8∨x.op=9∨x.op=10∨x.op=11∨x.op=14∨x.op=15 then 1 else if x.op=7∨x.op=12∨x.op=13∨x.op=16∨x.op=17 then 2 else 0:=by unfold q2Y;rw[if_pos hc]
 rw[if_neg (by omega),hp]
 rcases hf with h|⟨h0,h⟩|⟨h0,h⟩
 ·(repeat' split) <;>omega
 ·subst h0
  have hb':¬0≤b:=of_decide_eq_false hb.symm
  (repeat' split) <;>omega
 ·subst h0
  have hb':0≤b:=of_decide_eq_true hb.symm
  (repeat' split) <;>omega
end Go.Proofs.YtkieffpjjfebjaaGreatDoor
