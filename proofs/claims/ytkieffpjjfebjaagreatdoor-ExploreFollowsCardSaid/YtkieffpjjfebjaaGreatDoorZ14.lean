/- What the laws share, part 14. No condition. -/
import Derived.Test.YtkieffpjjfebjaaGreatDoorZ13
set_option maxHeartbeats 4000000
set_option maxRecDepth 10000
namespace Go.Proofs.YtkieffpjjfebjaaGreatDoor
open Go Go.RowKit
def q2P:List Ins→Nat→Nat
 | [],k=>k
 |x::l,k=>if x.op=8 then k else q2P l (k+1)
def q40(p:List Ins)(b:Nat):Nat:=q2P (p.drop (b+1)) (b+1)
def q3f(len:Nat):List Ins→Nat→Nat→Bool
 | [],_,_=>false
 |x::l,j,t=>decide (j<t∧x.op=7∧t≤q2P l (j+1)∧t+1≤len)||q3f len l (j+1) t
def q1I(len t:Nat):List Ins→Nat→Int→Int×Int
 | [],_,b=>if 0≤b∧b≤t∧t<len then(b,len) else(-1, -1)
 |x::l,k,b=>if b<0∧x.op=7 then q1I len t l (k+1) k else if 0≤b∧x.op=8 then(if b≤t∧t≤k then(b,k) else q1I len t l (k+1) (-1)) else q1I len t l (k+1) b
def qei(p:List Ins)(t:Nat):Int×Int:=q1I p.length t p 0 (-1)
def q0S(p:List Ins)(k:Nat)(b:Int)(x:Ins):Int:=
 if q1L x then(if(p.length:Int)<k+1+x.imm then 42 else if 0≤b then(if(q40 p b.toNat:Int)<k+1+x.imm then 42 else 0) else(if q3f p.length (p.drop (k+1)) (k+1) (k+1+x.imm.toNat) then 42 else 0)) else 0
def q27(p:List Ins)(k t:Nat):Bool:=
 if p.length<t then false else if 0≤(qei p k).1 then decide ((t:Int)≤(qei p k).2) else decide ((qei p t).1<0∨(qei p t).1=t)
def q3a(p:List Ins)(k:Nat)(x:Ins):Int:=if q1L x then(if q27 p k (k+1+x.imm.toNat) then 0 else 42) else 0
def qa5(tgt:Int)(b:Int)(x:Ins):Int:=
 if qv x≠0 then qv x else if(x.op=7∧0≤b)∨(x.op=8∧b<0) then 40 else if(q2Y x=1∧b<0)∨(q2Y x=2∧0≤b) then 41 else tgt
def q16(x:Ins)(k:Nat)(b:Int):Int:=if x.op=7 then k else if x.op=8 then-1 else b
def qY(tgt:Nat→Int→Ins→Int):List Ins→Nat→Int→Int×Int
 | [],_,b=>if 0≤b then(b,43) else(0,0)
 |x::l,k,b=>if qa5 (tgt k b x) b x≠0 then(k,qa5 (tgt k b x) b x) else qY tgt l (k+1) (q16 x k b)
def qx(p:List Ins):Int×Int:=if 64<p.length then(0,3) else qY (q0S p) p 0 (-1)
def q1v(p:List Ins):Int×Int:=if 64<p.length then(0,3) else qY (fun k _ x=>q3a p k x) p 0 (-1)
theorem q5u:∀(l:List Ins) (k:Nat),k≤q2P l k∧q2P l k≤k+l.length
 | [],k=>by simp[q2P]
 |x::l,k=>by
  unfold q2P
  have:=q5u l (k+1)
  simp only[List.length_cons]
  split <;>omega
theorem q6o(len:Nat):∀(l:List Ins) (j t:Nat),t≤j→q3f len l j t=false
 | [],_,_,_=>rfl
 |x::l,j,t,h=>by
  unfold q3f
  rw[q6o len l (j+1) t (by omega),Bool.or_false,decide_eq_false_iff_not]
  omega
theorem q4l(len t:Nat):∀(l:List Ins) (j:Nat) (b:Int),(b<0∧t<j)∨((t:Int)<b∧t<j)→(q1I len t l j b).1<0
 | [],j,b,h=>by
  unfold q1I
  rw[if_neg (by omega)]
  decide
 |x::l,j,b,h=>by
  unfold q1I
  split
  ·exact q4l len t l (j+1) j (.inr ⟨by omega,by omega⟩)
  ·split
   ·rw[if_neg (by omega)]
    exact q4l len t l (j+1) (-1) (.inl ⟨by omega,by omega⟩)
   ·exact q4l len t l (j+1) b (by omega)
theorem qbL(len t:Nat):∀(l:List Ins) (j:Nat),t<j→len=j+l.length→q1I len t l j t=((t:Int),(q2P l j:Int))
 | [],j,h,hl=>by
  simp only[List.length_nil,Nat.add_zero] at hl
  unfold q1I q2P
  rw[if_pos (by omega),hl]
 |x::l,j,h,hl=>by
  simp only[List.length_cons] at hl
  unfold q1I q2P
  rw[if_neg (by omega)]
  split
  ·rename_i h8
   rw[if_pos (by omega),if_pos h8.2]
  ·rename_i h8
   rw[if_neg (by omega)]
   exact qbL len t l (j+1) (by omega) (by omega)
theorem qbM(len t:Nat):∀(l:List Ins) (j:Nat) (b:Int),0≤b→b≤t→t<j→len=j+l.length→q1I len t l j b=(b,(q2P l j:Int))
 | [],j,b,h0,h1,h,hl=>by
  simp only[List.length_nil,Nat.add_zero] at hl
  unfold q1I q2P
  rw[if_pos (by omega),hl]
 |x::l,j,b,h0,h1,h,hl=>by
  simp only[List.length_cons] at hl
  unfold q1I q2P
  rw[if_neg (by omega)]
  split
  ·rename_i h8
   rw[if_pos (by omega),if_pos h8.2]
  ·rename_i h8
   rw[if_neg (by omega)]
   exact qbM len t l (j+1) b h0 h1 (by omega) (by omega)
mutual
theorem q99(len t:Nat):∀(l:List Ins) (j:Nat),len=j+l.length→t≤len→(((q1I len t l j (-1)).1<0∨(q1I len t l j (-1)).1=t)↔q3f len l j t=false)
 | [],j,_,_=>by
  unfold q1I q3f
  simp
 |x::l,j,hl,ht=>by
  simp only[List.length_cons] at hl
  unfold q1I q3f
  by_cases h7:x.op=7
  ·rw[if_pos ⟨by omega,h7⟩]
   by_cases hjt:j<t
   ·rw[qa0 len t l (j+1) j hjt (by omega) ht]
    rw[Bool.or_eq_false_iff,decide_eq_false_iff_not]
    constructor
    ·intro h;exact⟨by omega,h.2⟩
    ·intro h;exact⟨by omega,h.2⟩
   ·rw[q6o len l (j+1) t (by omega)]
    by_cases hjt2:j=t
    ·subst hjt2
     rw[qbL len j l (j+1) (by omega) (by omega)]
     simp
    ·have:=q4l len t l (j+1) j (.inr ⟨by omega,by omega⟩)
     simp[this];omega
  ·rw[if_neg (by omega),if_neg (by omega),q99 len t l (j+1) (by omega) ht]
   simp[h7]
theorem qa0(len t:Nat):∀(l:List Ins) (j:Nat) (b:Nat),b<t→len=j+l.length→t≤len→(((q1I len t l j b).1<0∨(q1I len t l j b).1=t)↔(¬(t≤q2P l j∧t+1≤len)∧q3f len l j t=false))
 | [],j,b,hb,hl,ht=>by
  simp only[List.length_nil,Nat.add_zero] at hl
  unfold q1I q3f q2P
  by_cases h:t<len
  ·rw[if_pos (by omega)]
   simp;omega
  ·rw[if_neg (by omega)]
   simp;omega
 |x::l,j,b,hb,hl,ht=>by
  simp only[List.length_cons] at hl
  rw[q1I,q3f,show q2P (x::l) j=(if x.op=8 then j else q2P l (j+1)) from rfl]
  rw[if_neg (by omega)]
  by_cases h8:x.op=8
  ·rw[if_pos ⟨by omega,h8⟩,if_pos h8]
   by_cases htj:t≤j
   ·rw[if_pos ⟨by omega,by omega⟩]
    simp;omega
   ·rw[if_neg (by omega),q99 len t l (j+1) (by omega) ht]
    have h7:¬x.op=7:=by omega
    simp[h7];omega
  ·rw[if_neg (by omega),if_neg h8,qa0 len t l (j+1) b hb (by omega) ht]
   rw[Bool.or_eq_false_iff,decide_eq_false_iff_not]
   constructor
   ·intro h;exact⟨h.1,by omega,h.2⟩
   ·intro h;exact⟨h.1,h.2.2⟩
end
structure qaF(p:List Ins)(k:Nat)(b:Int):Prop where
 sp:∀t,k≤t→qei p t=q1I p.length t (p.drop k) k b
 bb:b= -1∨(0≤b∧b<k∧q40 p b.toNat=q2P (p.drop k) k)
theorem qaF.start(p:List Ins):qaF p 0 (-1):=⟨fun _ _=>rfl, .inl rfl⟩
theorem q0R{p:List Ins}{k:Nat}{x:Ins}(hx:p[k]? =some x):p.drop k=x::p.drop (k+1):=by
 obtain⟨hk,he⟩:=List.getElem?_eq_some_iff.1 hx
 rw[List.drop_eq_getElem_cons hk,he]
theorem qaF.step{p:List Ins}{k:Nat}{b:Int}{x:Ins}(h:qaF p k b)(hx:p[k]? =some x)(h7:x.op=7→b<0)(h8:x.op=8→0≤b):qaF p (k+1) (q16 x k b):=by
 have hd:=q0R hx
 refine⟨fun t ht=> ?_,?_⟩
 ·rw[h.sp t (by omega),hd,q1I]
  unfold q16
  by_cases e7:x.op=7
  ·rw[if_pos ⟨h7 e7,e7⟩,if_pos e7]
  ·by_cases e8:x.op=8
   ·rw[if_neg (by omega),if_pos ⟨h8 e8,e8⟩,if_neg (by omega),if_neg e7,if_pos e8]
   ·rw[if_neg (by omega),if_neg (by omega),if_neg e7,if_neg e8]
 ·unfold q16
  by_cases e7:x.op=7
  ·rw[if_pos e7]
   refine .inr ⟨by omega,by omega,?_⟩
   simp[q40]
  ·by_cases e8:x.op=8
   ·rw[if_neg e7,if_pos e8];exact .inl rfl
   ·rw[if_neg e7,if_neg e8]
    rcases h.bb with hb|⟨h0,h1,h2⟩
    ·exact .inl hb
    ·refine .inr ⟨h0,by omega,?_⟩
     rw[h2,hd,q2P,if_neg e8]
theorem q4q{x:Ins}(h:q1L x=true):(x.op=4∨x.op=5∨x.op=6)∧0≤x.imm∧x.imm≤64:=by
 unfold q1L at h
 simp only[decide_eq_true_eq] at h
 refine⟨h.2,?_⟩
 have hc:=h.1
 unfold qv at hc
 split at hc
 ·omega
 ·split at hc
  ·split at hc
   ·rename_i hi
    unfold q5z at hi
    rw[if_neg (by omega),if_neg (by omega),if_pos (by omega)] at hi
    exact hi
   ·omega
  ·omega
theorem qaF.target{p:List Ins}{k:Nat}{b:Int}{x:Ins}(h:qaF p k b)(hx:p[k]? =some x):q0S p k b x=q3a p k x:=by
 unfold q0S q3a
 by_cases hs:q1L x=true
 ·obtain⟨hop,hi0,hi1⟩:=q4q hs
  rw[if_pos hs,if_pos hs]
  obtain⟨t,ht⟩:∃t:Nat,(t:Int)=k+1+x.imm:=⟨k+1+x.imm.toNat,by omega⟩
  have ht':k+1+x.imm.toNat=t:=by omega
  rw[ht',←ht]
  have hk:=(List.getElem?_eq_some_iff.1 hx).1
  have hd:=q0R hx
  have hlen:p.length=k+1+(p.drop (k+1)).length:=by rw[List.length_drop];omega
  by_cases hlt:p.length<t
  ·have hr:q27 p k t=false:=by unfold q27;rw[if_pos hlt]
   rw[hr,if_pos (by omega)];rfl
  ·rw[if_neg (show ¬(p.length:Int)<t by omega)]
   have s1:=h.sp k (Nat.le_refl _)
   rw[hd,q1I,if_neg (by omega),if_neg (by omega)] at s1
   have s2:=h.sp t (by omega)
   rw[hd,q1I,if_neg (by omega),if_neg (by omega)] at s2
   rcases h.bb with hb|⟨h0,h1,h2⟩
   ·subst hb
    have hl:=q4l p.length k (p.drop (k+1)) (k+1) (-1) (.inl ⟨by omega,by omega⟩)
    rw[←s1] at hl
    have ho:=q99 p.length t (p.drop (k+1)) (k+1) hlen (by omega)
    rw[←s2] at ho
    have hr:q27 p k t= !q3f p.length (p.drop (k+1)) (k+1) t:=by
     unfold q27
     rw[if_neg hlt,if_neg (show ¬0≤(qei p k).1 by omega)]
     cases hin:q3f p.length (p.drop (k+1)) (k+1) t with
     |true=>rw[hin] at ho;rw[decide_eq_false (by rw[ho];simp)];rfl
     |false=>rw[hin] at ho;rw[decide_eq_true (ho.2 rfl)];rfl
    rw[hr,if_neg (by omega)]
    cases q3f p.length (p.drop (k+1)) (k+1) t <;>rfl
   ·have hin:=qbM p.length k (p.drop (k+1)) (k+1) b h0 (by omega) (by omega) hlen
    rw[hin] at s1
    have hr:q27 p k t=decide ((t:Int)≤(q2P (p.drop (k+1)) (k+1):Nat)):=by
     unfold q27
     rw[if_neg hlt,s1,if_pos h0]
    have he:q2P (p.drop k) k=q2P (p.drop (k+1)) (k+1):=by rw[hd,q2P,if_neg (by omega)]
    rw[hr,if_pos h0,h2,he]
    by_cases hle:(t:Int)≤(q2P (p.drop (k+1)) (k+1):Nat)
    ·rw[if_neg (by omega),decide_eq_true hle];rfl
    ·rw[if_pos (by omega),decide_eq_false hle];rfl
 ·rw[if_neg hs,if_neg hs]
theorem q8Y{t b:Int}{x:Ins}(h:qa5 t b x=0):(x.op=7→b<0)∧(x.op=8→0≤b)∧qv x=0∧t=0:=by
 unfold qa5 at h
 split at h
 ·omega
 ·split at h
  ·omega
  ·split at h
   ·omega
   ·rename_i h1 h2 _
    simp at h1
    refine⟨by omega,by omega,h1,h⟩
theorem q7W(p:List Ins):∀(n k:Nat) (b:Int),n+k=p.length→qaF p k b→qY (q0S p) (p.drop k) k b=qY (fun k _ x=>q3a p k x) (p.drop k) k b
 |0,k,b,hn,_=>by
  have:p.drop k= []:=List.drop_eq_nil_iff.2 (by omega)
  rw[this,qY,qY]
 |n+1,k,b,hn,h=>by
  obtain⟨x,hx⟩:∃x,p[k]? =some x:=⟨_,List.getElem?_eq_getElem (by omega)⟩
  rw[q0R hx,qY,qY,h.target hx]
  split
  ·rfl
  ·rename_i h0
   have ho:=q8Y (t:=q3a p k x) (b:=b) (x:=x) (by simpa using h0)
   exact q7W p n (k+1) _ (by omega) (h.step hx ho.1 ho.2.1)
theorem qeS(p:List Ins):qx p=q1v p:=by
 unfold qx q1v
 split
 ·rfl
 ·exact q7W p p.length 0 (-1) (by omega) (qaF.start p)
open Go
theorem q4r{W0:World}{own:Own}{a:Addr}{vs:List Value}{n:Nat}{K:Own→Prop}(h:vs.length=n)(h2:StN W0 own a vs K):vs.length=n∧StN W0 own a vs K:=⟨h,h2⟩
section
variable{W0:World}{own:Own}{a:Option Addr}{cap:Nat}{p:List Ins}
theorem qdY(hR:RdE Ins.enc 5 W0 own a p)(hl:p.length≤1099511627776)(b:Nat)(hb:b+1≤p.length):qD Tryz.prog W0 124 [.slice a p.length cap, .int .i64 b] own (.int .i64 (q40 p b)):=by
 refine qe (qa qj q6Q (by simp[q1X]) ?_)
 repeat'((try(conv=>whnf));first|(refine fB ?_))
 refine q1N (σ:=Nat) (fun k=> [(5, .int .i64 k)]) (fun k=>k≤p.length∧q2P (p.drop k) k=q40 p b) (fun k=>p.length-k) (b+1) ⟨by omega,rfl⟩ (eF) rfl ?_
 rintro k junk ⟨hk,hI⟩
 by_cases hlt:k<p.length
 ·obtain⟨x,hx⟩:∃x,p[k]? =some x:=⟨_,List.getElem?_eq_getElem hlt⟩
  rw[q0R hx,q2P] at hI
  repeat'((try(conv=>whnf));first|(refine q17 (by omega) ?_)|((with_reducible show Ld _ _ _ _);first|(refine ldE (k:=0) (RdE.ent hR ?_) hx ?_ rfl ?_;rotate_left;rfl;rotate_left;(solve|(exact eB))))|((with_reducible show IxS _ _ _ _ _);first|(refine ixE hR hx ?_ ?_;(first|rfl|omega)))|(refine fB ?_)|(refine q5Z (fun hc=> ?_) (fun hc=> ?_)))
  ·rw[if_pos hc] at hI
   exact⟨q0N (vi (by rw[hI])),eB⟩
  ·rw[if_neg hc] at hI
   exact⟨k+1,⟨by omega,hI⟩,by omega,(eF),Ent.refl⟩
 ·have hk':k=p.length:=by omega
  subst hk'
  rw[List.drop_length,q2P] at hI
  repeat'((try(conv=>whnf));first|(refine q2j (by omega) ?_))
  exact⟨q0N (vi (by rw[←hI])),eB⟩
theorem qi6(hR:RdE Ins.enc 5 W0 own a p)(hl:p.length≤1099511627776)(k t:Nat)(ht:k+1≤t∧t≤p.length):
  qD Tryz.prog W0 187 [.slice a p.length cap, .int .i64 k, .int .i64 t] own (.bool (q3f p.length (p.drop (k+1)) (k+1) t)):=by
 refine qe (qa qj q6f (by simp[q1B]) ?_)
 repeat'((try(conv=>whnf));first|(refine fB ?_))
 refine q1N (σ:=Nat) (fun b=> [(7, .int .i64 b)]) (fun b=>b≤t∧q3f p.length (p.drop b) b t=q3f p.length (p.drop (k+1)) (k+1) t) (fun b=>t-b) (k+1) ⟨by omega,rfl⟩ (eF) rfl ?_
 rintro b junk ⟨hb,hI⟩
 by_cases hlt:b<t
 ·obtain⟨x,hx⟩:∃x,p[b]? =some x:=⟨_,List.getElem?_eq_getElem (by omega)⟩
  have hE:=fun ex=>qdY (cap:=cap) (hR.ent (Ent.app (A:=ex) Ent.refl)) hl b (by omega)
  have he:q40 p b=q2P (p.drop (b+1)) (b+1):=rfl
  rw[q0R hx,q3f,←he] at hI
  have hge:=q5u (p.drop (b+1)) (b+1)
  rw[←he,List.length_drop] at hge
  by_cases h7:x.op=7
  ·by_cases hin:t≤q40 p b∧t+1≤p.length
   ·rw[decide_eq_true ⟨hlt,h7,hin.1,hin.2⟩,Bool.true_or] at hI
    repeat'((try(conv=>whnf));first|(refine qC ?_)|(refine q17 (by omega) ?_)|(refine q7i (by omega) ?_)|(refine qg (hE []) ?_)|((with_reducible show Ld _ _ _ _);first|(refine ldE (k:=0) (RdE.ent hR ?_) hx ?_ rfl ?_;rotate_left;rfl;rotate_left;(solve|(exact eB))))|((with_reducible show IxS _ _ _ _ _);first|(refine ixE hR hx ?_ ?_;(first|rfl|omega)))|(refine fB ?_)|(refine qgt ?_))
    all_goals first|exact⟨q0N (vb hI),eB⟩|(exfalso;omega)
   ·rw[decide_eq_false (by omega),Bool.false_or] at hI
    repeat'((try(conv=>whnf));first|(refine qC ?_)|(refine q17 (by omega) ?_)|(refine q2j (by omega) ?_)|(refine q7i (by omega) ?_)|(refine qg (hE []) ?_)|((with_reducible show Ld _ _ _ _);first|(refine ldE (k:=0) (RdE.ent hR ?_) hx ?_ rfl ?_;rotate_left;rfl;rotate_left;(solve|(exact eB))))|((with_reducible show IxS _ _ _ _ _);first|(refine ixE hR hx ?_ ?_;(first|rfl|omega)))|(refine fB ?_)|(refine qgt ?_))
    all_goals first|exact⟨b+1,⟨by omega,hI⟩,by omega,(eF),Ent.refl⟩|(exfalso;omega)
  ·rw[decide_eq_false (by omega),Bool.false_or] at hI
   repeat'((try(conv=>whnf));first|(refine q2q ?_)|(refine q4B ?_)|(refine q17 (by omega) ?_)|(refine q4R (by omega) ?_)|((with_reducible show Ld _ _ _ _);first|(refine ldE (k:=0) (RdE.ent hR ?_) hx ?_ rfl ?_;rotate_left;rfl;rotate_left;(solve|(exact eB))))|((with_reducible show IxS _ _ _ _ _);first|(refine ixE hR hx ?_ ?_;(first|rfl|omega)))|(refine fB ?_))
   all_goals exact⟨b+1,⟨by omega,hI⟩,by omega,(eF),Ent.refl⟩
 ·rw[q6o _ _ _ _ (by omega)] at hI
  repeat'((try(conv=>whnf));first|(refine q2j (by omega) ?_))
  exact⟨q0N (vb hI),eB⟩
theorem qeg(hF:q0A W0)(hR:RdE Ins.enc 5 W0 own a p)(hl:p.length≤64)(k:Nat)(b:Int)(x:Ins)(hx:p[k]? =some x)(hb:b= -1∨(0≤b∧b<k)):
  qD Tryz.prog W0 156 [.slice a p.length cap, .int .i64 k, .int .i64 b] own (.int .i64 (q0S p k b x)):=by
 refine qe (qa qj q58 (by simp[q13]) ?_)
 have hk:=(List.getElem?_eq_some_iff.1 hx).1
 have hs:=fun own=>qe7 W0 own hF x
 unfold q0S
 cases hsk:q1L x
 ·have hi:q7t x=0:=by unfold q7t;rw[hsk];rfl
  rw[hsk,hi] at hs
  repeat'((try(conv=>whnf));first|(refine q3M ?_)|(apply qg (hs _))|((with_reducible show IxS _ _ _ _ _);first|(refine ixE hR hx ?_ ?_;(first|rfl|omega)))|((with_reducible show LdN _ _ _ _ _);first|(refine qeD (RdE.ent hR ?_) hx ?_ ?_ ?_;rotate_left;rfl;rfl;rotate_left;(solve|(exact eB))))|(refine fO ?_))
  all_goals exact⟨q0N (vi (by simp)),eB⟩
 ·obtain⟨hop,hi0,hi1⟩:=q4q hsk
  have hi:q7t x=x.imm:=by unfold q7t;rw[hsk];rfl
  rw[hsk,hi] at hs
  simp only[if_true]
  generalize x.imm=m at*
  by_cases hlt:(p.length:Int)<k+1+m
  ·rw[if_pos hlt]
   repeat'((try(conv=>whnf));first|(refine q4B ?_)|(refine q17 (by omega) ?_)|(apply qg (hs _))|((with_reducible show IxS _ _ _ _ _);first|(refine ixE hR hx ?_ ?_;(first|rfl|omega)))|((with_reducible show LdN _ _ _ _ _);first|(refine qeD (RdE.ent hR ?_) hx ?_ ?_ ?_;rotate_left;rfl;rfl;rotate_left;(solve|(exact eB))))|(refine fB ?_)|(refine fO ?_))
   all_goals exact⟨rfl,eB⟩
  ·rw[if_neg hlt]
   rcases hb with hb|⟨hb0,hb1⟩
   ·subst hb
    rw[if_neg (by omega)]
    obtain⟨t,ht⟩:∃t:Nat,(t:Int)=k+1+m:=⟨k+1+m.toNat,by omega⟩
    have ht':k+1+m.toNat=t:=by omega
    rw[ht']
    have hin:=qi6 (cap:=cap) hR (by omega) k t (by omega)
    rw[ht] at hin
    cases hv:q3f p.length (p.drop (k+1)) (k+1) t <;>rw[hv] at hin
    all_goals
     repeat'((try(conv=>whnf));first|(refine qC ?_)|(refine q2q ?_)|(refine q3M ?_)|(refine q4B ?_)|(refine q2j (by omega) ?_)|(apply qg (hs _))|(refine qg hin ?_)|((with_reducible show IxS _ _ _ _ _);first|(refine ixE hR hx ?_ ?_;(first|rfl|omega)))|((with_reducible show LdN _ _ _ _ _);first|(refine qeD (RdE.ent hR ?_) hx ?_ ?_ ?_;rotate_left;rfl;rfl;rotate_left;(solve|(exact eB))))|(refine fB ?_)|(refine fO ?_))
     all_goals exact⟨rfl,eB⟩
   ·rw[if_pos hb0]
    obtain⟨b,rfl⟩:=Int.eq_ofNat_of_zero_le hb0
    simp only[Int.toNat_natCast]
    have hE:=qdY (cap:=cap) hR (by omega) b (by omega)
    have hge:=q5u (p.drop (b+1)) (b+1)
    have he:q40 p b=q2P (p.drop (b+1)) (b+1):=rfl
    rw[←he,List.length_drop] at hge
    repeat'((try(conv=>whnf));first|(refine qC ?_)|(refine q2q ?_)|(refine q4B ?_)|(refine q2j (by omega) ?_)|(apply qg (hs _))|(refine qg hE ?_)|((with_reducible show IxS _ _ _ _ _);first|(refine ixE hR hx ?_ ?_;(first|rfl|omega)))|((with_reducible show LdN _ _ _ _ _);first|(refine qeD (RdE.ent hR ?_) hx ?_ ?_ ?_;rotate_left;rfl;rfl;rotate_left;(solve|(exact eB))))|(refine fB ?_)|(refine fO ?_)|(refine q5Z (fun hc=> ?_) (fun hc=> ?_)))
    all_goals(refine⟨q0N (vi ?_),eB⟩;first|(rw[if_pos (by omega)];done)|(rw[if_neg (by omega)];done)|(split <;>omega))
theorem qjS(hF:q0A W0)(hR:RdE Ins.enc 5 W0 own a p)(hl:p.length≤64)(k:Nat)(b:Int)(x:Ins)(hx:p[k]? =some x)(hb:b= -1∨(0≤b∧b<k)):
  qD Tryz.prog W0 129 [.slice a p.length cap, .int .i64 k, .int .i64 b] own (.int .i64 (qa5 (q0S p k b x) b x)):=by
 refine qe (qa qj q6R (by simp[q1Y]) ?_)
 have hk:=(List.getElem?_eq_some_iff.1 hx).1
 have hc:=fun own=>q7d W0 own hF x
 have hp:=fun own=>qe6 W0 own hF x
 have ht:=qeg (cap:=cap) hF hR hl k b x hx hb
 generalize q0S p k b x=t at*
 unfold qa5
 generalize qv x=z at*
 generalize q2Y x=q at*
 repeat'((try(conv=>whnf));first|(refine qC ?_)|(refine q2q ?_)|(refine q4B ?_)|(refine q17 (by omega) ?_)|(refine q2j (by omega) ?_)|(refine q4R (by omega) ?_)|(refine q9r (by omega) ?_)|(refine qaP (by omega) ?_)|(apply qg (hc _))|(apply qg (hp _))|(refine qg ht ?_)|((with_reducible show Ld _ _ _ _);first|(refine ldE (k:=0) (RdE.ent hR ?_) hx ?_ rfl ?_;rotate_left;rfl;rotate_left;(solve|(exact eB))))|((with_reducible show IxS _ _ _ _ _);first|(refine ixE hR hx ?_ ?_;(first|rfl|omega)))|((with_reducible show LdN _ _ _ _ _);first|(refine qeD (RdE.ent hR ?_) hx ?_ ?_ ?_;rotate_left;rfl;rfl;rotate_left;(solve|(exact eB))))|(refine q4Q (fun hc=> ?_) (fun hc=> ?_))|(refine q5Z (fun hc=> ?_) (fun hc=> ?_))|(refine qcT (fun hc=> ?_) (fun hc=> ?_)))
 all_goals(refine⟨q0N (vi ?_),eB⟩;(repeat' split) <;>first|rfl|(exfalso;omega)|omega)
theorem q9X(hF:q0A W0)(hR:RdE Ins.enc 5 W0 own a p):
  qD Tryz.prog W0 98 [.slice a p.length cap] own (.tuple #[.int .i64 (qx p).1, .int .i64 (qx p).2]):=by
 refine qe (qa qj q5F (by simp[q1f]) ?_)
 unfold qx
 by_cases h64:64<p.length
 ·rw[if_pos h64]
  repeat'((try(conv=>whnf));first|(refine q17 (by omega) ?_))
  all_goals first|exact⟨rfl,eB⟩|(exfalso;omega)
 ·rw[if_neg h64]
  generalize hres:qY (q0S p) p 0 (-1)=res
  repeat'((try(conv=>whnf));first|(refine q2j (by omega) ?_))
  refine q1N (σ:=Nat×Int) (fun s=> [(13, .int .i64 s.1),(4, .int .i64 s.2)]) (fun s=>s.1≤p.length∧(s.2= -1∨(0≤s.2∧s.2<s.1))∧qY (q0S p) (p.drop s.1) s.1 s.2=res) (fun s=>p.length-s.1) (0, -1) ⟨by simp,by simp,hres⟩ (eF) rfl ?_
  rintro⟨k,b⟩ junk ⟨hk,hb,hI⟩
  simp only[] at hk hb hI
  by_cases hlt:k<p.length
  ·obtain⟨x,hx⟩:∃x,p[k]? =some x:=⟨_,List.getElem?_eq_getElem hlt⟩
   rw[q0R hx,qY] at hI
   have ho:=fun ex=>qjS (cap:=cap) hF (hR.ent (Ent.app (A:=ex) Ent.refl)) (by omega) k b x hx hb
   have hnb:q16 x k b= -1∨(0≤q16 x k b∧q16 x k b<(k+1:Nat)):=by unfold q16;(repeat' split) <;>omega
   generalize hz:qa5 (q0S p k b x) b x=z at*
   by_cases h0:z=0
   ·rw[if_neg (by simpa using h0)] at hI
    unfold q16 at hI hnb
    subst h0
    by_cases h7:x.op=7
    ·rw[if_pos h7] at hI hnb
     repeat'((try(conv=>whnf));first|(refine q4B ?_)|(refine q17 (by omega) ?_)|(refine q4r rfl ?_)|(refine qg (ho [_]) ?_)|((with_reducible show IxS _ _ _ _ _);first|(refine ixE hR hx ?_ ?_;(first|rfl|omega)))|((with_reducible show LdN _ _ _ _ _);first|(refine qeD (RdE.ent hR ?_) hx ?_ ?_ ?_;rotate_left;rfl;rfl;rotate_left;(solve|(exact eB))))|(refine fB ?_)|(apply qH;(exact eM);exact rfl)|(apply q5R;(first|(solve|repeat(first|with_reducible exact Up.head|with_reducible apply Up.tail|with_reducible apply Up.app))|(repeat(first|exact Up.head|apply Up.tail|apply Up.app)));(solve|((try(conv=>arg 2;whnf));repeat'(first|exact Lis.nil|apply Lis.cons|apply q2a.here|apply q2a.there|apply q0P.done|apply q0P.put|apply q0P.skip)));exact rfl)|(refine qc (fun bk hbk=> ?_)))
     all_goals exact⟨(k+1,(k:Int)),⟨by simp;omega,hnb,hI⟩,by simp;omega,(eF),eB⟩
    ·by_cases h8:x.op=8
     ·rw[if_neg h7,if_pos h8] at hI hnb
      repeat'((try(conv=>whnf));first|(refine q4B ?_)|(refine q17 (by omega) ?_)|(refine q2j (by omega) ?_)|(refine q4r rfl ?_)|(refine qg (ho [_]) ?_)|((with_reducible show IxS _ _ _ _ _);first|(refine ixE hR hx ?_ ?_;(first|rfl|omega)))|((with_reducible show LdN _ _ _ _ _);first|(refine qeD (RdE.ent hR ?_) hx ?_ ?_ ?_;rotate_left;rfl;rfl;rotate_left;(solve|(exact eB))))|(refine fB ?_)|(apply qH;(exact eM);exact rfl)|(apply q5R;(first|(solve|repeat(first|with_reducible exact Up.head|with_reducible apply Up.tail|with_reducible apply Up.app))|(repeat(first|exact Up.head|apply Up.tail|apply Up.app)));(solve|((try(conv=>arg 2;whnf));repeat'(first|exact Lis.nil|apply Lis.cons|apply q2a.here|apply q2a.there|apply q0P.done|apply q0P.put|apply q0P.skip)));exact rfl)|(refine qc (fun bk hbk=> ?_)))
      all_goals exact⟨(k+1, -1),⟨by simp;omega,hnb,hI⟩,by simp;omega,(eF),eB⟩
     ·rw[if_neg h7,if_neg h8] at hI hnb
      repeat'((try(conv=>whnf));first|(refine q4B ?_)|(refine q17 (by omega) ?_)|(refine q2j (by omega) ?_)|(refine q4r rfl ?_)|(refine qg (ho [_]) ?_)|((with_reducible show IxS _ _ _ _ _);first|(refine ixE hR hx ?_ ?_;(first|rfl|omega)))|((with_reducible show LdN _ _ _ _ _);first|(refine qeD (RdE.ent hR ?_) hx ?_ ?_ ?_;rotate_left;rfl;rfl;rotate_left;(solve|(exact eB))))|(refine fB ?_)|(apply qH;(exact eM);exact rfl)|(apply q5R;(first|(solve|repeat(first|with_reducible exact Up.head|with_reducible apply Up.tail|with_reducible apply Up.app))|(repeat(first|exact Up.head|apply Up.tail|apply Up.app)));(solve|((try(conv=>arg 2;whnf));repeat'(first|exact Lis.nil|apply Lis.cons|apply q2a.here|apply q2a.there|apply q0P.done|apply q0P.put|apply q0P.skip)));exact rfl)|(refine qc (fun bk hbk=> ?_)))
      all_goals exact⟨(k+1,b),⟨by simp;omega,hnb,hI⟩,by simp;omega,(eF),eB⟩
   ·rw[if_pos h0] at hI
    repeat'((try(conv=>whnf));first|(refine q17 (by omega) ?_)|(refine q4r rfl ?_)|(refine qg (ho [_]) ?_)|((with_reducible show IxS _ _ _ _ _);first|(refine ixE hR hx ?_ ?_;(first|rfl|omega)))|((with_reducible show LdN _ _ _ _ _);first|(refine qeD (RdE.ent hR ?_) hx ?_ ?_ ?_;rotate_left;rfl;rfl;rotate_left;(solve|(exact eB))))|(apply q5R;(first|(solve|repeat(first|with_reducible exact Up.head|with_reducible apply Up.tail|with_reducible apply Up.app))|(repeat(first|exact Up.head|apply Up.tail|apply Up.app)));(solve|((try(conv=>arg 2;whnf));repeat'(first|exact Lis.nil|apply Lis.cons|apply q2a.here|apply q2a.there|apply q0P.done|apply q0P.put|apply q0P.skip)));exact rfl)|(refine qc (fun bk hbk=> ?_)))
    all_goals(rw[←hI];exact⟨rfl,eB⟩)
  ·have hk':k=p.length:=by omega
   subst hk'
   rw[List.drop_length,qY] at hI
   rw[←hI]
   repeat'((try(conv=>whnf));first|(refine q2j (by omega) ?_)|(refine q5Z (fun hc=> ?_) (fun hc=> ?_)))
   all_goals(refine⟨qcC (vi ?_) (vi ?_),eB⟩ <;>split <;>first|rfl|(exfalso;omega))
end
open Go Go.RowKit
section
variable{W0:World}{own:Own}{a:Option Addr}{cap:Nat}{p:List Ins}
theorem qic(hR:RdE Ins.enc 5 W0 own a p)(hl:p.length≤1099511627776)(t:Nat):
  qD Tryz.prog W0 104 [.slice a p.length cap, .int .i64 t] own (.tuple #[.int .i64 (qei p t).1, .int .i64 (qei p t).2]):=by
 refine qe (qa qj q7B (by simp[q2B]) ?_)
 unfold qei
 generalize hres:q1I p.length t p 0 (-1)=res
 refine q1N (σ:=Nat×Int) (fun s=> [(7, .int .i64 s.1),(6, .int .i64 s.2)]) (fun s=>s.1≤p.length∧(s.2= -1∨(0≤s.2∧s.2<s.1))∧q1I p.length t (p.drop s.1) s.1 s.2=res) (fun s=>p.length-s.1) (0, -1) ⟨by simp,by simp,hres⟩ (eF) rfl ?_
 rintro⟨k,b⟩ junk ⟨hk,hb,hI⟩
 simp only[] at hk hb hI
 by_cases hlt:k<p.length
 ·obtain⟨x,hx⟩:∃x,p[k]? =some x:=⟨_,List.getElem?_eq_getElem hlt⟩
  rw[q0R hx,q1I] at hI
  by_cases h7:b<0∧x.op=7
  ·rw[if_pos h7] at hI
   repeat'((try(conv=>whnf));first|(refine fH ?_)|(refine fF ?_)|(refine fJ ?_)|((with_reducible show Ld _ _ _ _);first|(refine q1M hR hx rfl ?_))|((with_reducible show IxS _ _ _ _ _);first|((refine ixE hR hx ?_ ?_;(first|rfl|omega))))|(refine fB ?_))
   all_goals exact⟨(k+1,(k:Int)),⟨by simp;omega,by simp;omega,hI⟩,by simp;omega,(eF),(eC)⟩
  ·rw[if_neg h7] at hI
   by_cases h8:0≤b∧x.op=8
   ·rw[if_pos h8] at hI
    by_cases hin:b≤t∧t≤k
    ·rw[if_pos hin] at hI
     repeat'((try(conv=>whnf));first|(refine fH ?_)|(refine fI ?_)|(refine fD ?_)|(refine fF ?_)|(refine fJ ?_)|(refine fK ?_)|((with_reducible show Ld _ _ _ _);first|(refine q1M hR hx rfl ?_))|((with_reducible show IxS _ _ _ _ _);first|((refine ixE hR hx ?_ ?_;(first|rfl|omega)))))
     all_goals(rw[←hI];exact⟨rfl,(eC)⟩)
    ·rw[if_neg hin] at hI
     repeat'((try(conv=>whnf));first|(refine fH ?_)|(refine fI ?_)|(refine fD ?_)|(refine fF ?_)|(refine fG ?_)|(refine fJ ?_)|(refine fK ?_)|((with_reducible show Ld _ _ _ _);first|(refine q1M hR hx rfl ?_))|((with_reducible show IxS _ _ _ _ _);first|((refine ixE hR hx ?_ ?_;(first|rfl|omega))))|(refine fB ?_)|(apply q0e;(exact rfl);(exact rfl);all_goals intro hc))
     all_goals exact⟨(k+1, -1),⟨by simp;omega,by simp,hI⟩,by simp;omega,(eF),(eC)⟩
   ·rw[if_neg h8] at hI
    repeat'((try(conv=>whnf));first|(refine fH ?_)|(refine fI ?_)|(refine fD ?_)|(refine fF ?_)|(refine fG ?_)|(refine fJ ?_)|(refine fK ?_)|((with_reducible show Ld _ _ _ _);first|(refine q1M hR hx rfl ?_))|((with_reducible show IxS _ _ _ _ _);first|((refine ixE hR hx ?_ ?_;(first|rfl|omega))))|(refine fB ?_)|(apply q0e;(exact rfl);(exact rfl);all_goals intro hc))
    all_goals exact⟨(k+1,b),⟨by simp;omega,by simp;omega,hI⟩,by simp;omega,(eF),(eC)⟩
 ·have hk':k=p.length:=by omega
  subst hk'
  rw[List.drop_length,q1I] at hI
  by_cases h0:0≤b∧b≤t∧t<p.length
  ·rw[if_pos h0] at hI
   repeat'((try(conv=>whnf));first|(refine fH ?_)|(refine fF ?_)|(refine fG ?_)|(refine fJ ?_))
   all_goals(rw[←hI];exact⟨rfl,(eC)⟩)
  ·rw[if_neg h0] at hI
   repeat'((try(conv=>whnf));first|(refine fH ?_)|(refine fI ?_)|(refine fD ?_)|(refine fG ?_)|(apply q0e;(exact rfl);(exact rfl);all_goals intro hc))
   all_goals(rw[←hI];exact⟨rfl,(eC)⟩)
theorem qcp(hR:RdE Ins.enc 5 W0 own a p)(hl:p.length≤1099511627776)(k t:Nat):
  qD Tryz.prog W0 103 [.slice a p.length cap, .int .i64 k, .int .i64 t] own (.bool (q27 p k t)):=by
 refine qe (qa qj q5H (by simp[q1h]) ?_)
 have hs:=fun t=>qic (cap:=cap) hR hl t
 unfold q27
 by_cases h1:p.length<t
 ·rw[if_pos h1]
  repeat'((try(conv=>whnf));first|(refine fF ?_))
  all_goals exact⟨rfl,(eC)⟩
 ·rw[if_neg h1]
  by_cases h2:0≤(qei p k).1
  ·rw[if_pos h2]
   repeat'((try(conv=>whnf));first|(refine fF ?_)|(refine fG ?_)|((with_reducible show qf _ _ _ _ _ _);first|((refine qh (hs k) ?_ ?_ ?_;(exact rfl);exact rfl)))|(refine fO ?_))
   all_goals exact⟨rfl,(eC)⟩
  ·rw[if_neg h2]
   by_cases h3:(qei p t).1<0
   ·repeat'((try(conv=>whnf));first|(refine fI ?_)|(refine fG ?_)|(refine fJ ?_)|((with_reducible show qf _ _ _ _ _ _);first|((refine qh (hs k) ?_ ?_ ?_;(exact rfl);exact rfl))|((refine qh (hs t) ?_ ?_ ?_;(exact rfl);exact rfl)))|(refine fO ?_))
    all_goals exact⟨q0N (vb (by symm;rw[decide_eq_true_eq];exact .inl h3)),(eC)⟩
   ·repeat'((try(conv=>whnf));first|(refine fH ?_)|(refine fG ?_)|(refine fK ?_)|((with_reducible show qf _ _ _ _ _ _);first|((refine qh (hs k) ?_ ?_ ?_;(exact rfl);exact rfl))|((refine qh (hs t) ?_ ?_ ?_;(exact rfl);exact rfl)))|(refine fO ?_))
    all_goals(refine⟨q0N (vb ?_),(eC)⟩;exact dd ⟨fun h=> .inr h,fun h=>h.elim (fun h=>absurd h h3) id⟩)
theorem qcq(hR:RdE Ins.enc 5 W0 own a p):
  qD Tryz.prog W0 72 [.slice a p.length cap] own (.tuple #[.int .i64 (q1v p).1, .int .i64 (q1v p).2]):=by
 refine qe (qa qj q6V (by simp[q22]) ?_)
 unfold q1v
 by_cases h64:64<p.length
 ·rw[if_pos h64]
  repeat'((try(conv=>whnf));first|(refine fF ?_))
  all_goals first|exact⟨rfl,(eC)⟩|(exfalso;omega)
 ·rw[if_neg h64]
  generalize hres:qY (fun k _ x=>q3a p k x) p 0 (-1)=res
  repeat'((try(conv=>whnf));first|(refine fG ?_))
  refine q1N (σ:=Nat×Int) (fun s=> [(5, .int .i64 s.1),(4, .int .i64 s.2)]) (fun s=>s.1≤p.length∧(s.2= -1∨(0≤s.2∧s.2<s.1))∧qY (fun k _ x=>q3a p k x) (p.drop s.1) s.1 s.2=res) (fun s=>p.length-s.1) (0, -1) ⟨by simp,by simp,hres⟩ (eF) rfl ?_
  rintro⟨k,b⟩ junk ⟨hk,hb,hI⟩
  simp only[] at hk hb hI
  by_cases hlt:k<p.length
  ·obtain⟨x,hx⟩:∃x,p[k]? =some x:=⟨_,List.getElem?_eq_getElem hlt⟩
   rw[q0R hx,qY] at hI
   have hc:=fun own=>q5l W0 own x
   have hp:=fun own=>qec W0 own x
   have hs:=fun own=>qed W0 own x
   have hre:=fun(t:Nat) (own':Own) (h:Ent W0 own' own)=>qcp (cap:=cap) (hR.ent h) (by omega) k t
   have hnb:q16 x k b= -1∨(0≤q16 x k b∧q16 x k b<(k+1:Nat)):=by unfold q16;(repeat' split) <;>omega
   have hso:=fun h=>q4q (x:=x) h
   have hsi:q1L x=true→q7t x=x.imm:=fun h=>by unfold q7t;rw[h];rfl
   unfold qa5 q3a at hI
   generalize qv x=z at*
   generalize q2Y x=q at*
   by_cases hz:z=0
   ·subst hz
    simp only[ne_eq,not_true_eq_false,if_false] at hI
    by_cases h40:(x.op=7∧0≤b)∨(x.op=8∧b<0)
    ·rw[if_pos h40] at hI
     repeat'((try(conv=>whnf));first|(refine fH ?_)|(refine fI ?_)|(refine fE ?_)|(refine fD ?_)|(refine fF ?_)|(refine fJ ?_)|((with_reducible show IxS _ _ _ _ _);first|((refine ixE hR hx ?_ ?_;(first|rfl|omega))))|((with_reducible show LdN _ _ _ _ _);first|(refine q2e hR hx rfl ?_))|((with_reducible show qf _ _ _ _ _ _);first|((refine qh (hc _) ?_ ?_ ?_;(exact rfl);exact rfl)))|(refine fA ?_)|(refine fL ?_)|(refine fM ?_)|(refine qc (fun bk hbk=> ?_))|(apply q0e;(exact rfl);(exact rfl);all_goals intro hc))
     all_goals(rw[←hI];exact⟨rfl,(eC)⟩)
    ·rw[if_neg h40] at hI
     by_cases h41:(q=1∧b<0)∨(q=2∧0≤b)
     ·rw[if_pos h41] at hI
      repeat'((try(conv=>whnf));first|(refine fH ?_)|(refine fI ?_)|(refine fE ?_)|(refine fD ?_)|(refine fF ?_)|(refine fG ?_)|(refine fJ ?_)|(refine fK ?_)|((with_reducible show IxS _ _ _ _ _);first|((refine ixE hR hx ?_ ?_;(first|rfl|omega))))|((with_reducible show LdN _ _ _ _ _);first|(refine q2e hR hx rfl ?_))|((with_reducible show qf _ _ _ _ _ _);first|((refine qh (hc _) ?_ ?_ ?_;(exact rfl);exact rfl))|((refine qh (hp _) ?_ ?_ ?_;(exact rfl);exact rfl)))|(refine fA ?_)|(refine fL ?_)|(refine fM ?_)|(refine qc (fun bk hbk=> ?_))|(apply q0e;(exact rfl);(exact rfl);all_goals intro hc))
      all_goals(rw[←hI];exact⟨rfl,(eC)⟩)
     ·rw[if_neg h41] at hI
      cases hsk:q1L x
      ·rw[hsk] at hs hI
       simp only[Bool.false_eq_true,if_false,not_true_eq_false] at hI
       unfold q16 at hI hnb
       by_cases h7:x.op=7
       ·rw[if_pos h7] at hI hnb
        repeat'((try(conv=>whnf));first|(refine fH ?_)|(refine fI ?_)|(refine fD ?_)|(refine fF ?_)|(refine fG ?_)|(refine fJ ?_)|(refine fK ?_)|((with_reducible show IxS _ _ _ _ _);first|((refine ixE hR hx ?_ ?_;(first|rfl|omega))))|((with_reducible show LdN _ _ _ _ _);first|(refine q2e hR hx rfl ?_))|((with_reducible show qf _ _ _ _ _ _);first|((refine qh (hc _) ?_ ?_ ?_;(exact rfl);exact rfl))|((refine qh (hp _) ?_ ?_ ?_;(exact rfl);exact rfl))|((refine qh (hs _) ?_ ?_ ?_;(exact rfl);exact rfl)))|(refine fB ?_)|(refine fO ?_)|(refine fA ?_)|(refine fL ?_)|(refine fM ?_)|(refine qc (fun bk hbk=> ?_))|(apply q0e;(exact rfl);(exact rfl);all_goals intro hc))
        all_goals exact⟨(k+1,(k:Int)),⟨by simp;omega,hnb,hI⟩,by simp;omega,(eF),(eC)⟩
       ·by_cases h8:x.op=8
        ·rw[if_neg h7,if_pos h8] at hI hnb
         repeat'((try(conv=>whnf));first|(refine fH ?_)|(refine fI ?_)|(refine fD ?_)|(refine fF ?_)|(refine fG ?_)|(refine fJ ?_)|(refine fK ?_)|((with_reducible show IxS _ _ _ _ _);first|((refine ixE hR hx ?_ ?_;(first|rfl|omega))))|((with_reducible show LdN _ _ _ _ _);first|(refine q2e hR hx rfl ?_))|((with_reducible show qf _ _ _ _ _ _);first|((refine qh (hc _) ?_ ?_ ?_;(exact rfl);exact rfl))|((refine qh (hp _) ?_ ?_ ?_;(exact rfl);exact rfl))|((refine qh (hs _) ?_ ?_ ?_;(exact rfl);exact rfl)))|(refine fB ?_)|(refine fO ?_)|(refine fA ?_)|(refine fL ?_)|(refine fM ?_)|(refine qc (fun bk hbk=> ?_))|(apply q0e;(exact rfl);(exact rfl);all_goals intro hc))
         all_goals exact⟨(k+1, -1),⟨by simp;omega,hnb,hI⟩,by simp;omega,(eF),(eC)⟩
        ·rw[if_neg h7,if_neg h8] at hI hnb
         repeat'((try(conv=>whnf));first|(refine fH ?_)|(refine fI ?_)|(refine fD ?_)|(refine fF ?_)|(refine fG ?_)|(refine fK ?_)|((with_reducible show IxS _ _ _ _ _);first|((refine ixE hR hx ?_ ?_;(first|rfl|omega))))|((with_reducible show LdN _ _ _ _ _);first|(refine q2e hR hx rfl ?_))|((with_reducible show qf _ _ _ _ _ _);first|((refine qh (hc _) ?_ ?_ ?_;(exact rfl);exact rfl))|((refine qh (hp _) ?_ ?_ ?_;(exact rfl);exact rfl))|((refine qh (hs _) ?_ ?_ ?_;(exact rfl);exact rfl)))|(refine fB ?_)|(refine fO ?_)|(refine fA ?_)|(refine fL ?_)|(refine fM ?_)|(refine qc (fun bk hbk=> ?_))|(apply q0e;(exact rfl);(exact rfl);all_goals intro hc))
         all_goals exact⟨(k+1,b),⟨by simp;omega,hnb,hI⟩,by simp;omega,(eF),(eC)⟩
      ·obtain⟨hop,hi0,hi1⟩:=hso hsk
       rw[hsk,hsi hsk] at hs
       rw[hsk] at hI
       simp only[if_true] at hI
       obtain⟨t,ht⟩:∃t:Nat,(t:Int)=k+1+x.imm:=⟨k+1+x.imm.toNat,by omega⟩
       have ht':k+1+x.imm.toNat=t:=by omega
       rw[ht'] at hI
       have hre':=hre t
       rw[ht] at hre'
       have h7:¬x.op=7:=by omega
       have h8:¬x.op=8:=by omega
       cases hv:q27 p k t
       ·rw[hv] at hI hre'
        simp only[Bool.false_eq_true,if_false,Int.reduceEq,not_false_eq_true,if_true] at hI
        repeat'((try(conv=>whnf));first|(refine fH ?_)|(refine fI ?_)|(refine fE ?_)|(refine fD ?_)|(refine fF ?_)|(refine fG ?_)|(refine fK ?_)|((with_reducible show IxS _ _ _ _ _);first|((refine ixE hR hx ?_ ?_;(first|rfl|omega))))|((with_reducible show LdN _ _ _ _ _);first|(refine q2e hR hx rfl ?_))|((with_reducible show qf _ _ _ _ _ _);first|((refine qh (hc _) ?_ ?_ ?_;(exact rfl);exact rfl))|((refine qh (hp _) ?_ ?_ ?_;(exact rfl);exact rfl))|((refine qh (hs _) ?_ ?_ ?_;(exact rfl);exact rfl))|((refine qh (hre' _ qhh) ?_ ?_ ?_;(exact rfl);exact rfl)))|(refine fB ?_)|(refine fO ?_)|(refine fA ?_)|(refine fL ?_)|(refine fM ?_)|(refine qc (fun bk hbk=> ?_))|(apply q0e;(exact rfl);(exact rfl);all_goals intro hc))
        all_goals(rw[←hI];exact⟨rfl,(eC)⟩)
       ·rw[hv] at hI hre'
        simp only[if_true,not_true_eq_false,if_false] at hI
        unfold q16 at hI hnb
        rw[if_neg h7,if_neg h8] at hI hnb
        repeat'((try(conv=>whnf));first|(refine fH ?_)|(refine fI ?_)|(refine fD ?_)|(refine fF ?_)|(refine fG ?_)|(refine fK ?_)|((with_reducible show IxS _ _ _ _ _);first|((refine ixE hR hx ?_ ?_;(first|rfl|omega))))|((with_reducible show LdN _ _ _ _ _);first|(refine q2e hR hx rfl ?_))|((with_reducible show qf _ _ _ _ _ _);first|((refine qh (hc _) ?_ ?_ ?_;(exact rfl);exact rfl))|((refine qh (hp _) ?_ ?_ ?_;(exact rfl);exact rfl))|((refine qh (hs _) ?_ ?_ ?_;(exact rfl);exact rfl))|((refine qh (hre' _ qhh) ?_ ?_ ?_;(exact rfl);exact rfl)))|(refine fB ?_)|(refine fO ?_)|(refine fA ?_)|(refine fL ?_)|(refine fM ?_)|(refine qc (fun bk hbk=> ?_))|(apply q0e;(exact rfl);(exact rfl);all_goals intro hc))
        all_goals exact⟨(k+1,b),⟨by simp;omega,hnb,hI⟩,by simp;omega,(eF),(eC)⟩
   ·rw[if_pos (by rw[if_pos hz];exact hz),if_pos hz] at hI
    repeat'((try(conv=>whnf));first|(refine fF ?_)|((with_reducible show IxS _ _ _ _ _);first|((refine ixE hR hx ?_ ?_;(first|rfl|omega))))|((with_reducible show LdN _ _ _ _ _);first|(refine q2e hR hx rfl ?_))|((with_reducible show qf _ _ _ _ _ _);first|((refine qh (hc _) ?_ ?_ ?_;(exact rfl);exact rfl)))|(refine fL ?_)|(refine fM ?_)|(refine qc (fun bk hbk=> ?_)))
    all_goals(rw[←hI];exact⟨rfl,(eC)⟩)
  ·have hk':k=p.length:=by omega
   subst hk'
   rw[List.drop_length,qY] at hI
   rw[←hI]
   repeat'((try(conv=>whnf));first|(refine fG ?_)|(apply q9q;(exact rfl);all_goals intro hc))
   all_goals(refine⟨qcC (vi ?_) (vi ?_),(eC)⟩ <;>split <;>first|rfl|(exfalso;omega))
end
end Go.Proofs.YtkieffpjjfebjaaGreatDoor
