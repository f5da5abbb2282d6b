/- What the laws share, part 11. No condition. -/
import Derived.Test.YtkieffpjjfebjaaGreatDoorZ10
set_option maxHeartbeats 4000000
set_option maxRecDepth 100000
namespace Go.Proofs.YtkieffpjjfebjaaGreatDoor
namespace Ord
open Go
def q3W{α:Type}(n:Nat)(g:Nat→α):List α:=(List.range n).map g
section
variable{α:Type}{n j:Nat}{g g':Nat→α}
theorem qP:(q3W n g).length=n:=by simp[q3W]
theorem q0Y(hj:j<n):(q3W n g)[j]? =some (g j):=by simp[q3W,hj]
theorem q0C(h:∀j,j<n→g j=g' j):q3W n g=q3W n g':=List.map_congr_left fun j hj=>h j (List.mem_range.1 hj)
theorem qfy{v:α}:(q3W n g).set j v=q3W n (fun i=>if i=j then v else g i):=by
 apply List.ext_getElem?
 intro i
 by_cases hi:i<n
 ·rw[q0Y hi,List.getElem?_set]
  by_cases hij:j=i
  ·subst hij;rw[if_pos rfl,if_pos (by rw[qP];exact hi),if_pos rfl]
  ·rw[if_neg hij,q0Y hi,if_neg (Ne.symm hij)]
 ·rw[List.getElem?_eq_none (by rw[List.length_set,qP];omega),List.getElem?_eq_none (by rw[qP];omega)]
theorem q4N{v:α}(h:∀i,i<n→(if i=j then v else g i)=g' i):(q3W n g).set j v=q3W n g':=by
 rw[qfy];exact q0C h
theorem q6r{x:α}:List.replicate n x=q3W n (fun _=>x):=by
 apply List.ext_getElem?
 intro i
 by_cases hi:i<n
 ·rw[q0Y hi];simp[hi]
 ·rw[List.getElem?_eq_none (by simp;omega),List.getElem?_eq_none (by rw[qP];omega)]
end
def lsE(l:List EH)(t:Int):Nat→Int
 |0=> -1
 |i+1=>if knd l i=4∧thr l i=t then i else lsE l t i
def nxD(l:List EH)(t:Int):Nat→Int
 |0=> -1
 |d+1=>if knd l (l.length-(d+1))=4∧thr l (l.length-(d+1))=t then(l.length-(d+1):Nat) else nxD l t d
def nxE(l:List EH)(t:Int)(i:Nat):Int:=nxD l t (l.length-i)
def edF(l:List EH):Nat→Nat→Int
 |0,_=>0
 |k+1,i=>if knd l k=4∧bgL l (thr l k) k=i then k else if i=k then-1 else edF l k i
theorem q4o{β:Type}{f:Int→List β}:∀(n a:Nat) (t:List Int),t.Pairwise (· < ·)→(∀x∈t,(a:Int)≤x∧x<(a+n:Nat))→(∀w:Nat,a≤w→(w:Int)∉t→f w= [])→(List.range' a n).flatMap (fun(w:Nat)=>f w)=t.flatMap f
 |0,a,t,_,hr,_=>by
  cases t with
  |nil=>rfl
  |cons x t=>have:=hr x List.mem_cons_self;omega
 |n+1,a,[],_,_,hf=>by
  rw[List.range'_succ,List.flatMap_cons,hf a (Nat.le_refl a) (by simp)]
  rw[q4o n (a+1) [] List.Pairwise.nil (by simp) (fun w h _=>hf w (by omega) (by simp))]
  rfl
 |n+1,a,x::t,hs,hr,hf=>by
  rw[List.range'_succ,List.flatMap_cons]
  have hx:=hr x List.mem_cons_self
  rw[List.pairwise_cons] at hs
  by_cases hxa:x=a
  ·subst hxa
   rw[List.flatMap_cons,q4o n (a+1) t hs.2 (fun y hy=> ?_) (fun w h hn=>hf w (by omega) (fun hm=> ?_))]
   ·have h1:=hs.1 y hy
    have h2:=hr y (List.mem_cons_of_mem _ hy)
    omega
   ·rcases List.mem_cons.1 hm with h|h
    ·omega
    ·exact hn h
  ·rw[hf a (Nat.le_refl a) (fun hm=> ?_),List.nil_append]
   ·refine q4o n (a+1) (x::t) (List.pairwise_cons.2 hs) (fun y hy=> ?_) (fun w h hn=>hf w (by omega) hn)
    have h2:=hr y hy
    rcases List.mem_cons.1 hy with rfl|h
    ·omega
    ·have:=hs.1 y h;omega
   ·rcases List.mem_cons.1 hm with h|h
    ·exact hxa h.symm
    ·have:=hs.1 _ h;omega
def lkL(l:List EH)(t:Int):Nat→Int
 |0=>0
 |i+1=>if thr l i=t then knd l i else lkL l t i
theorem q6p{l:List EH}{t:Int}{i:Nat}:lkL l t (i+1)=if thr l i=t then knd l i else lkL l t i:=rfl
theorem qbk{l:List EH}{t k:Int}(hk:k≠0):∀i,lkL l t i=k→∃p,(p<i∧thr l p=t∧∀q,p<q→q<i→thr l q≠t)∧knd l p=k
 |0,h=>absurd h.symm hk
 |i+1,h=>by
  unfold lkL at h
  split at h
  ·rename_i ht
   exact⟨i,⟨by omega,ht,fun q h1 h2=>by omega⟩,h⟩
  ·rename_i hn
   obtain⟨p,⟨h1,h2,h3⟩,h4⟩:=qbk hk i h
   refine⟨p,⟨by omega,h2,fun q h5 h6=> ?_⟩,h4⟩
   by_cases hq:q=i
   ·subst hq;exact hn
   ·exact h3 q h5 (by omega)
def q61(l:List EH)(n i:Nat):Bool:=q1m n (i==0) (q3V l i) (lkL l (thr l i) i) (at' l i)
theorem qfp{l:List EH}{n i:Nat}(h:q61 l n i=true):0≤thr l i∧thr l i<n:=qb8 h
theorem qjw{l:List EH}{n i:Nat}(h:0≤thr l i∧thr l i<n):(q3W n fun t=>lkL l t i).set (thr l i).toNat (knd l i)=q3W n fun t=>lkL l t (i+1):=by
 refine q4N fun t _=> ?_
 by_cases ht:t=(thr l i).toNat
 ·rw[if_pos ht]
  unfold lkL
  rw[if_pos (by omega)]
 ·rw[if_neg ht]
  rw[q6p,if_neg (by omega)]
theorem qcY{l:List EH}{n:Nat}:∀d i,d+i=l.length→((qaT n (l.drop i) i (q3V l i) (q3W n fun t=>lkL l t i)).2=0↔ ∀k,i≤k→k<l.length→q61 l n k=true)
 |0,i,h=>by
  rw[List.drop_eq_nil_of_le (by omega)]
  exact⟨fun _ k h1 h2=>by omega,fun _=>rfl⟩
 |d+1,i,h=>by
  obtain⟨e,he⟩:∃e,l[i]? =some e:=⟨_,List.getElem?_eq_getElem (by omega)⟩
  rw[q0R he,qaT]
  have hae:at' l i=e:=qg6 he
  have hg:q1m n (i==0) (q3V l i) ((q3W n fun t=>lkL l t i).getD e.t.toNat 0) e=q61 l n i:=by
   unfold q61
   rw[hae]
   by_cases ht:0≤e.t∧e.t<n
   ·rw[List.getD_eq_getElem?_getD,q0Y (by omega)]
    simp only[Option.getD_some]
    have:((e.t.toNat:Nat):Int)=thr l i:=by unfold thr;rw[hae];omega
    rw[this]
   ·rw[q6m ht,q6m ht]
  rw[hg]
  cases hok:q61 l n i with
  |true=>
   simp only[if_true]
   have hs:=qjw (qfp hok)
   unfold thr knd at hs
   rw[hae] at hs
   rw[hs,←q5b he,qcY d (i+1) (by omega)]
   constructor
   ·intro hh k h1 h2
    by_cases hk:k=i
    ·subst hk;exact hok
    ·exact hh k (by omega) h2
   ·exact fun hh k h1 h2=>hh k (by omega) h2
  |false=>
   simp only[Bool.false_eq_true,if_false]
   constructor
   ·intro hh;exact absurd hh (by simp)
   ·intro hh;have:=hh i (Nat.le_refl i) (by omega);rw[hok] at this;cases this
def WF0(l:List EH)(n:Nat):Prop:=1≤n∧n≤16∧l.length≤65536∧∀k,k<l.length→q61 l n k=true
theorem qcZ{l:List EH}{n:Int}:(q7q l n).2=0↔0≤n∧WF0 l n.toNat:=by
 unfold q7q WF0
 split
 ·constructor
  ·intro h;simp at h
  ·intro h;omega
 ·split
  ·constructor
   ·intro h;simp at h
   ·intro h;omega
  ·have:=qcY (l:=l) (n:=n.toNat) l.length 0 (by omega)
   rw[List.drop_zero] at this
   have e:q3V l 0=0:=rfl
   have e2:(q3W n.toNat fun t=>lkL l t 0)=List.replicate n.toNat 0:=q6r.symm
   rw[e,e2] at this
   rw[this]
   constructor
   ·intro h;exact⟨by omega,by omega,by omega,by omega,fun k hk=>h k (by omega) hk⟩
   ·intro h k _ hk;exact h.2.2.2.2 k hk
theorem WF0.wf{l:List EH}{n:Nat}(h:WF0 l n):Wf l n:=by
 have key:∀i,i<l.length→q61 l n i=true:=h.2.2.2
 refine⟨fun i hi=> ?_,fun i hi h4=> ?_,fun i hi h4=> ?_⟩
 ·have:=key i hi
  unfold q61 q1m at this
  simp only[Bool.and_eq_true,decide_eq_true_eq] at this
  obtain⟨⟨⟨h1,h2⟩,h3⟩,_⟩:=this
  exact⟨h1.2.2.1,h1.2.2.2.1,h1.1,h1.2.1,decide_eq_true h1.2.2.2.2.2,h2,h3⟩
 ·have:=key i hi
  unfold q61 q1m at this
  rw[if_pos h4] at this
  simp only[Bool.and_eq_true,decide_eq_true_eq] at this
  exact qbk (by omega) i this.2
 ·have:=key i hi
  unfold q61 q1m at this
  rw[if_neg h4] at this
  simp only[Bool.and_eq_true,decide_eq_true_eq] at this
  exact this.2
theorem chk_wf{l:List EH}{n:Int}(h:(q7q l n).2=0):Wf l n.toNat∧l.length≤65536∧1≤n∧n≤16:=by
 obtain⟨h1,h2⟩:=qcZ.1 h
 exact⟨h2.wf,h2.2.2.1,by have:=h2.1;omega,by have:=h2.2.1;omega⟩
structure TrB where
 bs:Nat
 b1:Nat
 b2:Nat
 b3:Nat
 b4:Nat
def qlt(l:List EH)(i:Nat):Int:=if knd l i=4 then bgL l (thr l i) i else-1
def nxG(l:List EH)(i:Nat):Int:=nxE l (thr l i) i
def lsG(l:List EH)(i:Nat):Int:=lsE l (thr l i) i
structure TrM(W0:World)(own:Own)(l:List EH)(a:Option Addr)(cap:Nat)(s:TrB):Prop where
 c0:Cl W0 own s.bs 0 (.slice a l.length cap)
 c1:Cl W0 own s.bs 1 (.slice (some ⟨s.b1,0,none⟩) l.length l.length)
 c2:Cl W0 own s.bs 2 (.slice (some ⟨s.b2,0,none⟩) l.length l.length)
 c3:Cl W0 own s.bs 3 (.slice (some ⟨s.b3,0,none⟩) l.length l.length)
 c4:Cl W0 own s.bs 4 (.slice (some ⟨s.b4,0,none⟩) l.length l.length)
 r1:RdE qM 1 W0 own (some ⟨s.b1,0,none⟩) (q3W l.length (qlt l))
 r2:RdE qM 1 W0 own (some ⟨s.b2,0,none⟩) (q3W l.length (edF l l.length))
 r3:RdE qM 1 W0 own (some ⟨s.b3,0,none⟩) (q3W l.length (nxG l))
 r4:RdE qM 1 W0 own (some ⟨s.b4,0,none⟩) (q3W l.length (lsG l))
theorem TrM.up{W0:World}{own own':Own}{l:List EH}{a:Option Addr}{cap:Nat}{s:TrB}(h:TrM W0 own' l a cap s) [m:qt own own']:TrM W0 own l a cap s:=
 ⟨h.c0.ent (m.h W0),h.c1.ent (m.h W0),h.c2.ent (m.h W0),h.c3.ent (m.h W0),h.c4.ent (m.h W0),h.r1.up,h.r2.up,h.r3.up,h.r4.up⟩
section
variable{W0:World}{own:Own}{a:Option Addr}{cap:Nat}{l:List EH}{s:TrB}
theorem q98{a:Option Addr}{l:List Int}{cap:Nat}(hR:RdE qM 1 W0 own a l)(hl:l.length≤9223372036854775807)(v:Int):
  qD Tryz.prog W0 145 [.slice a l.length cap, .int .i64 v] own (.int .i64 (ifx (fun x=>x==v) l)):=by
 refine qe (qa qj q2t (by simp[q01]) ?_)
 refine q1N (σ:=Nat) (fun i=> [(8, .int .i64 i)]) (fun i=>i≤l.length∧∀j x,j<i→l[j]? =some x→(x==v)=false) (fun i=>l.length-i) 0 ⟨by omega,fun j x h=>by omega⟩ (eF) rfl ?_
 rintro i junk ⟨hi,hI⟩
 by_cases hlt:i<l.length
 ·obtain⟨x,hx⟩:∃x,l[i]? =some x:=⟨_,List.getElem?_eq_getElem hlt⟩
  have hlt':(i:Int)<l.length:=by omega
  by_cases hxv:v=x
  ·repeat'((try(conv=>whnf));first|(refine fF ?_)|((with_reducible show Ld _ _ _ _);first|(refine q1M hR hx rfl ?_))|((with_reducible show IxS _ _ _ _ _);first|((refine ixE hR hx ?_ ?_;(first|rfl|omega)))))
   refine⟨q0N (vi ?_),(eC)⟩
   have:l.findIdx? (fun x=>x==v)=some i:=by
    rw[List.findIdx?_eq_some_iff_getElem]
    have hx2:=(List.getElem?_eq_some_iff.1 hx).2
    refine⟨hlt,by rw[hx2,hxv];simp,fun j hj=> ?_⟩
    have:=hI j (l[j]'(by omega)) hj (List.getElem?_eq_getElem (by omega))
    simpa using this
   unfold ifx;rw[this]
  ·repeat'((try(conv=>whnf));first|(refine fF ?_)|(refine fG ?_)|((with_reducible show Ld _ _ _ _);first|(refine q1M hR hx rfl ?_))|((with_reducible show IxS _ _ _ _ _);first|((refine ixE hR hx ?_ ?_;(first|rfl|omega))))|(refine fB ?_))
   refine⟨i+1,⟨by omega,fun j y hj hy=> ?_⟩,by omega,(eF),(eC)⟩
   by_cases hji:j=i
   ·subst hji
    rw[hx] at hy
    obtain rfl:=Option.some.inj hy
    simpa using Ne.symm hxv
   ·exact hI j y (by omega) hy
 ·have hlt':¬(i:Int)<l.length:=by omega
  repeat'((try(conv=>whnf));first|(refine fG ?_))
  refine⟨q0N (vi ?_),(eC)⟩
  have:l.findIdx? (fun x=>x==v)=none:=by
   rw[List.findIdx?_eq_none_iff]
   intro x hx
   obtain⟨j,hj⟩:=List.getElem?_of_mem hx
   have:=(List.getElem?_eq_some_iff.1 hj).1
   exact hI j x (by omega) hj
  unfold ifx;rw[this]
theorem q9m(l:List Int)(v:Int):l.any (fun x=>x==v)=l.contains v:=by
 rw[Bool.eq_iff_iff,List.any_eq_true,List.contains_iff_mem]
 constructor
 ·rintro⟨x,hx,h⟩;rw[←eq_of_beq h];exact hx
 ·intro h;exact⟨v,h,by simp⟩
theorem q4O{a:Option Addr}{l:List Int}{cap:Nat}(hR:RdE qM 1 W0 own a l)(hl:l.length≤9223372036854775807)(v:Int):
  qD Tryz.prog W0 119 [.slice a l.length cap, .int .i64 v] own (.bool (l.contains v)):=by
 refine qe (qa qj q1H (by simp[qF]) ?_)
 have h:=q98 (cap:=cap) hR hl v
 repeat'((try(conv=>whnf));first|((with_reducible show qf _ _ _ _ _ _);first|((refine qh (h) ?_ ?_ ?_;(exact rfl);exact rfl))))
 exact⟨q0N (vb ((qdp _ l).trans (q9m l v))),(eC)⟩
end
noncomputable def frR(l:List EH)(n:Int):q0G:=if(q7q l n).2=0 then frst l else(-1, -1, -1)
theorem q2U{l r:List EH}{i:Nat}(h:i<l.length):at' (l++r) i=at' l i:=by
 unfold at'
 rw[List.getD_eq_getElem?_getD,List.getD_eq_getElem?_getD,List.getElem?_append_left h]
theorem q2b{l:List EH}{e:EH}:at' (l++ [e]) l.length=e:=qg6 (by simp)
theorem q0O{l r:List EH}{i:Nat}(h:i<l.length):thr (l++r) i=thr l i:=by unfold thr;rw[q2U h]
theorem q02{l r:List EH}{i:Nat}(h:i<l.length):knd (l++r) i=knd l i:=by unfold knd;rw[q2U h]
theorem q8H{l r:List EH}{t:Int}:∀i,i≤l.length→lkL (l++r) t i=lkL l t i
 |0,_=>rfl
 |i+1,h=>by rw[q6p,q6p,q0O (by omega),q02 (by omega),q8H i (by omega)]
theorem qbs{l r:List EH}{i:Nat}(h:i≤l.length):q3V (l++r) i=q3V l i:=by
 unfold q3V
 split
 ·rfl
 ·rw[q2U (by omega)]
theorem qbn{l r:List EH}{n i:Nat}(h:i<l.length):q61 (l++r) n i=q61 l n i:=by
 unfold q61
 rw[qbs (by omega),q0O h,q8H i (by omega),q2U h]
theorem qbo{l:List EH}{e:EH}{n:Nat}:q61 (l++ [e]) n l.length=q1m n (l.length==0) (q3V l l.length) (lkL l e.t l.length) e:=by
 unfold q61
 have ht:thr (l++ [e]) l.length=e.t:=by unfold thr;rw[q2b]
 rw[qbs (Nat.le_refl _),ht,q8H _ (Nat.le_refl _),q2b]
theorem qhI{l:List EH}{e:EH}{t:Int}:lkL (l++ [e]) t (l.length+1)=if e.t=t then e.k else lkL l t l.length:=by
 have ht:thr (l++ [e]) l.length=e.t:=by unfold thr;rw[q2b]
 have hk:knd (l++ [e]) l.length=e.k:=by unfold knd;rw[q2b]
 rw[q6p,ht,hk,q8H _ (Nat.le_refl _)]
theorem qfq{l:List EH}{e:EH}:q3V (l++ [e]) (l.length+1)=e.ev:=q5b (by simp)
theorem WF0.snoc{l:List EH}{e:EH}{n:Nat}(h:WF0 l n)(hl:l.length+1≤65536)(hf:q1m n (l.length==0) (q3V l l.length) (lkL l e.t l.length) e=true):WF0 (l++ [e]) n:=by
 refine⟨h.1,h.2.1,by simpa using hl,fun k hk=> ?_⟩
 simp only[List.length_append,List.length_cons,List.length_nil] at hk
 by_cases hkl:k<l.length
 ·rw[qbn hkl];exact h.2.2.2 k hkl
 ·obtain rfl:k=l.length:=by omega
  rw[qbo];exact hf
theorem WF0.nil{n:Nat}(h1:1≤n)(h2:n≤16):WF0 [] n:=⟨h1,h2,by simp,fun k hk=>by simp at hk⟩
theorem qev(x:Int):0≤IntKind.u64.wrap x∧IntKind.u64.wrap x≤18446744073709551615:=by
 unfold IntKind.wrap
 have h3:((2:Int) ^ IntKind.u64.bits)=18446744073709551616:=rfl
 simp only[h3,IntKind.signed,Bool.false_and,Bool.false_eq_true,if_false]
 omega
structure MkR(W0:World)(X:Own)(n:Nat)(L:List EH):Prop where
 wf:WF0 L n
 ev:∀e∈L,EvR W0 X e
 cp:∀e∈L,e.rc=e.rl.length∧e.wc=e.wl.length∧e.rl.length≤1∧e.wl.length≤1
theorem MkR.snoc{W0:World}{X:Own}{n:Nat}{L:List EH}{e:EH}(h:MkR W0 X n L)(he:EvR W0 X e)(hl:L.length+1≤65536)(hf:q1m n (L.length==0) (q3V L L.length) (lkL L e.t L.length) e=true)(hc:e.rc=e.rl.length∧e.wc=e.wl.length∧e.rl.length≤1∧e.wl.length≤1):MkR W0 X n (L++ [e]):=
 ⟨h.wf.snoc hl hf,fun x hx=>(List.mem_append.1 hx).elim (h.ev x) (fun hx=>by rw[List.mem_singleton.1 hx];exact he),fun x hx=>(List.mem_append.1 hx).elim (h.cp x) (fun hx=>by rw[List.mem_singleton.1 hx];exact hc)⟩
theorem MkR.next{W0:World}{X X':Own}{n:Nat}{L:List EH}{e:EH}(h:MkR W0 X n L) [qt X' X](he:EvR W0 X' e)(hl:L.length+1≤65536)(hf:q1m n (L.length==0) (q3V L L.length) (lkL L e.t L.length) e=true)(hc:e.rc=e.rl.length∧e.wc=e.wl.length∧e.rl.length≤1∧e.wl.length≤1:=by exact⟨rfl,rfl,by simp,by simp⟩):MkR W0 X' n (L++ [e]):=
 MkR.snoc ⟨h.wf,fun e he=>(h.ev e he).up,h.cp⟩ he hl hf hc
end Ord
open Go
def q3w:IFn:=⟨40,
 (jQ (jR [(jo 4 (.new 56 qgd)),(jk 5 0)])
 (jQ (jR [(jm 13 1),(jc 14 55 13),(jm 12 14),(je 15 12 0),(je 16 12 1),(jm 6 15),(jm 7 16)])
 (jQ (.seq (jR [(jm 17 7),(jo 18 (.bin .neq 17 (jI 0)))])
 (.cond 18
 (jQ (jR [(jo 19 (.ldN 3 (.global 0))),(jm 20 7),(jS 3 4 19),(jm 5 20)])
 .ret)
 .skip))
 (jQ (.seq (jR [(jm 21 0),(jt 22 21),(jk 23 0)])
 (.block 0
 (.loop 274869521952
 (jQ (jR [(jw 24 23 22)])
 (jQ (.cond 24
 .skip
 (.exit 0))
 (jQ (.block 1
 (jQ (jR [(jx 25 6 21 23),(jL 26 6 25),(jo 9 (.new 116 eZ6)),
 (jS 6 9 26)])
 (jQ (jR [(jm 28 6),(jL 29 6 9),(jC 30 56 28 29),(jm 27 30),(je 31 27 0),(je 32 27 1),(jo 10 (.new 56 qgd)),
 (jS 3 10 31),(jm 11 32)])
 (jQ (jR [(jm 33 11),(jo 34 (.bin .neq 33 (jI 0)))])
 (.cond 34
 (jQ (jR [(jo 35 (.ldN 3 (.global 0))),(jm 36 11),(jS 3 4 35),(jm 5 36)])
 .ret)
 .skip)))))
 (jR [(ja 37 23 1),(jm 23 37)])))))))
 (jQ (jR [(jm 38 6),(jc 39 57 38),(jS 3 4 39),(jk 5 0)])
 .ret))))),
 [.cellN 4 3, .tmp 5]⟩
theorem q9G:qn Tryz.prog qd 27=some ⟨q3w.n,qi q3w.body,q3w.res⟩:=by kernel_rfl
def q0u:IFn:=⟨10,
 (jQ (jR [(jo 2 (.new 56 qgd))])
 (jQ (.seq (jR [(jm 3 0),(jo 4 (.nilq false 1 3 (.const (.pointer none))))])
 (.cond 4
 (jQ (jR [(jo 5 (.ldN 3 (.global 0))),(jS 3 2 5)])
 .ret)
 .skip))
 (jQ (jR [(jm 6 0),(jn 7 6),(jf 8 261 7),(jL 9 3 8),(jS 3 2 9)])
 .ret))),
 [.cellN 2 3]⟩
theorem q4b:qn Tryz.prog qd 57=some ⟨q0u.n,qi q0u.body,q0u.res⟩:=by kernel_rfl
def q2D:IFn:=⟨4,
 (jQ (jR [(jo 1 (.mov (.const (.slice none 0 0))))])
 (jQ (jR [(jl 2 0),(jo 3 (.mk 188 2 16 [(.int .i64 0),(.int .i64 0)] 2 2)),(jm 1 3)])
 .ret)),
 [.tmp 1]⟩
theorem q7D:qn Tryz.prog qd 84=some ⟨q2D.n,qi q2D.body,q2D.res⟩:=by kernel_rfl
def q0v:IFn:=⟨83,
 (jQ (jR [(jb 3 116 1),(jo 4 (.mov (.const (.bool false))))])
 (jQ (.seq (.draw (.f (jf 5 1 3)
 (.f (jl 6 5)
 (.f (jo 7 (.bin .lss 6 (jI 0)))
 (.f (jm 8 7)
 (.f (jz 8 (jf 9 1 3))
 (.f (jz 8 (jl 10 9))
 (.f (jz 8 (jm 11 0))
 (.f (jz 8 (jn 12 11))
 (.f (jz 8 (jf 13 2 12))
 (.f (jz 8 (jl 14 13))
 (.f (jz 8 (jt 15 14))
 (.f (jz 8 (jo 16 (.bin .geq 10 15)))
 (.f (jO 17 8 16)
 (.f (jm 18 17)
 (.f (jz 18 (jf 19 2 3))
 (.f (jz 18 (jl 20 19))
 (.f (jz 18 (jo 21 (.bin .lss 20 (jI 1))))
 (.f (jO 22 18 21)
 (.f (jm 23 22)
 (.f (jz 23 (jf 24 2 3))
 (.f (jz 23 (jl 25 24))
 (.f (jz 23 (jo 26 (.bin .gtr 25 (jI 4))))
 (.f (jO 27 23 26)
 (.f (jm 28 27)
 (.f (jz 28 (jf 29 3 3))
 (.f (jz 28 (jl 30 29))
 (.m (jz 28 (jo 31 (.blds 3 1 [(.int .i64 0)] [(0,1,30)])))
 (.f (jz 28 (jc 32 114 31))
 (.f (jz 28 (jo 33 (.not 32)))
 (.f (jO 34 28 33)
 (.f (jm 35 34)
 (.f (jz 35 (jm 36 0))
 (.f (jz 35 (jn 37 36))
 (.f (jz 35 (jf 38 0 37))
 (.f (jz 35 (jl 39 38))
 (.f (jz 35 (jo 40 (.bin .gtr 39 (jI 0))))
 (.f (jz 35 (jm 41 40))
 (.f (jy 41 (jf 42 0 3))
 (.f (jy 41 (jl 43 42))
 (.f (jy 41 (jm 44 0))
 (.f (jy 41 (jn 45 44))
 (.f (jy 41 (jf 46 1 45))
 (.f (jy 41 (jl 47 46))
 (.f (jy 41 (jw 48 43 47))
 (.f (jz 35 (jA 49 41 48))
 (.f (jO 50 35 49)
 .done)))))))))))))))))))))))))))))))))))))))))))))))
 (.cond 50
 (jQ (jR [(jo 4 (.mov (.const (.bool false))))])
 .ret)
 .skip))
 (jQ (.seq (jR [(jf 51 2 3),(jl 52 51),(jo 53 (.bin .neq 52 (jI 4)))])
 (.cond 53
 (jQ (jR [(jf 54 4 3),(jl 55 54),(jt 56 55),(jq 57 56 0),(jm 58 57),(jy 58 (jf 59 5 3)),(jy 58 (jl 60 59)),(jy 58 (jt 61 60)),(jy 58 (jq 62 61 0)),
 (jA 63 58 62),(jm 4 63)])
 .ret)
 .skip))
 (jQ (.draw (.f (jm 64 0)
 (.f (jn 65 64)
 (.f (jf 66 4 65)
 (.f (jl 67 66)
 (.f (jf 68 1 3)
 (.f (jl 69 68)
 (.f (jx 70 1 67 69)
 (.f (jl 71 70)
 (.f (jo 72 (.nilq true 0 71 (.const (.slice none 0 0))))
 (.f (jm 73 72)
 (.f (jy 73 (jf 74 4 3))
 (.f (jy 73 (jl 75 74))
 (.f (jy 73 (jc 76 114 75))
 (.f (jA 77 73 76)
 (.f (jm 78 77)
 (.f (jy 78 (jf 79 5 3))
 (.f (jy 78 (jl 80 79))
 (.f (jy 78 (jc 81 114 80))
 (.f (jA 82 78 81)
 (.f (jm 4 82)
 .done)))))))))))))))))))))
 .ret)))),
 [.tmp 4]⟩
theorem q4c:qn Tryz.prog qd 85=some ⟨q0v.n,qi q0v.body,q0v.res⟩:=by kernel_rfl
def q0m:IFn:=⟨68,
 (jQ (jR [(jb 3 116 1)])
 (jQ (jR [(jf 6 2 3),(jl 7 6),(jq 8 7 2),(jm 4 8)])
 (jQ (.seq (.draw (.f (jm 9 0)
 (.f (jn 10 9)
 (.f (jf 11 261 10)
 (.f (jL 12 3 11)
 (.f (jo 13 (.ldN 3 (.global 0)))
 (.f (jo 14 (.ageq false [0,0,0] 12 13))
 .done)))))))
 (.cond 14
 (.draw (.f (jm 15 0)
 (.f (jL 16 6 3)
 (.f (jf 17 3 3)
 (.f (jl 18 17)
 (.f (jm 19 4)
 (.f (jm 20 0)
 (.f (jn 21 20)
 (.f (jf 22 3 21)
 (.f (jl 23 22)
 (.f (jf 24 1 3)
 (.f (jl 25 24)
 (.f (jx 26 1 23 25)
 (.f (jl 27 26)
 (.m (jo 28 (.call 118 [15,16,18,19,27]))
 .done)))))))))))))))
 .skip))
 (jQ (.draw (.f (jm 29 0)
 (.f (jn 30 29)
 (.f (jf 31 0 30)
 (.f (jl 32 31)
 (.f (jm 33 0)
 (.f (jn 34 33)
 (.f (jf 35 2 34)
 (.f (jl 36 35)
 (.f (jf 37 1 3)
 (.f (jl 38 37)
 (.f (jx 39 1 36 38)
 (.f (jl 40 39)
 (.f (ja 41 40 1)
 (.f (jo 42 (.bld [(.int .i64 0),(.int .i64 0)] [(0,1,32),(1,1,41)]))
 (.m (jo 5 (.new 188 (.agg #[.int .i64 0, .int .i64 0])))
 (.m (jS 2 5 42)
 .done)))))))))))))))))
 (jQ (jR [(jm 43 4)])
 (.cond 43
 (.draw (.f (jm 44 0)
 (.f (jf 45 3 3)
 (.f (jl 46 45)
 (.f (jn 47 44)
 (.f (jf 48 5 47)
 (.f (jo 49 (.ixa 64 4 48 46))
 (.f (jf 50 1 49)
 (.f (jl 51 50)
 (.f (jf 52 1 3)
 (.f (jl 53 52)
 (.f (jL 54 2 5)
 (.f (jx 55 2 51 53)
 (.m (jS 2 55 54)
 .done))))))))))))))
 (.draw (.f (jm 56 0)
 (.f (jf 57 3 3)
 (.f (jl 58 57)
 (.f (jn 59 56)
 (.f (jf 60 5 59)
 (.f (jo 61 (.ixa 64 4 60 58))
 (.f (jf 62 0 61)
 (.f (jl 63 62)
 (.f (jf 64 1 3)
 (.f (jl 65 64)
 (.f (jL 66 2 5)
 (.f (jx 67 2 63 65)
 (.m (jS 2 67 66)
 .done)))))))))))))))))))),
 []⟩
theorem q3T:qn Tryz.prog qd 87=some ⟨q0m.n,qi q0m.body,q0m.res⟩:=by kernel_rfl
def q2E:IFn:=⟨6,
 (jQ (jR [(jo 2 (.mov (.const (.bool false))))])
 (jQ (jR [(jm 3 0),(jo 4 (.call 139 [3,(.func 140)])),(jo 5 (.not 4)),(jm 2 5)])
 .ret)),
 [.tmp 2]⟩
theorem q7E:qn Tryz.prog qd 114=some ⟨q2E.n,qi q2E.body,q2E.res⟩:=by kernel_rfl
def q0w:IFn:=⟨70,
 (jQ (jR [(jb 6 116 1),(jo 10 (.mov (.const (.bool false))))])
 (jQ (jR [(jm 13 0),(jm 14 2),(jn 15 13),(jf 16 5 15),(jo 17 (.ixa 64 4 16 14)),(jm 11 17)])
 (jQ (.draw (.f (jm 18 11)
 (.f (jn 19 18)
 (.f (jf 20 1 19)
 (.f (jl 21 20)
 (.f (jf 22 1 6)
 (.f (jl 23 22)
 (.f (jm 24 4)
 (.f (jo 25 (.call 144 [(.const (.int .i64 (-1))),21,23,24]))
 (.f (jm 12 25)
 .done))))))))))
 (jQ (.seq (jR [(jm 26 3)])
 (.cond 26
 (.draw (.f (jm 27 12)
 (.f (jm 28 11)
 (.f (jn 29 28)
 (.f (jf 30 0 29)
 (.f (jl 31 30)
 (.f (jf 32 1 6)
 (.f (jl 33 32)
 (.f (jm 34 4)
 (.f (jo 35 (.call 144 [27,31,33,34]))
 (.f (jm 12 35)
 .done)))))))))))
 .skip))
 (jQ (.seq (jR [(jf 36 2 6),(jl 37 36),(jo 38 (.bin .neq 37 (jI 4)))])
 (.cond 38
 (jQ (.draw (.f (jm 39 12)
 (.f (jm 40 11)
 (.f (jn 41 40)
 (.f (jf 42 3 41)
 (.f (jl 43 42)
 (.f (jf 44 1 6)
 (.f (jl 45 44)
 (.f (jm 46 4)
 (.f (jo 47 (.call 144 [39,43,45,46]))
 (.f (jm 12 47)
 .done)))))))))))
 (jQ (jR [(jm 48 3)])
 (.cond 48
 (.draw (.f (jm 49 12)
 (.f (jm 50 11)
 (.f (jn 51 50)
 (.f (jf 52 2 51)
 (.f (jl 53 52)
 (.f (jf 54 1 6)
 (.f (jl 55 54)
 (.f (jm 56 4)
 (.f (jo 57 (.call 144 [49,53,55,56]))
 (.f (jm 12 57)
 .done)))))))))))
 .skip)))
 .skip))
 (jQ (.seq (jR [(jm 58 12),(jo 59 (.bin .lss 58 (jI 0)))])
 (.cond 59
 (jQ (jR [(jo 10 (.mov (.const (.bool false))))])
 .ret)
 .skip))
 (jQ (jR [(jm 60 0),(jm 61 12),(jm 62 0),(jn 63 62),(jf 64 0 63),(jl 65 64),(jm 66 2),(jo 67 (.bld qke [(0,1,61),(1,1,65),(2,1,66)])),
 (jn 68 60),(jf 69 261 68),(jS 3 69 67)])
 (jQ (jR [(jo 10 (.mov (.const (.bool true))))])
 .ret)))))))),
 [.tmp 10]⟩
theorem q4d:qn Tryz.prog qd 118=some ⟨q0w.n,qi q0w.body,q0w.res⟩:=by kernel_rfl
def q1F:IFn:=⟨9,
 (jQ (jR [(jo 2 (.mov (.const (.bool false))))])
 (jQ (jR [(jm 3 0),(jo 4 (.bin .lss 3 (jI 0))),(jm 5 4),(jz 5 (jm 6 0)),(jz 5 (jo 7 (.bin .geq 6 (jI 64)))),
 (jO 8 5 7),(jm 2 8)])
 .ret)),
 [.tmp 2]⟩
theorem q6j:qn Tryz.prog qd 140=some ⟨q1F.n,qi q1F.body,q1F.res⟩:=by kernel_rfl
def q26:IFn:=⟨39,
 (jQ (jR [(jk 8 0)])
 (jQ (.seq (jR [(jm 11 1),(jt 12 11),(jk 13 0)])
 (.block 0
 (.loop 274877900289
 (jQ (jR [(jw 14 13 12)])
 (jQ (.cond 14
 .skip
 (.exit 0))
 (jQ (.block 1
 (jQ (jR [(jm 15 13),(jx 16 2 11 13),(jL 17 2 16),(jo 10 (.new 188 (.agg #[.int .i64 0, .int .i64 0]))),(jm 9 15),(jS 2 10 17)])
 (jQ (.draw (.f (jm 18 9)
 (.f (jm 19 2)
 (.f (jo 20 (.bin .neq 18 19))
 (.f (jm 21 20)
 (.f (jy 21 (jf 22 1 10))
 (.f (jy 21 (jl 23 22))
 (.f (jy 21 (jm 24 3))
 (.f (jy 21 (jm 25 9))
 (.f (jy 21 (jC 26 174 24 25))
 (.f (jy 21 (jo 27 (.bin .gtr 23 26)))
 (.f (jA 28 21 27)
 (.f (jm 29 28)
 (.f (jy 29 (jf 30 0 10))
 (.f (jy 29 (jl 31 30))
 (.f (jy 29 (jm 32 0))
 (.f (jy 29 (jo 33 (.bin .gtr 31 32)))
 (.f (jA 34 29 33)
 .done))))))))))))))))))
 (.cond 34
 (jR [(jf 35 0 10),(jl 36 35),(jm 0 36)])
 .skip))))
 (jR [(ja 37 13 1),(jm 13 37)])))))))
 (jQ (jR [(jm 38 0),(jm 8 38)])
 .ret))),
 [.tmp 8]⟩
theorem q6Z:qn Tryz.prog qd 144=some ⟨q26.n,qi q26.body,q26.res⟩:=by kernel_rfl
def q2F:IFn:=⟨17,
 (jQ (jR [(jk 4 0)])
 (jQ (.seq (jR [(jm 5 1),(jo 6 (.bin .lss 5 (jI 0))),(jm 7 6),(jz 7 (jm 8 1)),(jz 7 (jm 9 0)),(jz 7 (jt 10 9)),(jz 7 (jo 11 (.bin .geq 8 10))),
 (jO 12 7 11)])
 (.cond 12
 (jQ (jR [(jk 4 0)])
 .ret)
 .skip))
 (jQ (jR [(jm 13 0),(jm 14 1),(jx 15 1 13 14),(jl 16 15),(jm 4 16)])
 .ret))),
 [.tmp 4]⟩
abbrev eZ0:List Value:=[(.int .i64 0),(.int .i64 0),(.slice none 0 0),(.slice none 0 0),(.slice none 0 0),(.slice none 0 0),(.slice none 0 0),(.slice none 0 0),(.slice none 0 0),(.slice none 0 0),(.slice none 0 0),(.slice none 0 0),(.slice none 0 0),(.slice none 0 0),(.slice none 0 0),(.slice none 0 0),(.slice none 0 0),(.slice none 0 0),(.slice none 0 0),(.slice none 0 0),(.slice none 0 0),(.slice none 0 0),(.slice none 0 0),(.slice none 0 0),(.slice none 0 0),(.slice none 0 0),(.slice none 0 0),(.slice none 0 0),(.slice none 0 0),(.slice none 0 0),(.slice none 0 0),(.slice none 0 0),(.slice none 0 0),(.slice none 0 0),(.slice none 0 0),(.slice none 0 0),(.slice none 0 0),(.slice none 0 0),(.slice none 0 0),(.slice none 0 0),(.slice none 0 0),(.slice none 0 0),(.slice none 0 0),(.slice none 0 0),(.slice none 0 0),(.slice none 0 0),(.slice none 0 0),(.slice none 0 0),(.slice none 0 0),(.slice none 0 0),(.slice none 0 0),(.slice none 0 0),(.slice none 0 0),(.slice none 0 0),(.slice none 0 0),(.slice none 0 0),(.slice none 0 0),(.slice none 0 0),(.slice none 0 0),(.slice none 0 0),(.slice none 0 0),(.slice none 0 0),(.slice none 0 0),(.slice none 0 0),(.slice none 0 0),(.slice none 0 0),(.slice none 0 0),(.slice none 0 0),(.slice none 0 0),(.slice none 0 0),(.slice none 0 0),(.slice none 0 0),(.slice none 0 0),(.slice none 0 0),(.slice none 0 0),(.slice none 0 0),(.slice none 0 0),(.slice none 0 0),(.slice none 0 0),(.slice none 0 0),(.slice none 0 0),(.slice none 0 0),(.slice none 0 0),(.slice none 0 0),(.slice none 0 0),(.slice none 0 0),(.slice none 0 0),(.slice none 0 0),(.slice none 0 0),(.slice none 0 0),(.slice none 0 0),(.slice none 0 0),(.slice none 0 0),(.slice none 0 0),(.slice none 0 0),(.slice none 0 0),(.slice none 0 0),(.slice none 0 0),(.slice none 0 0),(.slice none 0 0),(.slice none 0 0),(.slice none 0 0),(.slice none 0 0),(.slice none 0 0),(.slice none 0 0),(.slice none 0 0),(.slice none 0 0),(.slice none 0 0),(.slice none 0 0),(.slice none 0 0),(.slice none 0 0),(.slice none 0 0),(.slice none 0 0),(.slice none 0 0),(.slice none 0 0),(.slice none 0 0),(.slice none 0 0),(.slice none 0 0),(.slice none 0 0),(.slice none 0 0),(.slice none 0 0),(.slice none 0 0),(.slice none 0 0),(.slice none 0 0),(.slice none 0 0),(.slice none 0 0),(.slice none 0 0),(.slice none 0 0),(.slice none 0 0),(.slice none 0 0),(.slice none 0 0),(.slice none 0 0),(.slice none 0 0),(.slice none 0 0),(.slice none 0 0),(.slice none 0 0),(.slice none 0 0),(.slice none 0 0),(.slice none 0 0),(.slice none 0 0),(.slice none 0 0),(.slice none 0 0),(.slice none 0 0),(.slice none 0 0),(.slice none 0 0),(.slice none 0 0),(.slice none 0 0),(.slice none 0 0),(.slice none 0 0),(.slice none 0 0),(.slice none 0 0),(.slice none 0 0),(.slice none 0 0),(.slice none 0 0),(.slice none 0 0),(.slice none 0 0),(.slice none 0 0),(.slice none 0 0),(.slice none 0 0),(.slice none 0 0),(.slice none 0 0),(.slice none 0 0),(.slice none 0 0),(.slice none 0 0),(.slice none 0 0),(.slice none 0 0),(.slice none 0 0),(.slice none 0 0),(.slice none 0 0),(.slice none 0 0),(.slice none 0 0),(.slice none 0 0),(.slice none 0 0),(.slice none 0 0),(.slice none 0 0),(.slice none 0 0),(.slice none 0 0),(.slice none 0 0),(.slice none 0 0),(.slice none 0 0),(.slice none 0 0),(.slice none 0 0),(.slice none 0 0),(.slice none 0 0),(.slice none 0 0),(.slice none 0 0),(.slice none 0 0),(.slice none 0 0),(.slice none 0 0),(.slice none 0 0),(.slice none 0 0),(.slice none 0 0),(.slice none 0 0),(.slice none 0 0),(.slice none 0 0),(.slice none 0 0),(.slice none 0 0),(.slice none 0 0),(.slice none 0 0),(.slice none 0 0),(.slice none 0 0),(.slice none 0 0),(.slice none 0 0),(.slice none 0 0),(.slice none 0 0),(.slice none 0 0),(.slice none 0 0),(.slice none 0 0),(.slice none 0 0),(.slice none 0 0),(.slice none 0 0),(.slice none 0 0),(.slice none 0 0),(.slice none 0 0),(.slice none 0 0),(.slice none 0 0),(.slice none 0 0),(.slice none 0 0),(.slice none 0 0),(.slice none 0 0),(.slice none 0 0),(.slice none 0 0),(.slice none 0 0),(.slice none 0 0),(.slice none 0 0),(.slice none 0 0),(.slice none 0 0),(.slice none 0 0),(.slice none 0 0),(.slice none 0 0),(.slice none 0 0),(.slice none 0 0),(.slice none 0 0),(.slice none 0 0),(.slice none 0 0),(.slice none 0 0),(.slice none 0 0),(.slice none 0 0),(.slice none 0 0),(.slice none 0 0),(.slice none 0 0),(.slice none 0 0),(.slice none 0 0),(.slice none 0 0),(.slice none 0 0),(.slice none 0 0),(.slice none 0 0),(.slice none 0 0),(.slice none 0 0),(.slice none 0 0),(.slice none 0 0),(.slice none 0 0),(.slice none 0 0),(.slice none 0 0),(.slice none 0 0),(.slice none 0 0),(.slice none 0 0),(.slice none 0 0),(.slice none 0 0),(.slice none 0 0),(.slice none 0 0),(.int .i64 0),(.int .i64 0),(.int .i64 0)]
theorem q7F:qn Tryz.prog qd 174=some ⟨q2F.n,qi q2F.body,q2F.res⟩:=by kernel_rfl
namespace Ord
def q0z:IFn:=⟨125,
 (jQ (jR [(jb 3 116 1)])
 (jQ (jR [(jf 12 4 3),(jl 13 12),(jf 14 5 3),(jl 15 14),(jo 16 (.blds 23 2 [(.slice none 0 0),(.slice none 0 0)] [(0,1,13),(1,1,15)])),
 (jc 17 115 16),(jm 4 17)])
 (jQ (jR [(jm 18 4),(jc 19 116 18)])
 (.cut (jQ (jR [(jm 20 4),(jc 21 117 20),(jt 22 21),(jk 23 0)])
 (.block 0
 (.loop 4503599618981952
 (jQ (jR [(jw 24 23 22)])
 (jQ (.cond 24
 .skip
 (.exit 0))
 (jQ (.block 1
 (jQ (jR [(jx 25 1 21 23),(jl 26 25),(jm 6 26)])
 (jQ (.draw (.f (jm 27 0)
 (.f (jn 28 27)
 (.f (jf 29 261 28)
 (.f (jL 30 3 29)
 (.f (jo 31 (.ldN 3 (.global 0)))
 (.f (jo 32 (.ageq false [0,0,0] 30 31))
 (.f (jm 33 32)
 (.f (jy 33 (jm 34 0))
 (.f (jy 33 (jL 35 6 3))
 (.f (jy 33 (jm 36 6))
 (.f (jy 33 (jf 37 5 3))
 (.f (jy 33 (jl 38 37))
 (.f (jy 33 (jm 39 6))
 (.f (jy 33 (jC 40 119 38 39))
 (.f (jy 33 (jm 41 0))
 (.f (jy 33 (jn 42 41))
 (.f (jy 33 (jf 43 4 42))
 (.f (jy 33 (jl 44 43))
 (.f (jy 33 (jf 45 1 3))
 (.f (jy 33 (jl 46 45))
 (.f (jy 33 (jx 47 1 44 46))
 (.f (jy 33 (jl 48 47))
 (.m (jy 33 (jo 49 (.call 118 [34,35,36,40,48])))
 (.f (jA 50 33 49)
 .done)))))))))))))))))))))))))
 (.cond 50
 (.exit 0)
 .skip))))
 (jR [(ja 51 23 1),(jm 23 51)])))))))
 (jQ (.draw (.f (jm 52 0)
 (.f (jn 53 52)
 (.f (jf 54 2 53)
 (.f (jl 55 54)
 (.f (jf 56 1 3)
 (.f (jl 57 56)
 (.f (jx 58 1 55 57)
 (.f (jl 59 58)
 (.f (ja 60 59 1)
 (.f (jx 61 1 55 57)
 (.m (js 61 60)
 .done))))))))))))
 (.cut (.draw (.f (jm 62 0)
 (.f (jn 63 62)
 (.f (jf 64 3 63)
 (.f (jf 66 1 3)
 (.f (jm 68 0)
 (.f (jn 69 68)
 (.f (jf 70 2 69)
 (.f (jl 71 70)
 (.both (.f (jl 65 64)
 (.both (.f (jl 67 66)
 (.m (jc 72 60 71)
 (.f (jx 73 1 65 67)
 (.m (js 73 72)
 .done))))
 (.m (jc 72 60 71)
 (.f (jl 67 66)
 (.f (jx 73 1 65 67)
 (.m (js 73 72)
 .done))))))
 (.both (.f (jl 67 66)
 (.both (.f (jl 65 64)
 (.m (jc 72 60 71)
 (.f (jx 73 1 65 67)
 (.m (js 73 72)
 .done))))
 (.m (jc 72 60 71)
 (.f (jl 65 64)
 (.f (jx 73 1 65 67)
 (.m (js 73 72)
 .done))))))
 (.m (jc 72 60 71)
 (.f (jl 65 64)
 (.f (jl 67 66)
 (.f (jx 73 1 65 67)
 (.m (js 73 72)
 .done))))))))))))))))
 (jQ (.draw (.f (jm 74 0)
 (.f (jn 75 74)
 (.f (jf 76 0 75)
 (.f (jl 77 76)
 (.f (jm 78 0)
 (.f (jn 79 78)
 (.f (jf 80 2 79)
 (.f (jl 81 80)
 (.f (jf 82 1 3)
 (.f (jl 83 82)
 (.f (jx 84 1 81 83)
 (.f (jl 85 84)
 (.f (jo 86 (.bld [(.int .i64 0),(.int .i64 0)] [(0,1,77),(1,1,85)]))
 (.m (jo 7 (.new 188 (.agg #[.int .i64 0, .int .i64 0])))
 (.m (jS 2 7 86)
 .done))))))))))))))))
 (jQ (.seq (jR [(jf 87 4 3),(jl 88 87),(jt 89 88),(jk 90 0)])
 (.block 2
 (.loop 81128400474567396315514106020352
 (jQ (jR [(jw 91 90 89)])
 (jQ (.cond 91
 .skip
 (.exit 2))
 (jQ (.block 3
 (jQ (jR [(jx 92 1 88 90),(jl 93 92),(jm 9 93)])
 (.draw (.f (jm 94 0)
 (.f (jm 95 9)
 (.f (jn 96 94)
 (.f (jf 97 5 96)
 (.f (jo 98 (.ixa 64 4 97 95))
 (.f (jf 99 2 98)
 (.f (jl 100 99)
 (.f (jf 101 1 3)
 (.f (jl 102 101)
 (.f (jL 103 2 7)
 (.f (jx 104 2 100 102)
 (.m (jS 2 104 103)
 .done)))))))))))))))
 (jR [(ja 105 90 1),(jm 90 105)])))))))
 (jQ (jR [(jf 106 5 3),(jl 107 106),(jt 108 107),(jk 109 0)])
 (.block 4
 (.loop 42534646828009991079468259616929875968
 (jQ (jR [(jw 110 109 108)])
 (jQ (.cond 110
 .skip
 (.exit 4))
 (jQ (.block 5
 (jQ (jR [(jx 111 1 107 109),(jl 112 111),(jm 11 112)])
 (.draw (.f (jm 113 0)
 (.f (jm 114 11)
 (.f (jn 115 113)
 (.f (jf 116 5 115)
 (.f (jo 117 (.ixa 64 4 116 114))
 (.f (jf 118 3 117)
 (.f (jl 119 118)
 (.f (jf 120 1 3)
 (.f (jl 121 120)
 (.f (jL 122 2 7)
 (.f (jx 123 2 119 121)
 (.m (jS 2 123 122)
 .done)))))))))))))))
 (jR [(ja 124 109 1),(jm 109 124)]))))))))))))))),
 []⟩
theorem q4g:qn Tryz.prog qd 86=some ⟨q0z.n,qi q0z.body,q0z.res⟩:=by kernel_rfl
def qS:IFn:=⟨77,
 (jQ (jR [(jb 3 116 1),(jo 4 (.new 56 qgd)),(jk 5 0)])
 (jQ (.block 0
 (jQ (jR [(jm 7 0),(jo 8 (.nilq false 1 7 (.const (.pointer none)))),(jm 6 8)])
 (.cond 6
 (jQ (jR [(jo 9 (.ldN 3 (.global 0))),(jS 3 4 9),(jk 5 1)])
 .ret)
 (jQ (jR [(jm 11 0),(jn 12 11),(jf 13 0 12),(jl 14 13),(jq 15 14 65536),(jm 10 15)])
 (.cond 10
 (jQ (jR [(jo 16 (.ldN 3 (.global 0))),(jS 3 4 16),(jk 5 3)])
 .ret)
 (jQ (jR [(jm 18 0),(jL 19 6 3),(jC 20 85 18 19),(jo 21 (.not 20)),(jm 17 21)])
 (.cond 17
 (jQ (jR [(jo 22 (.ldN 3 (.global 0))),(jS 3 4 22),(jk 5 91)])
 .ret)
 .skip)))))))
 (.cut (jQ (jR [(jf 23 2 3),(jl 24 23)])
 (.block 1
 (jQ (jR [(jq 36 24 3),(jm 35 36)])
 (.cond 35
 (.draw (.f (jm 37 0)
 (.f (jn 38 37)
 (.f (jf 39 4 38)
 (.f (jf 41 1 3)
 (.f (jm 43 0)
 (.f (jn 44 43)
 (.f (jf 45 2 44)
 (.f (jl 46 45)
 (.both (.f (jl 40 39)
 (.both (.f (jl 42 41)
 (.m (jc 47 60 46)
 (.f (jx 48 1 40 42)
 (.m (js 48 47)
 .done))))
 (.m (jc 47 60 46)
 (.f (jl 42 41)
 (.f (jx 48 1 40 42)
 (.m (js 48 47)
 .done))))))
 (.both (.f (jl 42 41)
 (.both (.f (jl 40 39)
 (.m (jc 47 60 46)
 (.f (jx 48 1 40 42)
 (.m (js 48 47)
 .done))))
 (.m (jc 47 60 46)
 (.f (jl 40 39)
 (.f (jx 48 1 40 42)
 (.m (js 48 47)
 .done))))))
 (.m (jc 47 60 46)
 (.f (jl 40 39)
 (.f (jl 42 41)
 (.f (jx 48 1 40 42)
 (.m (js 48 47)
 .done))))))))))))))))
 (jQ (jR [(jq 50 24 4),(jm 49 50)])
 (.cond 49
 (jQ (jR [(jm 51 0),(jL 52 6 3),(jC 53 86 51 52)])
 (.draw (.f (jm 54 0)
 (.f (jn 55 54)
 (.f (jf 56 4 55)
 (.f (jl 57 56)
 (.f (jf 58 1 3)
 (.f (jl 59 58)
 (.f (jx 60 1 57 59)
 (.m ⟨none, .st 60 (.const (.slice none 0 0)),none⟩
 .done))))))))))
 (jQ (jR [(jm 25 0),(jL 26 6 3),(jC 27 87 25 26)])
 (.draw (.f (jm 28 0)
 (.f (jn 29 28)
 (.f (jf 30 4 29)
 (.f (jl 31 30)
 (.f (jf 32 1 3)
 (.f (jl 33 32)
 (.f (jx 34 1 31 33)
 (.m ⟨none, .st 34 (.const (.slice none 0 0)),none⟩
 .done))))))))))))))))
 (jQ (jR [(jm 61 0),(jf 62 0 3),(jl 63 62),(jn 64 61),(jf 65 1 64),(js 65 63)])
 (jQ (jR [(jm 66 0),(jn 67 66),(jf 68 0 67),(jl 69 68),(ja 70 69 1),(jn 71 66),(jf 72 0 71),(js 72 70)])
 (jQ (jR [(jm 73 0),(jn 74 73),(jf 75 261 74),(jL 76 3 75),(jS 3 4 76),(jk 5 0)])
 .ret)))))),
 [.cellN 4 3, .tmp 5]⟩
theorem q2h:qn Tryz.prog qd 56=some ⟨qS.n,qi qS.body,qS.res⟩:=by kernel_rfl
def q2d:IFn:=⟨55,
 (jQ (jR [(jb 1 3 0),(jo 2 (.mov (.const (.pointer none)))),(jk 3 0)])
 (jQ (.seq (jR [(jl 7 1),(jo 8 (.bin .lss 7 (jI 1))),(jm 9 8),(jz 9 (jl 10 1)),(jz 9 (jo 11 (.bin .gtr 10 (jI 16)))),
 (jO 12 9 11)])
 (.cond 12
 (jQ (jR [(jo 2 (.mov (.const (.pointer none)))),(jk 3 54)])
 .ret)
 .skip))
 (.cut (.draw (.f (jl 13 1)
 (.f (jl 15 1)
 (.f (jo 17 (.ldN 3 (.global 0)))
 (.both (.m (jo 14 (.mk 3 1 8 [(.int .i64 0)] 13 13))
 (.m (jo 16 (.mk 23 1 24 [(.slice none 0 0)] 15 15))
 (.f (jo 18 (.bld eZ0 [(2,1,14),(4,1,16),(261,3,17)]))
 (.m (jb 19 151 18)
 (.f (jm 4 19)
 .done)))))
 (.m (jo 16 (.mk 23 1 24 [(.slice none 0 0)] 15 15))
 (.m (jo 14 (.mk 3 1 8 [(.int .i64 0)] 13 13))
 (.f (jo 18 (.bld eZ0 [(2,1,14),(4,1,16),(261,3,17)]))
 (.m (jb 19 151 18)
 (.f (jm 4 19)
 .done))))))))))
 (jQ (.seq (jR [(jl 20 1),(jk 21 0)])
 (.block 0
 (.loop 34357641216
 (jQ (jR [(jw 22 21 20)])
 (jQ (.cond 22
 .skip
 (.exit 0))
 (jQ (.block 1
 (.draw (.f (jm 23 4)
 (.f (jm 24 4)
 (.f (jn 25 24)
 (.f (jf 26 3 25)
 (.f (jl 27 26)
 (.f (jl 28 1)
 (.m (jo 29 (.mk 3 1 8 [(.int .i64 0)] 28 28))
 (.m (jo 30 (.blds 23 1 [(.slice none 0 0)] [(0,1,29)]))
 (.m (jo 31 (.app 23 1 24 [(.slice none 0 0)] 27 30))
 (.f (jn 32 23)
 (.f (jf 33 3 32)
 (.m (js 33 31)
 .done))))))))))))))
 (jR [(ja 34 21 1),(jm 21 34)])))))))
 (jQ (.seq (jR [(jk 35 0)])
 (.block 2
 (.loop 18014364149743712
 (jQ (jR [(jo 36 (.bin .lss 35 (jI 64)))])
 (jQ (.cond 36
 .skip
 (.exit 2))
 (jQ (.block 3
 (jQ (jR [(jm 37 35),(jm 5 37)])
 (jQ (jR [(jo 38 (.mkf 84 [1])),(jm 6 38)])
 (.draw (.f (jm 39 4)
 (.f (jm 40 5)
 (.f (jm 41 6)
 (.f (jm 43 6)
 (.f (jm 45 6)
 (.f (jm 47 6)
 (.f (jn 50 39)
 (.f (jf 51 5 50)
 (.m (jo 42 (.callv 41 []))
 (.m (jo 44 (.callv 43 []))
 (.m (jo 46 (.callv 45 []))
 (.m (jo 48 (.callv 47 []))
 (.f (jo 49 (.bld qeZ [(0,1,42),(1,1,44),(2,1,46),(3,1,48)]))
 (.f (jo 52 (.ixa 64 4 51 40))
 (.m (jS 4 52 49)
 .done)))))))))))))))))))
 (jR [(ja 53 35 1),(jm 35 53)])))))))
 (jQ (jR [(jm 54 4),(jm 2 54),(jk 3 0)])
 .ret)))))),
 [.tmp 2, .tmp 3]⟩
theorem q5a:qn Tryz.prog qd 55=some ⟨q2d.n,qi q2d.body,q2d.res⟩:=by kernel_rfl
end Ord
open Go
def q1T:IFn:=⟨52,
 (jQ (jR [(jo 0 (.mov (.const (.bool false))))])
 (jQ (jR [(jo 6 (.call 23 [(jI 0),(jI 1)])),(jo 7 (.call 13 [6,(.const (.slice none 0 0)),(jI 10)])),
 (jm 5 7),(je 8 5 0),(je 9 5 1),(jo 1 (.new 37 qkd)),(jS 3 1 8),(jm 2 9)])
 (jQ (jR [(jo 11 (.call 23 [(jI 1),(jI 1)])),(jo 12 (.call 13 [11,(.const (.slice none 0 0)),(jI 10)])),
 (jm 10 12),(je 13 10 0),(je 14 10 1),(jo 3 (.new 37 qkd)),(jS 3 3 13),(jm 4 14)])
 (jQ (jR [(jm 15 2),(jq 16 15 0),(jm 17 16),(jy 17 (jf 18 0 1)),(jy 17 (jl 19 18)),(jy 17 (jo 20 (.not 19))),(jA 21 17 20),(jm 22 21),(jy 22 (jf 23 2 1)),
 (jy 22 (jl 24 23)),(jy 22 (jq 25 24 2)),(jA 26 22 25),(jm 27 26),(jy 27 (jf 28 1 1)),(jy 27 (jl 29 28)),(jy 27 (jt 30 29)),(jy 27 (jq 31 30 0)),(jA 32 27 31),
 (jm 33 32),(jy 33 (jm 34 4)),(jy 33 (jq 35 34 0)),(jA 36 33 35),(jm 37 36),(jy 37 (jf 38 0 3)),(jy 37 (jl 39 38)),(jA 40 37 39),(jm 41 40),(jy 41 (jf 42 2 3)),
 (jy 41 (jl 43 42)),(jy 41 (jq 44 43 1)),(jA 45 41 44),(jm 46 45),(jy 46 (jf 47 1 3)),(jy 46 (jl 48 47)),(jy 46 (jt 49 48)),(jy 46 (jq 50 49 2)),(jA 51 46 50),
 (jm 0 51)])
 .ret)))),
 [.tmp 0]⟩
theorem q6M:qn Tryz.prog qd 10=some ⟨q1T.n,qi q1T.body,q1T.res⟩:=by kernel_rfl
def q36:IFn:=⟨15,
 (jQ (jR [(jo 4 (.new 32 eZ4))])
 (jQ (jR [(jo 5 (.bld [(.int .i64 0),(.int .i64 0),(.int .i64 0),(.int .i64 0),(.int .i64 0),(.int .i64 0),(.int .i64 0),(.int .i64 0),(.int .i64 0),(.int .i64 0),(.int .i64 0),(.int .i64 0),(.bool false)] [(0,1,(jI 2)),(1,1,(jI 1)),(7,1,(jI 1)),(8,1,(jI 1))])),
 (jo 6 (.blds 58 2 [(.int .u64 0),(.int .u64 0)] [(0,1,(.const (.int .u64 0))),(1,1,(.const (.int .u64 0)))])),(jm 7 0),(jo 8 (.bld q7Y [(0,1,(jI 13)),(4,1,7)])),
 (jo 9 (.blds 69 1 q7Y [(0,5,8)])),(jm 10 1),(jo 11 (.bld q7Y [(0,1,(jI 13)),(4,1,10)])),
 (jo 12 (.blds 69 1 q7Y [(0,5,11)])),(jo 13 (.blds 66 2 [(.slice none 0 0),(.slice none 0 0)] [(0,1,9),(1,1,12)])),
 (jo 14 (.bld eZ3 [(0,13,5),(13,1,6),(14,1,13)])),
 (jS 16 4 14)])
 .ret)),
 [.cellN 4 16]⟩
theorem q8S:qn Tryz.prog qd 23=some ⟨q36.n,qi q36.body,q36.res⟩:=by kernel_rfl
end Go.Proofs.YtkieffpjjfebjaaGreatDoor
