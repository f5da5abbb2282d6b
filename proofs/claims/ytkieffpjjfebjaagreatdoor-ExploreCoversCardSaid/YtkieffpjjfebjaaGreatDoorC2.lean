/- What the laws share, part 2. No condition. -/
import Derived.Test.YtkieffpjjfebjaaGreatDoorC1
set_option maxHeartbeats 4000000
set_option maxRecDepth 10000
namespace Go.Proofs.YtkieffpjjfebjaaGreatDoor
namespace Ord
open Go
def qn4(n:Nat)(g:Nat→Bool):List Bool:=(List.range n).map g
theorem qmm(n:Nat)(g:Nat→Bool):(qn4 n g).length=n:=by simp[qn4]
theorem qml{n j:Nat}{g:Nat→Bool}(hj:j<n):(qn4 n g)[j]? =some (g j):=by simp[qn4,hj]
theorem qmp{n:Nat}{g g':Nat→Bool}(h:∀j,j<n→g j=g' j):qn4 n g=qn4 n g':=List.map_congr_left fun j hj=>h j (List.mem_range.1 hj)
theorem qoo{n j:Nat}{g:Nat→Bool}{v:Bool}:(qn4 n g).set j v=qn4 n (fun i=>if i=j then v else g i):=by
 apply List.ext_getElem?
 intro i
 by_cases hi:i<n
 ·rw[qml hi,List.getElem?_set]
  by_cases hij:j=i
  ·subst hij;rw[if_pos rfl,if_pos (by rw[qmm];exact hi),if_pos rfl]
  ·rw[if_neg hij,qml hi,if_neg (Ne.symm hij)]
 ·rw[List.getElem?_eq_none (by rw[List.length_set,qmm];omega),List.getElem?_eq_none (by rw[qmm];omega)]
theorem qpv(n:Nat):List.replicate n false=qn4 n (fun _=>false):=by
 apply List.ext_getElem?
 intro i
 by_cases hi:i<n
 ·rw[qml hi];simp[hi]
 ·rw[List.getElem?_eq_none (by simp;omega),List.getElem?_eq_none (by rw[qmm];omega)]
def qmi(T:TypeId)(n:Nat)(f:Nat→Nat→Bool):List Nat→Nat→Own
 | [],_=> []
 |b::bs,i=>q2J qmx T b (qn4 n (f i))::qmi T n f bs (i+1)
theorem qnv(T:TypeId)(n:Nat)(f:Nat→Nat→Bool)(b:Nat):∀(bs:List Nat) (i:Nat),qmi T n f (bs++ [b]) i=qmi T n f bs i++ [q2J qmx T b (qn4 n (f (i+bs.length)))]
 | [],i=>rfl
 |c::bs,i=>by
  simp only[List.cons_append,qmi,List.length_cons]
  rw[qnv T n f b bs (i+1),show i+1+bs.length=i+(bs.length+1) by omega]
theorem qlW{T:TypeId}{n:Nat}{f f':Nat→Nat→Bool}:∀(bs:List Nat) (i:Nat),(∀a j,i≤a→a<i+bs.length→j<n→f a j=f' a j)→qmi T n f bs i=qmi T n f' bs i
 | [],_,_=>rfl
 |b::bs,i,h=>by
  simp only[qmi]
  rw[qmp (fun j hj=>h i j (Nat.le_refl i) (by simp) hj),qlW bs (i+1) (fun a j h1 h2 hj=>h a j (by omega) (by simp only[List.length_cons];omega) hj)]
theorem qnB{T:TypeId}{n:Nat}{f:Nat→Nat→Bool}:∀(bs:List Nat) (s i b:Nat),bs[i]? =some b→∃C:Own→Own,At [q2J qmx T b (qn4 n (f (s+i)))] (qmi T n f bs s) C∧∀g:Nat→Bool,C [q2J qmx T b (qn4 n g)]=qmi T n (fun a=>if a=s+i then g else f a) bs s
 | [],_,_,_,h=>by simp at h
 |c::bs,s,0,b,h=>by
  simp only[List.getElem?_cons_zero,Option.some.injEq] at h
  subst h
  refine⟨fun X=>X++qmi T n f bs (s+1),At.head (D:= [_]),fun g=> ?_⟩
  simp only[qmi,Nat.add_zero,if_true,List.cons_append,List.nil_append]
  rw[qlW (f':=fun a=>if a=s then g else f a) bs (s+1) (fun a j h1 _ _=>by rw[if_neg (by omega)])]
 |c::bs,s,i+1,b,h=>by
  obtain⟨C,h1,h2⟩:=qnB (T:=T) (n:=n) (f:=f) bs (s+1) i b (by simpa using h)
  rw[show s+1+i=s+(i+1) by omega] at h1 h2
  refine⟨fun X=>q2J qmx T c (qn4 n (f s))::C X,At.tail h1,fun g=> ?_⟩
  simp only[qmi]
  rw[h2 g,if_neg (by omega)]
abbrev qrc(n b:Nat):List Value:= [.slice (some ⟨b,0,none⟩) n n]
def clS(h:Nat→Nat→Bool)(k i j:Nat):Nat→Nat→Bool:=fun a b=>if a<i∨(a=i∧b<j) then qcw h k a b else h a b
section
variable{h:Nat→Nat→Bool}{k i j:Nat}
theorem qn7{a b:Nat}(hb:b≤k):qcw h k a b=h a b:=by unfold qcw;rw[if_neg (by omega)]
theorem qrf(a b:Nat):clS h k 0 (k+1) a b=h a b:=by
 unfold clS
 split
 ·exact qn7 (by omega)
 ·rfl
theorem qqp(hj:k<j):clS h k i j i k=h i k:=by unfold clS;rw[if_pos (.inr ⟨rfl,hj⟩),qn7 (Nat.le_refl k)]
theorem qqo:clS h k i j i j=h i j:=by unfold clS;rw[if_neg (by omega)]
theorem qqq(hik:i<k):clS h k i j k j=h k j:=by unfold clS;rw[if_neg (by omega)]
theorem qpi{a b:Nat}(hik:i<k)(hj:k<j)(ht:h i k=true):(if a=i then(fun x=>if x=j then h i j||h k j else clS h k i j i x) else clS h k i j a) b=clS h k i (j+1) a b:=by
 by_cases ha:a=i
 ·subst ha
  rw[if_pos rfl]
  by_cases hb:b=j
  ·subst hb
   simp only[if_true]
   unfold clS
   rw[if_pos (.inr ⟨rfl,by omega⟩)]
   unfold qcw
   rw[if_pos ⟨hik,hj,ht⟩]
  ·simp only[hb,if_false]
   unfold clS
   by_cases hbj:b<j
   ·rw[if_pos (.inr ⟨rfl,hbj⟩),if_pos (.inr ⟨rfl,by omega⟩)]
   ·rw[if_neg (by omega),if_neg (by omega)]
 ·rw[if_neg ha]
  unfold clS
  by_cases hai:a<i
  ·rw[if_pos (.inl hai),if_pos (.inl hai)]
  ·rw[if_neg (by omega),if_neg (by omega)]
theorem qpV{n a b:Nat}(hb:b<n):clS h k i n a b=clS h k (i+1) (k+1) a b:=by
 unfold clS
 by_cases ha:a<i
 ·rw[if_pos (.inl ha),if_pos (.inl (by omega))]
 ·by_cases ha2:a=i
  ·rw[if_pos (.inr ⟨ha2,hb⟩),if_pos (.inl (by omega))]
  ·rw[if_neg (by omega)]
   split
   ·exact(qn7 (by omega)).symm
   ·rfl
theorem qpj{a b:Nat}(hf:h i k=false):clS h k i j a b=clS h k (i+1) (k+1) a b:=by
 have hs:∀b,qcw h k i b=h i b:=fun b=>by unfold qcw;rw[if_neg (fun hh=>by rw[hf] at hh;cases hh.2.2)]
 unfold clS
 by_cases ha:a<i
 ·rw[if_pos (.inl ha),if_pos (.inl (by omega))]
 ·by_cases ha2:a=i
  ·subst ha2
   rw[if_pos (c:=a<a+1∨_) (.inl (by omega)),hs]
   split <;>rfl
  ·rw[if_neg (by omega)]
   split
   ·exact(qn7 (by omega)).symm
   ·rfl
theorem qpU(a b:Nat):clS h k k (k+1) a b=qcw h k a b:=by
 unfold clS
 split
 ·rfl
 ·unfold qcw;rw[if_neg (by omega)]
end
theorem qnC{W0:World}{T:TypeId}{n:Nat}{f:Nat→Nat→Bool}{bs:List Nat}{i b:Nat}(hb:bs[i]? =some b):RdE qmx 1 W0 (qmi T n f bs 0) (some ⟨b,0,none⟩) (qn4 n (f i)):=by
 obtain⟨C,h,_⟩:=qnB (T:=T) (n:=n) (f:=f) bs 0 i b hb
 rw[Nat.zero_add] at h
 exact(q9t (enc:=qmx) (sz:=1) (fun _ _=>rfl)).ent h.self
section
variable{W0:World}{own:Own}{a:Option Addr}{cap:Nat}{l:List EH}
theorem qob{m:Nat}(hw:Wf l m)(hR:RdE EH.enc 6 W0 own a l)(hl:l.length≤65536):
  q0E Tryz.prog W0 78 [.slice a l.length cap] own fun v own'=>∃ha hc D bs,v= .slice ha (List.length bs) hc∧qr (qrc l.length) 104 1 ha hc bs D∧List.length bs=l.length∧Ent W0 own' (D++(qmi 4 l.length (qaf (qkc l) l.length) bs 0++own)):=by
 refine qa qj qmW (by simp[qlV]) ?_
 have hcn:=qow (cap:=cap) hw hR hl
 repeat'((try(conv=>whnf));first|((with_reducible show qf _ _ _ _ _ _);first|((refine qpS hcn ?_ ?_ (fun v own' hv=> ?_);(exact rfl);(exact rfl);(obtain⟨b,rfl,rfl⟩:=hv)))))
 have hcl:=q8u l l.length
 have hisb:∀i,i<l.length→(qeV l l.length)[i]? =some (isB l i):=fun i hi=>by
  unfold isB
  rw[List.getD_eq_getElem?_getD,List.getElem?_eq_getElem (by omega)]
  rfl
 generalize qeV l l.length=c at*
 have hwc:∀x∈c,(qmx x).length=1:=fun _ _=>rfl
 --the rows are made
 refine q0Z (σ:=List Nat×Option Addr×Nat×Own) (fun s=> [(5, .slice s.2.1 s.1.length s.2.2.1),(6, .int .i64 s.1.length)]) (fun s=>s.2.2.2++(qmi 4 l.length (qkc l) s.1 0++(q2J qmx 4 b c::own)))
  (fun s=>s.1.length≤l.length∧qr (qrc l.length) 104 1 s.2.1 s.2.2.1 s.1 s.2.2.2) (fun s=>l.length-s.1.length) ([],none,0,[]) ⟨by simp,qr.nil⟩ (eF) Ent.refl rfl ?_
 rintro⟨bs,ha,hc,D⟩ junk ⟨hi,hB⟩
 dsimp only at hi hB ⊢
 by_cases hlt:bs.length<l.length
 ·obtain⟨e,he⟩:∃e,l[bs.length]? =some e:=⟨_,List.getElem?_eq_getElem hlt⟩
  have hlt':(bs.length:Int)<l.length:=by omega
  repeat'((try(conv=>whnf));first|(apply qaR;(exact rfl);omega)|(refine mkC (enc:=qmx) l.length false rfl rfl rfl (by omega) (fun br=> ?_))|(refine ari ?_ ?_;omega))
  refine q0Z (σ:=Nat) (fun j=> [(8, .int .i64 j)]) (fun j=>q2J qmx 4 br (qn4 l.length fun j'=>decide (j'<j)&&qkc l bs.length j')::(D++(qmi 4 l.length (qkc l) bs 0++(q2J qmx 4 b c::own))))
   (fun j=>bs.length<j∧j≤l.length) (fun j=>l.length-j) (bs.length+1) ⟨by omega,by omega⟩ (eF) ?_ rfl ?_
  ·rw[qpv,qmp (g':=fun j'=>decide (j'<bs.length+1)&&qkc l bs.length j')]
   ·exact Ent.refl
   ·intro j hj
    unfold qkc
    by_cases h1:bs.length<j
    ·simp;omega
    ·simp[h1]
  rintro j junk2 ⟨hj1,hj2⟩
  by_cases hjl:j<l.length
  ·obtain⟨x,hx⟩:∃x,l[j]? =some x:=⟨_,List.getElem?_eq_getElem hjl⟩
   have hjl':(j:Int)<l.length:=by omega
   have hci:=hisb bs.length hlt
   have hcj:=hisb j hjl
   have hd:qkc l bs.length j=(isB l bs.length&&isB l j&&(decide (e.t=x.t)||(decide (e.k=4)&&(decide (x.k=4)||decide (x.k=3))))):=by
    unfold qkc thr knd
    rw[qg6 he,qg6 hx,decide_eq_true hj1,Bool.true_and]
   have hw1:∀y∈qn4 l.length (fun j'=>decide (j'<j)&&qkc l bs.length j'),(qmx y).length=1:=fun _ _=>rfl
   have hn1:=(qmm l.length (fun j'=>decide (j'<j)&&qkc l bs.length j')).symm
   have hx1:=qml (g:=fun j'=>decide (j'<j)&&qkc l bs.length j') hjl
   have hset:(qn4 l.length (fun j'=>decide (j'<j)&&qkc l bs.length j')).set j (qkc l bs.length j)=qn4 l.length (fun j'=>decide (j'<j+1)&&qkc l bs.length j'):=by
    rw[qoo]
    refine qmp fun i _=> ?_
    by_cases hij:i=j
    ·subst hij;simp
    ·rw[if_neg hij]
     by_cases h2:i<j
     ·simp[h2,show i<j+1 by omega]
     ·simp[h2,show ¬i<j+1 by omega]
   generalize hdv:qkc l bs.length j=dv at hd hset
   generalize isB l bs.length=ci at*
   generalize isB l j=cj at*
   cases ci <;>cases cj
   all_goals
    repeat'((try(conv=>whnf));first|(refine q1P ?_ ?_;exact rfl)|(refine fI ?_)|(apply qaR;(exact rfl);omega)|(apply stC (T:=4) (k:=0) dv hw1 hx1;(exact rfl);(omega);(subst hd;simp[*]);(exact rfl))|((with_reducible show Ld _ _ _ _);first|(refine qgp hR he rfl ?_)|(refine qgp hR hx rfl ?_)|(refine qbj hwc hci rfl ?_)|(refine qbj hwc hcj rfl ?_))|((with_reducible show IxS _ _ _ _ _);first|((refine ixE hR he ?_ ?_;(first|rfl|omega)))|((refine ixE hR hx ?_ ?_;(first|rfl|omega)))|((refine ixC hci hcl.symm ?_ ?_;(first|rfl|omega)))|((refine ixC hcj hcl.symm ?_ ?_;(first|rfl|omega))))|(refine ari ?_ ?_;omega)|(apply q0e;(exact rfl);(exact rfl);all_goals intro hc)|(apply q4P;(exact rfl);(exact rfl);all_goals intro hc))
    all_goals exact⟨j+1,⟨by omega,by omega⟩,by omega,(eF),by rw[hset];exact Ent.refl⟩
  ·have hjl':¬(j:Int)<l.length:=by omega
   have hj3:j=l.length:=by omega
   subst hj3
   rw[qmp (g':=qkc l bs.length) (fun j hj=>by simp[hj])]
   repeat'((try(conv=>whnf));first|(apply qaQ;(exact rfl);omega)|(apply q69 (enc:=qrc l.length) br hB;(exact rfl);(exact rfl);(omega);(exact rfl);(exact rfl);(omega);intro a1 c1 D1 hb1)|(refine ari ?_ ?_;omega)|(refine qc (fun bk hbk=> ?_)))
   refine⟨(bs++ [br],a1,c1,D1),⟨by simp;omega,hb1⟩,by simp;omega,?_,?_⟩
   ·simp only[List.length_append,List.length_cons,List.length_nil,Nat.zero_add]
    exact(eF)
   ·simp only[qnv,Nat.zero_add]
    refine Ent.cons (Ent.of_perm ?_)
    have e:D1++((qmi 4 l.length (qkc l) bs 0++ [q2J qmx 4 br (qn4 l.length (qkc l bs.length))])++(q2J qmx 4 b c::own))=(D1++qmi 4 l.length (qkc l) bs 0)++q2J qmx 4 br (qn4 l.length (qkc l bs.length))::(q2J qmx 4 b c::own):=by simp
    rw[e]
    refine List.Perm.trans ?_ List.perm_middle.symm
    rw[List.append_assoc]
 ·have hlt':¬(bs.length:Int)<l.length:=by omega
  have hbl:bs.length=l.length:=by omega
  have hbr:=hB.rd (W0:=W0)
  repeat'((try(conv=>whnf));first|(apply qaQ;(exact rfl);omega))
  refine q0Z (σ:=Nat) (fun k=> [(10, .int .i64 k)]) (fun k=>D++(qmi 4 l.length (qaf (qkc l) k) bs 0++(q2J qmx 4 b c::own))) (fun k=>k≤l.length) (fun k=>l.length-k) 0 (by omega) (eF) Ent.refl rfl ?_
  intro k junk3 hk
  by_cases hkl:k<l.length
  ·have hkl':(k:Int)<l.length:=by omega
   have hclos:qaf (qkc l) (k+1)=qcw (qaf (qkc l) k) k:=rfl
   generalize qaf (qkc l) k=h at*
   repeat'((try(conv=>whnf));first|(apply qaR;(exact rfl);omega))
   refine q0Z (σ:=Nat) (fun i=> [(11, .int .i64 i)]) (fun i=>D++(qmi 4 l.length (clS h k i (k+1)) bs 0++(q2J qmx 4 b c::own))) (fun i=>i≤k) (fun i=>k-i) 0 (by omega) (eF) ?_ rfl ?_
   ·rw[qlW (f:=h) (f':=clS h k 0 (k+1)) bs 0 (fun a j _ _ _=>(qrf a j).symm)]
    exact Ent.refl
   intro i junk4 hik
   by_cases hikl:i<k
   ·have hikl':(i:Int)<k:=by omega
    repeat'((try(conv=>whnf));first|(apply qaR;(exact rfl);omega)|(refine ari ?_ ?_;omega))
    refine q0Z (σ:=Nat) (fun j=> [(12, .int .i64 j)]) (fun j=>D++(qmi 4 l.length (clS h k i j) bs 0++(q2J qmx 4 b c::own))) (fun j=>k<j∧j≤l.length) (fun j=>l.length-j) (k+1) ⟨by omega,by omega⟩ (eF) Ent.refl rfl ?_
    rintro j junk5 ⟨hj1,hj2⟩
    by_cases hjl:j<l.length
    ·have hjl':(j:Int)<l.length:=by omega
     obtain⟨bi,hbi⟩:∃x,bs[i]? =some x:=⟨_,List.getElem?_eq_getElem (by omega)⟩
     obtain⟨bk2,hbk2⟩:∃x,bs[k]? =some x:=⟨_,List.getElem?_eq_getElem (by omega)⟩
     have hri:=qnC (W0:=W0) (T:=4) (n:=l.length) (f:=clS h k i j) hbi
     have hrk:=qnC (W0:=W0) (T:=4) (n:=l.length) (f:=clS h k i j) hbk2
     have gik:=qml (g:=clS h k i j i) hkl
     have gij:=qml (g:=clS h k i j i) hjl
     have gkj:=qml (g:=clS h k i j k) hjl
     have e1:clS h k i j i k=h i k:=qqp hj1
     have e2:clS h k i j i j=h i j:=qqo
     have e3:clS h k i j k j=h k j:=qqq hikl
     rw[e1] at gik
     rw[e2] at gij
     rw[e3] at gkj
     have hlr:=(qmm l.length (clS h k i j i)).symm
     have hlk:=(qmm l.length (clS h k i j k)).symm
     obtain⟨C,hC,hC2⟩:=qnB (T:=4) (n:=l.length) (f:=clS h k i j) bs 0 i bi hbi
     rw[Nat.zero_add] at hC
     have hwi:∀y∈qn4 l.length (clS h k i j i),(qmx y).length=1:=fun _ _=>rfl
     cases ht:h i k with
     |true=>
      have hnx:∀v:Bool,v=(h i j||h k j)→C [q2J qmx 4 bi ((qn4 l.length (clS h k i j i)).set j v)]=qmi 4 l.length (clS h k i (j+1)) bs 0:=fun v hv=>by
       rw[qoo,hC2]
       refine qlW bs 0 (fun a b _ _ _=> ?_)
       rw[Nat.zero_add,hv]
       exact qpi hikl hj1 ht
      rw[ht] at gik
      cases hv1:h i j <;>cases hv2:h k j
      all_goals
       rw[hv1] at gij
       rw[hv2] at gkj
       repeat'((try(conv=>whnf));first|(refine q1P ?_ ?_;exact rfl)|(refine fI ?_)|(refine q5s ?_ ?_;exact rfl)|(apply q9g;(exact rfl);omega)|(apply stC (T:=4) (k:=0) (m:=⟨At.skip (At.left hC)⟩) (false||false) hwi gij;(exact rfl);(omega);(exact rfl);(exact rfl))|(apply stC (T:=4) (k:=0) (m:=⟨At.skip (At.left hC)⟩) true hwi gij;(exact rfl);(omega);(exact rfl);(exact rfl))|((with_reducible show Ld _ _ _ _);first|(refine q1M hbr hbi rfl ?_)|(refine q1M hbr hbk2 rfl ?_)|(refine qkh hri gik rfl ?_)|(refine qkh hri gij rfl ?_)|(refine qkh hrk gkj rfl ?_))|((with_reducible show IxS _ _ _ _ _);first|((refine ixE hbr hbi ?_ ?_;(first|rfl|omega)))|((refine ixE hbr hbk2 ?_ ?_;(first|rfl|omega)))|((refine ixC gik hlr ?_ ?_;(first|rfl|omega)))|((refine ixC gij hlr ?_ ?_;(first|rfl|omega))))|(refine ari ?_ ?_;omega))
       all_goals exact⟨j+1,⟨by omega,by omega⟩,by omega,(eF),by rw[hnx _ (by simp[hv1,hv2])];exact Ent.refl⟩
     |false=>
      rw[ht] at gik
      repeat'((try(conv=>whnf));first|(refine q1P ?_ ?_;exact rfl)|(refine fD ?_)|(apply q9g;(exact rfl);omega)|((with_reducible show Ld _ _ _ _);first|(refine q1M hbr hbi rfl ?_)|(refine qkh hri gik rfl ?_))|((with_reducible show IxS _ _ _ _ _);first|((refine ixE hbr hbi ?_ ?_;(first|rfl|omega)))|((refine ixC gik hlr ?_ ?_;(first|rfl|omega))))|(refine ari ?_ ?_;omega))
      exact⟨i+1,by omega,by omega,(eF),by rw[qlW bs 0 (fun a b _ _ _=>qpj ht)];exact Ent.refl⟩
    ·have hjl':¬(j:Int)<l.length:=by omega
     have hj3:j=l.length:=by omega
     subst hj3
     repeat'((try(conv=>whnf));first|(refine fI ?_)|(refine fD ?_)|(apply q9f;(exact rfl);omega)|(refine ari ?_ ?_;omega))
     exact⟨i+1,by omega,by omega,(eF),by rw[qlW bs 0 (fun a b _ _ hb=>qpV hb)];exact Ent.refl⟩
   ·have hikl':¬(i:Int)<k:=by omega
    have hik2:i=k:=by omega
    subst hik2
    repeat'((try(conv=>whnf));first|(apply qaQ;(exact rfl);omega)|(refine ari ?_ ?_;omega))
    exact⟨i+1,by omega,by omega,(eF),by rw[hclos,qlW bs 0 (fun a b _ _ _=>qpU a b)];exact Ent.refl⟩
  ·have hkl':¬(k:Int)<l.length:=by omega
   have hk2:k=l.length:=by omega
   subst hk2
   repeat'((try(conv=>whnf));first|(apply qaQ;(exact rfl);omega))
   refine⟨ha,hc,D,bs,rfl,hB,hbl,?_⟩
   rw[←List.append_assoc,←List.append_assoc]
   exact Ent.of_sub ((List.Sublist.refl own).cons _|>.append_left _)
end
theorem qon{l:List EH}{y:Nat}{w:Int}:rcL l y w 0= []:=rfl
theorem qoV(l:List EH)(y:Nat)(w:Int)(m:Nat):(rcL l y w m).length≤m:=by
 unfold rcL
 rw[List.length_map]
 exact Nat.le_trans (List.length_filter_le _ _) (by simp)
theorem qo6(l:List EH)(y:Nat):∀m,(rcW l y m).length≤m*y
 |0=>by simp[rcW]
 |m+1=>by
  rw[qbx,List.length_append,Nat.succ_mul]
  have:=qo6 l y m
  have:=qoV l y m y
  omega
theorem qo5(l:List EH)(n:Nat):∀m,m≤n→(rcA l m).length≤m*(64*n)
 |0,_=>by simp[rcA]
 |m+1,h=>by
  rw[q92,List.length_append,Nat.succ_mul]
  have:=qo5 l n m (by omega)
  split
  ·simp;omega
  ·have:=qo6 l m 64
   omega
theorem qoe{n:Nat}:∀(l:List EH) (i:Nat) (pa:Int) (last:List Int),(qaT n l i pa last).2=0→qaT n l i pa last=(0,0)
 | [],_,_,_,_=>rfl
 |e::l,i,pa,last,h=>by
  unfold qaT at h ⊢
  split
  ·rename_i hf
   rw[if_pos hf] at h
   exact qoe l _ _ _ h
  ·rename_i hf
   rw[if_neg hf] at h
   simp at h
theorem qqn{l:List EH}{n:Int}(h:(q7q l n).2=0):q7q l n=(0,0):=by
 unfold q7q at h ⊢
 split
 ·rename_i hc;rw[if_pos hc] at h;simp at h
 ·rename_i hc;rw[if_neg hc] at h
  split
  ·rename_i hc2;rw[if_pos hc2] at h;simp at h
  ·rename_i hc2;rw[if_neg hc2] at h;exact qoe _ _ _ _ h
section
variable{W0:World}{own:Own}{a:Option Addr}{cap:Nat}
theorem qnO{l:List Int}(hR:RdE qM 1 W0 own a l)(hl:l.length≤9223372036854775807)(v:Int):qD Tryz.prog W0 112 [.slice a l.length cap, .int .i64 v] own (.bool (l.contains v)):=by
 refine qe (qa qj qnu (by simp[qmz]) ?_)
 refine q1N (σ:=Nat) (fun i=> [(5, .int .i64 i)]) (fun i=>i≤l.length∧v∉l.take i) (fun i=>l.length-i) 0 ⟨by omega,by simp⟩ (eF) rfl ?_
 rintro i junk ⟨hi,hI⟩
 by_cases hlt:i<l.length
 ·obtain⟨x,hx⟩:∃x,l[i]? =some x:=⟨_,List.getElem?_eq_getElem hlt⟩
  have hlt':(i:Int)<l.length:=by omega
  by_cases hxv:x=v
  ·have hc:l.contains v=true:=by rw[List.contains_iff_mem];subst hxv;exact List.mem_of_getElem? hx
   repeat'((try(conv=>whnf));first|(refine fF ?_)|((with_reducible show Ld _ _ _ _);first|(refine q1M hR hx rfl ?_))|((with_reducible show IxS _ _ _ _ _);first|((refine ixE hR hx ?_ ?_;(first|rfl|omega)))))
   exact⟨q0N (vb hc.symm),(eC)⟩
  ·repeat'((try(conv=>whnf));first|(refine fF ?_)|(refine fG ?_)|((with_reducible show Ld _ _ _ _);first|(refine q1M hR hx rfl ?_))|((with_reducible show IxS _ _ _ _ _);first|((refine ixE hR hx ?_ ?_;(first|rfl|omega))))|(refine fB ?_))
   exact⟨i+1,⟨by omega,by rw[List.take_add_one,hx];simp[hI,Ne.symm hxv]⟩,by omega,(eF),(eC)⟩
 ·have hlt':¬(i:Int)<l.length:=by omega
  have hi2:i=l.length:=by omega
  subst hi2
  rw[List.take_length] at hI
  have hc:l.contains v=false:=by rw[←Bool.not_eq_true,List.contains_iff_mem];exact hI
  repeat'((try(conv=>whnf));first|(refine fG ?_))
  exact⟨q0N (vb hc.symm),(eC)⟩
theorem qnR{x y:EH}(hx:EvR W0 own x)(hy:EvR W0 own y)(w:Int):qD Tryz.prog W0 80 [x.v,y.v, .int .i64 w] own (.bool (confB x y w)):=by
 refine qe (qa qj qmR (by simp[qlS]) ?_)
 have h1:∀own' [qt own' own],qD Tryz.prog W0 112 [.slice x.ra x.rl.length x.rc, .int .i64 w] own' (.bool (x.rl.contains w)):=fun own' h=>qnO (hx.r.ent (h.h W0)) hx.rn w
 have h2:∀own' [qt own' own],qD Tryz.prog W0 112 [.slice x.wa x.wl.length x.wc, .int .i64 w] own' (.bool (x.wl.contains w)):=fun own' h=>qnO (hx.w.ent (h.h W0)) hx.wn w
 have h3:∀own' [qt own' own],qD Tryz.prog W0 112 [.slice y.ra y.rl.length y.rc, .int .i64 w] own' (.bool (y.rl.contains w)):=fun own' h=>qnO (hy.r.ent (h.h W0)) hy.rn w
 have h4:∀own' [qt own' own],qD Tryz.prog W0 112 [.slice y.wa y.wl.length y.wc, .int .i64 w] own' (.bool (y.wl.contains w)):=fun own' h=>qnO (hy.w.ent (h.h W0)) hy.wn w
 unfold confB cfP
 clear hx hy
 obtain⟨ev,t,k,wd,ra,rl,rc,wa,wl,wc⟩:=x
 obtain⟨ev2,t2,k2,wd2,ra2,rl2,rc2,wa2,wl2,wc2⟩:=y
 dsimp only[EH.v] at*
 generalize rl.contains w=z1 at*
 generalize wl.contains w=z2 at*
 generalize rl2.contains w=z3 at*
 generalize wl2.contains w=z4 at*
 generalize rl.length=n1 at*
 generalize wl.length=n2 at*
 generalize rl2.length=n3 at*
 generalize wl2.length=n4 at*
 by_cases e1:t=t2
 ·subst e1
  repeat'((try(conv=>whnf));first|(refine fF ?_)|(refine fA ?_)|(refine qc (fun bk hbk=> ?_)))
  all_goals exact⟨q0N (by simp),(eC)⟩
 ·by_cases e2:k=4
  ·by_cases e3:k2=4
   ·repeat'((try(conv=>whnf));first|(refine fI ?_)|(refine fE ?_)|(refine fF ?_)|(refine fG ?_)|(refine fJ ?_)|(refine fA ?_)|(refine fL ?_)|(refine fM ?_)|(refine qc (fun bk hbk=> ?_)))
    all_goals exact⟨q0N (by simp[*]),(eC)⟩
   ·by_cases e4:wd2=w
    ·cases z1 <;>cases z2
     all_goals
      repeat'((try(conv=>whnf));first|(refine fH ?_)|(refine fI ?_)|(refine fF ?_)|(refine fG ?_)|(refine fK ?_)|((with_reducible show qf _ _ _ _ _ _);first|((refine qh (h1 _) ?_ ?_ ?_;(exact rfl);exact rfl))|((refine qh (h2 _) ?_ ?_ ?_;(exact rfl);exact rfl)))|(refine fA ?_)|(refine fL ?_)|(refine fM ?_)|(refine qc (fun bk hbk=> ?_))|(apply q0e;(exact rfl);(exact rfl);all_goals intro hc))
      all_goals exact⟨q0N (by simp[*]),(eC)⟩
    ·repeat'((try(conv=>whnf));first|(refine fH ?_)|(refine fF ?_)|(refine fG ?_)|(refine fK ?_)|(refine fA ?_)|(refine fL ?_)|(refine fM ?_)|(refine qc (fun bk hbk=> ?_)))
     all_goals exact⟨q0N (by simp[*]),(eC)⟩
  ·by_cases e4:wd=w
   ·by_cases e3:k2=4
    ·cases z3 <;>cases z4
     all_goals
      repeat'((try(conv=>whnf));first|(refine fH ?_)|(refine fI ?_)|(refine fG ?_)|(refine fK ?_)|((with_reducible show qf _ _ _ _ _ _);first|((refine qh (h3 _) ?_ ?_ ?_;(exact rfl);exact rfl))|((refine qh (h4 _) ?_ ?_ ?_;(exact rfl);exact rfl)))|(refine fA ?_)|(refine qc (fun bk hbk=> ?_))|(apply q0e;(exact rfl);(exact rfl);all_goals intro hc))
      all_goals exact⟨q0N (by simp[*]),(eC)⟩
    ·by_cases e5:wd2=w
     ·repeat'((try(conv=>whnf));first|(refine fH ?_)|(refine fI ?_)|(refine fF ?_)|(refine fG ?_)|(refine fJ ?_)|(refine fK ?_)|(refine fA ?_)|(refine qc (fun bk hbk=> ?_))|(apply q4P;(exact rfl);(exact rfl);all_goals intro hc))
      all_goals exact⟨q0N (by simp[*]),(eC)⟩
     ·repeat'((try(conv=>whnf));first|(refine fH ?_)|(refine fI ?_)|(refine fF ?_)|(refine fG ?_)|(refine fK ?_)|(refine fA ?_)|(refine qc (fun bk hbk=> ?_)))
      all_goals exact⟨q0N (by simp[*]),(eC)⟩
   ·repeat'((try(conv=>whnf));first|(refine fH ?_)|(refine fF ?_)|(refine fG ?_)|(refine fK ?_)|(refine fA ?_)|(refine qc (fun bk hbk=> ?_)))
    all_goals exact⟨q0N (by simp[*]),(eC)⟩
end
structure HbR(W0:World)(H:Own)(l:List EH)(ha:Option Addr)(bs:List Nat):Prop where
 len:bs.length=l.length
 rd:RdE (qrc l.length) 1 W0 H ha bs
 rows:∀i b,bs[i]? =some b→RdE qmx 1 W0 H (some ⟨b,0,none⟩) (qn4 l.length (hbB l i))
section
variable{W0:World}{own:Own}{a:Option Addr}{cap:Nat}{l:List EH}
theorem qnQ{m:Nat}(hw:Wf l m)(hR:RdE EH.enc 6 W0 own a l)(hl:l.length≤65536):
  q0E Tryz.prog W0 78 [.slice a l.length cap] own fun v own'=>∃s:Option Addr×Nat×List Nat×Own,(v= .slice s.1 s.2.2.1.length s.2.1∧HbR W0 s.2.2.2 l s.1 s.2.2.1)∧Ent W0 own' (s.2.2.2++own):=by
 intro w hs
 refine(qob hw hR hl w hs).mono ?_
 rintro e w' ⟨v,own',he,hst,ha,hc,D,bs,rfl,hB,hlen,hent⟩
 refine⟨_,own',he,hst,(ha,hc,bs,D++qmi 4 l.length (qaf (qkc l) l.length) bs 0),⟨rfl,hlen,?_,?_⟩,?_⟩
 ·exact(hB.rd (W0:=W0)).ent Ent.left
 ·intro i b hb
  have:=qnC (W0:=W0) (T:=4) (n:=l.length) (f:=qaf (qkc l) l.length) hb
  rw[qmp (g':=hbB l i) (fun j _=>qiW hw i j)] at this
  exact this.ent (Ent.app Ent.refl)
 ·rw[List.append_assoc];exact hent
noncomputable def rcR(l:List EH)(n:Int):List q0G:=if(q7q l n).2=0 then rcA l l.length else []
theorem qp6(hR:RdE EH.enc 6 W0 own a l)(hE:∀e∈l,EvR W0 own e)(n:Int):
  q0E Tryz.prog W0 47 [.slice a l.length cap, .int .i64 n] own fun v own'=>∃s:Option Addr×Nat×Own,(v= .slice s.1 (rcR l n).length s.2.1∧qr encRc 56 3 s.1 s.2.1 (rcR l n) s.2.2)∧Ent W0 own' (s.2.2++own):=by
 refine qa qj qnh (by simp[qm9]) ?_
 have hck:=q5l (cap:=cap) hR hE n
 unfold rcR
 by_cases hc:(q7q l n).2=0
 ·obtain⟨hw,hl,_,_⟩:=chk_wf hc
  rw[qqn hc] at hck
  rw[if_pos hc]
  have hcl:=qnQ (cap:=cap) hw hR hl
  repeat'((try(conv=>whnf));first|(refine fD ?_)|((with_reducible show qf _ _ _ _ _ _);first|((refine qh (hck) ?_ ?_ ?_;(exact rfl);exact rfl))|((refine qZ hcl ?_ ?_ (fun s v hv=> ?_);(exact rfl);(exact rfl);(obtain⟨ha,hcc,bs,X⟩:=s;obtain⟨rfl,hb⟩:=hv;dsimp only at hb))))|(refine fO ?_))
  have hbl:=hb.len
  have hbr:=hb.rd
  clear hck hcl
  refine q0Z (σ:=Nat×Option Addr×Nat×Own) (fun s=> [(8, .slice s.2.1 (rcA l s.1).length s.2.2.1),(9, .int .i64 s.1)]) (fun s=>s.2.2.2++(X++own))
   (fun s=>s.1≤l.length∧qr encRc 56 3 s.2.1 s.2.2.1 (rcA l s.1) s.2.2.2) (fun s=>l.length-s.1) (0,none,0,[]) ⟨by simp,qr.nil⟩ (eF) Ent.refl rfl ?_
  rintro⟨y,ra,rc,D⟩ junk ⟨hy,hB⟩
  dsimp only at hy hB ⊢
  by_cases hyl:y<l.length
  ·have hyl':(y:Int)<l.length:=by omega
   obtain⟨e,he⟩:∃e,l[y]? =some e:=⟨_,List.getElem?_eq_getElem hyl⟩
   have hae:at' l y=e:=qg6 he
   have hke:knd l y=e.k:=by unfold knd;rw[hae]
   have hlenA:=qo5 l l.length y (by omega)
   have hmulA:y*(64*l.length)≤65536*(64*65536):=Nat.mul_le_mul (by omega) (by omega)
   by_cases h3:e.k=3
   ·have hnx:rcA l (y+1)=rcA l y:=by rw[q92,hke,if_pos h3,List.append_nil]
    repeat'((try(conv=>whnf));first|(apply qaR;(exact rfl);omega)|((with_reducible show Ld _ _ _ _);first|(refine qgp hR he rfl ?_))|((with_reducible show IxS _ _ _ _ _);first|((refine ixE hR he ?_ ?_;(first|rfl|omega))))|(refine ari ?_ ?_;omega))
    refine⟨(y+1,ra,rc,D),⟨by simp only;omega,by simp only;rw[hnx];exact hB⟩,by simp only;omega,?_,Ent.refl⟩
    simp only
    rw[hnx]
    exact(eF)
   ·have hnx:rcA l (y+1)=rcA l y++rcW l y 64:=by rw[q92,hke,if_neg h3]
    have hbg:=qnP (W0:=W0) (own:=D++(X++own)) (cap:=cap) hR.up hl hyl
    obtain⟨p,hto⟩:∃p,toP l y=p:=⟨_,rfl⟩
    rcases Decidable.em (e.k=4) with h4|h4
    case' inl=>
     obtain⟨p',hp',hpl',_,_⟩:=qcQ hw hyl (hke.trans h4)
     have hpp:p=p':=by rw[←hto];unfold toP;rw[hke,if_pos h4,hp'];rfl
     subst hpp
     have hpl:p<l.length:=by omega
     rw[hp'] at hbg
     repeat'((try(conv=>whnf));first|(apply qaR;(exact rfl);omega)|(apply qaQ;(exact rfl);omega)|((with_reducible show Ld _ _ _ _);first|(refine qgp hR he rfl ?_))|((with_reducible show IxS _ _ _ _ _);first|((refine ixE hR he ?_ ?_;(first|rfl|omega))))|((with_reducible show qf _ _ _ _ _ _);first|((refine qh (hbg) ?_ ?_ ?_;(exact rfl);exact rfl))))
     clear hbg hpl' hp'
    case' inr=>
     have hpp:p=y:=by rw[←hto];unfold toP;rw[hke,if_neg h4]
     have hpl:p<l.length:=by omega
     repeat'((try(conv=>whnf));first|(apply qaR;(exact rfl);omega)|(apply qaQ;(exact rfl);omega)|((with_reducible show Ld _ _ _ _);first|(refine qgp hR he rfl ?_))|((with_reducible show IxS _ _ _ _ _);first|((refine ixE hR he ?_ ?_;(first|rfl|omega)))))
    all_goals
     refine q0Z (σ:=Nat×Option Addr×Nat×Own) (fun s=> [(8, .slice s.2.1 (rcA l y++rcW l y s.1).length s.2.2.1),(11, .int .i64 s.1)]) (fun s=>s.2.2.2++(X++own))
      (fun s=>s.1≤64∧qr encRc 56 3 s.2.1 s.2.2.1 (rcA l y++rcW l y s.1) s.2.2.2) (fun s=>64-s.1) (0,ra,rc,D) ⟨by simp,by simpa [rcW] using hB⟩ (by simp only[rcW,List.range_zero,List.flatMap_nil,List.append_nil];exact(eF)) Ent.refl rfl ?_
     rintro⟨wd,ra2,rc2,D2⟩ junk2 ⟨hwd,hB2⟩
     dsimp only at hwd hB2 ⊢
     by_cases hwl:wd<64
     ·have hwl':(wd:Int)<64:=by omega
      have hlenW:=qo6 l y wd
      have hmulW:wd*y≤64*65536:=Nat.mul_le_mul (by omega) (by omega)
      repeat'((try(conv=>whnf));first|(apply qaR;(exact rfl);omega))
      refine q0Z (σ:=Nat×Option Addr×Nat×Own) (fun s=> [(8, .slice s.2.1 ((rcA l y++rcW l y wd)++rcL l y wd s.1).length s.2.2.1),(12, .int .i64 s.1)]) (fun s=>s.2.2.2++(X++own))
       (fun s=>s.1≤y∧qr encRc 56 3 s.2.1 s.2.2.1 ((rcA l y++rcW l y wd)++rcL l y wd s.1) s.2.2.2) (fun s=>y-s.1) (0,ra2,rc2,D2) ⟨by simp,by simpa [qon] using hB2⟩ (by simp only[qon,List.append_nil];exact(eF)) Ent.refl rfl ?_
      rintro⟨x,ra3,rc3,D3⟩ junk3 ⟨hx,hB3⟩
      dsimp only at hx hB3 ⊢
      by_cases hxl:x<y
      ·have hxl':(x:Int)<y:=by omega
       obtain⟨e',he'⟩:∃e,l[x]? =some e:=⟨_,List.getElem?_eq_getElem (by omega)⟩
       have hae':at' l x=e':=qg6 he'
       have hke':knd l x=e'.k:=by unfold knd;rw[hae']
       have hcf:∀own' [qt own' (X++own)],qD Tryz.prog W0 80 [e'.v,e.v, .int .i64 wd] own' (.bool (confB e' e wd)):=fun own' h=>
        qnR ((hE e' (List.mem_of_getElem? he')).up (own:=X++own)|>.up) ((hE e (List.mem_of_getElem? he)).up (own:=X++own)|>.up) wd
       have hrB:rcB l y wd x=(!decide (e'.k=3)&&(confB e' e wd&& !hbB l x p)):=by unfold rcB;rw[hke',hae,hae',hto]
       have hsc:rcL l y wd (x+1)=rcL l y wd x++if rcB l y wd x=true then [((x:Int),(y:Int),(wd:Int))] else []:=q93
       have hlenL:=qoV l y wd x
       obtain⟨bx,hbx⟩:∃b,bs[x]? =some b:=⟨_,List.getElem?_eq_getElem (by omega)⟩
       have hrx:=hb.rows x bx hbx
       have gxp:=qml (n:=l.length) (g:=hbB l x) (j:=p) hpl
       have hlr:=(qmm l.length (hbB l x)).symm
       generalize confB e' e wd=cf at*
       generalize hbB l x p=hv at*
       have hlen3:(rcA l y++rcW l y wd++rcL l y wd x).length≤65536*(64*65536)+64*65536+65536:=by
        simp only[List.length_append];omega
       generalize hG:rcA l y++rcW l y wd++rcL l y wd x=G at*
       have hGn:∀z,rcA l y++rcW l y wd++(rcL l y wd x++z)=G++z:=fun z=>by rw[←hG];simp
       by_cases hk3:e'.k=3
       ·have hb0:rcB l y wd x=false:=by rw[hrB,decide_eq_true hk3];rfl
        rw[hb0] at hsc
        repeat'((try(conv=>whnf));first|(refine fI ?_)|(refine fD ?_)|(apply qaR;(exact rfl);omega)|(apply q9f;(exact rfl);omega)|((with_reducible show Ld _ _ _ _);first|(refine qgp hR he' rfl ?_))|((with_reducible show IxS _ _ _ _ _);first|((refine ixE hR he' ?_ ?_;(first|rfl|omega))))|(refine ari ?_ ?_;omega))
        refine⟨(x+1,ra3,rc3,D3),⟨by simp only;omega,by simp only;rw[hsc,hGn];simpa using hB3⟩,by simp only;omega,?_,Ent.refl⟩
        simp only
        rw[hsc,hGn]
        simp only[Bool.false_eq_true,if_false,List.append_nil]
        exact(eF)
       ·cases cf with
        |false=>
         have hb0:rcB l y wd x=false:=by rw[hrB];simp
         rw[hb0] at hsc
         repeat'((try(conv=>whnf));first|(refine q1P ?_ ?_;exact rfl)|(refine fI ?_)|(refine fD ?_)|(apply qaR;(exact rfl);omega)|(apply q9g;(exact rfl);omega)|((with_reducible show Ld _ _ _ _);first|(refine qgp hR he' rfl ?_))|((with_reducible show IxS _ _ _ _ _);first|((refine ixE hR he ?_ ?_;(first|rfl|omega)))|((refine ixE hR he' ?_ ?_;(first|rfl|omega))))|((with_reducible show LdN _ _ _ _ _);first|(refine q2e hR he rfl ?_)|(refine q2e hR he' rfl ?_))|((with_reducible show q0b _ _ _ _ _ _);first|(((refine qq (fun ex=>hcf _) ?_ ?_ ?_;(exact rfl);exact rfl))))|(refine ari ?_ ?_;omega))
         refine⟨(x+1,ra3,rc3,D3),⟨by simp only;omega,by simp only;rw[hsc,hGn];simpa using hB3⟩,by simp only;omega,?_,Ent.refl⟩
         simp only
         rw[hsc,hGn]
         simp only[Bool.false_eq_true,if_false,List.append_nil]
         exact(eF)
        |true=>
         cases hv with
         |true=>
          have hb0:rcB l y wd x=false:=by rw[hrB];simp
          rw[hb0] at hsc
          repeat'((try(conv=>whnf));first|(refine q1P ?_ ?_;exact rfl)|(refine fD ?_)|(apply qaR;(exact rfl);omega)|(apply q9g;(exact rfl);omega)|((with_reducible show Ld _ _ _ _);first|(refine qgp hR he' rfl ?_)|(refine q1M hbr hbx rfl ?_)|(refine qkh hrx gxp rfl ?_))|((with_reducible show IxS _ _ _ _ _);first|((refine ixE hR he ?_ ?_;(first|rfl|omega)))|((refine ixE hR he' ?_ ?_;(first|rfl|omega)))|((refine ixE hbr hbx ?_ ?_;(first|rfl|omega)))|((refine ixC gxp hlr ?_ ?_;(first|rfl|omega))))|((with_reducible show LdN _ _ _ _ _);first|(refine q2e hR he rfl ?_)|(refine q2e hR he' rfl ?_))|((with_reducible show q0b _ _ _ _ _ _);first|(((refine qq (fun ex=>hcf _) ?_ ?_ ?_;(exact rfl);exact rfl))))|(refine ari ?_ ?_;omega))
          refine⟨(x+1,ra3,rc3,D3),⟨by simp only;omega,by simp only;rw[hsc,hGn];simpa using hB3⟩,by simp only;omega,?_,Ent.refl⟩
          simp only
          rw[hsc,hGn]
          simp only[Bool.false_eq_true,if_false,List.append_nil]
          exact(eF)
         |false=>
          have hb0:rcB l y wd x=true:=by rw[hrB,decide_eq_false hk3];rfl
          rw[hb0] at hsc
          repeat'((try(conv=>whnf));first|(refine q1P ?_ ?_;exact rfl)|(refine q5s ?_ ?_;exact rfl)|(apply qaR;(exact rfl);omega)|(apply q9g;(exact rfl);omega)|(apply q69 (enc:=encRc) ((x:Int),(y:Int),(wd:Int)) hB3;(exact rfl);(exact rfl);(omega);(exact rfl);(exact rfl);(omega);intro a1 c1 D1 hb1)|((with_reducible show Ld _ _ _ _);first|(refine qgp hR he' rfl ?_)|(refine q1M hbr hbx rfl ?_)|(refine qkh hrx gxp rfl ?_))|((with_reducible show IxS _ _ _ _ _);first|((refine ixE hR he ?_ ?_;(first|rfl|omega)))|((refine ixE hR he' ?_ ?_;(first|rfl|omega)))|((refine ixE hbr hbx ?_ ?_;(first|rfl|omega)))|((refine ixC gxp hlr ?_ ?_;(first|rfl|omega))))|((with_reducible show LdN _ _ _ _ _);first|(refine q2e hR he rfl ?_)|(refine q2e hR he' rfl ?_))|((with_reducible show q0b _ _ _ _ _ _);first|(((refine qq (fun ex=>hcf _) ?_ ?_ ?_;(exact rfl);exact rfl))))|(refine ari ?_ ?_;omega)|(refine qc (fun bk hbk=> ?_)))
          refine⟨(x+1,a1,c1,D1),⟨by simp only;omega,by simp only;rw[hsc,hGn];exact hb1⟩,by simp only;omega,?_,Ent.cons Ent.refl⟩
          simp only
          rw[hsc,hGn]
          simp only[if_true,List.length_append,List.length_cons,List.length_nil,Nat.zero_add]
          exact(eF)
      ·have hxl':¬(x:Int)<y:=by omega
       have hx2:x=y:=by omega
       subst hx2
       repeat'((try(conv=>whnf));first|(apply qaQ;(exact rfl);omega)|(refine ari ?_ ?_;omega))
       refine⟨(wd+1,ra3,rc3,D3),⟨by simp only;omega,by simp only;rw[qbx,←List.append_assoc];exact hB3⟩,by simp only;omega,?_,Ent.refl⟩
       simp only
       rw[qbx,←List.append_assoc]
       exact(eF)
     ·have hwl':¬(wd:Int)<64:=by omega
      have hw2:wd=64:=by omega
      subst hw2
      repeat'((try(conv=>whnf));first|(refine fD ?_)|(refine ari ?_ ?_;omega))
      refine⟨(y+1,ra2,rc2,D2),⟨by simp only;omega,by simp only;rw[hnx];exact hB2⟩,by simp only;omega,?_,Ent.refl⟩
      simp only
      rw[hnx]
      exact(eF)
  ·have hyl':¬(y:Int)<l.length:=by omega
   have hy2:y=l.length:=by omega
   subst hy2
   repeat'((try(conv=>whnf));first|(apply qaQ;(exact rfl);omega))
   exact⟨(ra,rc,D),⟨rfl,hB⟩,Ent.of_sub ((List.sublist_append_right X own).append_left D)⟩
 ·rw[if_neg hc]
  generalize q7q l n=r at*
  repeat'((try(conv=>whnf));first|(apply qaR;(exact rfl);omega)|((with_reducible show qf _ _ _ _ _ _);first|((refine qh (hck) ?_ ?_ ?_;(exact rfl);exact rfl)))|(refine fO ?_))
  all_goals exact⟨(none,0,[]),⟨rfl,qr.nil⟩,(eC)⟩
end
theorem qpg(l:List EH)(n:Int):qiS (rcR l n)=frR l n:=by
 unfold rcR frR
 split
 ·exact qeP l
 ·rfl
section
variable{W0:World}{own:Own}{a:Option Addr}{cap:Nat}{l:List EH}
theorem qpF(W0:World)(own:Own):qD Tryz.prog W0 48 [] own (.agg #[.int .i64 (-1), .int .i64 (-1), .int .i64 (-1)]):=by
 refine qe (qa qj qnr (by simp[qmf]) ?_)
 repeat'((try(conv=>whnf));first|(refine fL ?_)|(refine fM ?_)|(refine qc (fun bk hbk=> ?_)))
 exact⟨rfl,(eC)⟩
theorem sp_rfirst(hR:RdE EH.enc 6 W0 own a l)(hE:∀e∈l,EvR W0 own e)(n:Int):
  qD Tryz.prog W0 20 [.slice a l.length cap, .int .i64 n] own (.agg (encRc (frR l n)).toArray):=by
 refine qe (qa qj qng (by simp[qm8]) ?_)
 rw[←qpg]
 have hlen:(rcR l n).length≤65536*(64*65536):=by
  unfold rcR
  split
  ·rename_i hc
   have hl:=(chk_wf hc).2.1
   exact Nat.le_trans (qo5 l l.length l.length (Nat.le_refl _)) (Nat.mul_le_mul hl (by omega))
  ·simp
 have hrc:∀own' [qt own' own],q0E Tryz.prog W0 47 [.slice a l.length cap, .int .i64 n] own' _:=fun own' h=>qp6 (hR.up (own:=own')) (fun e he=>(hE e he).up (own:=own')) n
 repeat'((try(conv=>whnf));first|((with_reducible show qf _ _ _ _ _ _);first|((refine qZ (hrc _) ?_ ?_ (fun s v hv=> ?_);(exact rfl);(exact rfl);(obtain⟨ra,rc,D⟩:=s;obtain⟨rfl,hB⟩:=hv;dsimp only at hB);(apply Stop.h))))|(refine qc (fun bk hbk=> ?_)))
 refine Stop.mk ?_
 clear hrc
 have hno:=qpF W0
 generalize rcR l n=L at*
 cases L with
 |nil=>
  have h0:((([]:List q0G).length:Nat):Int)=0:=rfl
  repeat'((try(conv=>whnf));first|(refine fE ?_)|((with_reducible show qf _ _ _ _ _ _);first|((refine qh (hno _) ?_ ?_ ?_;(exact rfl);exact rfl)))|(refine fL ?_)|(refine fM ?_))
  exact⟨rfl,(eC)⟩
 |cons r0 rs=>
  have hrd:=hB.rd (W0:=W0)
  have hl0:¬(((r0::rs).length:Nat):Int)=0:=by simp;omega
  have hx0:(r0::rs)[0]? =some r0:=rfl
  obtain⟨res,hres⟩:∃res,res=qiS (r0::rs):=⟨_,rfl⟩
  rw[←hres]
  have hrs:rs.foldl q9s r0=res:=hres.symm
  clear hres
  generalize hL:r0::rs=L at*
  have hLl:L.length=rs.length+1:=by rw[←hL];rfl
  have hLg:∀c x,rs[c]? =some x→L[c+1]? =some x:=fun c x h=>by rw[←hL];simpa using h
  repeat'((try(conv=>whnf));first|(refine fG ?_)|(refine qc (fun bk1 hbk1=> ?_))|((with_reducible show IxS _ _ _ _ _);first|((refine ixE hrd hx0 ?_ ?_;(first|rfl|omega))))|((with_reducible show LdN _ _ _ _ _);first|(refine q2e hrd hx0 rfl ?_))|(refine fM ?_))
  refine q0Z (σ:=Nat×q0G) (fun s=> [(7, .int .i64 ((s.1:Nat)+1:Int))]) (fun s=>(bk1,fun o=>o=Obj.cells (encRc s.2).toArray 56)::(D++((bk,fun o=>o=Obj.cells #[.int .i64 0, .int .i64 0, .int .i64 0] 56)::own)))
   (fun s=>s.1≤rs.length∧(rs.drop s.1).foldl q9s s.2=res) (fun s=>rs.length-s.1) (0,r0) ⟨by simp,by simpa using hrs⟩ (eF) Ent.refl rfl ?_
  rintro⟨c,b⟩ junk ⟨hc,hI⟩
  dsimp only at hc hI ⊢
  by_cases hlt:c<rs.length
  ·obtain⟨x,hx⟩:∃x,rs[c]? =some x:=⟨_,List.getElem?_eq_getElem hlt⟩
   have hx':=hLg c x hx
   have hlt':((c:Int)+1)<L.length:=by omega
   rw[q0R hx,List.foldl_cons] at hI
   obtain⟨x1,x2,x3⟩:=x
   obtain⟨b1,b2,b3⟩:=b
   by_cases h1:x2=b2∧x3=b3∧b1<x1
   ·have hb:q9s (b1,b2,b3) (x1,x2,x3)=(x1,x2,x3):=by unfold q9s;rw[if_pos h1]
    rw[hb] at hI
    obtain⟨h1,h2,h3⟩:=h1
    have hx4:L[c+1]? =some (x1,x2,x3):=hx'
    repeat'((try(conv=>whnf));first|(refine fH ?_)|(refine fF ?_)|(refine fJ ?_)|((with_reducible show Ld _ _ _ _);first|(refine q1M hrd hx' rfl ?_)|(refine qgp hrd hx' rfl ?_))|((with_reducible show IxS _ _ _ _ _);first|((refine ixE hrd hx' ?_ ?_;(first|rfl|omega))))|((with_reducible show LdN _ _ _ _ _);first|(refine q2e hrd hx' rfl ?_))|(refine fB ?_)|(refine fA ?_)|(refine fM ?_))
    exact⟨(c+1,x1,x2,x3),⟨by simp only;omega,hI⟩,by simp only;omega,(eF),Ent.refl⟩
   ·have hb:q9s (b1,b2,b3) (x1,x2,x3)=(b1,b2,b3):=by unfold q9s;rw[if_neg h1]
    rw[hb] at hI
    repeat'((try(conv=>whnf));first|(refine fH ?_)|(refine fI ?_)|(refine fD ?_)|(refine fF ?_)|((with_reducible show Ld _ _ _ _);first|(refine q1M hrd hx' rfl ?_)|(refine qgp hrd hx' rfl ?_))|((with_reducible show IxS _ _ _ _ _);first|((refine ixE hrd hx' ?_ ?_;(first|rfl|omega))))|((with_reducible show LdN _ _ _ _ _);first|(refine q2e hrd hx' rfl ?_))|(refine fB ?_)|(refine fA ?_)|(refine fM ?_)|(apply q0e;(exact rfl);(exact rfl);all_goals intro hc)|(apply q9q;(exact rfl);all_goals intro hc))
    all_goals first|(exfalso;omega)|(exfalso;dsimp only at*;omega)|exact⟨(c+1,b1,b2,b3),⟨by simp only;omega,hI⟩,by simp only;omega,(eF),Ent.refl⟩
  ·have hlt':¬((c:Int)+1)<L.length:=by omega
   have hb:b=res:=by rw[List.drop_eq_nil_of_le (by omega)] at hI;exact hI
   subst hb
   repeat'((try(conv=>whnf));first|(refine fG ?_)|(refine fL ?_)|(refine fM ?_))
   exact⟨rfl,(eC)⟩
end
end Ord
end Go.Proofs.YtkieffpjjfebjaaGreatDoor
