/- What the laws share, part 6. No condition. -/
import Derived.Test.YtikpjajangpdjaaGreatDoorRows
import Derived.Test.YtikpjajangpdjaaGreatDoorQ5
set_option maxHeartbeats 4000000
set_option maxRecDepth 100000
namespace Go.Proofs.YtikpjajangpdjaaGreatDoor
open Go
abbrev j5(x:Int):Value:= .int .i64 x
abbrev ji:=List EH
theorem qiy:Tryz.prog.follows .mixedOrders=true:=by kernel_rfl
def qkH:jj:= [7,9,13,16,17,18,19,21,22,23,25,26,29,30,31,33,34,36,40,41,42,43,44,45,47,48,50,51,52,53,54,55,57,61,63,64,71,72,73,74,75,77,78,82,83,84,87,93,94,95,96,105,106,110,114,115,116,117,119,120,121,126,135,136,137,148,150,152,155,156,157,158,159,160,161,163,164,165,166,167,168,183,184,196,197,199,200,202,203,204,205,206,207,208,209,210,211,212,214,215,216,217,219,220,221,223,224,225,227,228,230,231,233,234,235,236,237,238,239,251,256,258,260,263,264,267,270,272,273,275,276,279,281,282,283,284,287,288,292,293,294,295,297,298,299,300,301,302,303,304,305,306,307,308,309,321,322,324]
def qsC(cs:jj):Option IFn->Option IFn
 |some f=>some ⟨f.n,qi1 cs f.body,f.res⟩
 |none=>none
def ql5:Option IFn->Option IFn
 |some f=>some ⟨f.n,q1c f.body,f.res⟩
 |none=>none
def jq:Nat->Nat->List Nat->List Nat
 |0,_,l=>l
 |n+1,a,l=>a::jq n (a+2) l
section
variable{W0:World}{own:Own}{k:Nat}{args:jf}{R:Value->Own->Prop}{n:Nat}{b:IC}{r:List qlh}
theorem sC(cs c:jj)(h:XS Tryz.prog W0 b (qro W0 r R) (qfh args) own)(e:qsC cs (qbS Tryz.prog k c)=some ⟨n,b,r⟩:=by
  conv=>lhs;reduce;(try simp only[Int.reduceOfNat,Int.reduceNegSucc])) (d:qiv Tryz.prog qkH k=ql5 (qsC cs (qbS Tryz.prog k c)):=by kernel_rfl) (f:args.length<=n:=by exact Nat.le_of_ble_eq_true rfl):qq Tryz.prog W0 k args own R:=
 qh0 (fn:=⟨n,b,r⟩) qiy (by rw[d,e];rfl) f h
theorem sH(c:jj)(h:XS Tryz.prog W0 b (qro W0 r R) (qfh args) own)(e:qbS Tryz.prog k c=some ⟨n,b,r⟩:=by
  conv=>lhs;reduce;(try simp only[Int.reduceOfNat,Int.reduceNegSucc])) (d:qiv Tryz.prog qkH k=ql5 (qbS Tryz.prog k c):=by kernel_rfl) (f:args.length<=n:=by exact Nat.le_of_ble_eq_true rfl):qq Tryz.prog W0 k args own R:=
 qh0 (fn:=⟨n,b,r⟩) qiy (by rw[d,e];rfl) f h
end
namespace Ord
open Go
abbrev qv(n:Int):jf:= [j5 n]
section
variable{W0:World}{own:Own}{a:j9}{cap:Nat}{l:je}
def ifx(p:Int->Bool)(l:je):Int:=match l.findIdx? p with
 |some i=>i
 |none=> -1
theorem qgt{g:FuncId}{p:Int->Bool}(v:okF Tryz.prog g=true)(w:∀own x,qA Tryz.prog W0 g [j5 x] own (.bool (p x)))(o:RdE qv 1 W0 own a l)(hl:l.length<=9223372036854775807):
  qA Tryz.prog W0 170 [.slice a l.length cap, .func (.func g) #[] #[]] own (j5 (ifx p l)):=by
 refine qg (sH [] ?_);refine q1o (σ:=Nat) (fun i=> [(8,j5 i)]) (fun i=>i<=l.length/\∀j x,j<i->l[j]? =some x->p x=false) (fun i=>l.length-i) 0 ⟨Yu,fun j x h=>by omega⟩ (eF) rfl ?_;rintro i junk ⟨hi,q⟩
 by_cases f:i<l.length
 ·obtain⟨x,d⟩:∃x,l[i]? =some x:=⟨_,z6 f⟩
  have m:(i:Int)<l.length:=Yu;have c:=w own x;cases hb:p x with
  |true=>
   rw[hb] at c
   repeat'((try conv=>whnf);first|refine fE ?_|refine fF ?_|refine⟨v,qm c ?_⟩|apply gLd;refine q0l o d rfl ?_|(apply qF;first|refine ixE o d ?_ ?_;(first|rfl|omega)))
   refine⟨q0a (vi ?_),(eC)⟩;have:l.findIdx? p=some i:=by
    rw[Z6];have t:=(z7.1 d).2;refine⟨f,by rw[t];exact hb,fun j e=>?_⟩;have:=q j (l[j]' Yu) e (z6 Yu);simp[this]
   unfold ifx;rw[this]
  |false=>
   rw[hb] at c
   repeat'((try conv=>whnf);first|refine fD ?_|refine fF ?_|refine⟨v,qm c ?_⟩|apply gLd;refine q0l o d rfl ?_|(apply qF;first|refine ixE o d ?_ ?_;(first|rfl|omega))|refine fB ?_)
   refine⟨i+1,⟨Yu,fun j y e u=>?_⟩,Yu,(eF),(eC)⟩
   by_cases s:j=i
   ·subst s;rw[d] at u;obtain rfl:=Option.some.inj u;exact hb
   ·exact q j y Yu u
 ·have m:¬(i:Int)<l.length:=Yu
  repeat'((try conv=>whnf);first|refine fG ?_)
  refine⟨q0a (vi ?_),(eC)⟩;have:l.findIdx? p=none:=by
   rw[Zl];intro x d;obtain⟨j,e⟩:=Zn d;have:=(z7.1 e).1;exact q j x Yu e
  unfold ifx;rw[this]
theorem qfe(p:Int->Bool)(l:je):decide (0<=ifx p l)=l.any p:=by
 unfold ifx;cases h:l.findIdx? p with
 |none=>
  rw[Zl] at h;have:l.any p=false:=by rw[yy];intro x e;simp[h x e]
  rw[this];rfl
 |some i=>
  rw[Z6] at h;obtain⟨c,d,_⟩:=h;have:l.any p=true:=yj.2 ⟨l[i],ZO c,d⟩;rw[this];simp
theorem q9q{g:FuncId}{p:Int->Bool}(d:okF Tryz.prog g=true)(f:∀own x,qA Tryz.prog W0 g [j5 x] own (.bool (p x)))(c:RdE qv 1 W0 own a l)(e:l.length<=9223372036854775807):
  qA Tryz.prog W0 124 [.slice a l.length cap, .func (.func g) #[] #[]] own (.bool (l.any p)):=by
 refine qg (sH [] ?_);have h:=qgt (cap:=cap) d f c e
 repeat'((try conv=>whnf);first|apply qe;refine qd (h) ?_)
 exact⟨q0a (vb (qfe p l)),(eC)⟩
end
structure EvR(W0:World)(own:Own)(e:EH):Prop where
 r:RdE qv 1 W0 own e.ra e.rl
 w:RdE qv 1 W0 own e.wa e.wl
 rb:e.rl.length<=17592186043904
 wb:e.wl.length<=17592186043904
theorem EvR.rn{W0:World}{own:Own}{e:EH}(h:EvR W0 own e):e.rl.length<=9223372036854775807:=Zc h.rb Yv
theorem EvR.wn{W0:World}{own:Own}{e:EH}(h:EvR W0 own e):e.wl.length<=9223372036854775807:=Zc h.wb Yv
theorem EvR.up{W0:World}{own own':Own}{e:EH}(h:EvR W0 own' e) [m:qr own own']:EvR W0 own e:=⟨h.r.up,h.w.up,h.rb,h.wb⟩
theorem q0A{α:Type}{l:List α}{k:Nat}{x:α}(d:l[k]? =some x):l.drop k=x::l.drop (k+1):=by
 obtain⟨c,he⟩:=z7.1 d;rw[ZG c,he]
def q3m(l:ji)(i:Nat):Int:=if i=0 then 0 else(at' l (i-1)).ev
theorem q5V{l:ji}{i:Nat}{e:EH}(h:l[i]? =some e):q3m l (i+1)=e.ev:=by
 unfold q3m at';rw[if_neg Yu,Nat.add_sub_cancel,zh,h];rfl
theorem qbB{n:Nat}{f:Bool}{pa kd:Int}{e:EH}(h:q12 n f pa kd e=true):0<=e.t/\e.t<n:=by
 unfold q12 at h;simp only[zu,decide_eq_true_eq] at h;exact⟨h.1.1.1.1,h.1.1.1.2.1⟩
theorem qbA{n:Nat}{f:Bool}{pa kd:Int}{e:EH}(h:¬(0<=e.t/\e.t<n)):q12 n f pa kd e=false:=by
 cases hb:q12 n f pa kd e with
 |false=>rfl
 |true=>exact absurd (qbB hb) h
theorem qbc{l:ji}{i:Nat}{e:EH}(h:l[i]? =some e):at' l i=e:=by
 unfold at';rw[zh,h];rfl
def bgL(l:ji)(t:Int):Nat->Int
 |0=> -1
 |i+1=>if thr l i=t then i else bgL l t i
theorem qke(l:ji)(t:Int):∀i,bgL l t i<i/\ -1<=bgL l t i
 |0=>by simp[bgL]
 |i+1=>by
  have:=qke l t i;unfold bgL
  split <;>omega
theorem qbd{l:ji}{p i:Nat}(h:qay l i p):∀j,p<j->j<=i->bgL l (thr l i) j=p
 |0,c,_=>by omega
 |j+1,c,h2=>by
  unfold bgL
  by_cases d:j=p
  ·subst d;rw[if_pos h.2.1]
  ·rw[if_neg (h.2.2 j Yu Yu)];exact qbd h j Yu Yu
theorem qei{l:ji}{p i:Nat}(h:qay l i p):bgL l (thr l i) i=p:=qbd h i h.1 (zq i)
section
variable{W0:World}{own:Own}{a:j9}{cap:Nat}{l:ji}
def qhW(l:ji):Nat->List Bool
 |0=>List.replicate l.length false
 |i+1=>if knd l i=4 then((qhW l i).set i (decide (knd l i≠3))).set (bgL l (thr l i) i).toNat true else(qhW l i).set i (decide (knd l i≠3))
theorem q7P(l:ji):∀i,(qhW l i).length=l.length
 |0=>by simp[qhW]
 |i+1=>by unfold qhW;split <;>simp[q7P l i]
end
def isB(l:ji)(i:Nat):Bool:=(qhW l l.length).getD i false
def qrd(l:ji)(i j:Nat):Bool:=decide (i<j)&&(isB l i&&isB l j&&(decide (thr l i=thr l j)||(decide (knd l i=4)&&(decide (knd l j=4)||decide (knd l j=3)))))
theorem qri{α:Type}{enc:α->jf}{sz:Nat}{W0:World}{own own':Own}{l:List α}{b j:Nat}{x:α}{v:Value}{K:Value->Prop}(h:RdE enc sz W0 own' (some ⟨b,0,none⟩) l)(e:l[j]? =some x) [m:qr own own'](d:(enc x)[0]? =some v)(c:K v):Ld W0 own ⟨b,j*sz,none⟩ K:=by
 have:=q0l (own:=own) h e d c;simp only[ab,ao,zA] at this;exact this
theorem qeg{l:ji}{t:Int}:∀(j p:Nat),bgL l t j=p->p<j/\thr l p=t/\∀q,p<q->q<j->thr l q≠t
 |0,p,h=>by unfold bgL at h;omega
 |j+1,p,h=>by
  unfold bgL at h
  split at h
  ·rename_i i;have:p=j:=Yu;subst this;exact⟨Yu,i,fun q a b=>by omega⟩
  ·rename_i e;obtain⟨a,b,c⟩:=qeg j p h;refine⟨Yu,b,fun q d h2=>?_⟩
   by_cases f:q=j
   ·subst f;exact e
   ·exact c q d Yu
theorem q5i{l:ji}{i p:Nat}:qay l i p↔bgL l (thr l i) i=p:=⟨qei,fun h=>qeg i p h⟩
theorem q8L{l:ji}{n i:Nat}(hw:Wf l n)(f:i<l.length)(e:knd l i=4):∃p:Nat,bgL l (thr l i) i=p/\p<i/\knd l p=3/\thr l p=thr l i:=by
 obtain⟨p,c,d⟩:=hw.en i f e;exact⟨p,qei c,c.1,d,c.2.1⟩
section
open Classical
theorem qbn{l:ji}{n:Nat}(hw:Wf l n):∀k,k<=l.length->∀i,i<l.length->(qhW l k)[i]? =some (decide ((i<k/\knd l i≠3)\/∃e,e<k/\knd l e=4/\bgL l (thr l e) e=i))
 |0,_,i,q=>by
  unfold qhW;simp[q]
 |k+1,hk,i,q=>by
  have t:=qbn hw k Yu i q;have hlen:=q7P l k;unfold qhW
  by_cases o:knd l k=4
  ·rw[if_pos o];obtain⟨p,s,hpk,h3,_⟩:=q8L hw Yu o;rw[s,zD,zx]
   by_cases m:p=i
   ·subst m;rw[if_pos rfl,if_pos (by rw[zn];omega)]
    congr 1
    refine(decide_eq_true ?_).symm;exact .inr ⟨k,Yu,o,s⟩
   ·rw[if_neg m,zx]
    by_cases d:k=i
    ·subst d;rw[if_pos rfl,if_pos Yu]
     congr 1
     rw[decide_eq_true (by omega:knd l k≠3)];exact(decide_eq_true (.inl ⟨Yu,Yu⟩)).symm
    ·rw[if_neg d,t]
     congr 1
     refine decide_eq_decide.2 ⟨?_,?_⟩
     ·rintro(⟨a,b⟩|⟨e,a,b,c⟩)
      ·exact .inl ⟨Yu,b⟩
      ·exact .inr ⟨e,Yu,b,c⟩
     ·rintro(⟨a,b⟩|⟨e,a,b,c⟩)
      ·exact .inl ⟨Yu,b⟩
      ·by_cases f:e=k
       ·subst f;rw[s] at c;exact absurd Yu m
       ·exact .inr ⟨e,Yu,b,c⟩
  ·rw[if_neg o,zx]
   by_cases d:k=i
   ·subst d;rw[if_pos rfl,if_pos Yu]
    congr 1
    refine decide_eq_decide.2 ⟨fun h=> .inl ⟨Yu,h⟩,?_⟩;rintro(⟨a,b⟩|⟨e,a,b,c⟩)
    ·exact b
    ·have:=(qeg e k c).1;omega
   ·rw[if_neg d,t]
    congr 1
    refine decide_eq_decide.2 ⟨?_,?_⟩
    ·rintro(⟨a,b⟩|⟨e,a,b,c⟩)
     ·exact .inl ⟨Yu,b⟩
     ·exact .inr ⟨e,Yu,b,c⟩
    ·rintro(⟨a,b⟩|⟨e,a,b,c⟩)
     ·exact .inl ⟨Yu,b⟩
     ·by_cases f:e=k
      ·subst f;exact absurd b o
      ·exact .inr ⟨e,Yu,b,c⟩
end
theorem qmD{l:ji}{n:Nat}(hw:Wf l n)(i:Nat):isB l i=true↔q7Q l i:=by
 unfold isB q7Q;rw[zh]
 by_cases d:i<l.length
 ·rw[qbn hw l.length (zq _) i d];simp only[Za,decide_eq_true_iff];constructor
  ·rintro(⟨a,b⟩|⟨e,a,b,c⟩)
   ·exact⟨d, .inl b⟩
   ·exact⟨d, .inr ⟨e,a,q5i.2 c,b⟩⟩
  ·rintro⟨_,b|⟨e,a,b,c⟩⟩
   ·exact .inl ⟨d,b⟩
   ·exact .inr ⟨e,a,c,q5i.1 b⟩
 ·rw[zV (by rw[q7P];omega)];simp[d]
theorem qi2{l:ji}{n:Nat}(hw:Wf l n)(i j:Nat):qrd l i j=true↔DI l i j:=by
 unfold qrd DI;simp only[zu,Zd,decide_eq_true_eq,qmD hw,and_assoc]
noncomputable def hbB(l:ji)(i j:Nat):Bool:= @decide (HB l i j) (Classical.propDecidable _)
theorem hbB_iff{l:ji}{i j:Nat}:hbB l i j=true↔HB l i j:=by unfold hbB;exact @decide_eq_true_iff _ (Classical.propDecidable _)
theorem qoU{l:ji}{n:Nat}(hw:Wf l n)(i j:Nat):qa9 (qrd l) l.length i j=hbB l i j:=by
 rw[yQ,hbB_iff];exact qlM hw (qi2 hw) i j
def cfP(a b:EH)(w:Int):Bool:=decide (a.w=w)&&(if b.k=4 then(b.wl.contains w||(decide (a.k=2)&&b.rl.contains w)) else decide (b.w=w)&&(decide (a.k=2)||decide (b.k=2)))
def confB(a b:EH)(w:Int):Bool:= !decide (a.t=b.t)&&(if a.k=4 then !decide (b.k=4)&&cfP b a w else cfP a b w)
abbrev q0f:=Int×Int×Int
abbrev encRc(r:q0f):jf:= [j5 r.1,j5 r.2.1,j5 r.2.2]
def toP(l:ji)(y:Nat):Nat:=if knd l y=4 then(bgL l (thr l y) y).toNat else y
noncomputable def rcB(l:ji)(y:Nat)(w:Int)(x:Nat):Bool:= !decide (knd l x=3)&&(confB (at' l x) (at' l y) w&& !hbB l x (toP l y))
noncomputable def rcL(l:ji)(y:Nat)(w:Int)(m:Nat):List q0f:=((List.range m).filter (rcB l y w)).map fun(x:Nat)=>((x:Int),(y:Int),w)
theorem q8j{l:ji}{y m:Nat}{w:Int}:rcL l y w (m+1)=rcL l y w m++if rcB l y w m=true then [((m:Int),(y:Int),w)] else []:=by
 unfold rcL;rw[ZQ,yn,zB]
 congr 1
 cases h:rcB l y w m <;>simp[List.filter,h]
noncomputable def rcW(l:ji)(y m:Nat):List q0f:=(List.range m).flatMap fun(w:Nat)=>rcL l y w y
theorem qcc{l:ji}{y m:Nat}:rcW l y (m+1)=rcW l y m++rcL l y m y:=by
 unfold rcW;rw[ZQ,yg];simp
noncomputable def rcA(l:ji)(m:Nat):List q0f:=(List.range m).flatMap fun y=>if knd l y=3 then [] else rcW l y 64
theorem q8i{l:ji}{m:Nat}:rcA l (m+1)=rcA l m++if knd l m=3 then [] else rcW l m 64:=by
 unfold rcA;rw[ZQ,yg];simp
def q8O(b r:q0f):q0f:=if r.2.1=b.2.1/\r.2.2=b.2.2/\b.1<r.1 then r else b
def qoO:List q0f->q0f
 | []=>(-1, -1, -1)
 |r::rs=>rs.foldl q8O r
theorem q90:∀(rs:List q0f) (b:q0f),(∀r∈rs,r.2≠b.2)->rs.foldl q8O b=b
 | [],_,_=>rfl
 |r::rs,b,h=>by
  have d:q8O b r=b:=by
   unfold q8O;rw[if_neg (fun c=>h r zj (Prod.ext c.1 c.2.1))]
  rw[y9,d];exact q90 rs b (fun r e=>h r (zl _ e))
theorem qbD:∀(rs:List q0f) (b:q0f),(∀r∈rs,r.2=b.2)->(b::rs).Pairwise (fun a b=>a.1<b.1)->rs.foldl q8O b=(rs.getLast?).getD b
 | [],_,_,_=>rfl
 |r::rs,b,h,c=>by
  have d:=h r zj;rw[yp] at c;have e:q8O b r=r:=by
   unfold q8O;rw[if_pos ⟨by rw[d],by rw[d],c.1 r zj⟩]
  rw[y9,e,qbD rs r (fun x f=>(h x (zl _ f)).trans d.symm) c.2];cases rs <;>simp[List.getLast?_cons]
theorem q5w{σ:Type}(key:σ->Int×Int)(g:σ->List q0f)(i:∀p,∀r∈g p,r.2=key p)(s:∀p,(g p).Pairwise (fun a b=>a.1<b.1)):
  ∀ps:List σ,ps.Pairwise (fun p q=>key p≠key q)->qoO (ps.flatMap g)=(ps.findSome? fun p=>(g p).getLast?).getD (-1, -1, -1)
 | [],_=>rfl
 |p::ps,m=>by
  rw[yp] at m;rw[yX];cases h:g p with
  |nil=>
   rw[zk,q5w key g i s ps m.2,yN,h];rfl
  |cons r rs=>
   have c:=i p;rw[h] at c;have d:=s p;rw[h] at d;have o:=c r zj;rw[yN,h];show(rs++ps.flatMap g).foldl q8O r=_;rw[yY,qbD rs r (fun x f=>(c x (zl _ f)).trans o.symm) d];have e:(r::rs).getLast? =some ((rs.getLast?).getD r):=by rw[List.getLast?_cons]
   rw[e];simp only[Za];refine q90 _ _ ?_;intro x f;obtain⟨q,u,f⟩:=yk.1 f;rw[i q x f];have:((rs.getLast?).getD r).2=key p:=by
    cases t:rs.getLast? with
    |none=>exact o
    |some z=>exact c z (zl _ (List.mem_of_getLast? t))
   rw[this];exact fun e=>m.1 q u e.symm
def prs(l:ji)(m:Nat):List (Nat×Int):=(List.range m).flatMap fun y=>if knd l y=3 then [] else(List.range 64).map fun(w:Nat)=>(y,(w:Int))
noncomputable def frst(l:ji):q0f:=((prs l l.length).findSome? fun p=>(rcL l p.1 p.2 p.1).getLast?).getD (-1, -1, -1)
theorem qfP(l:ji)(m:Nat):rcA l m=(prs l m).flatMap fun p=>rcL l p.1 p.2 p.1:=by
 unfold rcA prs;rw[List.flatMap_assoc]
 congr 1
 funext y
 split
 ·rfl
 ·rw[List.flatMap_map];rfl
theorem qn3{l:ji}{y m:Nat}{w:Int}:∀r∈rcL l y w m,r.2=((y:Int),w):=by
 intro r c;unfold rcL at c;obtain⟨x,_,rfl⟩:=zM.1 c;rfl
theorem qde{l:ji}{y m:Nat}{w:Int}:(rcL l y w m).Pairwise (fun a b=>a.1<b.1):=by
 unfold rcL;rw[List.pairwise_map];refine List.Pairwise.imp ?_ ((yZ (n:=m)).filter _);intro a b h
 simpa using h
theorem qfM(l:ji)(m:Nat):(prs l m).Pairwise (fun p q=>((p.1:Int),p.2)≠((q.1:Int),q.2)):=by
 unfold prs;rw[List.pairwise_flatMap];refine⟨fun y _=>?_,?_⟩
 ·split
  ·exact List.Pairwise.nil
  ·rw[List.pairwise_map];refine List.Pairwise.imp ?_ (yZ (n:=64));intro a b h e;simp only[Prod.mk.injEq,true_and] at e;omega
 ·refine List.Pairwise.imp ?_ (yZ (n:=m));intro a b h p c q d e;have h1:p.1=a:=by
   split at c
   ·cases c
   ·obtain⟨_,_,rfl⟩:=zM.1 c;rfl
  have h2:q.1=b:=by
   split at d
   ·cases d
   ·obtain⟨_,_,rfl⟩:=zM.1 d;rfl
  simp only[Prod.mk.injEq] at e;omega
theorem qhP(l:ji):qoO (rcA l l.length)=frst l:=by
 rw[qfP];exact q5w (fun p=>((p.1:Int),p.2)) _ (fun p r c=>qn3 r c) (fun p=>qde) _ (qfM l _)
def q3s{α:Type}(n:Nat)(g:Nat->α):List α:=(List.range n).map g
section
variable{α:Type}{n j:Nat}{g g':Nat->α}
theorem qU:(q3s n g).length=n:=by simp[q3s]
theorem q0s(c:j<n):(q3s n g)[j]? =some (g j):=by simp[q3s,c]
theorem q08(h:∀j,j<n->g j=g' j):q3s n g=q3s n g':=yO fun j c=>h j (Z9.1 c)
theorem qiR{v:α}:(q3s n g).set j v=q3s n (fun i=>if i=j then v else g i):=by
 apply Zm;intro i
 by_cases d:i<n
 ·rw[q0s d,zx]
  by_cases c:j=i
  ·subst c;rw[if_pos rfl,if_pos (by rw[qU];exact d),if_pos rfl]
  ·rw[if_neg c,q0s d,if_neg (Ne.symm c)]
 ·rw[zV (by rw[zn,qU];omega),zV (by rw[qU];omega)]
theorem q3C{v:α}(h:∀i,i<n->(if i=j then v else g i)=g' i):(q3s n g).set j v=q3s n g':=by
 rw[qiR];exact q08 h
theorem q5k{x:α}:List.replicate n x=q3s n (fun _=>x):=by
 apply Zm;intro i
 by_cases c:i<n
 ·rw[q0s c];simp[c]
 ·rw[zV (by simp;omega),zV (by rw[qU];omega)]
end
theorem q37{β:Type}{f:Int->List β}:∀(n a:Nat) (t:je),t.Pairwise (· < ·)->(∀x∈t,(a:Int)<=x/\x<(a+n:Nat))->(∀w:Nat,a<=w->(w:Int)∉t->f w= [])->(List.range' a n).flatMap (fun(w:Nat)=>f w)=t.flatMap f
 |0,a,t,_,e,_=>by
  cases t with
  |nil=>rfl
  |cons x t=>have:=e x zj;omega
 |n+1,a,[],_,_,c=>by
  rw[List.range'_succ,yX,c a (zq a) Yw];rw[q37 n (a+1) [] List.Pairwise.nil Yw (fun w h _=>c w Yu Yw)];rfl
 |n+1,a,x::t,d,e,c=>by
  rw[List.range'_succ,yX];have hx:=e x zj;rw[yp] at d
  by_cases i:x=a
  ·subst i;rw[yX,q37 n (a+1) t d.2 (fun y m=>?_) (fun w h o=>c w Yu fun hm=>?_)]
   ·have h1:=d.1 y m;have p:=e y (zl _ m);omega
   ·rcases zN.1 hm with h|h
    ·omega
    ·exact o h
  ·rw[c a (zq a) fun hm=>?_,zk]
   ·refine q37 n (a+1) (x::t) (yp.2 d) (fun y m=>?_) (fun w h o=>c w Yu o);have p:=e y m
    rcases zN.1 m with rfl|h
    ·omega
    ·have:=d.1 y h;omega
   ·rcases zN.1 hm with h|h
    ·exact i h.symm
    ·have:=d.1 _ h;omega
def lkL(l:ji)(t:Int):Nat->Int
 |0=>0
 |i+1=>if thr l i=t then knd l i else lkL l t i
theorem q5g{l:ji}{t:Int}{i:Nat}:lkL l t (i+1)=if thr l i=t then knd l i else lkL l t i:=rfl
theorem qbR{l:ji}{t k:Int}(d:k≠0):∀i,lkL l t i=k->∃p,(p<i/\thr l p=t/\∀q,p<q->q<i->thr l q≠t)/\knd l p=k
 |0,h=>absurd h.symm d
 |i+1,h=>by
  unfold lkL at h
  split at h
  ·rename_i v;exact⟨i,⟨Yu,v,fun q e c=>by omega⟩,h⟩
  ·rename_i s;obtain⟨p,⟨e,c,f⟩,m⟩:=qbR d i h;refine⟨p,⟨Yu,c,fun q o h6=>?_⟩,m⟩
   by_cases u:q=i
   ·subst u;exact s
   ·exact f q o Yu
def q3V(l:ji)(n i:Nat):Bool:=q12 n (i==0) (q3m l i) (lkL l (thr l i) i) (at' l i)
theorem qiC{l:ji}{n i:Nat}(h:q3V l n i=true):0<=thr l i/\thr l i<n:=qbB h
theorem qpT{l:ji}{n i:Nat}(h:0<=thr l i/\thr l i<n):(q3s n fun t=>lkL l t i).set (thr l i).toNat (knd l i)=q3s n fun t=>lkL l t (i+1):=by
 refine q3C fun t _=>?_
 by_cases c:t=(thr l i).toNat
 ·rw[if_pos c];unfold lkL;rw[if_pos Yu]
 ·rw[if_neg c];rw[q5g,if_neg Yu]
theorem qes{l:ji}{n:Nat}:∀d i,d+i=l.length->((qcX n (l.drop i) i (q3m l i) (q3s n fun t=>lkL l t i)).2=0↔ ∀k,i<=k->k<l.length->q3V l n k=true)
 |0,i,h=>by
  rw[List.drop_eq_nil_of_le Yu];exact⟨fun _ k q o=>by omega,fun _=>rfl⟩
 |d+1,i,h=>by
  obtain⟨e,he⟩:∃e,l[i]? =some e:=⟨_,z6 Yu⟩
  rw[q0A he,qcX];have c:at' l i=e:=qbc he;have u:q12 n (i==0) (q3m l i) ((q3s n fun t=>lkL l t i).getD e.t.toNat 0) e=q3V l n i:=by
   unfold q3V;rw[c]
   by_cases s:0<=e.t/\e.t<n
   ·rw[zh,q0s Yu];simp only[Za];have:((e.t.toNat:Nat):Int)=thr l i:=by unfold thr;rw[c];omega
    rw[this]
   ·rw[qbA s,qbA s]
  rw[u];cases m:q3V l n i with
  |true=>
   simp only[if_true];have p:=qpT (qiC m);unfold thr knd at p;rw[c] at p;rw[p,<-q5V he,qes d (i+1) Yu];constructor
   ·intro f k q o
    by_cases v:k=i
    ·subst v;exact m
    ·exact f k Yu o
   ·exact fun f k q o=>f k Yu o
  |false=>
   simp only[zL,if_false];constructor
   ·intro f;exact absurd f Yw
   ·intro f;have:=f i (zq i) Yu;rw[m] at this;cases this
def WF0(l:ji)(n:Nat):Prop:=1<=n/\n<=16/\l.length<=65536/\∀k,k<l.length->q3V l n k=true
theorem q8R{l:ji}{n:Int}:(q4n l n).2=0↔0<=n/\WF0 l n.toNat:=by
 unfold q4n WF0
 split
 ·constructor
  ·intro h;simp at h
  ·intro h;omega
 ·split
  ·constructor
   ·intro h;simp at h
   ·intro h;omega
  ·have:=qes (l:=l) (n:=n.toNat) l.length 0 Yu;rw[List.drop_zero] at this;have e:q3m l 0=0:=rfl;have d:(q3s n.toNat fun t=>lkL l t 0)=List.replicate n.toNat 0:=q5k.symm;rw[e,d] at this;rw[this];constructor
   ·intro h;exact⟨Yu,Yu,Yu,Yu,fun k c=>h k Yu c⟩
   ·intro h k _ c;exact h.2.2.2.2 k c
theorem WF0.wf{l:ji}{n:Nat}(h:WF0 l n):Wf l n:=by
 have key:∀i,i<l.length->q3V l n i=true:=h.2.2.2
 refine⟨fun i d=>?_,fun i d e=>?_,fun i d e=>?_⟩
 ·have:=key i d;unfold q3V q12 at this;simp only[zu,decide_eq_true_eq] at this;obtain⟨⟨⟨c,f⟩,m⟩,_⟩:=this;exact⟨c.2.2.1,c.2.2.2.1,c.1,c.2.1,decide_eq_true c.2.2.2.2.2,f,m⟩
 ·have:=key i d;unfold q3V q12 at this;rw[if_pos e] at this;simp only[zu,decide_eq_true_eq] at this;exact qbR Yu i this.2
 ·have:=key i d;unfold q3V q12 at this;rw[if_neg e] at this;simp only[zu,decide_eq_true_eq] at this;exact this.2
theorem chk_wf{l:ji}{n:Int}(h:(q4n l n).2=0):Wf l n.toNat/\l.length<=65536/\1<=n/\n<=16:=by
 obtain⟨h1,c⟩:=q8R.1 h;exact⟨c.wf,c.2.2.1,by have:=c.1;omega,by have:=c.2.1;omega⟩
theorem q1O{l r:ji}{i:Nat}(h:i<l.length):at' (l++r) i=at' l i:=by
 unfold at';rw[zh,zh,zG h]
theorem q1m{l:ji}{e:EH}:at' (l++ [e]) l.length=e:=qbc Yw
theorem q0h{l r:ji}{i:Nat}(h:i<l.length):thr (l++r) i=thr l i:=by unfold thr;rw[q1O h]
theorem qX{l r:ji}{i:Nat}(h:i<l.length):knd (l++r) i=knd l i:=by unfold knd;rw[q1O h]
theorem q89{l r:ji}{t:Int}:∀i,i<=l.length->lkL (l++r) t i=lkL l t i
 |0,_=>rfl
 |i+1,h=>by rw[q5g,q5g,q0h Yu,qX Yu,q89 i Yu]
theorem qc5{l r:ji}{i:Nat}(h:i<=l.length):q3m (l++r) i=q3m l i:=by
 unfold q3m
 split
 ·rfl
 ·rw[q1O Yu]
theorem qbX{l r:ji}{n i:Nat}(h:i<l.length):q3V (l++r) n i=q3V l n i:=by
 unfold q3V;rw[qc5 Yu,q0h h,q89 i Yu,q1O h]
theorem qbY{l:ji}{e:EH}{n:Nat}:q3V (l++ [e]) n l.length=q12 n (l.length==0) (q3m l l.length) (lkL l e.t l.length) e:=by
 unfold q3V;have c:thr (l++ [e]) l.length=e.t:=by unfold thr;rw[q1m]
 rw[qc5 (zq _),c,q89 _ (zq _),q1m]
theorem qfp{l:ji}{e:EH}{t:Int}:lkL (l++ [e]) t (l.length+1)=if e.t=t then e.k else lkL l t l.length:=by
 have d:thr (l++ [e]) l.length=e.t:=by unfold thr;rw[q1m]
 have c:knd (l++ [e]) l.length=e.k:=by unfold knd;rw[q1m]
 rw[q5g,d,c,q89 _ (zq _)]
theorem qiH{l:ji}{e:EH}:q3m (l++ [e]) (l.length+1)=e.ev:=q5V Yw
theorem WF0.snoc{l:ji}{e:EH}{n:Nat}(h:WF0 l n)(i:l.length+1<=65536)(d:q12 n (l.length==0) (q3m l l.length) (lkL l e.t l.length) e=true):WF0 (l++ [e]) n:=by
 refine⟨h.1,h.2.1,by simpa using i,fun k f=>?_⟩;simp only[z8,zm,zE] at f
 by_cases c:k<l.length
 ·rw[qbX c];exact h.2.2.2 k c
 ·obtain rfl:k=l.length:=Yu;rw[qbY];exact d
theorem WF0.nil{n:Nat}(c:1<=n)(d:n<=16):WF0 [] n:=⟨c,d,Yw,fun k e=>by simp at e⟩
section
variable{W0:World}{own:Own}{a:j9}{cap:Nat}{l:ji}
theorem q8s{a:j9}{l:je}{cap:Nat}(o:RdE qv 1 W0 own a l)(hl:l.length<=9223372036854775807)(v:Int):
  qA Tryz.prog W0 130 [.slice a l.length cap,j5 v] own (j5 (ifx (fun x=>x==v) l)):=by
 refine qg (sH [] ?_);refine q1o (σ:=Nat) (fun i=> [(8,j5 i)]) (fun i=>i<=l.length/\∀j x,j<i->l[j]? =some x->(x==v)=false) (fun i=>l.length-i) 0 ⟨Yu,fun j x h=>by omega⟩ (eF) rfl ?_;rintro i junk ⟨hi,p⟩
 by_cases e:i<l.length
 ·obtain⟨x,c⟩:∃x,l[i]? =some x:=⟨_,z6 e⟩
  have f:(i:Int)<l.length:=Yu
  by_cases m:v=x
  ·repeat'((try conv=>whnf);first|refine fF ?_|apply gLd;refine q0l o c rfl ?_|(apply qF;first|refine ixE o c ?_ ?_;(first|rfl|omega)))
   refine⟨q0a (vi ?_),(eC)⟩;have:l.findIdx? (fun x=>x==v)=some i:=by
    rw[Z6];have s:=(z7.1 c).2;refine⟨e,by rw[s,m];simp,fun j d=>?_⟩;have:=p j (l[j]' Yu) d (z6 Yu)
    simpa using this
   unfold ifx;rw[this]
  ·repeat'((try conv=>whnf);first|refine fF ?_|refine fG ?_|apply gLd;refine q0l o c rfl ?_|(apply qF;first|refine ixE o c ?_ ?_;(first|rfl|omega))|refine fB ?_)
   refine⟨i+1,⟨Yu,fun j y d t=>?_⟩,Yu,(eF),(eC)⟩
   by_cases q:j=i
   ·subst q;rw[c] at t;obtain rfl:=Option.some.inj t
    simpa using Ne.symm m
   ·exact p j y Yu t
 ·have f:¬(i:Int)<l.length:=Yu
  repeat'((try conv=>whnf);first|refine fG ?_)
  refine⟨q0a (vi ?_),(eC)⟩;have:l.findIdx? (fun x=>x==v)=none:=by
   rw[Zl];intro x c;obtain⟨j,d⟩:=Zn c;have:=(z7.1 d).1;exact p j x Yu d
  unfold ifx;rw[this]
theorem q8H(l:je)(v:Int):l.any (fun x=>x==v)=l.contains v:=by
 rw[yQ,yj,Zw];constructor
 ·rintro⟨x,c,h⟩;rw[<-eq_of_beq h];exact c
 ·intro h;exact⟨v,h,Yw⟩
theorem q3E{a:j9}{l:je}{cap:Nat}(c:RdE qv 1 W0 own a l)(d:l.length<=9223372036854775807)(v:Int):
  qA Tryz.prog W0 97 [.slice a l.length cap,j5 v] own (.bool (l.contains v)):=by
 refine qg (sH [] ?_);have h:=q8s (cap:=cap) c d v
 repeat'((try conv=>whnf);first|apply qe;refine qd (h) ?_)
 exact⟨q0a (vb ((qfe _ l).trans (q8H l v))),(eC)⟩
end
noncomputable def frR(l:ji)(n:Int):q0f:=if(q4n l n).2=0 then frst l else(-1, -1, -1)
end Ord
end Go.Proofs.YtikpjajangpdjaaGreatDoor
