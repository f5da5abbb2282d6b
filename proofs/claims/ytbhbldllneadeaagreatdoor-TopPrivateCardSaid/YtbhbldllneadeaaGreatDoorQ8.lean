/- What the laws share, part 8. No condition. -/
import Derived.Test.YtbhbldllneadeaaGreatDoorRows
import Derived.Test.YtbhbldllneadeaaGreatDoorQ7
set_option maxHeartbeats 4000000
set_option maxRecDepth 100000
namespace Go.Proofs.YtbhbldllneadeaaGreatDoor
open Go
theorem qeO:Tryz.prog.follows .mixedOrders=true:=by kernel_rfl
def qgT:List Nat:= [7,10,14,16,18,19,20,22,23,25,26,30,31,32,33,34,35,37,38,42,44,45,47,48,49,57,61,62,64,65,66,67,70,71,72,73,78,79,80,81,83,84,85,91,92,93,94,95,97,98,102,111,113,115,118,119,120,121,122,123,124,126,127,128,129,130,131,132,133,134,138,157,158,160,162,164,165,166,167,168,169,170,171,172,173,174,176,177,178,179,181,182,183,185,186,187,189,190,192,193,195,196,197,198,199,200,201,203,204,205,221,226,228,230,233,234,237,240,242,243,245,246,249,251,252,253,254,257,258,262,263,264,265,267,268,269,270,271,272,273,274,275,277,278,279,280,281,282,295,296,298]
def qnp(cs:List Nat):Option IFn→Option IFn
 |some f=>some ⟨f.n,qeo cs f.body,f.res⟩
 |none=>none
def qhc:Option IFn→Option IFn
 |some f=>some ⟨f.n,q0V f.body,f.res⟩
 |none=>none
section
variable{W0:World}{own:Own}{k:Nat}{args:List Value}{R:Value→Own→Prop}{n:Nat}{b:IC}{r:List qhg}
theorem sC(cs hs:List Nat)(h:XS Tryz.prog W0 b (qmj W0 r R) (qc4 args) own)(h1:qnp cs (q9D Tryz.prog k hs)=some ⟨n,b,r⟩:=by
  conv=>lhs;reduce;(try simp only[Int.reduceOfNat,Int.reduceNegSucc])) (h0:qeL Tryz.prog qgT k=qhc (qnp cs (q9D Tryz.prog k hs)):=by kernel_rfl) (hl:args.length≤n:=by exact Nat.le_of_ble_eq_true rfl):qt Tryz.prog W0 k args own R:=
 qdA (fn:=⟨n,b,r⟩) qeO (by rw[h0,h1];rfl) hl h
theorem sH(hs:List Nat)(h:XS Tryz.prog W0 b (qmj W0 r R) (qc4 args) own)(h1:q9D Tryz.prog k hs=some ⟨n,b,r⟩:=by
  conv=>lhs;reduce;(try simp only[Int.reduceOfNat,Int.reduceNegSucc])) (h0:qeL Tryz.prog qgT k=qhc (q9D Tryz.prog k hs):=by kernel_rfl) (hl:args.length≤n:=by exact Nat.le_of_ble_eq_true rfl):qt Tryz.prog W0 k args own R:=
 qdA (fn:=⟨n,b,r⟩) qeO (by rw[h0,h1];rfl) hl h
end
namespace Ord
open Go
abbrev qx(n:Int):List Value:= [.int .i64 n]
section
variable{W0:World}{own:Own}{a:Option Addr}{cap:Nat}{l:List Int}
def ifx(p:Int→Bool)(l:List Int):Int:=match l.findIdx? p with
 |some i=>i
 |none=> -1
theorem qd4{g:FuncId}{p:Int→Bool}(hg:okF Tryz.prog g=true)(hp:∀own x,qE Tryz.prog W0 g [.int .i64 x] own (.bool (p x)))(hR:RdE qx 1 W0 own a l)(hl:l.length≤9223372036854775807):
  qE Tryz.prog W0 141 [.slice a l.length cap, .func (.func g) #[] #[]] own (.int .i64 (ifx p l)):=by
 refine qg (sH [] ?_);refine q1O (σ:=Nat) (fun i=> [(8, .int .i64 i)]) (fun i=>i≤l.length∧∀j x,j<i→l[j]? =some x→p x=false) (fun i=>l.length-i) 0 ⟨Y6,fun j x h=>by omega⟩ (eF) rfl ?_;rintro i junk ⟨hi,hI⟩
 by_cases hlt:i<l.length
 ·obtain⟨x,hx⟩:∃x,l[i]? =some x:=⟨_,z6 hlt⟩
  have hlt':(i:Int)<l.length:=Y6;have hpx:=hp own x;cases hb:p x with
  |true=>
   rw[hb] at hpx
   repeat'((try(conv=>whnf));first|(refine fE ?_)|(refine fF ?_)|(refine⟨hg,qp hpx ?_⟩)|((apply gLd);first|(refine q0r hR hx rfl ?_))|((apply qJ);first|((refine ixE hR hx ?_ ?_;(first|rfl|omega)))))
   refine⟨q0J (vi ?_),(eC)⟩;have:l.findIdx? p=some i:=by
    rw[Zj];have hx2:=(z7.1 hx).2;refine⟨hlt,by rw[hx2];exact hb,fun j hj=> ?_⟩;have:=hI j (l[j]' Y6) hj (z6 Y6);simp[this]
   unfold ifx;rw[this]
  |false=>
   rw[hb] at hpx
   repeat'((try(conv=>whnf));first|(refine fD ?_)|(refine fF ?_)|(refine⟨hg,qp hpx ?_⟩)|((apply gLd);first|(refine q0r hR hx rfl ?_))|((apply qJ);first|((refine ixE hR hx ?_ ?_;(first|rfl|omega))))|(refine fB ?_))
   refine⟨i+1,⟨Y6,fun j y hj hy=> ?_⟩,Y6,(eF),(eC)⟩
   by_cases hji:j=i
   ·subst hji;rw[hx] at hy;obtain rfl:=Option.some.inj hy;exact hb
   ·exact hI j y Y6 hy
 ·have hlt':¬(i:Int)<l.length:=Y6
  repeat'((try(conv=>whnf));first|(refine fG ?_))
  refine⟨q0J (vi ?_),(eC)⟩;have:l.findIdx? p=none:=by
   rw[ZF];intro x hx;obtain⟨j,hj⟩:=ZY hx;have:=(z7.1 hj).1;exact hI j x Y6 hj
  unfold ifx;rw[this]
theorem qc2(p:Int→Bool)(l:List Int):decide (0≤ifx p l)=l.any p:=by
 unfold ifx;cases h:l.findIdx? p with
 |none=>
  rw[ZF] at h;have:l.any p=false:=by rw[List.any_eq_false];intro x hx;simp[h x hx]
  rw[this];rfl
 |some i=>
  rw[Zj] at h;obtain⟨hi,hp,_⟩:=h;have:l.any p=true:=yL.2 ⟨l[i],yo hi,hp⟩;rw[this];simp
theorem q7r{g:FuncId}{p:Int→Bool}(hg:okF Tryz.prog g=true)(hp:∀own x,qE Tryz.prog W0 g [.int .i64 x] own (.bool (p x)))(hR:RdE qx 1 W0 own a l)(hl:l.length≤9223372036854775807):
  qE Tryz.prog W0 100 [.slice a l.length cap, .func (.func g) #[] #[]] own (.bool (l.any p)):=by
 refine qg (sH [] ?_);have h:=qd4 (cap:=cap) hg hp hR hl
 repeat'((try(conv=>whnf));first|((apply qe);first|((refine qd (h) ?_))))
 exact⟨q0J (vb (qc2 p l)),(eC)⟩
end
structure EvR(W0:World)(own:Own)(e:EH):Prop where
 r:RdE qx 1 W0 own e.ra e.rl
 w:RdE qx 1 W0 own e.wa e.wl
 rb:e.rl.length≤17592186043904
 wb:e.wl.length≤17592186043904
theorem EvR.rn{W0:World}{own:Own}{e:EH}(h:EvR W0 own e):e.rl.length≤9223372036854775807:=Zl h.rb Y7
theorem EvR.wn{W0:World}{own:Own}{e:EH}(h:EvR W0 own e):e.wl.length≤9223372036854775807:=Zl h.wb Y7
theorem EvR.up{W0:World}{own own':Own}{e:EH}(h:EvR W0 own' e) [m:qv own own']:EvR W0 own e:=⟨h.r.up,h.w.up,h.rb,h.wb⟩
theorem q0C{α:Type}{l:List α}{k:Nat}{x:α}(hx:l[k]? =some x):l.drop k=x::l.drop (k+1):=by
 obtain⟨hk,he⟩:=z7.1 hx;rw[ZE hk,he]
def q2w(l:List EH)(i:Nat):Int:=if i=0 then 0 else(at' l (i-1)).ev
theorem q4A{l:List EH}{i:Nat}{e:EH}(h:l[i]? =some e):q2w l (i+1)=e.ev:=by
 unfold q2w at';rw[if_neg Y6,Nat.add_sub_cancel,zh,h];rfl
theorem q9p{n:Nat}{f:Bool}{pa kd:Int}{e:EH}(h:q17 n f pa kd e=true):0≤e.t∧e.t<n:=by
 unfold q17 at h;simp only[zx,decide_eq_true_eq] at h;exact⟨h.1.1.1.1,h.1.1.1.2.1⟩
theorem q9o{n:Nat}{f:Bool}{pa kd:Int}{e:EH}(h:¬(0≤e.t∧e.t<n)):q17 n f pa kd e=false:=by
 cases hb:q17 n f pa kd e with
 |false=>rfl
 |true=>exact absurd (q9p hb) h
theorem qgv{l:List EH}{i:Nat}{e:EH}(h:l[i]? =some e):at' l i=e:=by
 unfold at';rw[zh,h];rfl
def bgL(l:List EH)(t:Int):Nat→Int
 |0=> -1
 |i+1=>if thr l i=t then i else bgL l t i
theorem qgy(l:List EH)(t:Int):∀i,bgL l t i<i∧ -1≤bgL l t i
 |0=>by simp[bgL]
 |i+1=>by
  have:=qgy l t i;unfold bgL
  split <;>omega
theorem q95{l:List EH}{p i:Nat}(h:qcr l i p):∀j,p<j→j≤i→bgL l (thr l i) j=p
 |0,h1,_=>by omega
 |j+1,h1,h2=>by
  unfold bgL
  by_cases hj:j=p
  ·subst hj;rw[if_pos h.2.1]
  ·rw[if_neg (h.2.2 j Y6 Y6)];exact q95 h j Y6 Y6
theorem qbo{l:List EH}{p i:Nat}(h:qcr l i p):bgL l (thr l i) i=p:=q95 h i h.1 (zu i)
theorem qmd{α:Type}{enc:α→List Value}{sz:Nat}{W0:World}{own own':Own}{l:List α}{b j:Nat}{x:α}{v:Value}{K:Value→Prop}(h:RdE enc sz W0 own' (some ⟨b,0,none⟩) l)(hx:l[j]? =some x) [m:qv own own'](hv:(enc x)[0]? =some v)(hk:K v):Ld W0 own ⟨b,j*sz,none⟩ K:=by
 have:=q0r (own:=own) h hx hv hk;simp only[ab,ao,zD] at this;exact this
theorem qgx{l:List EH}{t:Int}:∀(j p:Nat),bgL l t j=p→p<j∧thr l p=t∧∀q,p<q→q<j→thr l q≠t
 |0,p,h=>by unfold bgL at h;omega
 |j+1,p,h=>by
  unfold bgL at h
  split at h
  ·rename_i ht;have:p=j:=Y6;subst this;exact⟨Y6,ht,fun q a b=>by omega⟩
  ·rename_i hn;obtain⟨a,b,c⟩:=qgx j p h;refine⟨Y6,b,fun q h1 h2=> ?_⟩
   by_cases hq:q=j
   ·subst hq;exact hn
   ·exact c q h1 Y6
theorem qf3{l:List EH}{i p:Nat}:qcr l i p↔bgL l (thr l i) i=p:=⟨qbo,fun h=>qgx i p h⟩
theorem qgz{l:List EH}{n i:Nat}(hw:Wf l n)(hi:i<l.length)(h4:knd l i=4):∃p:Nat,bgL l (thr l i) i=p∧p<i∧knd l p=3∧thr l p=thr l i:=by
 obtain⟨p,hp,h3⟩:=hw.en i hi h4;exact⟨p,qbo hp,hp.1,h3,hp.2.1⟩
noncomputable def hbB(l:List EH)(i j:Nat):Bool:= @decide (HB l i j) (Classical.propDecidable _)
theorem q6h{l:List EH}{i j:Nat}:hbB l i j=true↔HB l i j:=by unfold hbB;exact @decide_eq_true_iff _ (Classical.propDecidable _)
def cfP(a b:EH)(w:Int):Bool:=decide (a.w=w)&&(if b.k=4 then(b.wl.contains w||(decide (a.k=2)&&b.rl.contains w)) else decide (b.w=w)&&(decide (a.k=2)||decide (b.k=2)))
def q71(a b:EH)(w:Int):Bool:= !decide (a.t=b.t)&&(if a.k=4 then !decide (b.k=4)&&cfP b a w else cfP a b w)
abbrev q0a:=Int×Int×Int
abbrev q1I(r:q0a):List Value:= [.int .i64 r.1, .int .i64 r.2.1, .int .i64 r.2.2]
def toP(l:List EH)(y:Nat):Nat:=if knd l y=4 then(bgL l (thr l y) y).toNat else y
noncomputable def rcB(l:List EH)(y:Nat)(w:Int)(x:Nat):Bool:= !decide (knd l x=3)&&(q71 (at' l x) (at' l y) w&& !hbB l x (toP l y))
noncomputable def rcL(l:List EH)(y:Nat)(w:Int)(m:Nat):List q0a:=((List.range m).filter (rcB l y w)).map fun(x:Nat)=>((x:Int),(y:Int),w)
theorem q6u{l:List EH}{y m:Nat}{w:Int}:rcL l y w (m+1)=rcL l y w m++if rcB l y w m=true then [((m:Int),(y:Int),w)] else []:=by
 unfold rcL;rw[ZX,yv,zH]
 congr 1
 cases h:rcB l y w m <;>simp[List.filter,h]
noncomputable def rcW(l:List EH)(y m:Nat):List q0a:=(List.range m).flatMap fun(w:Nat)=>rcL l y w y
theorem q9S{l:List EH}{y m:Nat}:rcW l y (m+1)=rcW l y m++rcL l y m y:=by
 unfold rcW;rw[ZX,yV];simp
noncomputable def rcA(l:List EH)(m:Nat):List q0a:=(List.range m).flatMap fun y=>if knd l y=3 then [] else rcW l y 64
theorem q6t{l:List EH}{m:Nat}:rcA l (m+1)=rcA l m++if knd l m=3 then [] else rcW l m 64:=by
 unfold rcA;rw[ZX,yV];simp
def q6W(b r:q0a):q0a:=if r.2.1=b.2.1∧r.2.2=b.2.2∧b.1<r.1 then r else b
def qk1:List q0a→q0a
 | []=>(-1, -1, -1)
 |r::rs=>rs.foldl q6W r
theorem q78:∀(rs:List q0a) (b:q0a),(∀r∈rs,r.2≠b.2)→rs.foldl q6W b=b
 | [],_,_=>rfl
 |r::rs,b,h=>by
  have h1:q6W b r=b:=by
   unfold q6W;rw[if_neg (fun hh=>h r zm (Prod.ext hh.1 hh.2.1))]
  rw[List.foldl_cons,h1];exact q78 rs b (fun r hr=>h r (zp _ hr))
theorem q9r:∀(rs:List q0a) (b:q0a),(∀r∈rs,r.2=b.2)→(b::rs).Pairwise (fun a b=>a.1<b.1)→rs.foldl q6W b=(rs.getLast?).getD b
 | [],_,_,_=>rfl
 |r::rs,b,h,hp=>by
  have hr:=h r zm;rw[yx] at hp;have h1:q6W b r=r:=by
   unfold q6W;rw[if_pos ⟨by rw[hr],by rw[hr],hp.1 r zm⟩]
  rw[List.foldl_cons,h1,q9r rs r (fun x hx=>(h x (zp _ hx)).trans hr.symm) hp.2];cases rs <;>simp[List.getLast?_cons]
theorem q4l{σ:Type}(key:σ→Int×Int)(g:σ→List q0a)(hk:∀p,∀r∈g p,r.2=key p)(hs:∀p,(g p).Pairwise (fun a b=>a.1<b.1)):
  ∀ps:List σ,ps.Pairwise (fun p q=>key p≠key q)→qk1 (ps.flatMap g)=(ps.findSome? fun p=>(g p).getLast?).getD (-1, -1, -1)
 | [],_=>rfl
 |p::ps,hn=>by
  rw[yx] at hn;rw[yF];cases hg:g p with
  |nil=>
   rw[zi,q4l key g hk hs ps hn.2,yt,hg];rfl
  |cons r rs=>
   have hk':=hk p;rw[hg] at hk';have hs':=hs p;rw[hg] at hs';have hr:=hk' r zm;rw[yt,hg];show(rs++ps.flatMap g).foldl q6W r=_;rw[List.foldl_append,q9r rs r (fun x hx=>(hk' x (zp _ hx)).trans hr.symm) hs'];have e:(r::rs).getLast? =some ((rs.getLast?).getD r):=by rw[List.getLast?_cons]
   rw[e];simp only[Z3];refine q78 _ _ ?_;intro x hx;obtain⟨q,hq,hx⟩:=y7.1 hx;rw[hk q x hx];have:((rs.getLast?).getD r).2=key p:=by
    cases hl:rs.getLast? with
    |none=>exact hr
    |some z=>exact hk' z (zp _ (List.mem_of_getLast? hl))
   rw[this];exact fun e=>hn.1 q hq e.symm
def prs(l:List EH)(m:Nat):List (Nat×Int):=(List.range m).flatMap fun y=>if knd l y=3 then [] else(List.range 64).map fun(w:Nat)=>(y,(w:Int))
noncomputable def q1K(l:List EH):q0a:=((prs l l.length).findSome? fun p=>(rcL l p.1 p.2 p.1).getLast?).getD (-1, -1, -1)
theorem qcw(l:List EH)(m:Nat):rcA l m=(prs l m).flatMap fun p=>rcL l p.1 p.2 p.1:=by
 unfold rcA prs;rw[List.flatMap_assoc]
 congr 1
 funext y
 split
 ·rfl
 ·rw[List.flatMap_map];rfl
theorem qiy{l:List EH}{y m:Nat}{w:Int}:∀r∈rcL l y w m,r.2=((y:Int),w):=by
 intro r hr;unfold rcL at hr;obtain⟨x,_,rfl⟩:=zK.1 hr;rfl
theorem qaF{l:List EH}{y m:Nat}{w:Int}:(rcL l y w m).Pairwise (fun a b=>a.1<b.1):=by
 unfold rcL;rw[List.pairwise_map];refine List.Pairwise.imp ?_ ((yG (n:=m)).filter _);intro a b h
 simpa using h
theorem qct(l:List EH)(m:Nat):(prs l m).Pairwise (fun p q=>((p.1:Int),p.2)≠((q.1:Int),q.2)):=by
 unfold prs;rw[List.pairwise_flatMap];refine⟨fun y _=> ?_,?_⟩
 ·split
  ·exact List.Pairwise.nil
  ·rw[List.pairwise_map];refine List.Pairwise.imp ?_ (yG (n:=64));intro a b h e;simp only[Prod.mk.injEq,true_and] at e;omega
 ·refine List.Pairwise.imp ?_ (yG (n:=m));intro a b h p hp q hq e;have h1:p.1=a:=by
   split at hp
   ·cases hp
   ·obtain⟨_,_,rfl⟩:=zK.1 hp;rfl
  have h2:q.1=b:=by
   split at hq
   ·cases hq
   ·obtain⟨_,_,rfl⟩:=zK.1 hq;rfl
  simp only[Prod.mk.injEq] at e;omega
theorem qec(l:List EH):qk1 (rcA l l.length)=q1K l:=by
 rw[qcw];exact q4l (fun p=>((p.1:Int),p.2)) _ (fun p r hr=>qiy r hr) (fun p=>qaF) _ (qct l _)
def q2e{α:Type}(n:Nat)(g:Nat→α):List α:=(List.range n).map g
section
variable{α:Type}{n j:Nat}{g g':Nat→α}
theorem qP:(q2e n g).length=n:=by simp[q2e]
theorem q0l(hj:j<n):(q2e n g)[j]? =some (g j):=by simp[q2e,hj]
theorem q04(h:∀j,j<n→g j=g' j):q2e n g=q2e n g':=List.map_congr_left fun j hj=>h j (Zd.1 hj)
theorem qf9{v:α}:(q2e n g).set j v=q2e n (fun i=>if i=j then v else g i):=by
 apply Zf;intro i
 by_cases hi:i<n
 ·rw[q0l hi,zv]
  by_cases hij:j=i
  ·subst hij;rw[if_pos rfl,if_pos (by rw[qP];exact hi),if_pos rfl]
  ·rw[if_neg hij,q0l hi,if_neg (Ne.symm hij)]
 ·rw[zX (by rw[zj,qP];omega),zX (by rw[qP];omega)]
theorem q2R{v:α}(h:∀i,i<n→(if i=j then v else g i)=g' i):(q2e n g).set j v=q2e n g':=by
 rw[qf9];exact q04 h
theorem q4d{x:α}:List.replicate n x=q2e n (fun _=>x):=by
 apply Zf;intro i
 by_cases hi:i<n
 ·rw[q0l hi];simp[hi]
 ·rw[zX (by simp;omega),zX (by rw[qP];omega)]
end
def lsE(l:List EH)(t:Int):Nat→Int
 |0=> -1
 |i+1=>if knd l i=4∧thr l i=t then i else lsE l t i
def nxD(l:List EH)(t:Int):Nat→Int
 |0=> -1
 |d+1=>if knd l (l.length-(d+1))=4∧thr l (l.length-(d+1))=t then(l.length-(d+1):Nat) else nxD l t d
def nxE(l:List EH)(t:Int)(i:Nat):Int:=nxD l t (l.length-i)
def edF(l:List EH):Nat→Nat→Int
 |0,_=>0
 |k+1,i=>if knd l k=4∧bgL l (thr l k) k=i then k else if i=k then-1 else edF l k i
theorem q2s{β:Type}{f:Int→List β}:∀(n a:Nat) (t:List Int),t.Pairwise (· < ·)→(∀x∈t,(a:Int)≤x∧x<(a+n:Nat))→(∀w:Nat,a≤w→(w:Int)∉t→f w= [])→(List.range' a n).flatMap (fun(w:Nat)=>f w)=t.flatMap f
 |0,a,t,_,hr,_=>by
  cases t with
  |nil=>rfl
  |cons x t=>have:=hr x zm;omega
 |n+1,a,[],_,_,hf=>by
  rw[List.range'_succ,yF,hf a (zu a) Y8];rw[q2s n (a+1) [] List.Pairwise.nil Y8 (fun w h _=>hf w Y6 Y8)];rfl
 |n+1,a,x::t,hs,hr,hf=>by
  rw[List.range'_succ,yF];have hx:=hr x zm;rw[yx] at hs
  by_cases hxa:x=a
  ·subst hxa;rw[yF,q2s n (a+1) t hs.2 (fun y hy=> ?_) (fun w h hn=>hf w Y6 (fun hm=> ?_))]
   ·have h1:=hs.1 y hy;have h2:=hr y (zp _ hy);omega
   ·rcases zQ.1 hm with h|h
    ·omega
    ·exact hn h
  ·rw[hf a (zu a) (fun hm=> ?_),zi]
   ·refine q2s n (a+1) (x::t) (yx.2 hs) (fun y hy=> ?_) (fun w h hn=>hf w Y6 hn);have h2:=hr y hy
    rcases zQ.1 hy with rfl|h
    ·omega
    ·have:=hs.1 y h;omega
   ·rcases zQ.1 hm with h|h
    ·exact hxa h.symm
    ·have:=hs.1 _ h;omega
def lkL(l:List EH)(t:Int):Nat→Int
 |0=>0
 |i+1=>if thr l i=t then knd l i else lkL l t i
theorem q49{l:List EH}{t:Int}{i:Nat}:lkL l t (i+1)=if thr l i=t then knd l i else lkL l t i:=rfl
theorem q9C{l:List EH}{t k:Int}(hk:k≠0):∀i,lkL l t i=k→∃p,(p<i∧thr l p=t∧∀q,p<q→q<i→thr l q≠t)∧knd l p=k
 |0,h=>absurd h.symm hk
 |i+1,h=>by
  unfold lkL at h
  split at h
  ·rename_i ht;exact⟨i,⟨Y6,ht,fun q h1 h2=>by omega⟩,h⟩
  ·rename_i hn;obtain⟨p,⟨h1,h2,h3⟩,h4⟩:=q9C hk i h;refine⟨p,⟨Y6,h2,fun q h5 h6=> ?_⟩,h4⟩
   by_cases hq:q=i
   ·subst hq;exact hn
   ·exact h3 q h5 Y6
def q3a(l:List EH)(n i:Nat):Bool:=q17 n (i==0) (q2w l i) (lkL l (thr l i) i) (at' l i)
theorem qeT{l:List EH}{n i:Nat}(h:q3a l n i=true):0≤thr l i∧thr l i<n:=q9p h
theorem ql2{l:List EH}{n i:Nat}(h:0≤thr l i∧thr l i<n):(q2e n fun t=>lkL l t i).set (thr l i).toNat (knd l i)=q2e n fun t=>lkL l t (i+1):=by
 refine q2R fun t _=> ?_
 by_cases ht:t=(thr l i).toNat
 ·rw[if_pos ht];unfold lkL;rw[if_pos Y6]
 ·rw[if_neg ht];rw[q49,if_neg Y6]
theorem qby{l:List EH}{n:Nat}:∀d i,d+i=l.length→((qhE n (l.drop i) i (q2w l i) (q2e n fun t=>lkL l t i)).2=0↔ ∀k,i≤k→k<l.length→q3a l n k=true)
 |0,i,h=>by
  rw[List.drop_eq_nil_of_le Y6];exact⟨fun _ k h1 h2=>by omega,fun _=>rfl⟩
 |d+1,i,h=>by
  obtain⟨e,he⟩:∃e,l[i]? =some e:=⟨_,z6 Y6⟩
  rw[q0C he,qhE];have hae:at' l i=e:=qgv he;have hg:q17 n (i==0) (q2w l i) ((q2e n fun t=>lkL l t i).getD e.t.toNat 0) e=q3a l n i:=by
   unfold q3a;rw[hae]
   by_cases ht:0≤e.t∧e.t<n
   ·rw[zh,q0l Y6];simp only[Z3];have:((e.t.toNat:Nat):Int)=thr l i:=by unfold thr;rw[hae];omega
    rw[this]
   ·rw[q9o ht,q9o ht]
  rw[hg];cases hok:q3a l n i with
  |true=>
   simp only[if_true];have hs:=ql2 (qeT hok);unfold thr knd at hs;rw[hae] at hs;rw[hs,←q4A he,qby d (i+1) Y6];constructor
   ·intro hh k h1 h2
    by_cases hk:k=i
    ·subst hk;exact hok
    ·exact hh k Y6 h2
   ·exact fun hh k h1 h2=>hh k Y6 h2
  |false=>
   simp only[zO,if_false];constructor
   ·intro hh;exact absurd hh Y8
   ·intro hh;have:=hh i (zu i) Y6;rw[hok] at this;cases this
def WF0(l:List EH)(n:Nat):Prop:=1≤n∧n≤16∧l.length≤65536∧∀k,k<l.length→q3a l n k=true
theorem qbz{l:List EH}{n:Int}:(q9b l n).2=0↔0≤n∧WF0 l n.toNat:=by
 unfold q9b WF0
 split
 ·constructor
  ·intro h;simp at h
  ·intro h;omega
 ·split
  ·constructor
   ·intro h;simp at h
   ·intro h;omega
  ·have:=qby (l:=l) (n:=n.toNat) l.length 0 Y6;rw[List.drop_zero] at this;have e:q2w l 0=0:=rfl;have e2:(q2e n.toNat fun t=>lkL l t 0)=List.replicate n.toNat 0:=q4d.symm;rw[e,e2] at this;rw[this];constructor
   ·intro h;exact⟨Y6,Y6,Y6,Y6,fun k hk=>h k Y6 hk⟩
   ·intro h k _ hk;exact h.2.2.2.2 k hk
theorem WF0.wf{l:List EH}{n:Nat}(h:WF0 l n):Wf l n:=by
 have key:∀i,i<l.length→q3a l n i=true:=h.2.2.2
 refine⟨fun i hi=> ?_,fun i hi h4=> ?_,fun i hi h4=> ?_⟩
 ·have:=key i hi;unfold q3a q17 at this;simp only[zx,decide_eq_true_eq] at this;obtain⟨⟨⟨h1,h2⟩,h3⟩,_⟩:=this;exact⟨h1.2.2.1,h1.2.2.2.1,h1.1,h1.2.1,decide_eq_true h1.2.2.2.2.2,h2,h3⟩
 ·have:=key i hi;unfold q3a q17 at this;rw[if_pos h4] at this;simp only[zx,decide_eq_true_eq] at this;exact q9C Y6 i this.2
 ·have:=key i hi;unfold q3a q17 at this;rw[if_neg h4] at this;simp only[zx,decide_eq_true_eq] at this;exact this.2
theorem q1v{l r:List EH}{i:Nat}(h:i<l.length):at' (l++r) i=at' l i:=by
 unfold at';rw[zh,zh,zy h]
theorem q13{l:List EH}{e:EH}:at' (l++ [e]) l.length=e:=qgv Y8
theorem q08{l r:List EH}{i:Nat}(h:i<l.length):thr (l++r) i=thr l i:=by unfold thr;rw[q1v h]
theorem qU{l r:List EH}{i:Nat}(h:i<l.length):knd (l++r) i=knd l i:=by unfold knd;rw[q1v h]
theorem q6n{l r:List EH}{t:Int}:∀i,i≤l.length→lkL (l++r) t i=lkL l t i
 |0,_=>rfl
 |i+1,h=>by rw[q49,q49,q08 Y6,qU Y6,q6n i Y6]
theorem q9O{l r:List EH}{i:Nat}(h:i≤l.length):q2w (l++r) i=q2w l i:=by
 unfold q2w
 split
 ·rfl
 ·rw[q1v Y6]
theorem q9I{l r:List EH}{n i:Nat}(h:i<l.length):q3a (l++r) n i=q3a l n i:=by
 unfold q3a;rw[q9O Y6,q08 h,q6n i Y6,q1v h]
theorem q9J{l:List EH}{e:EH}{n:Nat}:q3a (l++ [e]) n l.length=q17 n (l.length==0) (q2w l l.length) (lkL l e.t l.length) e:=by
 unfold q3a;have ht:thr (l++ [e]) l.length=e.t:=by unfold thr;rw[q13]
 rw[q9O (zu _),ht,q6n _ (zu _),q13]
theorem qc9{l:List EH}{e:EH}{t:Int}:lkL (l++ [e]) t (l.length+1)=if e.t=t then e.k else lkL l t l.length:=by
 have ht:thr (l++ [e]) l.length=e.t:=by unfold thr;rw[q13]
 have hk:knd (l++ [e]) l.length=e.k:=by unfold knd;rw[q13]
 rw[q49,ht,hk,q6n _ (zu _)]
theorem qeY{l:List EH}{e:EH}:q2w (l++ [e]) (l.length+1)=e.ev:=q4A Y8
theorem WF0.snoc{l:List EH}{e:EH}{n:Nat}(h:WF0 l n)(hl:l.length+1≤65536)(hf:q17 n (l.length==0) (q2w l l.length) (lkL l e.t l.length) e=true):WF0 (l++ [e]) n:=by
 refine⟨h.1,h.2.1,by simpa using hl,fun k hk=> ?_⟩;simp only[z8,zG,zM] at hk
 by_cases hkl:k<l.length
 ·rw[q9I hkl];exact h.2.2.2 k hkl
 ·obtain rfl:k=l.length:=Y6;rw[q9J];exact hf
theorem WF0.nil{n:Nat}(h1:1≤n)(h2:n≤16):WF0 [] n:=⟨h1,h2,Y8,fun k hk=>by simp at hk⟩
structure TrB where
 bs:Nat
 b1:Nat
 b2:Nat
 b3:Nat
 b4:Nat
def qnE(l:List EH)(i:Nat):Int:=if knd l i=4 then bgL l (thr l i) i else-1
def nxG(l:List EH)(i:Nat):Int:=nxE l (thr l i) i
def lsG(l:List EH)(i:Nat):Int:=lsE l (thr l i) i
structure TrM(W0:World)(own:Own)(l:List EH)(a:Option Addr)(cap:Nat)(s:TrB):Prop where
 c0:Cl W0 own s.bs 0 (.slice a l.length cap)
 c1:Cl W0 own s.bs 1 (.slice (some ⟨s.b1,0,none⟩) l.length l.length)
 c2:Cl W0 own s.bs 2 (.slice (some ⟨s.b2,0,none⟩) l.length l.length)
 c3:Cl W0 own s.bs 3 (.slice (some ⟨s.b3,0,none⟩) l.length l.length)
 c4:Cl W0 own s.bs 4 (.slice (some ⟨s.b4,0,none⟩) l.length l.length)
 r1:RdE qx 1 W0 own (some ⟨s.b1,0,none⟩) (q2e l.length (qnE l))
 r2:RdE qx 1 W0 own (some ⟨s.b2,0,none⟩) (q2e l.length (edF l l.length))
 r3:RdE qx 1 W0 own (some ⟨s.b3,0,none⟩) (q2e l.length (nxG l))
 r4:RdE qx 1 W0 own (some ⟨s.b4,0,none⟩) (q2e l.length (lsG l))
theorem TrM.up{W0:World}{own own':Own}{l:List EH}{a:Option Addr}{cap:Nat}{s:TrB}(h:TrM W0 own' l a cap s) [m:qv own own']:TrM W0 own l a cap s:=
 ⟨h.c0.ent (m.h W0),h.c1.ent (m.h W0),h.c2.ent (m.h W0),h.c3.ent (m.h W0),h.c4.ent (m.h W0),h.r1.up,h.r2.up,h.r3.up,h.r4.up⟩
section
variable{W0:World}{own:Own}{a:Option Addr}{cap:Nat}{l:List EH}{s:TrB}
theorem q6A{a:Option Addr}{l:List Int}{cap:Nat}(hR:RdE qx 1 W0 own a l)(hl:l.length≤9223372036854775807)(v:Int):
  qE Tryz.prog W0 106 [.slice a l.length cap, .int .i64 v] own (.int .i64 (ifx (fun x=>x==v) l)):=by
 refine qg (sH [] ?_);refine q1O (σ:=Nat) (fun i=> [(8, .int .i64 i)]) (fun i=>i≤l.length∧∀j x,j<i→l[j]? =some x→(x==v)=false) (fun i=>l.length-i) 0 ⟨Y6,fun j x h=>by omega⟩ (eF) rfl ?_;rintro i junk ⟨hi,hI⟩
 by_cases hlt:i<l.length
 ·obtain⟨x,hx⟩:∃x,l[i]? =some x:=⟨_,z6 hlt⟩
  have hlt':(i:Int)<l.length:=Y6
  by_cases hxv:v=x
  ·repeat'((try(conv=>whnf));first|(refine fF ?_)|((apply gLd);first|(refine q0r hR hx rfl ?_))|((apply qJ);first|((refine ixE hR hx ?_ ?_;(first|rfl|omega)))))
   refine⟨q0J (vi ?_),(eC)⟩;have:l.findIdx? (fun x=>x==v)=some i:=by
    rw[Zj];have hx2:=(z7.1 hx).2;refine⟨hlt,by rw[hx2,hxv];simp,fun j hj=> ?_⟩;have:=hI j (l[j]' Y6) hj (z6 Y6)
    simpa using this
   unfold ifx;rw[this]
  ·repeat'((try(conv=>whnf));first|(refine fF ?_)|(refine fG ?_)|((apply gLd);first|(refine q0r hR hx rfl ?_))|((apply qJ);first|((refine ixE hR hx ?_ ?_;(first|rfl|omega))))|(refine fB ?_))
   refine⟨i+1,⟨Y6,fun j y hj hy=> ?_⟩,Y6,(eF),(eC)⟩
   by_cases hji:j=i
   ·subst hji;rw[hx] at hy;obtain rfl:=Option.some.inj hy
    simpa using Ne.symm hxv
   ·exact hI j y Y6 hy
 ·have hlt':¬(i:Int)<l.length:=Y6
  repeat'((try(conv=>whnf));first|(refine fG ?_))
  refine⟨q0J (vi ?_),(eC)⟩;have:l.findIdx? (fun x=>x==v)=none:=by
   rw[ZF];intro x hx;obtain⟨j,hj⟩:=ZY hx;have:=(z7.1 hj).1;exact hI j x Y6 hj
  unfold ifx;rw[this]
theorem q6S(l:List Int)(v:Int):l.any (fun x=>x==v)=l.contains v:=by
 rw[Bool.eq_iff_iff,yL,ZU];constructor
 ·rintro⟨x,hx,h⟩;rw[←eq_of_beq h];exact hx
 ·intro h;exact⟨v,h,Y8⟩
theorem q2T{a:Option Addr}{l:List Int}{cap:Nat}(hR:RdE qx 1 W0 own a l)(hl:l.length≤9223372036854775807)(v:Int):
  qE Tryz.prog W0 74 [.slice a l.length cap, .int .i64 v] own (.bool (l.contains v)):=by
 refine qg (sH [] ?_);have h:=q6A (cap:=cap) hR hl v
 repeat'((try(conv=>whnf));first|((apply qe);first|((refine qd (h) ?_))))
 exact⟨q0J (vb ((qc2 _ l).trans (q6S l v))),(eC)⟩
end
structure MkR(W0:World)(X:Own)(n:Nat)(L:List EH):Prop where
 wf:WF0 L n
 ev:∀e∈L,EvR W0 X e
 cp:∀e∈L,e.rc=e.rl.length∧e.wc=e.wl.length∧e.rl.length≤1∧e.wl.length≤1
theorem MkR.snoc{W0:World}{X:Own}{n:Nat}{L:List EH}{e:EH}(h:MkR W0 X n L)(he:EvR W0 X e)(hl:L.length+1≤65536)(hf:q17 n (L.length==0) (q2w L L.length) (lkL L e.t L.length) e=true)(hc:e.rc=e.rl.length∧e.wc=e.wl.length∧e.rl.length≤1∧e.wl.length≤1):MkR W0 X n (L++ [e]):=
 ⟨h.wf.snoc hl hf,fun x hx=>(zz.1 hx).elim (h.ev x) (fun hx=>by rw[zf.1 hx];exact he),fun x hx=>(zz.1 hx).elim (h.cp x) (fun hx=>by rw[zf.1 hx];exact hc)⟩
theorem MkR.next{W0:World}{X X':Own}{n:Nat}{L:List EH}{e:EH}(h:MkR W0 X n L) [qv X' X](he:EvR W0 X' e)(hl:L.length+1≤65536)(hf:q17 n (L.length==0) (q2w L L.length) (lkL L e.t L.length) e=true)(hc:e.rc=e.rl.length∧e.wc=e.wl.length∧e.rl.length≤1∧e.wl.length≤1:=by exact⟨rfl,rfl,Y8,Y8⟩):MkR W0 X' n (L++ [e]):=
 MkR.snoc ⟨h.wf,fun e he=>(h.ev e he).up,h.cp⟩ he hl hf hc
noncomputable def frR(l:List EH)(n:Int):q0a:=if(q9b l n).2=0 then q1K l else(-1, -1, -1)
end Ord
end Go.Proofs.YtbhbldllneadeaaGreatDoor
