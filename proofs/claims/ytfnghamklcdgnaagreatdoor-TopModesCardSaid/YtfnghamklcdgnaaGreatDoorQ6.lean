/- What the laws share, part 6. No condition. -/
import Derived.Test.YtfnghamklcdgnaaGreatDoorRows
import Derived.Test.YtfnghamklcdgnaaGreatDoorQ5
set_option maxHeartbeats 4000000
set_option maxRecDepth 100000
namespace Go.Proofs.YtfnghamklcdgnaaGreatDoor
open Go
abbrev j4(x:Int):Value:= .int .i64 x
theorem qfO:Tryz.prog.follows .mixedOrders=true:=by kernel_rfl
def qhU:jh:= [7,8,12,14,17,18,19,21,22,24,25,26,28,29,30,31,32,33,35,36,40,42,43,45,46,47,53,57,58,60,61,62,63,66,67,68,69,74,75,76,77,79,80,81,88,89,90,91,92,94,95,99,108,110,112,115,116,117,118,119,120,121,123,124,125,126,127,128,133,134,135,139,158,159,161,163,165,166,167,168,169,170,171,172,173,174,175,177,178,179,180,182,183,184,186,187,188,190,191,193,194,196,197,198,199,200,201,202,204,205,206,222,227,229,231,234,235,238,241,243,244,246,247,250,252,253,254,255,258,259,263,264,265,266,268,269,270,271,272,273,274,275,276,278,279,280,281,282,283,296,297,299]
def qox(cs:jh):Option IFn->Option IFn
 |some f=>some ⟨f.n,qfu cs f.body,f.res⟩
 |none=>none
def qif:Option IFn->Option IFn
 |some f=>some ⟨f.n,q19 f.body,f.res⟩
 |none=>none
def jo:Nat->Nat->List Nat->List Nat
 |0,_,l=>l
 |n+1,a,l=>a::jo n (a+2) l
section
variable{W0:World}{own:Own}{k:Nat}{args:je}{R:Value->Own->Prop}{n:Nat}{b:IC}{r:List qil}
theorem sC(cs c:jh)(h:XS Tryz.prog W0 b (qnm W0 r R) (qd8 args) own)(e:qox cs (qaj Tryz.prog k c)=some ⟨n,b,r⟩:=by
  conv=>lhs;reduce;(try simp only[Int.reduceOfNat,Int.reduceNegSucc])) (d:qfL Tryz.prog qhU k=qif (qox cs (qaj Tryz.prog k c)):=by kernel_rfl) (f:args.length<=n:=by exact Nat.le_of_ble_eq_true rfl):qu Tryz.prog W0 k args own R:=
 qeL (fn:=⟨n,b,r⟩) qfO (by rw[d,e];rfl) f h
theorem sH(c:jh)(h:XS Tryz.prog W0 b (qnm W0 r R) (qd8 args) own)(e:qaj Tryz.prog k c=some ⟨n,b,r⟩:=by
  conv=>lhs;reduce;(try simp only[Int.reduceOfNat,Int.reduceNegSucc])) (d:qfL Tryz.prog qhU k=qif (qaj Tryz.prog k c):=by kernel_rfl) (f:args.length<=n:=by exact Nat.le_of_ble_eq_true rfl):qu Tryz.prog W0 k args own R:=
 qeL (fn:=⟨n,b,r⟩) qfO (by rw[d,e];rfl) f h
end
namespace Ord
open Go
abbrev qw(n:Int):je:= [j4 n]
section
variable{W0:World}{own:Own}{a:j8}{cap:Nat}{l:jd}
def ifx(p:Int->Bool)(l:jd):Int:=match l.findIdx? p with
 |some i=>i
 |none=> -1
theorem qea{g:FuncId}{p:Int->Bool}(v:okF Tryz.prog g=true)(w:∀own x,qD Tryz.prog W0 g [j4 x] own (.bool (p x)))(o:RdE qw 1 W0 own a l)(hl:l.length<=9223372036854775807):
  qD Tryz.prog W0 142 [.slice a l.length cap, .func (.func g) #[] #[]] own (j4 (ifx p l)):=by
 refine qi (sH [] ?_);refine q1C (σ:=Nat) (fun i=> [(8,j4 i)]) (fun i=>i<=l.length/\∀j x,j<i->l[j]? =some x->p x=false) (fun i=>l.length-i) 0 ⟨Yb,fun j x h=>by omega⟩ (eF) rfl ?_;rintro i junk ⟨hi,q⟩
 by_cases f:i<l.length
 ·obtain⟨x,d⟩:∃x,l[i]? =some x:=⟨_,z6 f⟩
  have m:(i:Int)<l.length:=Yb;have c:=w own x;cases hb:p x with
  |true=>
   rw[hb] at c
   repeat'((try conv=>whnf);first|refine fE ?_|refine fF ?_|refine⟨v,qp c ?_⟩|apply gLd;refine q0n o d rfl ?_|(apply qL;first|refine ixE o d ?_ ?_;(first|rfl|omega)))
   refine⟨q0s (vi ?_),(eC)⟩;have:l.findIdx? p=some i:=by
    rw[Zv];have t:=(z7.1 d).2;refine⟨f,by rw[t];exact hb,fun j e=>?_⟩;have:=q j (l[j]' Yb) e (z6 Yb);simp[this]
   unfold ifx;rw[this]
  |false=>
   rw[hb] at c
   repeat'((try conv=>whnf);first|refine fD ?_|refine fF ?_|refine⟨v,qp c ?_⟩|apply gLd;refine q0n o d rfl ?_|(apply qL;first|refine ixE o d ?_ ?_;(first|rfl|omega))|refine fB ?_)
   refine⟨i+1,⟨Yb,fun j y e u=>?_⟩,Yb,(eF),(eC)⟩
   by_cases s:j=i
   ·subst s;rw[d] at u;obtain rfl:=Option.some.inj u;exact hb
   ·exact q j y Yb u
 ·have m:¬(i:Int)<l.length:=Yb
  repeat'((try conv=>whnf);first|refine fG ?_)
  refine⟨q0s (vi ?_),(eC)⟩;have:l.findIdx? p=none:=by
   rw[ZQ];intro x d;obtain⟨j,e⟩:=yA d;have:=(z7.1 e).1;exact q j x Yb e
  unfold ifx;rw[this]
theorem qd5(p:Int->Bool)(l:jd):decide (0<=ifx p l)=l.any p:=by
 unfold ifx;cases h:l.findIdx? p with
 |none=>
  rw[ZQ] at h;have:l.any p=false:=by rw[List.any_eq_false];intro x d;simp[h x d]
  rw[this];rfl
 |some i=>
  rw[Zv] at h;obtain⟨hi,c,_⟩:=h;have:l.any p=true:=yW.2 ⟨l[i],ZW hi,c⟩;rw[this];simp
theorem q7Z{g:FuncId}{p:Int->Bool}(d:okF Tryz.prog g=true)(f:∀own x,qD Tryz.prog W0 g [j4 x] own (.bool (p x)))(c:RdE qw 1 W0 own a l)(e:l.length<=9223372036854775807):
  qD Tryz.prog W0 97 [.slice a l.length cap, .func (.func g) #[] #[]] own (.bool (l.any p)):=by
 refine qi (sH [] ?_);have h:=qea (cap:=cap) d f c e
 repeat'((try conv=>whnf);first|apply qe;refine qd (h) ?_)
 exact⟨q0s (vb (qd5 p l)),(eC)⟩
end
structure EvR(W0:World)(own:Own)(e:EH):Prop where
 r:RdE qw 1 W0 own e.ra e.rl
 w:RdE qw 1 W0 own e.wa e.wl
 rb:e.rl.length<=17592186043904
 wb:e.wl.length<=17592186043904
theorem EvR.rn{W0:World}{own:Own}{e:EH}(h:EvR W0 own e):e.rl.length<=9223372036854775807:=Zq h.rb Yc
theorem EvR.wn{W0:World}{own:Own}{e:EH}(h:EvR W0 own e):e.wl.length<=9223372036854775807:=Zq h.wb Yc
theorem EvR.up{W0:World}{own own':Own}{e:EH}(h:EvR W0 own' e) [m:qx own own']:EvR W0 own e:=⟨h.r.up,h.w.up,h.rb,h.wb⟩
abbrev q4O:=Int×Int×Int
abbrev q8Q(r:q4O):je:= [j4 r.1,j4 r.2.1,j4 r.2.2]
def q9b{α:Type}(n:Nat)(g:Nat->α):List α:=(List.range n).map g
section
variable{α:Type}{n j:Nat}{g g':Nat->α}
theorem q28:(q9b n g).length=n:=by simp[q9b]
theorem q4G(c:j<n):(q9b n g)[j]? =some (g j):=by simp[q9b,c]
theorem qbq(h:∀j,j<n->g j=g' j):q9b n g=q9b n g':=Y5 fun j c=>h j (ZY.1 c)
end
section
variable{W0:World}{own:Own}{a:j8}{cap:Nat}{l:List EH}
theorem q77{a:j8}{l:jd}{cap:Nat}(o:RdE qw 1 W0 own a l)(hl:l.length<=9223372036854775807)(v:Int):
  qD Tryz.prog W0 103 [.slice a l.length cap,j4 v] own (j4 (ifx (fun x=>x==v) l)):=by
 refine qi (sH [] ?_);refine q1C (σ:=Nat) (fun i=> [(8,j4 i)]) (fun i=>i<=l.length/\∀j x,j<i->l[j]? =some x->(x==v)=false) (fun i=>l.length-i) 0 ⟨Yb,fun j x h=>by omega⟩ (eF) rfl ?_;rintro i junk ⟨hi,p⟩
 by_cases e:i<l.length
 ·obtain⟨x,c⟩:∃x,l[i]? =some x:=⟨_,z6 e⟩
  have f:(i:Int)<l.length:=Yb
  by_cases m:v=x
  ·repeat'((try conv=>whnf);first|refine fF ?_|apply gLd;refine q0n o c rfl ?_|(apply qL;first|refine ixE o c ?_ ?_;(first|rfl|omega)))
   refine⟨q0s (vi ?_),(eC)⟩;have:l.findIdx? (fun x=>x==v)=some i:=by
    rw[Zv];have s:=(z7.1 c).2;refine⟨e,by rw[s,m];simp,fun j d=>?_⟩;have:=p j (l[j]' Yb) d (z6 Yb)
    simpa using this
   unfold ifx;rw[this]
  ·repeat'((try conv=>whnf);first|refine fF ?_|refine fG ?_|apply gLd;refine q0n o c rfl ?_|(apply qL;first|refine ixE o c ?_ ?_;(first|rfl|omega))|refine fB ?_)
   refine⟨i+1,⟨Yb,fun j y d t=>?_⟩,Yb,(eF),(eC)⟩
   by_cases q:j=i
   ·subst q;rw[c] at t;obtain rfl:=Option.some.inj t
    simpa using Ne.symm m
   ·exact p j y Yb t
 ·have f:¬(i:Int)<l.length:=Yb
  repeat'((try conv=>whnf);first|refine fG ?_)
  refine⟨q0s (vi ?_),(eC)⟩;have:l.findIdx? (fun x=>x==v)=none:=by
   rw[ZQ];intro x c;obtain⟨j,d⟩:=yA c;have:=(z7.1 d).1;exact p j x Yb d
  unfold ifx;rw[this]
theorem q7n(l:jd)(v:Int):l.any (fun x=>x==v)=l.contains v:=by
 rw[Bool.eq_iff_iff,yW,List.contains_iff_mem];constructor
 ·rintro⟨x,c,h⟩;rw[<-eq_of_beq h];exact c
 ·intro h;exact⟨v,h,Yd⟩
theorem q3g{a:j8}{l:jd}{cap:Nat}(c:RdE qw 1 W0 own a l)(d:l.length<=9223372036854775807)(v:Int):
  qD Tryz.prog W0 70 [.slice a l.length cap,j4 v] own (.bool (l.contains v)):=by
 refine qi (sH [] ?_);have h:=q77 (cap:=cap) c d v
 repeat'((try conv=>whnf);first|apply qe;refine qd (h) ?_)
 exact⟨q0s (vb ((qd5 _ l).trans (q7n l v))),(eC)⟩
end
end Ord
end Go.Proofs.YtfnghamklcdgnaaGreatDoor
