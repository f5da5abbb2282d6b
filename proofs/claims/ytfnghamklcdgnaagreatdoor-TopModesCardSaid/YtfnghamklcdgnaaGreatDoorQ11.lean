/- What the laws share, part 11. No condition. -/
import Derived.Laws.FloatBits
import Derived.Test.YtfnghamklcdgnaaGreatDoorQ10
set_option maxHeartbeats 4000000
set_option maxRecDepth 10000
namespace Go.Proofs.YtfnghamklcdgnaaGreatDoor
open Go
abbrev j6:Value:= .slice none 0 0
theorem q0l(e:Int):okU (qV e):=by
 unfold qV IntKind.wrap;have d:((2:Int) ^ IntKind.u64.bits)=18446744073709551616:=rfl;simp only[d,IntKind.signed,yS,zV,if_false,okU];omega
theorem q3P{e:Int}(h:okU e):qV e=e:=q4M h.1 h.2
theorem q2N(b:Bool):okU (Alu.truthM b):=by unfold Alu.truthM okU;split <;>omega
theorem qan:okU Alu.nanW:=by unfold Alu.nanW okU;omega
theorem q6Y{x:Nat}(h:x<18446744073709551616):okU (Alu.plainM x):=by
 unfold Alu.plainM
 split
 ·exact qan
 ·unfold okU;omega
theorem qhD(d:Ieee.Datum):FloatKind.f64.encode d<18446744073709551616:=by
 have:=Ieee.Format.write_lt Ieee.double d;have e:(2:Nat) ^ Ieee.double.width=18446744073709551616:=by decide+kernel
 rw[e] at this;exact this
theorem qdw{neg:Bool}{a b:Nat}(ha:a<18446744073709551616)(hb:b<18446744073709551616):q5f neg a b<18446744073709551616:=by
 unfold q5f
 (repeat' split) <;>first|exact qhD _|omega
theorem qa3(op:BinOp)(a b:Nat):okU (Alu.fopM op a b):=by
 unfold Alu.fopM
 split
 ·rename_i r d;exact q6Y (Alu.fb_lt d)
 ·exact qan
theorem qmv{x:Int}(d:okU x)(n:Nat):okU (x.fdiv (2 ^ n)):=by
 have e:(0:Int)<2 ^ n:=Int.pow_pos Yc;have f:=Int.fdiv_nonneg d.1 (Int.le_of_lt e);have g:x.fdiv (2 ^ n)<=x:=by
  rw[Int.fdiv_eq_ediv_of_nonneg _ (Int.le_of_lt e)];exact Int.ediv_le_self _ d.1
 exact⟨f,Int.le_trans g d.2⟩
theorem q0u{p:Prop} [Decidable p]{a b:Int}(ha:okU a)(hb:okU b):okU (if p then a else b):=by
 split <;>assumption
theorem qjc{fn x y:Int}(d:okU x):okU (Alu.intsM fn x y):=
 q0u (q0l _) (q0u (q0l _) (q0u (q0l _) (q0u (q0l _) (q0u (q0l _) (q0u (q0l _) (q0u (q0l _) (q0u (qmv d _) (q0u (q2N _) (q0u (q2N _) (q0u (q2N _) (q2N _)))))))))))
theorem qcS{fn:Int}{a b:Nat}(d:a<18446744073709551616)(hb:b<18446744073709551616):okU (Alu.floatsM fn a b):=
 q0u (qa3 _ _ _) (q0u (qa3 _ _ _) (q0u (qa3 _ _ _) (q0u (qa3 _ _ _) (q0u (q0u qan (q6Y (qdw d hb))) (q0u (q0u qan (q6Y (qdw d hb))) (q0u (q2N _) (q2N _)))))))
theorem qjn(n:Int):okU (FloatKind.f64.nearest n:Int):=by
 have:=qhD (.number (decide (n<0)) n.natAbs 0);have e:FloatKind.f64.nearest n=FloatKind.f64.encode (.number (decide (n<0)) n.natAbs 0):=rfl;rw[e];generalize FloatKind.f64.encode (.number (decide (n<0)) n.natAbs 0)=z at*;unfold okU;omega
theorem qcm{fn x y:Int}(f:okU x)(g:okU y):okU (Alu.applyW fn x y):=by
 have d:x.toNat<18446744073709551616:=by unfold okU at f;omega
 have e:y.toNat<18446744073709551616:=by unfold okU at g;omega
 exact q0u (q0u (qjn _) (q0u (q0l _) (q0u (qcS d e) (qjc f)))) ⟨Yc,Yc⟩
def Rg.ok(r:Rg):Prop:=∀k,okU (r.get k)
theorem Rg.ok_set{r:Rg}{k:Nat}{v:Int}(h:r.ok)(e:okU v):(r.set k v).ok:=fun j=>by
 by_cases d:k<8
 ·rw[Rg.get_set d]
  split
  ·exact e
  ·exact h j
 ·obtain⟨m,rfl⟩:∃m,k=m+8:=⟨k-8,Yb⟩
  exact h j
theorem Rg.ok_0:(⟨0,0,0,0,0,0,0,0⟩:Rg).ok:=fun k=>by
 by_cases d:k<8
 ·rcases lt8 d with rfl|rfl|rfl|rfl|rfl|rfl|rfl|rfl <;>exact⟨Yc,Yc⟩
 ·obtain⟨m,rfl⟩:∃m,k=m+8:=⟨k-8,Yb⟩
  exact(show okU 0 from ⟨Yc,Yc⟩)
theorem q91{t:Thr}{x:Ins}(h:t.rg.ok):(q4C t x).ok:=by
 unfold q4C
 (repeat' split) <;>first|exact Rg.ok_set h (q0l _)|exact Rg.ok_set h (h _)|exact Rg.ok_set h (qcm (h _) (h _))|exact h
abbrev q06(n:Int):je:= [j5 n]
section
variable{P:Program}{W0:World}{own D:Own}{C:Own->Own}{k k0:FuncId}{args args0:je}
theorem qG{R:Value->Prop}{O:Own}(h:qu P W0 k args own fun v own'=>R v/\Ent W0 own' O):qu P W0 k args own fun v own'=>∃_:Unit,R v/\Ent W0 own' O:=fun w hw=>
 (h w hw).mono fun _ _ ⟨v,o,a,b,c,d⟩=>⟨v,o,a,b,(),c,d⟩
end
section
variable{W0:World}{own:Own}
theorem qW{a:j8}{l:jd}{cap:Nat}(e:RdE q06 1 W0 own a l)(hl:l.length<=1000000000):
  jk W0 57 [.slice a l.length cap] own fun v own'=>∃s:j8×Nat×Own,(v= .slice s.1 l.length s.2.1/\qq q06 45 1 s.1 s.2.1 l s.2.2)/\Ent W0 own' (s.2.2++own):=by
 refine sH [] ?_;cases a with
 |none=>
  have f:l= []:=by
   by_cases h:l= []
   ·exact h
   ·have:=e.isS h;cases this
  subst f
  repeat'((try conv=>whnf);first|refine fE ?_)
  exact⟨(none,0,[]),⟨rfl,qq.nil⟩,(eC)⟩
 |some a=>
  repeat'((try conv=>whnf);first|refine fD ?_|refine q6C (enc:=q06) (l:= []) (l2:=l) qq.nil (At.head (D:= []) (r:=_)) e.up rfl rfl Yb (fun _ _=>rfl) (fun _=>by simp;omega) fun a1 c1 D1 d=>?_;rw[zE,zy l.length];apply Stop.h|refine qg fun bk hbk=>?_)
  refine Stop.mk ?_;rw[zj] at d;exact⟨(a1,c1,D1),⟨rfl,d⟩,Ent.of_sub ((zT _ own).append_left D1)⟩
theorem qR{a:j8}{l:jd}{cap:Nat}(e:RdE qw 1 W0 own a l)(hl:l.length<=1000000000):
  jk W0 36 [.slice a l.length cap] own fun v own'=>∃s:j8×Nat×Own,(v= .slice s.1 l.length s.2.1/\qq qw 3 1 s.1 s.2.1 l s.2.2)/\Ent W0 own' (s.2.2++own):=by
 refine sH [] ?_;cases a with
 |none=>
  have f:l= []:=by
   by_cases h:l= []
   ·exact h
   ·have:=e.isS h;cases this
  subst f
  repeat'((try conv=>whnf);first|refine fE ?_)
  exact⟨(none,0,[]),⟨rfl,qq.nil⟩,(eC)⟩
 |some a=>
  repeat'((try conv=>whnf);first|refine fD ?_|refine q6C (enc:=qw) (l:= []) (l2:=l) qq.nil (At.head (D:= []) (r:=_)) e.up rfl rfl Yb (fun _ _=>rfl) (fun _=>by simp;omega) fun a1 c1 D1 d=>?_;rw[zE,zy l.length];apply Stop.h|refine qg fun bk hbk=>?_)
  refine Stop.mk ?_;rw[zj] at d;exact⟨(a1,c1,D1),⟨rfl,d⟩,Ent.of_sub ((zT _ own).append_left D1)⟩
theorem q5o{a:j8}{l:List Thr}{cap:Nat}(e:RdE Thr.enc 11 W0 own a l)(hl:l.length<=1000000000):
  jk W0 62 [.slice a l.length cap] own fun v own'=>∃s:j8×Nat×Own,(v= .slice s.1 l.length s.2.1/\qq Thr.enc 88 11 s.1 s.2.1 l s.2.2)/\Ent W0 own' (s.2.2++own):=by
 refine sH [] ?_;cases a with
 |none=>
  have f:l= []:=by
   by_cases h:l= []
   ·exact h
   ·have:=e.isS h;cases this
  subst f
  repeat'((try conv=>whnf);first|refine fE ?_)
  exact⟨(none,0,[]),⟨rfl,qq.nil⟩,(eC)⟩
 |some a=>
  repeat'((try conv=>whnf);first|refine fD ?_|refine q6C (enc:=Thr.enc) (l:= []) (l2:=l) qq.nil (At.head (D:= []) (r:=_)) e.up rfl rfl Yb (fun _ _=>rfl) (fun _=>by simp;omega) fun a1 c1 D1 d=>?_;rw[zE,zy l.length];apply Stop.h|refine qg fun bk hbk=>?_)
  refine Stop.mk ?_;rw[zj] at d;exact⟨(a1,c1,D1),⟨rfl,d⟩,Ent.of_sub ((zT _ own).append_left D1)⟩
theorem q4n{a:j8}{l:List ObM}{cap:Nat}(e:RdE ObM.enc 3 W0 own a l)(hl:l.length<=1000000000):
  jk W0 63 [.slice a l.length cap] own fun v own'=>∃s:j8×Nat×Own,(v= .slice s.1 l.length s.2.1/\qq ObM.enc 77 3 s.1 s.2.1 l s.2.2)/\Ent W0 own' (s.2.2++own):=by
 refine sH [] ?_;cases a with
 |none=>
  have f:l= []:=by
   by_cases h:l= []
   ·exact h
   ·have:=e.isS h;cases this
  subst f
  repeat'((try conv=>whnf);first|refine fE ?_)
  exact⟨(none,0,[]),⟨rfl,qq.nil⟩,(eC)⟩
 |some a=>
  repeat'((try conv=>whnf);first|refine fD ?_|refine q6C (enc:=ObM.enc) (l:= []) (l2:=l) qq.nil (At.head (D:= []) (r:=_)) e.up rfl rfl Yb (fun _ _=>rfl) (fun _=>by simp;omega) fun a1 c1 D1 d=>?_;rw[zE,zy l.length];apply Stop.h|refine qg fun bk hbk=>?_)
  refine Stop.mk ?_;rw[zj] at d;exact⟨(a1,c1,D1),⟨rfl,d⟩,Ent.of_sub ((zT _ own).append_left D1)⟩
theorem q32{a:j8}{l:jf}{cap:Nat}(e:RdE Ins.enc 5 W0 own a l)(hl:l.length<=1000000000):
  jk W0 58 [.slice a l.length cap] own fun v own'=>∃s:j8×Nat×Own,(v= .slice s.1 l.length s.2.1/\qq Ins.enc 62 5 s.1 s.2.1 l s.2.2)/\Ent W0 own' (s.2.2++own):=by
 refine sH [] ?_;cases a with
 |none=>
  have f:l= []:=by
   by_cases h:l= []
   ·exact h
   ·have:=e.isS h;cases this
  subst f
  repeat'((try conv=>whnf);first|refine fE ?_)
  exact⟨(none,0,[]),⟨rfl,qq.nil⟩,(eC)⟩
 |some a=>
  repeat'((try conv=>whnf);first|refine fD ?_|refine q6C (enc:=Ins.enc) (l:= []) (l2:=l) qq.nil (At.head (D:= []) (r:=_)) e.up rfl rfl Yb (fun _ _=>rfl) (fun _=>by simp;omega) fun a1 c1 D1 d=>?_;rw[zE,zy l.length];apply Stop.h|refine qg fun bk hbk=>?_)
  refine Stop.mk ?_;rw[zj] at d;exact⟨(a1,c1,D1),⟨rfl,d⟩,Ent.of_sub ((zT _ own).append_left D1)⟩
variable{a:j8}{l:jd}{cap:Nat}
def qfc(x:Int):jd->Nat->Int
 | [],_=> -1
 |y::l,k=>if x=y then k else qfc x l (k+1)
theorem qa9(x:Int):∀(l:jd) (k:Nat),0<=qfc x l k↔x∈l
 | [],k=>by simp[qfc]
 |y::l,k=>by
  unfold qfc
  split
  ·rename_i h;subst h;simp
  ·rename_i h;rw[qa9 x l (k+1)];simp[h]
theorem q83(h:RdE qw 1 W0 own a l)(hl:l.length<=1000000000)(x:Int):jl W0 103 [.slice a l.length cap,j4 x] own (j4 (qfc x l 0)):=by
 refine qi (sH [] ?_);generalize f:qfc x l 0=res;refine q1C (σ:=Nat) (fun k=> [(8,j4 k)]) (fun k=>k<=l.length/\qfc x (l.drop k) k=res) (fun k=>l.length-k) 0 ⟨Yb,f⟩ (eF) rfl ?_;rintro k junk ⟨hk,d⟩
 by_cases i:k<l.length
 ·obtain⟨y,g⟩:∃y,l[k]? =some y:=⟨_,z6 i⟩
  have e:(k:Int)<l.length:=Yb;rw[q4X g,qfc] at d
  by_cases he:x=y
  ·rw[if_pos he] at d
   repeat'((try conv=>whnf);first|refine fF ?_|apply gLd;refine q0n h g rfl ?_|(apply qL;first|refine ixE h g ?_ ?_;(first|rfl|omega)))
   exact⟨q0s (vi d),(eC)⟩
  ·rw[if_neg he] at d
   repeat'((try conv=>whnf);first|refine fF ?_|refine fG ?_|apply gLd;refine q0n h g rfl ?_|(apply qL;first|refine ixE h g ?_ ?_;(first|rfl|omega))|refine fB ?_)
   exact⟨k+1,⟨Yb,d⟩,Yb,(eF),Ent.refl⟩
 ·have e:¬(k:Int)<l.length:=Yb;obtain rfl:k=l.length:=Yb;rw[Zw,qfc] at d
  repeat'((try conv=>whnf);first|refine fG ?_)
  exact⟨q0s (vi d),(eC)⟩
theorem q0z(d:RdE qw 1 W0 own a l)(e:l.length<=1000000000)(x:Int):jl W0 70 [.slice a l.length cap,j4 x] own (.bool (decide (x∈l))):=by
 refine qi (sH [] ?_);have h:=q83 (cap:=cap) d e x;have hm:=qa9 x l 0;generalize qfc x l 0=z at*
 repeat'((try conv=>whnf);first|apply qe;refine qd (h) ?_)
 exact⟨q0s (vb (dd hm)),(eC)⟩
end
open Go
abbrev thB(b:Nat)(T:TypeId)(pre post:je)(t:Thr):j9:=(b,j7 (pre++(t.enc++post)).toArray T (0,0))
theorem qmY{pre post:je}{t:Thr}{k:Nat}{v:Value}(h:t.enc[k]? =some v):(pre++(t.enc++post))[pre.length+k]? =some v:=by
 have d:k<t.enc.length:=(z7.1 h).1;rw[zJ Yb,Za,zB d,h]
theorem qn0{pre post:je}{t:Thr}{k:Nat}{v:Value}(h:k<11):(pre++(t.enc++post)).set (pre.length+k) v=pre++(t.enc.set k v++post):=by
 have d:k<t.enc.length:=h;rw[ZG _ _ Yb,Za,yZ _ _ d]
theorem q15{x:Ins}(h:qH x=0):(0<=x.op/\x.op<18)/\(qfg x.op=true->0<=x.a/\x.a<8)/\(qih x.op=true->0<=x.b/\x.b<8)/\(qii x.op=true->0<=x.c/\x.c<8)/\(x.op=4\/x.op=5\/x.op=6->0<=x.imm/\x.imm<=64)/\(x.op=14->0<=x.imm/\x.imm<4):=by
 unfold qH at h
 split at h
 ·cases h
 ·rename_i h0
  split at h
  ·rename_i i
   split at h
   ·rename_i hi;obtain⟨d,f,g⟩:=i;refine⟨Yb,fun e=>by simpa [q1n,e] using d,fun e=>by simpa [q1n,e] using f,fun e=>by simpa [q1n,e] using g,fun e=>?_,fun e=>?_⟩
    ·unfold q3v at hi;rw[if_neg Yb,if_neg Yb,if_pos e] at hi;exact hi
    ·unfold q3v at hi;rw[if_neg Yb,if_neg Yb,if_neg Yb,if_neg Yb,if_pos e] at hi;exact hi
   ·cases h
  ·cases h
section
variable{W0:World}{own:Own}{b o:Nat}{T:TypeId}{pre post:je}{t:Thr}
theorem q6P{off k:Nat}{v:Value}{K:Value->Prop} [m:qy b (j7 (pre++(t.enc++post)).toArray T (0,0)) own](h:t.enc[k]? =some v)(e:off=pre.length+k)(d:K v):Ld W0 own ⟨b,off,none⟩ K:=by
 subst e;exact qU v m.h (by rw[zQ];exact qmY h) d
theorem q30{off i:Nat}{K:Value->Prop} [m:qy b (j7 (pre++(t.enc++post)).toArray T (0,0)) own](hi:i<8)(e:off=pre.length+(1+i))(d:K (j5 (t.rg.get i))):Ld W0 own ⟨b,off,none⟩ K:=
 q6P (Thr.enc_get hi) e d
theorem qmT{off k:Nat}{v:Value}{K:Own->Prop}{C:(Obj->Prop)->Own} [m:UpC b (j7 (pre++(t.enc++post)).toArray T (0,0)) own C](d:Thr)(f:k<11)(he:t.enc.set k v=d.enc)(e:q2r v=true)(g:off=pre.length+k)
  (h:K (C fun o=>o=Obj.cells (pre++(d.enc++post)).toArray T (0,0))):StT W0 own ⟨b,off,none⟩ v K:=by
 subst g;refine qkV (by simp;omega) e ?_;rw[zQ,qn0 f,he];exact h
theorem q8n{off i:Nat}{v:Int}{K:Own->Prop}{C:(Obj->Prop)->Own} [m:UpC b (j7 (pre++(t.enc++post)).toArray T (0,0)) own C](hi:i<8)(d:off=pre.length+(1+i))
  (h:K (C fun o=>o=Obj.cells (pre++(({t with rg:=t.rg.set i v}:Thr).enc++post)).toArray T (0,0))):StT W0 own ⟨b,off,none⟩ (j5 v) K:=
 qmT {t with rg:=t.rg.set i v} Yb (Thr.enc_set hi) rfl d h
theorem qaN{x:Ins}(G:qH x=0)(F:t.rg.ok)(hp:t.pc<=64)(I:o=pre.length)(r:Own):
  jk W0 95 [.pointer (some ⟨b,o,none⟩),x.v] ([thB b T pre post t]++r) fun v own'=>∃_:Unit,v= j4 (q1B t x)/\Ent W0 own' ([thB b T pre post {t with rg:=q4C t x}]++r):=by
 refine qG (sH (jo 8 3 (20::0::(jo 11 3 (26::0::(jo 23 3 (50::0::(jo 10 3 (24::0::(jo 7 3 (0::(jo 7 3 [0]))))))))))) ?_);subst I;obtain⟨h0,f,g,i,h,_⟩:=q15 G;clear G;obtain⟨op,a,n,c,imm⟩:=x;dsimp only[Ins.v] at*;have hu:=fun k=>F k
 by_cases z:op=1
 ·subst z;have s:=f rfl;have d:a.toNat<8:=Yb;clear f g i h
  repeat'((try conv=>whnf);first|refine fE ?_|refine arw (k:= .u64) ?_|refine q6P (t:=t) (k:=0) rfl ?_ ?_;omega|refine q8n (t:=t) d ?_ ?_;omega|refine fB ?_|refine fP ?_|refine fA ?_|refine qg fun p e=>?_)
  exact⟨rfl,(eC)⟩
 by_cases A:op=2
 ·subst A;have s:=f rfl;have d:a.toNat<8:=Yb;have hb:=g rfl;have m:n.toNat<8:=Yb;clear f g i h
  repeat'((try conv=>whnf);first|refine fE ?_|refine fD ?_|refine q6P (t:=t) (k:=0) rfl ?_ ?_;omega|refine q30 (t:=t) m ?_ ?_;omega|refine q8n (t:=t) d ?_ ?_;omega|refine fB ?_|refine fP ?_|refine fA ?_|refine qg fun p e=>?_)
  exact⟨rfl,(eC)⟩
 by_cases B:op=3
 ·subst B;have s:=f rfl;have d:a.toNat<8:=Yb;have hb:=g rfl;have m:n.toNat<8:=Yb;have hc:=i rfl;have y:c.toNat<8:=Yb;clear f g i h;have w:=fun own=>Alu.sp_apply W0 own imm (t.rg.get n.toNat) (t.rg.get c.toNat) (F _)
  repeat'((try conv=>whnf);first|refine fE ?_|refine fD ?_|refine q6P (t:=t) (k:=0) rfl ?_ ?_;omega|refine q30 (t:=t) m ?_ ?_;omega|refine q30 (t:=t) y ?_ ?_;omega|refine q8n (t:=t) d ?_ ?_;omega|apply qz;refine qT (fun _=>w _) ?_|refine fB ?_|refine fO ?_|refine fP ?_|refine fA ?_|refine qg fun p e=>?_)
  exact⟨rfl,(eC)⟩
 by_cases q:op=17
 ·subst q;have s:=f rfl;have d:a.toNat<8:=Yb;clear f g i h
  repeat'((try conv=>whnf);first|refine fE ?_|refine fD ?_|refine arw (k:= .u64) ?_|refine q6P (t:=t) (k:=9) rfl ?_ ?_;omega|refine q6P (t:=t) (k:=0) rfl ?_ ?_;omega|refine q8n (t:=t) d ?_ ?_;omega|refine fB ?_|refine fP ?_|refine fA ?_|refine qg fun p e=>?_)
  exact⟨rfl,(eC)⟩
 have H:q4C t ⟨op,a,n,c,imm⟩=t.rg:=by unfold q4C;rw[if_neg z,if_neg A,if_neg B,if_neg q]
 rw[H]
 by_cases E:op=4
 ·subst E;have hi:=h (.inl rfl);clear f g i h
  repeat'((try conv=>whnf);first|refine fE ?_|refine fD ?_|refine q6P (t:=t) (k:=0) rfl ?_ ?_;omega|refine fB ?_|refine fA ?_|refine qg fun p e=>?_)
  exact⟨q0s (vi (by simp only[q1B];simp;omega)),(eC)⟩
 by_cases j:op=5\/op=6
 ·have hi:=h (.inr j);have s:0<=a/\a<8:=f (by rcases j with rfl|rfl <;>rfl);have d:a.toNat<8:=Yb;clear f g i h;have u:q1B t ⟨op,a,n,c,imm⟩=if(op=5/\t.rg.get a.toNat=0)\/(op=6/\t.rg.get a.toNat≠0) then t.pc+1+imm.toNat else t.pc+1:=by unfold q1B;simp[E]
  rw[u]
  by_cases J:t.rg.get a.toNat=0
  all_goals
   rcases j with rfl|rfl
   all_goals
    repeat'((try conv=>whnf);first|refine fE ?_|refine fD ?_|refine fF ?_|refine fG ?_|refine q6P (t:=t) (k:=0) rfl ?_ ?_;omega|refine q30 (t:=t) d ?_ ?_;omega|refine fB ?_|refine fP ?_|refine fA ?_|refine qg fun p e=>?_)
    exact⟨q0s (vi (by simp[J];try omega)),(eC)⟩
 ·clear f g i h;have u:q1B t ⟨op,a,n,c,imm⟩=t.pc+1:=by unfold q1B;rw[if_neg (by simp only;omega)]
  rw[u]
  repeat'((try conv=>whnf);first|refine fG ?_|refine q6P (t:=t) (k:=0) rfl ?_ ?_;omega|refine fB ?_|refine fA ?_|refine qg fun p e=>?_)
  exact⟨q0s (vi Yb),(eC)⟩
end
open Go
structure PB where
 h:PH
 D:Own
abbrev PB.ok(x:PB):Prop:=qq Ins.enc 62 5 x.h.a x.h.cap x.h.p x.D
abbrev q4E(l:List PB):Own:=(l.map PB.D).flatten
abbrev qc3(c:Cfg)(i p k:Value):jg:= #[j4 c.words,j4 c.orecs,j4 c.base,j4 c.c0,j4 c.c1,j4 c.c2,j4 c.c3,j4 c.reads,j4 c.writes,j4 c.allocs,j4 c.frees,j4 c.clock, .bool c.strong,i,p,k]
structure IH where
 a:j8
 cap:Nat
 l:jd
abbrev IH.enc(h:IH):je:= [.slice h.a h.l.length h.cap]
theorem qcu{P:Program}{W0:World}{own:Own}{k:FuncId}{args:je}{T:TypeId}{Φ:jf->Prop}{K:Value->Own->Prop}
  (h:qu P W0 k args own fun v own'=>∃a cap D p,v= .slice a (List.length p) cap/\qq Ins.enc T 5 a cap p D/\Ent W0 own' (D++own)/\Φ p)
  (f:∀a cap D p,qq Ins.enc T 5 a cap p D->Φ p->K (.slice a (List.length p) cap) (D++own)):q0g P W0 own k args K:=
 ⟨fun w hw=>(h w hw).mono fun _ _ ⟨_,_,he,g,a,cap,D,p,i,d,e,hΦ⟩=>⟨_,_,by rw[he,i],e _ g,f a cap D p d hΦ⟩⟩
theorem q5e(l:List PB)(x:PB):q4E (l++ [x])=q4E l++x.D:=by simp[q4E]
theorem q9W{W0:World}{e b:j9}{D1 d L R:Own}:Ent W0 (e::(D1++(b::(d++(L++R))))) (b::(d++((L++D1)++R))):=by
 refine Ent.cons (Ent.of_perm ?_);refine Z2.trans (List.Perm.cons b ?_);refine(Z4 D1 d (L++R)).trans (List.Perm.append_left d ?_);rw[zd];exact Z4 D1 L R
abbrev qkU:Value:= j6
abbrev qkG(d e:Nat)(c:Cfg)(own:Own):Own:=(d,j7 (qc3 ⟨0,0,0,0,0,0,0,0,0,0,0,0,false⟩ qkU qkU qkU) 34)::(e,j7 c.cs 30)::own
section
variable{W0:World}{own:Own}{c:Cfg}{la pka:j8}{lc pkc:Nat}{ls:List IH}{pks:jd}
theorem qbL(n d:Int)(heap plain:Bool)(hc:0<=c.words/\c.words<=1000000)(hn:1<=n/\n<=1000)(hm:1<=d/\d<=64)
  (X:RdE IH.enc 1 W0 own la ls) (hQ:∀h∈ls,RdE qw 1 W0 own h.a h.l/\h.l.length<=1000000) (Y:RdE qw 1 W0 own pka pks) (hpl:pks.length<=1000000):
  jk W0 14 [c.v,j4 n, .slice la ls.length lc,j4 d, .bool heap, .bool plain, .slice pka pks.length pkc] own fun v own'=>
   ∃ia il ic S pa ps pc V ka ks kc U,v=q9e c ia (List.length il) ic pa (List.length ps) pc ka (List.length ks) kc/\qq q06 45 1 ia ic il S/\qq PH.enc 60 1 pa pc (ps.map PB.h) V/\qq qw 3 1 ka kc ks U/\
    (∀x∈ps,x.ok/\q0C x.h.p=(0,0)/\(x.h.p.length:Int)<=d/\∀y∈x.h.p,qg3 heap y)/\(il.length:Int)=c.words/\(∀x∈il,0<=x/\x<=3)/\(ps.length:Int)=n/\ks.length=pks.length/\(∀k∈ks,0<=k/\k<n)/\Ent W0 own' (U++(V++(q4E ps++(S++own)))):=by
 refine sH (3::(jo 9 7 (1::5::26::28::30::31::34::0::26::5::28::30::31::34::0::(jo 8 3 [20,22,23,26,0])))) ?_
 repeat'((try conv=>whnf);first|refine q2M rfl ?_|apply qZ;exact eM;exact rfl|apply q2A;exact eU;(solve|((try(conv=>arg 2;whnf));repeat'(first|exact Lis.nil|apply Lis.cons|apply q0M.here|apply q0M.there|apply q0a.done|apply q0a.put|apply q0a.skip)));exact rfl|refine qg fun z m=>?_)
 rename_i N h7 w h14;refine qQ (σ:=jd×j8×Nat×Own) (fun s=> [(16,j4 s.1.length)]) (fun s=>(z,j7 (qc3 c (.slice s.2.1 s.1.length s.2.2.1) qkU qkU) 34)::(s.2.2.2++qkG w N c own))
  (fun s=>qq q06 45 1 s.2.1 s.2.2.1 s.1 s.2.2.2/\(s.1.length:Int)<=c.words/\∀x∈s.1,0<=x/\x<=3) (fun s=>(c.words-s.1.length).toNat) ([],none,0,[]) ⟨qq.nil,(by simp;omega),fun _ h=>(by cases h)⟩ (eF) Ent.refl rfl ?_
 rintro s junk ⟨W,hw,L⟩
 by_cases hlt:(s.1.length:Int)<c.words
 ·repeat'((try conv=>whnf);first|refine q0D Yb ?_|refine q3U (enc:=q06) ((s.1.length:Int) % 4) W (by(repeat(first|exact At.head|apply At.tail|apply At.skip))) (eN) rfl rfl Yb rfl rfl Yb fun a1 c1 D1 g=>?_|refine fB ?_|refine fC ?_|apply qU;exact eM;exact rfl|apply q6u;exact eU;(solve|((try(conv=>arg 2;whnf));repeat'(first|exact Lis.nil|apply Lis.cons|apply q0M.here|apply q0M.there|apply q0a.done|apply q0a.put|apply q0a.skip)));exact rfl|refine qg fun z m=>?_|refine q2R ?_ ?_;omega)
  refine⟨(s.1++ [(s.1.length:Int) % 4],a1,c1,D1),⟨g,(by simp;omega),fun x e=>?_⟩,by simp;omega,?_,?_⟩
  ·rcases zw.1 e with e|e
   ·exact L x e
   ·rw[zf.1 e];omega
  ·simp only[z8,zu,zE,zy];exact(eF)
  ·simp only[z8,zu,zE,zy];exact eB
 ·repeat'((try conv=>whnf);first|refine q1l Yb ?_|apply qU;exact eM;exact rfl)
  refine qQ (σ:=List PB×j8×Nat×Own) (fun q=> [(17,j4 (q.1.map PB.h).length)]) (fun q=>(z,j7 (qc3 c (.slice s.2.1 s.1.length s.2.2.1) (.slice q.2.1 (q.1.map PB.h).length q.2.2.1) qkU) 34)::(q.2.2.2++(q4E q.1++(s.2.2.2++qkG w N c own))))
   (fun q=>qq PH.enc 60 1 q.2.1 q.2.2.1 (q.1.map PB.h) q.2.2.2/\(∀x∈q.1,x.ok/\q0C x.h.p=(0,0)/\(x.h.p.length:Int)<=d/\∀y∈x.h.p,qg3 heap y)/\((q.1.map PB.h).length:Int)<=n) (fun q=>(n-(q.1.map PB.h).length).toNat) ([],none,0,[]) ⟨qq.nil,fun _ h=>(by cases h),by simp;omega⟩ (eF) Ent.refl rfl ?_
  rintro q junk2 ⟨A,K,Q⟩
  by_cases I:((q.1.map PB.h).length:Int)<n
  ·have r:∀a1 c1 D1 f a3 j i (O:Bool),(O=true->heap=true)->qq Ins.enc 62 5 a1 c1 f D1->(q0C f=(0,0)/\(f.length:Int)<=d/\∀y∈f,qg3 O y)->qq PH.enc 60 1 a3 j (q.1.map PB.h++ [⟨a1,c1,f⟩]) i->
     qq PH.enc 60 1 a3 j ((q.1++ [(⟨⟨a1,c1,f⟩,D1⟩:PB)]).map PB.h) i/\(∀x∈q.1++ [(⟨⟨a1,c1,f⟩,D1⟩:PB)],x.ok/\q0C x.h.p=(0,0)/\(x.h.p.length:Int)<=d/\∀y∈x.h.p,qg3 heap y)/\(((q.1++ [(⟨⟨a1,c1,f⟩,D1⟩:PB)]).map PB.h).length:Int)<=n:=fun a1 c1 D1 f a3 j i O hh Z M h3=>by
    refine⟨by rw[zv];exact h3,fun x e=>?_,by rw[zv,z8];simp only[zG,Zx,zu,zE];omega⟩
    rcases zw.1 e with e|e
    ·exact K x e
    ·rw[zf.1 e];exact⟨Z,M.1,M.2.1,fun y u=>⟨(M.2.2 y u).1,fun h=>hh ((M.2.2 y u).2 h)⟩⟩
   by_cases ht:(q.1.map PB.h).length<ls.length
   ·obtain⟨x,e⟩:∃x,ls[(q.1.map PB.h).length]? =some x:=⟨_,z6 ht⟩
    obtain⟨F,R⟩:=hQ x (zh e);have ht':((q.1.map PB.h).length:Int)<ls.length:=Yb;cases heap
    all_goals
     repeat'((try conv=>whnf);first|refine qS ?_|refine q1G ?_|refine q0D Yb ?_|apply q2o (fun _=>q6n _ _ c)|refine qcu (q6m (l:=x.l) (lc:=x.cap) d _ plain (F.ent (eB)) R hm) fun a1 c1 D1 f g E=>?_|refine q3U (enc:=PH.enc) ⟨a1,c1,f⟩ A (by(repeat(first|exact At.head|apply At.tail|apply At.skip))) (eN) rfl rfl Yb rfl rfl Yb fun a3 j i B=>?_|(apply gLd;first|refine ldE (k:=0) (RdE.ent X ?_) e ?_ rfl ?_;rotate_left;rfl;rotate_left;(solve|(exact eB)))|(apply qL;first|refine ixE X e ?_ ?_;(first|rfl|omega))|refine fB ?_|apply qU;exact eM;exact rfl|apply qZ;exact eM;exact rfl|apply q6u;exact eU;(solve|((try(conv=>arg 2;whnf));repeat'(first|exact Lis.nil|apply Lis.cons|apply q0M.here|apply q0M.there|apply q0a.done|apply q0a.put|apply q0a.skip)));exact rfl|refine qg fun z m=>?_|refine q1k.mk ?_ ?_)
    all_goals refine⟨(q.1++ [(⟨⟨a1,c1,f⟩,D1⟩:PB)],a3,j,i),r a1 c1 D1 f a3 j i _ Yd g E B,by rw[zv,z8];simp only[zG,Zx,zu,zE];omega,?_,?_⟩
    all_goals simp only[q5e,zv,z8,zG,Zx,zu,zE,zy]
    all_goals first|exact q9W|exact(eF)
   ·have F:RdE qw 1 W0 own none []:=RdE.nil;cases heap
    all_goals
     repeat'((try conv=>whnf);first|refine qS ?_|refine q1G ?_|refine q0D Yb ?_|refine q1l Yb ?_|apply q2o (fun _=>q6n _ _ c)|refine qcu (q6m (la:=none) (l:= []) (lc:=0) d _ plain (F.ent (eB)) Yd hm) fun a1 c1 D1 f g E=>?_|refine q3U (enc:=PH.enc) ⟨a1,c1,f⟩ A (by(repeat(first|exact At.head|apply At.tail|apply At.skip))) (eN) rfl rfl Yb rfl rfl Yb fun a3 j i B=>?_|refine fB ?_|apply qU;exact eM;exact rfl|apply qZ;exact eM;exact rfl|apply q6u;exact eU;(solve|((try(conv=>arg 2;whnf));repeat'(first|exact Lis.nil|apply Lis.cons|apply q0M.here|apply q0M.there|apply q0a.done|apply q0a.put|apply q0a.skip)));exact rfl|refine qg fun z m=>?_|refine q1k.mk ?_ ?_)
    all_goals refine⟨(q.1++ [(⟨⟨a1,c1,f⟩,D1⟩:PB)],a3,j,i),r a1 c1 D1 f a3 j i _ Yd g E B,by rw[zv,z8];simp only[zG,Zx,zu,zE];omega,?_,?_⟩
    all_goals simp only[q5e,zv,z8,zG,Zx,zu,zE,zy]
    all_goals first|exact q9W|exact(eF)
  ·repeat'((try conv=>whnf);first|refine q1l Yb ?_)
   refine qQ (σ:=jd×j8×Nat×Own) (fun k=> [(19,j4 k.1.length)]) (fun k=>(z,j7 (qc3 c (.slice s.2.1 s.1.length s.2.2.1) (.slice q.2.1 (q.1.map PB.h).length q.2.2.1) (.slice k.2.1 k.1.length k.2.2.1)) 34)::(k.2.2.2++(q.2.2.2++(q4E q.1++(s.2.2.2++qkG w N c own)))))
    (fun k=>qq qw 3 1 k.2.1 k.2.2.1 k.1 k.2.2.2/\(∀x∈k.1,0<=x/\x<n)/\k.1.length<=pks.length) (fun k=>pks.length-k.1.length) ([],none,0,[]) ⟨qq.nil,fun _ h=>(by cases h),Yd⟩ (eF) Ent.refl rfl ?_
   rintro k junk3 ⟨G,H,hkn⟩
   by_cases J:k.1.length<pks.length
   ·obtain⟨x,e⟩:∃x,pks[k.1.length]? =some x:=⟨_,z6 J⟩
    have hlt3':(k.1.length:Int)<pks.length:=Yb
    repeat'((try conv=>whnf);first|refine q0D Yb ?_|refine q4R ?_ fun p hp=>?_;omega|refine q3U (enc:=qw) p G (by(repeat(first|exact At.head|apply At.tail|apply At.skip))) (eN) rfl rfl Yb rfl rfl Yb fun a1 c1 D1 g=>?_|(apply gLd;first|refine ldE (k:=0) (RdE.ent Y ?_) e ?_ rfl ?_;rotate_left;rfl;rotate_left;(solve|(exact eB)))|(apply qL;first|refine ixE Y e ?_ ?_;(first|rfl|omega))|refine fB ?_|apply qU;exact eM;exact rfl|apply q6u;exact eU;(solve|((try(conv=>arg 2;whnf));repeat'(first|exact Lis.nil|apply Lis.cons|apply q0M.here|apply q0M.there|apply q0a.done|apply q0a.put|apply q0a.skip)));exact rfl|refine qg fun z m=>?_)
    all_goals refine⟨(k.1++ [p],a1,c1,D1),⟨g,fun y u=>?_,by simp;omega⟩,by simp;omega,?_,?_⟩
    all_goals first|(rcases zw.1 u with u|u;exact H y u;rw[zf.1 u];exact hp)|skip
    all_goals simp only[z8,zu,zE,zy]
    all_goals first|exact Ent.cons Ent.refl|exact(eF)
   ·repeat'((try conv=>whnf);first|refine q1l Yb ?_|refine q2M rfl ?_|apply qZ;exact eM;exact rfl|apply q2A;exact eU;(solve|((try(conv=>arg 2;whnf));repeat'(first|exact Lis.nil|apply Lis.cons|apply q0M.here|apply q0M.there|apply q0a.done|apply q0a.put|apply q0a.skip)));exact rfl)
    refine⟨s.2.1,s.1,s.2.2.1,s.2.2.2,q.2.1,q.1,q.2.2.1,q.2.2.2,k.2.1,k.1,k.2.2.1,k.2.2.2,?_,W,A,G,K,Yb,L,?_,Yb,H,?_⟩
    ·rw[zi];rfl
    ·rw[zi] at I Q;omega
    ·exact Ent.cons (Ent.of_sub (((((List.Sublist.refl own).cons _).cons _).append_left s.2.2.2).append_left (q4E q.1)|>.append_left q.2.2.2|>.append_left k.2.2.2))
end
end Go.Proofs.YtfnghamklcdgnaaGreatDoor
