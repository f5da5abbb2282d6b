/- What the laws share, part 10. No condition. -/
import Derived.Laws.FloatBits
import Derived.Test.YtikpjajangpdjaaGreatDoorQ9
set_option maxHeartbeats 4000000
set_option maxRecDepth 10000
namespace Go.Proofs.YtikpjajangpdjaaGreatDoor
open Go
abbrev j7:Value:= .slice none 0 0
abbrev jg:=List Ins
abbrev jl:=List EvM
theorem q0u(e:Int):okU (qQ e):=by
 unfold qQ IntKind.wrap;have d:((2:Int) ^ IntKind.u64.bits)=18446744073709551616:=rfl;simp only[d,IntKind.signed,yV,zL,if_false,okU];omega
theorem q4k{e:Int}(h:okU e):qQ e=e:=q5q h.1 h.2
theorem q3i(b:Bool):okU (Alu.truthM b):=by unfold Alu.truthM okU;split <;>omega
theorem qbW:okU Alu.nanW:=by unfold Alu.nanW okU;omega
theorem q8g{x:Nat}(h:x<18446744073709551616):okU (Alu.plainM x):=by
 unfold Alu.plainM
 split
 ·exact qbW
 ·unfold okU;omega
theorem qko(d:Ieee.Datum):FloatKind.f64.encode d<18446744073709551616:=by
 have:=Ieee.Format.write_lt Ieee.double d;have e:(2:Nat) ^ Ieee.double.width=18446744073709551616:=by decide+kernel
 rw[e] at this;exact this
theorem qfK{neg:Bool}{a b:Nat}(ha:a<18446744073709551616)(hb:b<18446744073709551616):q5W neg a b<18446744073709551616:=by
 unfold q5W
 (repeat' split) <;>first|exact qko _|omega
theorem qbE(op:BinOp)(a b:Nat):okU (Alu.fopM op a b):=by
 unfold Alu.fopM
 split
 ·rename_i r d;exact q8g (Alu.fb_lt d)
 ·exact qbW
theorem qql{x:Int}(d:okU x)(n:Nat):okU (x.fdiv (2 ^ n)):=by
 have e:(0:Int)<2 ^ n:=Int.pow_pos Yv;have f:=Int.fdiv_nonneg d.1 (Int.le_of_lt e);have g:x.fdiv (2 ^ n)<=x:=by
  rw[Int.fdiv_eq_ediv_of_nonneg _ (Int.le_of_lt e)];exact Int.ediv_le_self _ d.1
 exact⟨f,Int.le_trans g d.2⟩
theorem q0r{p:Prop} [Decidable p]{a b:Int}(ha:okU a)(hb:okU b):okU (if p then a else b):=by
 split <;>assumption
theorem qmC{fn x y:Int}(d:okU x):okU (Alu.intsM fn x y):=
 q0r (q0u _) (q0r (q0u _) (q0r (q0u _) (q0r (q0u _) (q0r (q0u _) (q0r (q0u _) (q0r (q0u _) (q0r (qql d _) (q0r (q3i _) (q0r (q3i _) (q0r (q3i _) (q3i _)))))))))))
theorem qeY{fn:Int}{a b:Nat}(d:a<18446744073709551616)(hb:b<18446744073709551616):okU (Alu.floatsM fn a b):=
 q0r (qbE _ _ _) (q0r (qbE _ _ _) (q0r (qbE _ _ _) (q0r (qbE _ _ _) (q0r (q0r qbW (q8g (qfK d hb))) (q0r (q0r qbW (q8g (qfK d hb))) (q0r (q3i _) (q3i _)))))))
theorem qmP(n:Int):okU (FloatKind.f64.nearest n:Int):=by
 have:=qko (.number (decide (n<0)) n.natAbs 0);have e:FloatKind.f64.nearest n=FloatKind.f64.encode (.number (decide (n<0)) n.natAbs 0):=rfl;rw[e];generalize FloatKind.f64.encode (.number (decide (n<0)) n.natAbs 0)=z at*;unfold okU;omega
theorem qec{fn x y:Int}(f:okU x)(g:okU y):okU (Alu.applyW fn x y):=by
 have d:x.toNat<18446744073709551616:=by unfold okU at f;omega
 have e:y.toNat<18446744073709551616:=by unfold okU at g;omega
 exact q0r (q0r (qmP _) (q0r (q0u _) (q0r (qeY d e) (qmC f)))) ⟨Yv,Yv⟩
def Rg.ok(r:Rg):Prop:=∀k,okU (r.get k)
theorem Rg.ok_set{r:Rg}{k:Nat}{v:Int}(h:r.ok)(e:okU v):(r.set k v).ok:=fun j=>by
 by_cases d:k<8
 ·rw[Rg.get_set d]
  split
  ·exact e
  ·exact h j
 ·obtain⟨m,rfl⟩:∃m,k=m+8:=⟨k-8,Yu⟩
  exact h j
theorem Rg.ok_0:(⟨0,0,0,0,0,0,0,0⟩:Rg).ok:=fun k=>by
 by_cases d:k<8
 ·rcases lt8 d with rfl|rfl|rfl|rfl|rfl|rfl|rfl|rfl <;>exact⟨Yv,Yv⟩
 ·obtain⟨m,rfl⟩:∃m,k=m+8:=⟨k-8,Yu⟩
  exact(show okU 0 from ⟨Yv,Yv⟩)
theorem qat{t:Thr}{x:Ins}(h:t.rg.ok):(q5h t x).ok:=by
 unfold q5h
 (repeat' split) <;>first|exact Rg.ok_set h (q0u _)|exact Rg.ok_set h (h _)|exact Rg.ok_set h (qec (h _) (h _))|exact h
abbrev q05(n:Int):jf:= [j6 n]
section
variable{P:Program}{W0:World}{own D:Own}{C:Own->Own}{k k0:FuncId}{args args0:jf}
theorem qE{R:Value->Prop}{O:Own}(h:qq P W0 k args own fun v own'=>R v/\Ent W0 own' O):qq P W0 k args own fun v own'=>∃_:Unit,R v/\Ent W0 own' O:=fun w hw=>
 (h w hw).mono fun _ _ ⟨v,o,a,b,c,d⟩=>⟨v,o,a,b,(),c,d⟩
end
section
variable{W0:World}{own:Own}
theorem qN{a:j9}{l:je}{cap:Nat}(e:RdE q05 1 W0 own a l)(hl:l.length<=1000000000):
  jn W0 40 [.slice a l.length cap] own fun v own'=>∃s:j9×Nat×Own,(v= .slice s.1 l.length s.2.1/\qo q05 72 1 s.1 s.2.1 l s.2.2)/\Ent W0 own' (s.2.2++own):=by
 refine sH [] ?_;cases a with
 |none=>
  have f:l= []:=by
   by_cases h:l= []
   ·exact h
   ·have:=e.isS h;cases this
  subst f
  repeat'((try conv=>whnf);first|refine fE ?_)
  exact⟨(none,0,[]),⟨rfl,qo.nil⟩,(eC)⟩
 |some a=>
  repeat'((try conv=>whnf);first|refine fD ?_|refine q5v (enc:=q05) (l:= []) (l2:=l) qo.nil (At.head (D:= []) (r:=_)) e.up rfl rfl Yu (fun _ _=>rfl) (fun _=>by simp;omega) fun a1 c1 D1 d=>?_;rw[zE,zA l.length];apply Stop.h|refine qf fun bk hbk=>?_)
  refine Stop.mk ?_;rw[zk] at d;exact⟨(a1,c1,D1),⟨rfl,d⟩,Ent.of_sub ((zR _ own).append_left D1)⟩
theorem qL{a:j9}{l:je}{cap:Nat}(e:RdE qv 1 W0 own a l)(hl:l.length<=1000000000):
  jn W0 42 [.slice a l.length cap] own fun v own'=>∃s:j9×Nat×Own,(v= .slice s.1 l.length s.2.1/\qo qv 3 1 s.1 s.2.1 l s.2.2)/\Ent W0 own' (s.2.2++own):=by
 refine sH [] ?_;cases a with
 |none=>
  have f:l= []:=by
   by_cases h:l= []
   ·exact h
   ·have:=e.isS h;cases this
  subst f
  repeat'((try conv=>whnf);first|refine fE ?_)
  exact⟨(none,0,[]),⟨rfl,qo.nil⟩,(eC)⟩
 |some a=>
  repeat'((try conv=>whnf);first|refine fD ?_|refine q5v (enc:=qv) (l:= []) (l2:=l) qo.nil (At.head (D:= []) (r:=_)) e.up rfl rfl Yu (fun _ _=>rfl) (fun _=>by simp;omega) fun a1 c1 D1 d=>?_;rw[zE,zA l.length];apply Stop.h|refine qf fun bk hbk=>?_)
  refine Stop.mk ?_;rw[zk] at d;exact⟨(a1,c1,D1),⟨rfl,d⟩,Ent.of_sub ((zR _ own).append_left D1)⟩
theorem q2Y{a:j9}{l:List Thr}{cap:Nat}(e:RdE Thr.enc 11 W0 own a l)(hl:l.length<=1000000000):
  jn W0 41 [.slice a l.length cap] own fun v own'=>∃s:j9×Nat×Own,(v= .slice s.1 l.length s.2.1/\qo Thr.enc 105 11 s.1 s.2.1 l s.2.2)/\Ent W0 own' (s.2.2++own):=by
 refine sH [] ?_;cases a with
 |none=>
  have f:l= []:=by
   by_cases h:l= []
   ·exact h
   ·have:=e.isS h;cases this
  subst f
  repeat'((try conv=>whnf);first|refine fE ?_)
  exact⟨(none,0,[]),⟨rfl,qo.nil⟩,(eC)⟩
 |some a=>
  repeat'((try conv=>whnf);first|refine fD ?_|refine q5v (enc:=Thr.enc) (l:= []) (l2:=l) qo.nil (At.head (D:= []) (r:=_)) e.up rfl rfl Yu (fun _ _=>rfl) (fun _=>by simp;omega) fun a1 c1 D1 d=>?_;rw[zE,zA l.length];apply Stop.h|refine qf fun bk hbk=>?_)
  refine Stop.mk ?_;rw[zk] at d;exact⟨(a1,c1,D1),⟨rfl,d⟩,Ent.of_sub ((zR _ own).append_left D1)⟩
theorem q2X{a:j9}{l:List ObM}{cap:Nat}(e:RdE ObM.enc 3 W0 own a l)(hl:l.length<=1000000000):
  jn W0 43 [.slice a l.length cap] own fun v own'=>∃s:j9×Nat×Own,(v= .slice s.1 l.length s.2.1/\qo ObM.enc 94 3 s.1 s.2.1 l s.2.2)/\Ent W0 own' (s.2.2++own):=by
 refine sH [] ?_;cases a with
 |none=>
  have f:l= []:=by
   by_cases h:l= []
   ·exact h
   ·have:=e.isS h;cases this
  subst f
  repeat'((try conv=>whnf);first|refine fE ?_)
  exact⟨(none,0,[]),⟨rfl,qo.nil⟩,(eC)⟩
 |some a=>
  repeat'((try conv=>whnf);first|refine fD ?_|refine q5v (enc:=ObM.enc) (l:= []) (l2:=l) qo.nil (At.head (D:= []) (r:=_)) e.up rfl rfl Yu (fun _ _=>rfl) (fun _=>by simp;omega) fun a1 c1 D1 d=>?_;rw[zE,zA l.length];apply Stop.h|refine qf fun bk hbk=>?_)
  refine Stop.mk ?_;rw[zk] at d;exact⟨(a1,c1,D1),⟨rfl,d⟩,Ent.of_sub ((zR _ own).append_left D1)⟩
theorem q3t{a:j9}{l:jg}{cap:Nat}(e:RdE Ins.enc 5 W0 own a l)(hl:l.length<=1000000000):
  jn W0 50 [.slice a l.length cap] own fun v own'=>∃s:j9×Nat×Own,(v= .slice s.1 l.length s.2.1/\qo Ins.enc 64 5 s.1 s.2.1 l s.2.2)/\Ent W0 own' (s.2.2++own):=by
 refine sH [] ?_;cases a with
 |none=>
  have f:l= []:=by
   by_cases h:l= []
   ·exact h
   ·have:=e.isS h;cases this
  subst f
  repeat'((try conv=>whnf);first|refine fE ?_)
  exact⟨(none,0,[]),⟨rfl,qo.nil⟩,(eC)⟩
 |some a=>
  repeat'((try conv=>whnf);first|refine fD ?_|refine q5v (enc:=Ins.enc) (l:= []) (l2:=l) qo.nil (At.head (D:= []) (r:=_)) e.up rfl rfl Yu (fun _ _=>rfl) (fun _=>by simp;omega) fun a1 c1 D1 d=>?_;rw[zE,zA l.length];apply Stop.h|refine qf fun bk hbk=>?_)
  refine Stop.mk ?_;rw[zk] at d;exact⟨(a1,c1,D1),⟨rfl,d⟩,Ent.of_sub ((zR _ own).append_left D1)⟩
variable{a:j9}{l:je}{cap:Nat}
def qhw(x:Int):je->Nat->Int
 | [],_=> -1
 |y::l,k=>if x=y then k else qhw x l (k+1)
theorem qbK(x:Int):∀(l:je) (k:Nat),0<=qhw x l k↔x∈l
 | [],k=>by simp[qhw]
 |y::l,k=>by
  unfold qhw
  split
  ·rename_i h;subst h;simp
  ·rename_i h;rw[qbK x l (k+1)];simp[h]
theorem q9w(h:RdE qv 1 W0 own a l)(hl:l.length<=1000000000)(x:Int):jo W0 130 [.slice a l.length cap,j5 x] own (j5 (qhw x l 0)):=by
 refine qg (sH [] ?_);generalize f:qhw x l 0=res;refine q1o (σ:=Nat) (fun k=> [(8,j5 k)]) (fun k=>k<=l.length/\qhw x (l.drop k) k=res) (fun k=>l.length-k) 0 ⟨Yu,f⟩ (eF) rfl ?_;rintro k junk ⟨hk,d⟩
 by_cases i:k<l.length
 ·obtain⟨y,g⟩:∃y,l[k]? =some y:=⟨_,z6 i⟩
  have e:(k:Int)<l.length:=Yu;rw[q1Z g,qhw] at d
  by_cases he:x=y
  ·rw[if_pos he] at d
   repeat'((try conv=>whnf);first|refine fF ?_|apply gLd;refine q0l h g rfl ?_|(apply qF;first|refine ixE h g ?_ ?_;(first|rfl|omega)))
   exact⟨q0a (vi d),(eC)⟩
  ·rw[if_neg he] at d
   repeat'((try conv=>whnf);first|refine fF ?_|refine fG ?_|apply gLd;refine q0l h g rfl ?_|(apply qF;first|refine ixE h g ?_ ?_;(first|rfl|omega))|refine fB ?_)
   exact⟨k+1,⟨Yu,d⟩,Yu,(eF),Ent.refl⟩
 ·have e:¬(k:Int)<l.length:=Yu;obtain rfl:k=l.length:=Yu;rw[ZC,qhw] at d
  repeat'((try conv=>whnf);first|refine fG ?_)
  exact⟨q0a (vi d),(eC)⟩
theorem q0B(d:RdE qv 1 W0 own a l)(e:l.length<=1000000000)(x:Int):jo W0 97 [.slice a l.length cap,j5 x] own (.bool (decide (x∈l))):=by
 refine qg (sH [] ?_);have h:=q9w (cap:=cap) d e x;have hm:=qbK x l 0;generalize qhw x l 0=z at*
 repeat'((try conv=>whnf);first|apply qe;refine qd (h) ?_)
 exact⟨q0a (vb (dd hm)),(eC)⟩
end
open Go
abbrev thB(b:Nat)(T:TypeId)(pre post:jf)(t:Thr):jd:=(b,j8 (pre++(t.enc++post)).toArray T (0,0))
theorem qqX{pre post:jf}{t:Thr}{k:Nat}{v:Value}(h:t.enc[k]? =some v):(pre++(t.enc++post))[pre.length+k]? =some v:=by
 have d:k<t.enc.length:=(z7.1 h).1;rw[zT Yu,Zx,zG d,h]
theorem qqZ{pre post:jf}{t:Thr}{k:Nat}{v:Value}(h:k<11):(pre++(t.enc++post)).set (pre.length+k) v=pre++(t.enc.set k v++post):=by
 have d:k<t.enc.length:=h;rw[ZS _ _ Yu,Zx,Y9 _ _ d]
theorem q20{x:Ins}(h:qJ x=0):(0<=x.op/\x.op<18)/\(qhB x.op=true->0<=x.a/\x.a<8)/\(qlc x.op=true->0<=x.b/\x.b<8)/\(qld x.op=true->0<=x.c/\x.c<8)/\(x.op=4\/x.op=5\/x.op=6->0<=x.imm/\x.imm<=64)/\(x.op=14->0<=x.imm/\x.imm<4):=by
 unfold qJ at h
 split at h
 ·cases h
 ·rename_i h0
  split at h
  ·rename_i j
   split at h
   ·rename_i d;obtain⟨f,g,i⟩:=j;refine⟨Yu,fun e=>by simpa [q1t,e] using f,fun e=>by simpa [q1t,e] using g,fun e=>by simpa [q1t,e] using i,fun e=>?_,fun e=>?_⟩
    ·unfold q4u at d;rw[if_neg Yu,if_neg Yu,if_pos e] at d;exact d
    ·unfold q4u at d;rw[if_neg Yu,if_neg Yu,if_neg Yu,if_neg Yu,if_pos e] at d;exact d
   ·cases h
  ·cases h
section
variable{W0:World}{own:Own}{b o:Nat}{T:TypeId}{pre post:jf}{t:Thr}
theorem q88{off k:Nat}{v:Value}{K:Value->Prop} [m:qy b (j8 (pre++(t.enc++post)).toArray T (0,0)) own](h:t.enc[k]? =some v)(e:off=pre.length+k)(d:K v):Ld W0 own ⟨b,off,none⟩ K:=by
 subst e;exact qS v m.h (by rw[zU];exact qqX h) d
theorem q5O{off i:Nat}{K:Value->Prop} [m:qy b (j8 (pre++(t.enc++post)).toArray T (0,0)) own](d:i<8)(f:off=pre.length+(1+i))(e:K (j6 (t.rg.get i))):Ld W0 own ⟨b,off,none⟩ K:=
 q88 (Thr.enc_get d) f e
theorem qqQ{off k:Nat}{v:Value}{K:Own->Prop}{C:(Obj->Prop)->Own} [m:UpC b (j8 (pre++(t.enc++post)).toArray T (0,0)) own C](d:Thr)(f:k<11)(he:t.enc.set k v=d.enc)(e:q2G v=true)(g:off=pre.length+k)
  (h:K (C fun o=>o=Obj.cells (pre++(d.enc++post)).toArray T (0,0))):StT W0 own ⟨b,off,none⟩ v K:=by
 subst g;refine qou (by simp;omega) e ?_;rw[zU,qqZ f,he];exact h
theorem q9L{off i:Nat}{v:Int}{K:Own->Prop}{C:(Obj->Prop)->Own} [m:UpC b (j8 (pre++(t.enc++post)).toArray T (0,0)) own C](d:i<8)(e:off=pre.length+(1+i))
  (h:K (C fun o=>o=Obj.cells (pre++(({t with rg:=t.rg.set i v}:Thr).enc++post)).toArray T (0,0))):StT W0 own ⟨b,off,none⟩ (j6 v) K:=
 qqQ {t with rg:=t.rg.set i v} Yu (Thr.enc_set d) rfl e h
theorem qcp{x:Ins}(H:qJ x=0)(G:t.rg.ok)(hp:t.pc<=64)(K:o=pre.length)(r:Own):
  jn W0 78 [.pointer (some ⟨b,o,none⟩),x.v] ([thB b T pre post t]++r) fun v own'=>∃_:Unit,v= j5 (q1L t x)/\Ent W0 own' ([thB b T pre post {t with rg:=q5h t x}]++r):=by
 refine qE (sH (jq 8 3 (20::0::(jq 11 3 (26::0::(jq 23 3 (50::0::(jq 10 3 (24::0::(jq 7 3 (0::(jq 7 3 [0]))))))))))) ?_);subst K;obtain⟨h0,f,g,i,h,_⟩:=q20 H;clear H;obtain⟨op,a,n,c,imm⟩:=x;dsimp only[Ins.v] at*;have hu:=fun k=>G k
 by_cases A:op=1
 ·subst A;have u:=f rfl;have d:a.toNat<8:=Yu;clear f g i h
  repeat'((try conv=>whnf);first|refine fE ?_|refine arw (k:= .u64) ?_|refine q88 (t:=t) (k:=0) rfl ?_ ?_;omega|refine q9L (t:=t) d ?_ ?_;omega|refine fB ?_|refine fP ?_|refine fA ?_|refine qf fun q e=>?_)
  exact⟨rfl,(eC)⟩
 by_cases B:op=2
 ·subst B;have u:=f rfl;have d:a.toNat<8:=Yu;have hb:=g rfl;have m:n.toNat<8:=Yu;clear f g i h
  repeat'((try conv=>whnf);first|refine fE ?_|refine fD ?_|refine q88 (t:=t) (k:=0) rfl ?_ ?_;omega|refine q5O (t:=t) m ?_ ?_;omega|refine q9L (t:=t) d ?_ ?_;omega|refine fB ?_|refine fP ?_|refine fA ?_|refine qf fun q e=>?_)
  exact⟨rfl,(eC)⟩
 by_cases E:op=3
 ·subst E;have u:=f rfl;have d:a.toNat<8:=Yu;have hb:=g rfl;have m:n.toNat<8:=Yu;have hc:=i rfl;have z:c.toNat<8:=Yu;clear f g i h;have y:=fun own=>Alu.sp_apply W0 own imm (t.rg.get n.toNat) (t.rg.get c.toNat) (G _)
  repeat'((try conv=>whnf);first|refine fE ?_|refine fD ?_|refine q88 (t:=t) (k:=0) rfl ?_ ?_;omega|refine q5O (t:=t) m ?_ ?_;omega|refine q5O (t:=t) z ?_ ?_;omega|refine q9L (t:=t) d ?_ ?_;omega|apply qC;refine q35 (fun _=>y _) ?_|refine fB ?_|refine fO ?_|refine fP ?_|refine fA ?_|refine qf fun q e=>?_)
  exact⟨rfl,(eC)⟩
 by_cases s:op=17
 ·subst s;have u:=f rfl;have d:a.toNat<8:=Yu;clear f g i h
  repeat'((try conv=>whnf);first|refine fE ?_|refine fD ?_|refine arw (k:= .u64) ?_|refine q88 (t:=t) (k:=9) rfl ?_ ?_;omega|refine q88 (t:=t) (k:=0) rfl ?_ ?_;omega|refine q9L (t:=t) d ?_ ?_;omega|refine fB ?_|refine fP ?_|refine fA ?_|refine qf fun q e=>?_)
  exact⟨rfl,(eC)⟩
 have I:q5h t ⟨op,a,n,c,imm⟩=t.rg:=by unfold q5h;rw[if_neg A,if_neg B,if_neg E,if_neg s]
 rw[I]
 by_cases F:op=4
 ·subst F;have J:=h (.inl rfl);clear f g i h
  repeat'((try conv=>whnf);first|refine fE ?_|refine fD ?_|refine q88 (t:=t) (k:=0) rfl ?_ ?_;omega|refine fB ?_|refine fA ?_|refine qf fun q e=>?_)
  exact⟨q0a (vi (by simp only[q1L];simp;omega)),(eC)⟩
 by_cases j:op=5\/op=6
 ·have J:=h (.inr j);have u:0<=a/\a<8:=f (by rcases j with rfl|rfl <;>rfl);have d:a.toNat<8:=Yu;clear f g i h;have w:q1L t ⟨op,a,n,c,imm⟩=if(op=5/\t.rg.get a.toNat=0)\/(op=6/\t.rg.get a.toNat≠0) then t.pc+1+imm.toNat else t.pc+1:=by unfold q1L;simp[F]
  rw[w]
  by_cases L:t.rg.get a.toNat=0
  all_goals
   rcases j with rfl|rfl
   all_goals
    repeat'((try conv=>whnf);first|refine fE ?_|refine fD ?_|refine fF ?_|refine fG ?_|refine q88 (t:=t) (k:=0) rfl ?_ ?_;omega|refine q5O (t:=t) d ?_ ?_;omega|refine fB ?_|refine fP ?_|refine fA ?_|refine qf fun q e=>?_)
    exact⟨q0a (vi (by simp[L];try omega)),(eC)⟩
 ·clear f g i h;have w:q1L t ⟨op,a,n,c,imm⟩=t.pc+1:=by unfold q1L;rw[if_neg (by simp only;omega)]
  rw[w]
  repeat'((try conv=>whnf);first|refine fG ?_|refine q88 (t:=t) (k:=0) rfl ?_ ?_;omega|refine fB ?_|refine fA ?_|refine qf fun q e=>?_)
  exact⟨q0a (vi Yu),(eC)⟩
end
open Go
structure PB where
 h:PH
 D:Own
abbrev PB.ok(x:PB):Prop:=qo Ins.enc 64 5 x.h.a x.h.cap x.h.p x.D
abbrev q3W(l:List PB):Own:=(l.map PB.D).flatten
abbrev qdU(c:Cfg)(i p k:Value):jh:= #[j5 c.words,j5 c.orecs,j5 c.base,j5 c.c0,j5 c.c1,j5 c.c2,j5 c.c3,j5 c.reads,j5 c.writes,j5 c.allocs,j5 c.frees,j5 c.clock, .bool c.strong,i,p,k]
structure IH where
 a:j9
 cap:Nat
 l:je
abbrev IH.enc(h:IH):jf:= [.slice h.a h.l.length h.cap]
theorem qep{P:Program}{W0:World}{own:Own}{k:FuncId}{args:jf}{T:TypeId}{Φ:jg->Prop}{K:Value->Own->Prop}
  (h:qq P W0 k args own fun v own'=>∃a cap D p,v= .slice a (List.length p) cap/\qo Ins.enc T 5 a cap p D/\Ent W0 own' (D++own)/\Φ p)
  (f:∀a cap D p,qo Ins.enc T 5 a cap p D->Φ p->K (.slice a (List.length p) cap) (D++own)):q0k P W0 own k args K:=
 ⟨fun w hw=>(h w hw).mono fun _ _ ⟨_,_,he,g,a,cap,D,p,i,d,e,hΦ⟩=>⟨_,_,by rw[he,i],e _ g,f a cap D p d hΦ⟩⟩
theorem q5U(l:List PB)(x:PB):q3W (l++ [x])=q3W l++x.D:=by simp[q3W]
theorem qbu{W0:World}{e b:jd}{D1 d L R:Own}:Ent W0 (e::(D1++(b::(d++(L++R))))) (b::(d++((L++D1)++R))):=by
 refine Ent.cons (Ent.of_perm ?_);refine Zf.trans (List.Perm.cons b ?_);refine(Ze D1 d (L++R)).trans (List.Perm.append_left d ?_);rw[zd];exact Ze D1 L R
abbrev qos:Value:= j7
abbrev qoc(d e:Nat)(c:Cfg)(own:Own):Own:=(d,j8 (qdU ⟨0,0,0,0,0,0,0,0,0,0,0,0,false⟩ qos qos qos) 32)::(e,j8 c.cs 28)::own
def qg5(t:Int)(k:Nat):Nat:=if(k:Int)=t then k+1 else k
def qfJ(lim s:Int):Bool:=if s=0 then true else if s=1 then false else decide (lim<=qQ (s-2))
def q3q(t:Int)(m:MS)(f:FT):FT×AcM×Int:=
 if f.ld=false then(⟨true,m.ck,qg5 t 0⟩,acL 3 0 m.ck,25)
 else(if qfJ f.lim (m.sl.getD f.nx 0) then{f with nx:=qg5 t (f.nx+1)} else f,acL 6 f.nx (m.sl.getD f.nx 0),26)
def q0x(n:Nat)(p:jg)(t:Int)(m:MS)(x:GT)(f:FT):MS×GT×StM×jl:=
 (m,if n<=(q3q t m f).1.nx then({x with fn:=none,obs:=x.obs++ [⟨x.th.pc,6,0⟩]}:GT).to p.length (x.th.pc+1) else{x with fn:=some (q3q t m f).1},
  ⟨t,(q3q t m f).2.2,0,(q3q t m f).2.1⟩,[])
def q0V(x:GT)(i:Ins):Int:=adr x.th.rg (if i.op=12 then i.b else i.a) i.imm
def q04(c:Cfg)(p:jg)(t:Int)(m:MS)(x:GT)(i:Ins):MS×GT×StM×jl:=
 if c.words<=q0V x i then(m,({x with th:={x.th with rg:=if i.op=12 then x.th.rg.set i.a.toNat 0 else x.th.rg},obs:=x.obs++ [⟨x.th.pc,7,7⟩]}:GT).to p.length (x.th.pc+1),⟨t,0,0,acz⟩,[])
 else if i.op=12 then(m,({x with th:={x.th with rg:=x.th.rg.set i.a.toNat (m.d.getD (q0V x i).toNat 0)},obs:=x.obs++ [⟨x.th.pc,4,m.d.getD (q0V x i).toNat 0⟩]}:GT).to p.length (x.th.pc+1),
  ⟨t,1,0,acL 1 (q0V x i) (m.d.getD (q0V x i).toNat 0)⟩,[⟨0,t,1,q0V x i,[],[]⟩])
 else({m with d:=m.d.set (q0V x i).toNat (x.th.rg.get i.b.toNat)},({x with obs:=x.obs++ [⟨x.th.pc,5,x.th.rg.get i.b.toNat⟩]}:GT).to p.length (x.th.pc+1),
  ⟨t,1,0,acS 1 (q0V x i) (m.d.getD (q0V x i).toNat 0) (x.th.rg.get i.b.toNat)⟩,[⟨0,t,2,q0V x i,[],[]⟩])
def q2I(c:Cfg)(p:jg)(n:Nat)(t:Int)(m:MS)(x:GT)(i:Ins):MS×GT×StM×jl:=
 if i.op=12\/i.op=13 then q04 c p t m x i else if i.op=16 then q0x n p t m x ⟨false,0,0⟩ else q1f c p t m x i
def qH(c:Cfg)(p:jg)(n:Nat)(t:Int)(m:MS)(x:GT):MS×GT×StM×jl:=
 match p[x.th.pc]? with
 |none=>(m,x,⟨t,0,0,acz⟩,[])
 |some i=>match x.fn with
  |some f=>q0x n p t m x f
  |none=>match x.at' with
   |some a=>if a.busy then q0H c p t m x a i else q2I c p n t m x i
   |none=>q2I c p n t m x i
def GT.rest(x:GT):Bool:=x.at'.isNone&&x.fn.isNone&&decide (x.tr=0)
def GT.dec(x:GT):Bool:=match x.at' with
 |some a=>a.dn
 |none=>false
def chN(x x':GT)(s:StM):List ChM:=
 if s.ph=16 then(if x'.dec then [⟨s.t,0,[]⟩] else [])
 else if s.ph=24 then(if x.dec=true\/x'.rest=false then [] else [⟨s.t,x'.th.oc,[]⟩])
 else if s.at'≠0\/x'.rest=false then [] else [⟨s.t,0,[]⟩]
def GT.stor(x:GT):Bool:=match x.at' with
 |some a=>a.dn&&a.sto&&(match a.ph with
  | .wr _ _=>true
  | .rl _ _=>true
  | .sp=>true
  |_=>false)
 |none=>false
def q77(k:Nat)(e:EvM):EvM:={e with ev:=(k:Int)}
structure RM where
 m:MS
 xs:List GT
 S:List StM
 E:jl
def q0E(c:Cfg)(ps:List (jg))(n:Nat)(r:RM)(t:Nat):RM:=
 match r.xs[t]?,ps[t]? with
 |some x,some p=>if x.th.dn then r else⟨(qH c p n t r.m x).1,r.xs.set t (qH c p n t r.m x).2.1,r.S++ [(qH c p n t r.m x).2.2.1],r.E++(qH c p n t r.m x).2.2.2.map (q77 r.S.length)⟩
 |_,_=>r
def qiU(c:Cfg)(ps:List (jg))(n:Nat)(r:RM)(l:jj):RM:=l.foldl (q0E c ps n) r
theorem q65{c:Cfg}{ps:List (jg)}{n:Nat}{r:RM}{l:jj}{t:Nat}:qiU c ps n r (l++ [t])=q0E c ps n (qiU c ps n r l) t:=yY ..
def goM(r:RM)(t:Nat):Bool:=match r.xs[t]? with
 |some x=> !x.th.dn
 |none=>false
def chR(c:Cfg)(ps:List (jg))(n:Nat)(r:RM)(t:Nat):List ChM:=
 match r.xs[t]?,ps[t]? with
 |some x,some p=>if x.th.dn then [] else chN x (qH c p n t r.m x).2.1 (qH c p n t r.m x).2.2.1
 |_,_=> []
def q6y(c:Cfg)(ps:List (jg))(n:Nat):RM->jj->List ChM
 |_,[]=> []
 |r,t::l=>chR c ps n r t++q6y c ps n (q0E c ps n r t) l
theorem qbl{c:Cfg}{ps:List (jg)}{n:Nat}:∀(l:jj) (r:RM) (l2:jj),q6y c ps n r (l++l2)=q6y c ps n r l++q6y c ps n (qiU c ps n r l) l2
 | [],_,_=>rfl
 |t::l,r,l2=>by
  rw[zp,q6y,q6y,qbl l,zd];rfl
theorem q8S{c:Cfg}{ps:List (jg)}{n:Nat}{r:RM}{l:jj}{t:Nat}:q6y c ps n r (l++ [t])=q6y c ps n r l++chR c ps n (qiU c ps n r l) t:=by
 rw[qbl];show _++(chR c ps n _ t++ [])=_;rw[zz]
def q3c(p:jg):GT:=⟨⟨0,⟨0,0,0,0,0,0,0,0⟩,0,decide (0=p.length)⟩,none,0,⟨0,0,0,0,0,0,0,0⟩,0,[],none,[],0⟩
def ms0(il:je)(O n:Nat):MS:=⟨il,List.replicate O 0,0,0,0,List.replicate n 0,[0,0,0,0],[]⟩
abbrev q16(c:Cfg)(il:je)(O:Nat)(ps:List (jg))(l:jj):RM:=qiU c ps ps.length ⟨ms0 il O ps.length,ps.map q3c,[],[]⟩ l
theorem qkp{p:jg}{x:GT}{a:AT}(e:a.code≠1)(d:a.code≠9):x.endG p a=({x with at':=none,th:={x.th with rg:=x.sv,oc:=a.code},tr:=0,obs:=x.obs++ [⟨x.bg,3,a.code⟩]}:GT).to p.length (q0v p x.bg+1):=by
 unfold GT.endG;rw[if_neg e,if_neg (fun h=>d h.1),if_neg d]
theorem qik{vl:je}{a:Int}:q54 [] vl a=none:=rfl
theorem q13{x v a:Int}{ad vl:je}:q54 (x::ad) (v::vl) a=if x=a then some v else q54 ad vl a:=by
 unfold q54;rw[List.idxOf?_cons]
 by_cases h:x=a
 ·subst h;simp
 ·rw[if_neg h,if_neg (by simpa using h)];cases ad.idxOf? a <;>simp
theorem q0I{a:Int}:∀{ad vl:je},ad.length=vl.length->(q54 ad vl a=none↔a∉ad)
 | [],_,_=>by simp[qik]
 |x::ad,[],h=>by simp at h
 |x::ad,v::vl,h=>by
  have d:ad.length=vl.length:=by simpa using h
  rw[q13,zN,not_or]
  by_cases e:x=a
  ·subst e;simp
  ·rw[if_neg e,q0I d];exact⟨fun h=>⟨fun f=>e f.symm,h⟩,fun h=>h.2⟩
theorem qfd{a v:Int}:∀{ad vl:je} {n:Nat},ad.length=vl.length->ad.idxOf? a=some n->∀k,q54 ad (vl.set n v) k=if a=k then some v else q54 ad vl k
 | [],_,_,_,h=>by simp at h
 |x::ad,[],_,f,_=>by simp at f
 |x::ad,w::vl,n,f,h=>by
  intro k;have g:ad.length=vl.length:=by simpa using f
  rw[List.idxOf?_cons] at h
  by_cases e:x=a
  ·subst e;simp at h;subst h;rw[Yq,q13,q13]
   split <;>rfl
  ·rw[if_neg (by simpa using e)] at h;obtain⟨j,i,rfl⟩:=Zb.1 h;rw[List.set_cons_succ,q13,q13,qfd g i k]
   by_cases d:x=k
   ·rw[if_pos d,if_pos d,if_neg (fun h=>e (d.trans h.symm))]
   ·rw[if_neg d,if_neg d]
theorem qbG{a v:Int}:∀{ad vl:je},ad.length=vl.length->a∉ad->∀k,q54 (ad++ [a]) (vl++ [v]) k=if a=k then some v else q54 ad vl k
 | [],[],_,_=>fun k=>by rw[zk,zk,q13]
 | [],_::_,h,_=>by simp at h
 |_::_,[],h,_=>by simp at h
 |x::ad,w::vl,g,e=>fun k=>by
  have f:ad.length=vl.length:=by simpa using g
  rw[zN,not_or] at e;rw[zp,zp,q13,q13,qbG f e.2 k]
  by_cases d:x=k
  ·rw[if_pos d,if_pos d,if_neg (fun h=>e.1 (h.trans d.symm))]
  ·rw[if_neg d,if_neg d]
theorem qfO{cap a v:Int}{ad vl ad' vl':je}(e:ad.length=vl.length)(h:q5Y cap ad vl a v=some (ad',vl')):
  ad'.length=vl'.length/\ad'=q1Y ad a/\∀k,q54 ad' vl' k=if a=k then some v else q54 ad vl k:=by
 unfold q5Y at h
 split at h
 ·rename_i n d;simp only[Option.some.injEq,Prod.mk.injEq] at h;obtain⟨rfl,rfl⟩:=h;refine⟨by rw[zn];exact e,?_,qfd e d⟩;unfold q1Y;rw[if_pos]
  by_cases hm:a∈ad
  ·exact hm
  ·have f:=(List.idxOf?_eq_none_iff (l:=ad) (a:=a)).2 hm;rw[f] at d;cases d
 ·rename_i d
  split at h
  ·cases h
  ·simp only[Option.some.injEq,Prod.mk.injEq] at h;obtain⟨rfl,rfl⟩:=h;have hm:a∉ad:=List.idxOf?_eq_none_iff.1 d;refine⟨by simp[e],?_,qbG e hm⟩;unfold q1Y;rw[if_neg hm]
def lay(ad vl d:je):je:=d.mapIdx fun j y=>(q54 ad vl j).getD y
theorem qmG{ad vl d:je}:(lay ad vl d).length=d.length:=Yr
theorem qar{vl d:je}:lay [] vl d=d:=by
 unfold lay;refine Zm fun j=>?_
 rw[ZA];cases d[j]? <;>rfl
theorem q4S{ad vl d:je}{k:Nat}(h:k<d.length):(lay ad vl d).getD k 0=(q54 ad vl k).getD (d.getD k 0):=by
 unfold lay;rw[zh,ZA,zh,z6 h];rfl
theorem qmH{ad vl ad' vl' d:je}{a:Nat}{v:Int}(h:∀k,q54 ad' vl' k=if(a:Int)=k then some v else q54 ad vl k):lay ad' vl' d=(lay ad vl d).set a v:=by
 unfold lay;refine Zm fun j=>?_
 rw[ZA,zx,ZA,Yr]
 by_cases f:j<d.length
 ·rw[z6 f];simp only[Zu,h]
  by_cases e:a=j
  ·subst e;rw[if_pos rfl,if_pos rfl,if_pos f];rfl
  ·rw[if_neg Yu,if_neg e]
 ·rw[zV Yu];simp only[Option.map_none]
  by_cases e:a=j
  ·rw[if_pos e,if_neg Yu]
  ·rw[if_neg e]
theorem qit{a:Nat}{v:Int}{ad vl d:je}(g:ad.length=vl.length)(h:(a:Int)∉ad):lay ((a:Int)::ad) (v::vl) d=lay ad vl (d.set a v):=by
 unfold lay;refine Zm fun j=>?_
 rw[ZA,ZA,zx]
 by_cases f:j<d.length
 ·rw[z6 f,q13]
  by_cases e:a=j
  ·subst e;rw[if_pos rfl,if_pos rfl,if_pos f,(q0I g).2 h];rfl
  ·rw[if_neg Yu,if_neg e]
 ·rw[zV Yu]
  by_cases e:a=j
  ·rw[if_pos e,if_neg Yu];rfl
  ·rw[if_neg e];rfl
inductive Rn (c:Cfg) (p:jg) (b:BM):BM->Prop
 |nil:Rn c p b b
 |snoc {b':BM} {i:Ins}:Rn c p b b'->p[b'.t.pc]? =some i->(q0M c b' i).2=0->Rn c p b (q0M c b' i).1
theorem qr4{b:BM}{a:Nat}:∀n,(wrL b a n).t=b.t
 |0=>rfl
 |n+1=>(qr4 n:(wrM (wrL b a n) (a+n) 0).t=b.t)
theorem qqU{c:Cfg}{b:BM}{i:Ins}(h:(q0M c b i).2=0):b.t.pc<(q0M c b i).1.t.pc:=by
 unfold q0M at h ⊢
 split
 ·split
  ·exact Z3 _
  ·exact Z3 _
 ·split
  ·split
   ·exact Z3 _
   ·exact Z3 _
  ·split
   ·rename_i d e f;rw[if_neg d,if_neg e,if_pos f] at h
    split
    ·rename_i g;rw[g] at h;cases h
    ·unfold BM.put;dsimp only;rw[qr4];exact Z3 _
   ·split
    ·split
     ·exact Z3 _
     ·exact Z3 _
    ·split
     ·exact Z3 _
     ·split
      ·exact Z3 _
      ·show b.t.pc<q1L b.t i;unfold q1L
       split <;>omega
theorem Rn.run{c:Cfg}{p:jg}{b d:BM}(h:Rn c p b d):∃k,b.t.pc+k<=d.t.pc/\∀f,q2c c p (k+f) b=q2c c p f d:=by
 induction h with
 |nil=>exact⟨0,zq _,fun f=>by rw[zA]⟩
 | @snoc d i h1 g e m=>
  obtain⟨k,hk,j⟩:=m;have:=qqU e;refine⟨k+1,Yu,fun f=>?_⟩;rw[yu,yU 1 f,j (f+1),q2c];simp only[g];rw[if_pos e]
theorem Rn.fin{c:Cfg}{p:jg}{b d:BM}{i:Ins}(h:Rn c p b d)(e:p[d.t.pc]? =some i)(g:(q0M c d i).2≠0):q2c c p p.length b=q0M c d i:=by
 obtain⟨k,hk,m⟩:=h.run;have hl:=(z7.1 e).1;obtain⟨f,j⟩:∃f,p.length=k+(f+1):=⟨p.length-k-1,Yu⟩
 rw[j,m (f+1),q2c];simp only[e];rw[if_neg g]
structure PrO(p:jg):Prop where
 ck:qw p=(0,0)
 na:∀i∈p,i.op≠14/\i.op≠15
def q6A(c:Cfg)(r:Rg)(i:Ins):Int:=
 if i.op=10 then(if c.words<=adr r i.b i.imm then 7 else 0) else if i.op=11 then(if c.words<=adr r i.a i.imm then 7 else 0)
 else if i.op=8 then 1 else if i.op=9 then 2 else 0
section
variable{p:jg}{k:Nat}{x:Ins}
theorem qkj(h:qw p=(0,0))(i:p[k]? =some x):0<=x.op/\x.op<18/\(stB p k<0->x.op≠8/\x.op≠9/\x.op≠10/\x.op≠11/\x.op≠14/\x.op≠15)/\(0<=stB p k->x.op≠7/\x.op≠12/\x.op≠13/\x.op≠16/\x.op≠17):=by
 have g:=qev h i;have d:=q3P h i;have ho:¬(x.op<0\/18<=x.op):=fun e=>by
  have:=d.1;unfold qJ at this;rw[if_pos e] at this;cases this
 refine⟨Yu,Yu,fun hb=>⟨fun e=>by have:=d.2.2.1 e;omega,fun e=>by have:=d.2.2.2.2 (.inl e);omega,fun e=>by have:=d.2.2.2.2 (.inr (.inl e));omega,fun e=>by have:=d.2.2.2.2 (.inr (.inr (.inl e)));omega,fun e=>by have:=d.2.2.2.2 (.inr (.inr (.inr (.inl e))));omega,fun e=>by have:=d.2.2.2.2 (.inr (.inr (.inr (.inr e))));omega⟩,fun hb=>?_⟩;have n:x.op≠7:=fun e=>by have:=d.2.1 e;omega
 unfold q9a at g;rw[if_neg (by rw[d.1];decide),if_neg Yu] at g;have f:¬q1x x=2:=fun e=>by
  rw[if_pos (.inr ⟨e,hb⟩)] at g;cases g
 refine⟨n,?_⟩;unfold q1x at f;rw[if_pos d.1] at f
 by_cases j:x.op=8\/x.op=9\/x.op=10\/x.op=11\/x.op=14\/x.op=15
 ·omega
 ·rw[if_neg j] at f
  by_cases m:x.op=7\/x.op=12\/x.op=13\/x.op=16\/x.op=17
  ·rw[if_pos m] at f;exact absurd rfl f
  ·omega
theorem qmL(h:qw p=(0,0)){th:Thr}(n:p[th.pc]? =some x)(i:x.op≠9):((q1L th x:Nat):Int)∈q3o p th.pc x:=by
 have d:=q58 h n;unfold q3o at d ⊢;unfold q1L
 by_cases e:x.op=4
 ·rw[if_pos e] at d ⊢;rw[if_pos (.inl e)];obtain⟨j,m,g,_⟩:=d _ (zf.2 rfl);rw[zf];omega
 ·rw[if_neg e] at d ⊢
  by_cases f:x.op=5\/x.op=6
  ·rw[if_pos f] at d ⊢
   split
   ·obtain⟨j,m,g,_⟩:=d _ (zl _ (zf.2 rfl));refine zl _ (zf.2 ?_);omega
   ·exact zN.2 (.inl Yu)
  ·rw[if_neg f,if_neg i] at d ⊢;rw[if_neg Yu,zf];omega
theorem qfs(h:qw p=(0,0)){th:Thr}(e:p[th.pc]? =some x)(d:x.op≠9):th.pc<q1L th x/\q1L th x<=p.length/\(0<=stB p th.pc->x.op≠8->q1L th x<=q1S (p.drop th.pc) th.pc)/\
  (stB p th.pc<0->∀(b:Nat) (y:Ins),th.pc<b->p[b]? =some y->y.op=7->q1L th x<=b\/q0v p b<q1L th x):=by
 obtain⟨j,hj,g,i,m,n⟩:=q58 h e _ (qmL h e d);obtain rfl:q1L th x=j:=Yu;exact⟨g,i,fun f q=>(m f q).1 d,n⟩
theorem q93(f:PrO p){b:Nat}{ib:Ins}(hb:p[b]? =some ib)(r:ib.op=7)(n:b<k)(h:k<=q0v p b):stB p k=b/\q1S (p.drop k) k=q0v p b/\k<p.length/\∃i,p[k]? =some i/\
  (i.op=8\/i.op=9\/i.op=10\/i.op=11\/(0<=i.op/\i.op<=6))/\(k<q0v p b->i.op≠8):=by
 obtain⟨c,s,h3,h4,_,_,q⟩:=q0g f.ck hb r;rw[s] at h ⊢;obtain⟨g,j,m⟩:=q k n h;refine⟨g,j,Yu,?_⟩;obtain⟨i,d⟩:∃i,p[k]? =some i:=⟨_,z6 Yu⟩
 obtain⟨r1,r2,_,r3⟩:=qkj f.ck d;have r3:=r3 (by rw[g];omega);have hna:=f.na i (zg d);exact⟨i,d,Yu,fun e=>(m e i d).2⟩
theorem qkN(e:PrO p)(d:stB p k<0)(f:p[k]? =some x):x.op=7\/x.op=12\/x.op=13\/x.op=16\/x.op=17\/(0<=x.op/\x.op<=6):=by
 obtain⟨r1,r2,r3,_⟩:=qkj e.ck f;have:=r3 d;omega
theorem qo5(h:qw p=(0,0)){j:Nat}(hk:stB p k<0)(hkj:k<j)(u:j<=p.length)(G:p[k]? =some x)(E:x.op≠7)(F:∀(b:Nat) (y:Ins),k<b->p[b]? =some y->y.op=7->j<=b\/q0v p b<j):stB p j<0:=by
 rcases (qeu h u).bb with e|⟨w,h1,A⟩
 ·omega
 ·exfalso
  --the begin lies behind k
  have g:∀(n:Nat),n<=p.length->0<=stB p n->∃y,p[(stB p n).toNat]? =some y/\y.op=7:=by
   intro n
   induction n with
   |zero=>intro _ h;simp[stB] at h
   |succ n H=>
    intro hn f;obtain⟨z,v⟩:∃z,p[n]? =some z:=⟨_,z6 Yu⟩
    rw[q2u v] at f ⊢;unfold q0w at f ⊢
    by_cases m:z.op=7
    ·rw[if_pos m];exact⟨z,by simpa using v,m⟩
    ·rw[if_neg m] at f ⊢
     by_cases s:z.op=8
     ·rw[if_pos s] at f;omega
     ·rw[if_neg s] at f ⊢;exact H Yu f
  obtain⟨y,i,d⟩:=g j u w;obtain⟨c,hc,h3,h4,_,h5,B⟩:=q0g h i d;have hle:j<=q0v p (stB p j).toNat:=by rw[A];exact(q3A _ _).1
  by_cases r:k<(stB p j).toNat
  ·rcases F _ y r i d with e|e <;>omega
  ·by_cases q:k=(stB p j).toNat
   ·rw[<-q,G] at i;cases i;exact E d
   ·have:=(B k Yu Yu).1;omega
end
open Go
section
variable{W0:World}{own:Own}{c:Cfg}{la pka:j9}{lc pkc:Nat}{ls:List IH}{pks:je}
theorem qdD(n d:Int)(heap plain:Bool)(hc:0<=c.words/\c.words<=1000000)(hn:1<=n/\n<=1000)(hm:1<=d/\d<=64)
  (X:RdE IH.enc 1 W0 own la ls) (hQ:∀h∈ls,RdE qv 1 W0 own h.a h.l/\h.l.length<=1000000) (Y:RdE qv 1 W0 own pka pks) (hpl:pks.length<=1000000):
  jn W0 13 [c.v,j5 n, .slice la ls.length lc,j5 d, .bool heap, .bool plain, .slice pka pks.length pkc] own fun v own'=>
   ∃ia il ic S pa ps pc V ka ks kc U,v=q9i c ia (List.length il) ic pa (List.length ps) pc ka (List.length ks) kc/\qo q05 72 1 ia ic il S/\qo PH.enc 82 1 pa pc (ps.map PB.h) V/\qo qv 3 1 ka kc ks U/\
    (∀x∈ps,x.ok/\q0F x.h.p=(0,0)/\(x.h.p.length:Int)<=d/\∀y∈x.h.p,qiP heap y)/\(il.length:Int)=c.words/\(∀x∈il,0<=x/\x<=3)/\(ps.length:Int)=n/\ks.length=pks.length/\(∀k∈ks,0<=k/\k<n)/\Ent W0 own' (U++(V++(q3W ps++(S++own)))):=by
 refine sH (3::(jq 9 7 (1::5::26::28::30::31::34::0::26::5::28::30::31::34::0::(jq 8 3 [20,22,23,26,0])))) ?_
 repeat'((try conv=>whnf);first|refine q3h rfl ?_|apply q07;exact eM;exact rfl|apply q3G;(first|(solve|repeat(first|with_reducible exact Up.head|with_reducible apply Up.tail|with_reducible apply Up.app))|repeat(first|exact Up.head|apply Up.tail|apply Up.app));(solve|((try(conv=>arg 2;whnf));repeat'(first|exact Lis.nil|apply Lis.cons|apply q1b.here|apply q1b.there|apply q0e.done|apply q0e.put|apply q0e.skip)));exact rfl|refine qf fun z m=>?_)
 rename_i N h7 w h14;refine qK (σ:=je×j9×Nat×Own) (fun s=> [(16,j5 s.1.length)]) (fun s=>(z,j8 (qdU c (.slice s.2.1 s.1.length s.2.2.1) qos qos) 32)::(s.2.2.2++qoc w N c own))
  (fun s=>qo q05 72 1 s.2.1 s.2.2.1 s.1 s.2.2.2/\(s.1.length:Int)<=c.words/\∀x∈s.1,0<=x/\x<=3) (fun s=>(c.words-s.1.length).toNat) ([],none,0,[]) ⟨qo.nil,(by simp;omega),fun _ h=>(by cases h)⟩ (eF) Ent.refl rfl ?_
 rintro s junk ⟨W,hw,L⟩
 by_cases hlt:(s.1.length:Int)<c.words
 ·repeat'((try conv=>whnf);first|refine q0G Yu ?_|refine q4p (enc:=q05) ((s.1.length:Int) % 4) W (by(repeat(first|exact At.head|apply At.tail|apply At.skip))) (eN) rfl rfl Yu rfl rfl Yu fun a1 c1 D1 g=>?_|refine fB ?_|refine fC ?_|apply qS;exact eM;exact rfl|apply q9K;(first|(solve|repeat(first|with_reducible exact Up.head|with_reducible apply Up.tail|with_reducible apply Up.app))|repeat(first|exact Up.head|apply Up.tail|apply Up.app));(solve|((try(conv=>arg 2;whnf));repeat'(first|exact Lis.nil|apply Lis.cons|apply q1b.here|apply q1b.there|apply q0e.done|apply q0e.put|apply q0e.skip)));exact rfl|refine qf fun z m=>?_|refine q3Z ?_ ?_;omega)
  refine⟨(s.1++ [(s.1.length:Int) % 4],a1,c1,D1),⟨g,(by simp;omega),fun x e=>?_⟩,by simp;omega,?_,?_⟩
  ·rcases zy.1 e with e|e
   ·exact L x e
   ·rw[zf.1 e];omega
  ·simp only[z8,zm,zE,zA];exact(eF)
  ·simp only[z8,zm,zE,zA];exact eB
 ·repeat'((try conv=>whnf);first|refine q1r Yu ?_|apply qS;exact eM;exact rfl)
  refine qK (σ:=List PB×j9×Nat×Own) (fun q=> [(17,j5 (q.1.map PB.h).length)]) (fun q=>(z,j8 (qdU c (.slice s.2.1 s.1.length s.2.2.1) (.slice q.2.1 (q.1.map PB.h).length q.2.2.1) qos) 32)::(q.2.2.2++(q3W q.1++(s.2.2.2++qoc w N c own))))
   (fun q=>qo PH.enc 82 1 q.2.1 q.2.2.1 (q.1.map PB.h) q.2.2.2/\(∀x∈q.1,x.ok/\q0F x.h.p=(0,0)/\(x.h.p.length:Int)<=d/\∀y∈x.h.p,qiP heap y)/\((q.1.map PB.h).length:Int)<=n) (fun q=>(n-(q.1.map PB.h).length).toNat) ([],none,0,[]) ⟨qo.nil,fun _ h=>(by cases h),by simp;omega⟩ (eF) Ent.refl rfl ?_
  rintro q junk2 ⟨A,K,Q⟩
  by_cases I:((q.1.map PB.h).length:Int)<n
  ·have r:∀a1 c1 D1 f a3 j i (O:Bool),(O=true->heap=true)->qo Ins.enc 64 5 a1 c1 f D1->(q0F f=(0,0)/\(f.length:Int)<=d/\∀y∈f,qiP O y)->qo PH.enc 82 1 a3 j (q.1.map PB.h++ [⟨a1,c1,f⟩]) i->
     qo PH.enc 82 1 a3 j ((q.1++ [(⟨⟨a1,c1,f⟩,D1⟩:PB)]).map PB.h) i/\(∀x∈q.1++ [(⟨⟨a1,c1,f⟩,D1⟩:PB)],x.ok/\q0F x.h.p=(0,0)/\(x.h.p.length:Int)<=d/\∀y∈x.h.p,qiP heap y)/\(((q.1++ [(⟨⟨a1,c1,f⟩,D1⟩:PB)]).map PB.h).length:Int)<=n:=fun a1 c1 D1 f a3 j i O hh Z M h3=>by
    refine⟨by rw[zB];exact h3,fun x e=>?_,by rw[zB,z8];simp only[zF,Z5,zm,zE];omega⟩
    rcases zy.1 e with e|e
    ·exact K x e
    ·rw[zf.1 e];exact⟨Z,M.1,M.2.1,fun y u=>⟨(M.2.2 y u).1,fun h=>hh ((M.2.2 y u).2 h)⟩⟩
   by_cases ht:(q.1.map PB.h).length<ls.length
   ·obtain⟨x,e⟩:∃x,ls[(q.1.map PB.h).length]? =some x:=⟨_,z6 ht⟩
    obtain⟨F,R⟩:=hQ x (zg e);have ht':((q.1.map PB.h).length:Int)<ls.length:=Yu;cases heap
    all_goals
     repeat'((try conv=>whnf);first|refine qO ?_|refine q1I ?_|refine q0G Yu ?_|apply q2M (fun _=>q7s _ _ c)|refine qep (q7r (l:=x.l) (lc:=x.cap) d _ plain (F.ent (eB)) R hm) fun a1 c1 D1 f g E=>?_|refine q4p (enc:=PH.enc) ⟨a1,c1,f⟩ A (by(repeat(first|exact At.head|apply At.tail|apply At.skip))) (eN) rfl rfl Yu rfl rfl Yu fun a3 j i B=>?_|(apply gLd;first|refine ldE (k:=0) (RdE.ent X ?_) e ?_ rfl ?_;rotate_left;rfl;rotate_left;(solve|(exact eB)))|(apply qF;first|refine ixE X e ?_ ?_;(first|rfl|omega))|refine fB ?_|apply qS;exact eM;exact rfl|apply q07;exact eM;exact rfl|apply q9K;(first|(solve|repeat(first|with_reducible exact Up.head|with_reducible apply Up.tail|with_reducible apply Up.app))|repeat(first|exact Up.head|apply Up.tail|apply Up.app));(solve|((try(conv=>arg 2;whnf));repeat'(first|exact Lis.nil|apply Lis.cons|apply q1b.here|apply q1b.there|apply q0e.done|apply q0e.put|apply q0e.skip)));exact rfl|refine qf fun z m=>?_|refine q1a.mk ?_ ?_)
    all_goals refine⟨(q.1++ [(⟨⟨a1,c1,f⟩,D1⟩:PB)],a3,j,i),r a1 c1 D1 f a3 j i _ Yw g E B,by rw[zB,z8];simp only[zF,Z5,zm,zE];omega,?_,?_⟩
    all_goals simp only[q5U,zB,z8,zF,Z5,zm,zE,zA]
    all_goals first|exact qbu|exact(eF)
   ·have F:RdE qv 1 W0 own none []:=RdE.nil;cases heap
    all_goals
     repeat'((try conv=>whnf);first|refine qO ?_|refine q1I ?_|refine q0G Yu ?_|refine q1r Yu ?_|apply q2M (fun _=>q7s _ _ c)|refine qep (q7r (la:=none) (l:= []) (lc:=0) d _ plain (F.ent (eB)) Yw hm) fun a1 c1 D1 f g E=>?_|refine q4p (enc:=PH.enc) ⟨a1,c1,f⟩ A (by(repeat(first|exact At.head|apply At.tail|apply At.skip))) (eN) rfl rfl Yu rfl rfl Yu fun a3 j i B=>?_|refine fB ?_|apply qS;exact eM;exact rfl|apply q07;exact eM;exact rfl|apply q9K;(first|(solve|repeat(first|with_reducible exact Up.head|with_reducible apply Up.tail|with_reducible apply Up.app))|repeat(first|exact Up.head|apply Up.tail|apply Up.app));(solve|((try(conv=>arg 2;whnf));repeat'(first|exact Lis.nil|apply Lis.cons|apply q1b.here|apply q1b.there|apply q0e.done|apply q0e.put|apply q0e.skip)));exact rfl|refine qf fun z m=>?_|refine q1a.mk ?_ ?_)
    all_goals refine⟨(q.1++ [(⟨⟨a1,c1,f⟩,D1⟩:PB)],a3,j,i),r a1 c1 D1 f a3 j i _ Yw g E B,by rw[zB,z8];simp only[zF,Z5,zm,zE];omega,?_,?_⟩
    all_goals simp only[q5U,zB,z8,zF,Z5,zm,zE,zA]
    all_goals first|exact qbu|exact(eF)
  ·repeat'((try conv=>whnf);first|refine q1r Yu ?_)
   refine qK (σ:=je×j9×Nat×Own) (fun k=> [(19,j5 k.1.length)]) (fun k=>(z,j8 (qdU c (.slice s.2.1 s.1.length s.2.2.1) (.slice q.2.1 (q.1.map PB.h).length q.2.2.1) (.slice k.2.1 k.1.length k.2.2.1)) 32)::(k.2.2.2++(q.2.2.2++(q3W q.1++(s.2.2.2++qoc w N c own)))))
    (fun k=>qo qv 3 1 k.2.1 k.2.2.1 k.1 k.2.2.2/\(∀x∈k.1,0<=x/\x<n)/\k.1.length<=pks.length) (fun k=>pks.length-k.1.length) ([],none,0,[]) ⟨qo.nil,fun _ h=>(by cases h),Yw⟩ (eF) Ent.refl rfl ?_
   rintro k junk3 ⟨G,H,hkn⟩
   by_cases J:k.1.length<pks.length
   ·obtain⟨x,e⟩:∃x,pks[k.1.length]? =some x:=⟨_,z6 J⟩
    have hlt3':(k.1.length:Int)<pks.length:=Yu
    repeat'((try conv=>whnf);first|refine q0G Yu ?_|refine qa2 ?_ fun p hp=>?_;omega|refine q4p (enc:=qv) p G (by(repeat(first|exact At.head|apply At.tail|apply At.skip))) (eN) rfl rfl Yu rfl rfl Yu fun a1 c1 D1 g=>?_|(apply gLd;first|refine ldE (k:=0) (RdE.ent Y ?_) e ?_ rfl ?_;rotate_left;rfl;rotate_left;(solve|(exact eB)))|(apply qF;first|refine ixE Y e ?_ ?_;(first|rfl|omega))|refine fB ?_|apply qS;exact eM;exact rfl|apply q9K;(first|(solve|repeat(first|with_reducible exact Up.head|with_reducible apply Up.tail|with_reducible apply Up.app))|repeat(first|exact Up.head|apply Up.tail|apply Up.app));(solve|((try(conv=>arg 2;whnf));repeat'(first|exact Lis.nil|apply Lis.cons|apply q1b.here|apply q1b.there|apply q0e.done|apply q0e.put|apply q0e.skip)));exact rfl|refine qf fun z m=>?_)
    all_goals refine⟨(k.1++ [p],a1,c1,D1),⟨g,fun y u=>?_,by simp;omega⟩,by simp;omega,?_,?_⟩
    all_goals first|(rcases zy.1 u with u|u;exact H y u;rw[zf.1 u];exact hp)|skip
    all_goals simp only[z8,zm,zE,zA]
    all_goals first|exact Ent.cons Ent.refl|exact(eF)
   ·repeat'((try conv=>whnf);first|refine q1r Yu ?_|refine q3h rfl ?_|apply q07;exact eM;exact rfl|apply q3G;(first|(solve|repeat(first|with_reducible exact Up.head|with_reducible apply Up.tail|with_reducible apply Up.app))|repeat(first|exact Up.head|apply Up.tail|apply Up.app));(solve|((try(conv=>arg 2;whnf));repeat'(first|exact Lis.nil|apply Lis.cons|apply q1b.here|apply q1b.there|apply q0e.done|apply q0e.put|apply q0e.skip)));exact rfl)
    refine⟨s.2.1,s.1,s.2.2.1,s.2.2.2,q.2.1,q.1,q.2.2.1,q.2.2.2,k.2.1,k.1,k.2.2.1,k.2.2.2,?_,W,A,G,K,Yu,L,?_,Yu,H,?_⟩
    ·rw[zi];rfl
    ·rw[zi] at I Q;omega
    ·exact Ent.cons (Ent.of_sub (((((List.Sublist.refl own).cons _).cons _).append_left s.2.2.2).append_left (q3W q.1)|>.append_left q.2.2.2|>.append_left k.2.2.2))
end
end Go.Proofs.YtikpjajangpdjaaGreatDoor
