/- What the laws share, part 12. No condition. -/
import Derived.Laws.FloatBits
import Derived.Test.YtbhbldllneadeaaGreatDoorQ11
set_option maxHeartbeats 4000000
set_option maxRecDepth 10000
namespace Go.Proofs.YtbhbldllneadeaaGreatDoor
open Go
theorem q0m(e:Int):okU (qM e):=by
 unfold qM IntKind.wrap;have h3:((2:Int) ^ IntKind.u64.bits)=18446744073709551616:=rfl;simp only[h3,IntKind.signed,yX,zO,if_false,okU];omega
theorem q27{e:Int}(h:okU e):qM e=e:=q4j h.1 h.2
theorem q2z(b:Bool):okU (Alu.truthM b):=by unfold Alu.truthM okU;split <;>omega
theorem q9H:okU Alu.nanW:=by unfold Alu.nanW okU;omega
theorem q6s{x:Nat}(h:x<18446744073709551616):okU (Alu.plainM x):=by
 unfold Alu.plainM
 split
 ·exact q9H
 ·unfold okU;omega
theorem qgF(d:Ieee.Datum):FloatKind.f64.encode d<18446744073709551616:=by
 have:=Ieee.Format.write_lt Ieee.double d;have e:(2:Nat) ^ Ieee.double.width=18446744073709551616:=by decide+kernel
 rw[e] at this;exact this
theorem qcq{neg:Bool}{a b:Nat}(ha:a<18446744073709551616)(hb:b<18446744073709551616):q4B neg a b<18446744073709551616:=by
 unfold q4B
 (repeat' split) <;>first|exact qgF _|omega
theorem q9s(op:BinOp)(a b:Nat):okU (Alu.fopM op a b):=by
 unfold Alu.fopM
 split
 ·rename_i r hr;exact q6s (Alu.fb_lt hr)
 ·exact q9H
theorem qlk{x:Int}(hx:okU x)(n:Nat):okU (x.fdiv (2 ^ n)):=by
 have h2:(0:Int)<2 ^ n:=Int.pow_pos Y7;have h0:=Int.fdiv_nonneg hx.1 (Int.le_of_lt h2);have h1:x.fdiv (2 ^ n)≤x:=by
  rw[Int.fdiv_eq_ediv_of_nonneg _ (Int.le_of_lt h2)];exact Int.ediv_le_self _ hx.1
 exact⟨h0,Int.le_trans h1 hx.2⟩
theorem q0j{p:Prop} [Decidable p]{a b:Int}(ha:okU a)(hb:okU b):okU (if p then a else b):=by
 split <;>assumption
theorem qi9{fn x y:Int}(hx:okU x):okU (Alu.intsM fn x y):=
 q0j (q0m _) (q0j (q0m _) (q0j (q0m _) (q0j (q0m _) (q0j (q0m _) (q0j (q0m _) (q0j (q0m _) (q0j (qlk hx _) (q0j (q2z _) (q0j (q2z _) (q0j (q2z _) (q2z _)))))))))))
theorem qbS{fn:Int}{a b:Nat}(ha:a<18446744073709551616)(hb:b<18446744073709551616):okU (Alu.floatsM fn a b):=
 q0j (q9s _ _ _) (q0j (q9s _ _ _) (q0j (q9s _ _ _) (q0j (q9s _ _ _) (q0j (q0j q9H (q6s (qcq ha hb))) (q0j (q0j q9H (q6s (qcq ha hb))) (q0j (q2z _) (q2z _)))))))
theorem qin(n:Int):okU (FloatKind.f64.nearest n:Int):=by
 have:=qgF (.number (decide (n<0)) n.natAbs 0);have e:FloatKind.f64.nearest n=FloatKind.f64.encode (.number (decide (n<0)) n.natAbs 0):=rfl;rw[e];generalize FloatKind.f64.encode (.number (decide (n<0)) n.natAbs 0)=z at*;unfold okU;omega
theorem qbl{fn x y:Int}(hx:okU x)(hy:okU y):okU (Alu.applyW fn x y):=by
 have hxn:x.toNat<18446744073709551616:=by unfold okU at hx;omega
 have hyn:y.toNat<18446744073709551616:=by unfold okU at hy;omega
 exact q0j (q0j (qin _) (q0j (q0m _) (q0j (qbS hxn hyn) (qi9 hx)))) ⟨Y7,Y7⟩
def Rg.ok(r:Rg):Prop:=∀k,okU (r.get k)
theorem Rg.ok_set{r:Rg}{k:Nat}{v:Int}(h:r.ok)(hv:okU v):(r.set k v).ok:=fun j=>by
 by_cases hk:k<8
 ·rw[Rg.get_set hk]
  split
  ·exact hv
  ·exact h j
 ·obtain⟨m,rfl⟩:∃m,k=m+8:=⟨k-8,Y6⟩
  exact h j
theorem Rg.ok_0:(⟨0,0,0,0,0,0,0,0⟩:Rg).ok:=fun k=>by
 by_cases hk:k<8
 ·rcases lt8 hk with rfl|rfl|rfl|rfl|rfl|rfl|rfl|rfl <;>exact⟨Y7,Y7⟩
 ·obtain⟨m,rfl⟩:∃m,k=m+8:=⟨k-8,Y6⟩
  exact(show okU 0 from ⟨Y7,Y7⟩)
theorem q8p{t:Thr}{x:Ins}(h:t.rg.ok):(q3S t x).ok:=by
 unfold q3S
 (repeat' split) <;>first|exact Rg.ok_set h (q0m _)|exact Rg.ok_set h (h _)|exact Rg.ok_set h (qbl (h _) (h _))|exact h
abbrev q09(n:Int):List Value:= [.int .u64 n]
section
variable{P:Program}{W0:World}{own D:Own}{C:Own→Own}{k k0:FuncId}{args args0:List Value}
theorem qD{R:Value→Prop}{O:Own}(h:qt P W0 k args own fun v own'=>R v∧Ent W0 own' O):qt P W0 k args own fun v own'=>∃_:Unit,R v∧Ent W0 own' O:=fun w hw=>
 (h w hw).mono fun _ _ ⟨v,o,a,b,c,d⟩=>⟨v,o,a,b,(),c,d⟩
end
section
variable{W0:World}{own:Own}
theorem qK{a:Option Addr}{l:List Int}{cap:Nat}(hR:RdE q09 1 W0 own a l)(hl:l.length≤1000000000):
  qt Tryz.prog W0 61 [.slice a l.length cap] own fun v own'=>∃s:Option Addr×Nat×Own,(v= .slice s.1 l.length s.2.1∧qu q09 49 1 s.1 s.2.1 l s.2.2)∧Ent W0 own' (s.2.2++own):=by
 refine sH [] ?_;cases a with
 |none=>
  have hn:l= []:=by
   by_cases h:l= []
   ·exact h
   ·have:=hR.isS h;cases this
  subst hn
  repeat'((try(conv=>whnf));first|(refine fE ?_))
  exact⟨(none,0,[]),⟨rfl,qu.nil⟩,(eC)⟩
 |some a=>
  repeat'((try(conv=>whnf));first|(refine fD ?_)|(refine q62 (enc:=q09) (l:= []) (l2:=l) qu.nil (At.head (D:= []) (r:=_)) hR.up rfl rfl Y6 (fun _ _=>rfl) (fun _=>by simp;omega) (fun a1 c1 D1 hB1=> ?_);(rw[zM,zD l.length]);(apply Stop.h))|(refine qf (fun bk hbk=> ?_)))
  refine Stop.mk ?_;rw[zi] at hB1;exact⟨(a1,c1,D1),⟨rfl,hB1⟩,Ent.of_sub ((zT _ own).append_left D1)⟩
theorem qI{a:Option Addr}{l:List Int}{cap:Nat}(hR:RdE qx 1 W0 own a l)(hl:l.length≤1000000000):
  qt Tryz.prog W0 38 [.slice a l.length cap] own fun v own'=>∃s:Option Addr×Nat×Own,(v= .slice s.1 l.length s.2.1∧qu qx 3 1 s.1 s.2.1 l s.2.2)∧Ent W0 own' (s.2.2++own):=by
 refine sH [] ?_;cases a with
 |none=>
  have hn:l= []:=by
   by_cases h:l= []
   ·exact h
   ·have:=hR.isS h;cases this
  subst hn
  repeat'((try(conv=>whnf));first|(refine fE ?_))
  exact⟨(none,0,[]),⟨rfl,qu.nil⟩,(eC)⟩
 |some a=>
  repeat'((try(conv=>whnf));first|(refine fD ?_)|(refine q62 (enc:=qx) (l:= []) (l2:=l) qu.nil (At.head (D:= []) (r:=_)) hR.up rfl rfl Y6 (fun _ _=>rfl) (fun _=>by simp;omega) (fun a1 c1 D1 hB1=> ?_);(rw[zM,zD l.length]);(apply Stop.h))|(refine qf (fun bk hbk=> ?_)))
  refine Stop.mk ?_;rw[zi] at hB1;exact⟨(a1,c1,D1),⟨rfl,hB1⟩,Ent.of_sub ((zT _ own).append_left D1)⟩
theorem q4N{a:Option Addr}{l:List Thr}{cap:Nat}(hR:RdE Thr.enc 11 W0 own a l)(hl:l.length≤1000000000):
  qt Tryz.prog W0 66 [.slice a l.length cap] own fun v own'=>∃s:Option Addr×Nat×Own,(v= .slice s.1 l.length s.2.1∧qu Thr.enc 89 11 s.1 s.2.1 l s.2.2)∧Ent W0 own' (s.2.2++own):=by
 refine sH [] ?_;cases a with
 |none=>
  have hn:l= []:=by
   by_cases h:l= []
   ·exact h
   ·have:=hR.isS h;cases this
  subst hn
  repeat'((try(conv=>whnf));first|(refine fE ?_))
  exact⟨(none,0,[]),⟨rfl,qu.nil⟩,(eC)⟩
 |some a=>
  repeat'((try(conv=>whnf));first|(refine fD ?_)|(refine q62 (enc:=Thr.enc) (l:= []) (l2:=l) qu.nil (At.head (D:= []) (r:=_)) hR.up rfl rfl Y6 (fun _ _=>rfl) (fun _=>by simp;omega) (fun a1 c1 D1 hB1=> ?_);(rw[zM,zD l.length]);(apply Stop.h))|(refine qf (fun bk hbk=> ?_)))
  refine Stop.mk ?_;rw[zi] at hB1;exact⟨(a1,c1,D1),⟨rfl,hB1⟩,Ent.of_sub ((zT _ own).append_left D1)⟩
theorem q3X{a:Option Addr}{l:List ObM}{cap:Nat}(hR:RdE ObM.enc 3 W0 own a l)(hl:l.length≤1000000000):
  qt Tryz.prog W0 67 [.slice a l.length cap] own fun v own'=>∃s:Option Addr×Nat×Own,(v= .slice s.1 l.length s.2.1∧qu ObM.enc 78 3 s.1 s.2.1 l s.2.2)∧Ent W0 own' (s.2.2++own):=by
 refine sH [] ?_;cases a with
 |none=>
  have hn:l= []:=by
   by_cases h:l= []
   ·exact h
   ·have:=hR.isS h;cases this
  subst hn
  repeat'((try(conv=>whnf));first|(refine fE ?_))
  exact⟨(none,0,[]),⟨rfl,qu.nil⟩,(eC)⟩
 |some a=>
  repeat'((try(conv=>whnf));first|(refine fD ?_)|(refine q62 (enc:=ObM.enc) (l:= []) (l2:=l) qu.nil (At.head (D:= []) (r:=_)) hR.up rfl rfl Y6 (fun _ _=>rfl) (fun _=>by simp;omega) (fun a1 c1 D1 hB1=> ?_);(rw[zM,zD l.length]);(apply Stop.h))|(refine qf (fun bk hbk=> ?_)))
  refine Stop.mk ?_;rw[zi] at hB1;exact⟨(a1,c1,D1),⟨rfl,hB1⟩,Ent.of_sub ((zT _ own).append_left D1)⟩
theorem q2K{a:Option Addr}{l:List Ins}{cap:Nat}(hR:RdE Ins.enc 5 W0 own a l)(hl:l.length≤1000000000):
  qt Tryz.prog W0 62 [.slice a l.length cap] own fun v own'=>∃s:Option Addr×Nat×Own,(v= .slice s.1 l.length s.2.1∧qu Ins.enc 40 5 s.1 s.2.1 l s.2.2)∧Ent W0 own' (s.2.2++own):=by
 refine sH [] ?_;cases a with
 |none=>
  have hn:l= []:=by
   by_cases h:l= []
   ·exact h
   ·have:=hR.isS h;cases this
  subst hn
  repeat'((try(conv=>whnf));first|(refine fE ?_))
  exact⟨(none,0,[]),⟨rfl,qu.nil⟩,(eC)⟩
 |some a=>
  repeat'((try(conv=>whnf));first|(refine fD ?_)|(refine q62 (enc:=Ins.enc) (l:= []) (l2:=l) qu.nil (At.head (D:= []) (r:=_)) hR.up rfl rfl Y6 (fun _ _=>rfl) (fun _=>by simp;omega) (fun a1 c1 D1 hB1=> ?_);(rw[zM,zD l.length]);(apply Stop.h))|(refine qf (fun bk hbk=> ?_)))
  refine Stop.mk ?_;rw[zi] at hB1;exact⟨(a1,c1,D1),⟨rfl,hB1⟩,Ent.of_sub ((zT _ own).append_left D1)⟩
variable{a:Option Addr}{l:List Int}{cap:Nat}
def qe2(x:Int):List Int→Nat→Int
 | [],_=> -1
 |y::l,k=>if x=y then k else qe2 x l (k+1)
theorem q9y(x:Int):∀(l:List Int) (k:Nat),0≤qe2 x l k↔x∈l
 | [],k=>by simp[qe2]
 |y::l,k=>by
  unfold qe2
  split
  ·rename_i h;subst h;simp
  ·rename_i h;rw[q9y x l (k+1)];simp[h]
theorem q7w(hR:RdE qx 1 W0 own a l)(hl:l.length≤1000000000)(x:Int):qE Tryz.prog W0 106 [.slice a l.length cap, .int .i64 x] own (.int .i64 (qe2 x l 0)):=by
 refine qg (sH [] ?_);generalize hres:qe2 x l 0=res;refine q1O (σ:=Nat) (fun k=> [(8, .int .i64 k)]) (fun k=>k≤l.length∧qe2 x (l.drop k) k=res) (fun k=>l.length-k) 0 ⟨Y6,hres⟩ (eF) rfl ?_;rintro k junk ⟨hk,hI⟩
 by_cases hlt:k<l.length
 ·obtain⟨y,hy⟩:∃y,l[k]? =some y:=⟨_,z6 hlt⟩
  have hlt':(k:Int)<l.length:=Y6;rw[q4q hy,qe2] at hI
  by_cases he:x=y
  ·rw[if_pos he] at hI
   repeat'((try(conv=>whnf));first|(refine fF ?_)|((apply gLd);first|(refine q0r hR hy rfl ?_))|((apply qJ);first|((refine ixE hR hy ?_ ?_;(first|rfl|omega)))))
   exact⟨q0J (vi hI),(eC)⟩
  ·rw[if_neg he] at hI
   repeat'((try(conv=>whnf));first|(refine fF ?_)|(refine fG ?_)|((apply gLd);first|(refine q0r hR hy rfl ?_))|((apply qJ);first|((refine ixE hR hy ?_ ?_;(first|rfl|omega))))|(refine fB ?_))
   exact⟨k+1,⟨Y6,hI⟩,Y6,(eF),Ent.refl⟩
 ·have hlt':¬(k:Int)<l.length:=Y6;obtain rfl:k=l.length:=Y6;rw[ZQ,qe2] at hI
  repeat'((try(conv=>whnf));first|(refine fG ?_))
  exact⟨q0J (vi hI),(eC)⟩
theorem q0q(hR:RdE qx 1 W0 own a l)(hl:l.length≤1000000000)(x:Int):qE Tryz.prog W0 74 [.slice a l.length cap, .int .i64 x] own (.bool (decide (x∈l))):=by
 refine qg (sH [] ?_);have h:=q7w (cap:=cap) hR hl x;have hm:=q9y x l 0;generalize qe2 x l 0=z at*
 repeat'((try(conv=>whnf));first|((apply qe);first|((refine qd (h) ?_))))
 exact⟨q0J (vb (dd hm)),(eC)⟩
end
open Go
abbrev thB(b:Nat)(T:TypeId)(pre post:List Value)(t:Thr):Nat×(Obj→Prop):=(b,fun o=>o=Obj.cells (pre++(t.enc++post)).toArray T (0,0))
theorem qlQ{pre post:List Value}{t:Thr}{k:Nat}{v:Value}(h:t.enc[k]? =some v):(pre++(t.enc++post))[pre.length+k]? =some v:=by
 have hk:k<t.enc.length:=(z7.1 h).1;rw[zP Y6,Zn,zy hk,h]
theorem qlS{pre post:List Value}{t:Thr}{k:Nat}{v:Value}(h:k<11):(pre++(t.enc++post)).set (pre.length+k) v=pre++(t.enc.set k v++post):=by
 have hk:k<t.enc.length:=h;rw[ZH _ _ Y6,Zn,yP _ _ hk]
theorem q0T{x:Ins}(h:qS x=0):(0≤x.op∧x.op<18)∧(qlX x.op=true→0≤x.a∧x.a<8)∧(qlY x.op=true→0≤x.b∧x.b<8)∧(qlZ x.op=true→0≤x.c∧x.c<8)∧(x.op=4∨x.op=5∨x.op=6→0≤x.imm∧x.imm≤64)∧(x.op=14→0≤x.imm∧x.imm<4):=by
 unfold qS at h
 split at h
 ·cases h
 ·rename_i h0
  split at h
  ·rename_i hr
   split at h
   ·rename_i hi;obtain⟨h1,h2,h3⟩:=hr;refine⟨Y6,fun e=>by simpa [q42,e] using h1,fun e=>by simpa [q42,e] using h2,fun e=>by simpa [q42,e] using h3,fun e=> ?_,fun e=> ?_⟩
    ·unfold q5g at hi;rw[if_neg Y6,if_neg Y6,if_pos e] at hi;exact hi
    ·unfold q5g at hi;rw[if_neg Y6,if_neg Y6,if_neg Y6,if_neg Y6,if_pos e] at hi;exact hi
   ·cases h
  ·cases h
section
variable{W0:World}{own:Own}{b o:Nat}{T:TypeId}{pre post:List Value}{t:Thr}
theorem q6l{off k:Nat}{v:Value}{K:Value→Prop} [m:qy b (fun o=>o=Obj.cells (pre++(t.enc++post)).toArray T (0,0)) own](h:t.enc[k]? =some v)(ho:off=pre.length+k)(hk:K v):Ld W0 own ⟨b,off,none⟩ K:=by
 subst ho;exact q0b v m.h (by rw[zL];exact qlQ h) hk
theorem q2I{off i:Nat}{K:Value→Prop} [m:qy b (fun o=>o=Obj.cells (pre++(t.enc++post)).toArray T (0,0)) own](hi:i<8)(ho:off=pre.length+(1+i))(hk:K (.int .u64 (t.rg.get i))):Ld W0 own ⟨b,off,none⟩ K:=
 q6l (Thr.enc_get hi) ho hk
theorem qlL{off k:Nat}{v:Value}{K:Own→Prop}{C:(Obj→Prop)→Own} [m:UpC b (fun o=>o=Obj.cells (pre++(t.enc++post)).toArray T (0,0)) own C](t':Thr)(hk:k<11)(he:t.enc.set k v=t'.enc)(h1:q2D v=true)(ho:off=pre.length+k)
  (h:K (C fun o=>o=Obj.cells (pre++(t'.enc++post)).toArray T (0,0))):StT W0 own ⟨b,off,none⟩ v K:=by
 subst ho;refine qjO (by simp;omega) h1 ?_;rw[zL,qlS hk,he];exact h
theorem q7J{off i:Nat}{v:Int}{K:Own→Prop}{C:(Obj→Prop)→Own} [m:UpC b (fun o=>o=Obj.cells (pre++(t.enc++post)).toArray T (0,0)) own C](hi:i<8)(ho:off=pre.length+(1+i))
  (h:K (C fun o=>o=Obj.cells (pre++(({t with rg:=t.rg.set i v}:Thr).enc++post)).toArray T (0,0))):StT W0 own ⟨b,off,none⟩ (.int .u64 v) K:=
 qlL {t with rg:=t.rg.set i v} Y6 (Thr.enc_set hi) rfl ho h
theorem qa3{x:Ins}(hx:qS x=0)(ht:t.rg.ok)(hp:t.pc≤64)(ho:o=pre.length)(r:Own):
  qt Tryz.prog W0 98 [.pointer (some ⟨b,o,none⟩),x.v] ([thB b T pre post t]++r) fun v own'=>∃_:Unit,v= .int .i64 (q1o t x)∧Ent W0 own' ([thB b T pre post {t with rg:=q3S t x}]++r):=by
 refine qD (sH [3,5,7,9,11,13,15,17,20,0,3,5,7,9,11,13,15,17,19,21,23,26,0,3,5,7,9,11,13,15,17,19,21,23,25,27,29,31,33,35,37,39,41,43,45,47,50,0,3,5,7,9,11,13,15,17,19,21,24,0,3,5,7,9,11,13,15,0,3,5,7,9,11,13,15,0] ?_);subst ho;obtain⟨h0,hA,hB,hC,hI,_⟩:=q0T hx;clear hx;obtain⟨op,a,b',c,imm⟩:=x;dsimp only[Ins.v] at*;have hu:=fun k=>ht k
 by_cases h1:op=1
 ·subst h1;have ha:=hA rfl;have ha':a.toNat<8:=Y6;clear hA hB hC hI
  repeat'((try(conv=>whnf));first|(refine fE ?_)|(refine arw (k:= .u64) ?_)|(refine q6l (t:=t) (k:=0) rfl ?_ ?_;omega)|(refine q7J (t:=t) ha' ?_ ?_;omega)|(refine fB ?_)|(refine fP ?_)|(refine fA ?_)|(refine qf (fun bk hbk=> ?_)))
  exact⟨rfl,(eC)⟩
 by_cases h2:op=2
 ·subst h2;have ha:=hA rfl;have ha':a.toNat<8:=Y6;have hb:=hB rfl;have hb':b'.toNat<8:=Y6;clear hA hB hC hI
  repeat'((try(conv=>whnf));first|(refine fE ?_)|(refine fD ?_)|(refine q6l (t:=t) (k:=0) rfl ?_ ?_;omega)|(refine q2I (t:=t) hb' ?_ ?_;omega)|(refine q7J (t:=t) ha' ?_ ?_;omega)|(refine fB ?_)|(refine fP ?_)|(refine fA ?_)|(refine qf (fun bk hbk=> ?_)))
  exact⟨rfl,(eC)⟩
 by_cases h3:op=3
 ·subst h3;have ha:=hA rfl;have ha':a.toNat<8:=Y6;have hb:=hB rfl;have hb':b'.toNat<8:=Y6;have hc:=hC rfl;have hc':c.toNat<8:=Y6;clear hA hB hC hI;have hap:=fun own=>Alu.sp_apply W0 own imm (t.rg.get b'.toNat) (t.rg.get c.toNat) (ht _)
  repeat'((try(conv=>whnf));first|(refine fE ?_)|(refine fD ?_)|(refine q6l (t:=t) (k:=0) rfl ?_ ?_;omega)|(refine q2I (t:=t) hb' ?_ ?_;omega)|(refine q2I (t:=t) hc' ?_ ?_;omega)|(refine q7J (t:=t) ha' ?_ ?_;omega)|((apply qz);first|((refine q0A (fun _=>hap _) ?_)))|(refine fB ?_)|(refine fO ?_)|(refine fP ?_)|(refine fA ?_)|(refine qf (fun bk hbk=> ?_)))
  exact⟨rfl,(eC)⟩
 by_cases h17:op=17
 ·subst h17;have ha:=hA rfl;have ha':a.toNat<8:=Y6;clear hA hB hC hI
  repeat'((try(conv=>whnf));first|(refine fE ?_)|(refine fD ?_)|(refine arw (k:= .u64) ?_)|(refine q6l (t:=t) (k:=9) rfl ?_ ?_;omega)|(refine q6l (t:=t) (k:=0) rfl ?_ ?_;omega)|(refine q7J (t:=t) ha' ?_ ?_;omega)|(refine fB ?_)|(refine fP ?_)|(refine fA ?_)|(refine qf (fun bk hbk=> ?_)))
  exact⟨rfl,(eC)⟩
 have hR:q3S t ⟨op,a,b',c,imm⟩=t.rg:=by unfold q3S;rw[if_neg h1,if_neg h2,if_neg h3,if_neg h17]
 rw[hR]
 by_cases h4:op=4
 ·subst h4;have hi:=hI (.inl rfl);clear hA hB hC hI
  repeat'((try(conv=>whnf));first|(refine fE ?_)|(refine fD ?_)|(refine q6l (t:=t) (k:=0) rfl ?_ ?_;omega)|(refine fB ?_)|(refine fA ?_)|(refine qf (fun bk hbk=> ?_)))
  exact⟨q0J (vi (by simp only[q1o];simp;omega)),(eC)⟩
 by_cases h56:op=5∨op=6
 ·have hi:=hI (.inr h56);have ha:0≤a∧a<8:=hA (by rcases h56 with rfl|rfl <;>rfl);have ha':a.toNat<8:=Y6;clear hA hB hC hI;have hP:q1o t ⟨op,a,b',c,imm⟩=if(op=5∧t.rg.get a.toNat=0)∨(op=6∧t.rg.get a.toNat≠0) then t.pc+1+imm.toNat else t.pc+1:=by unfold q1o;simp[h4]
  rw[hP]
  by_cases hz:t.rg.get a.toNat=0
  all_goals
   rcases h56 with rfl|rfl
   all_goals
    repeat'((try(conv=>whnf));first|(refine fE ?_)|(refine fD ?_)|(refine fF ?_)|(refine fG ?_)|(refine q6l (t:=t) (k:=0) rfl ?_ ?_;omega)|(refine q2I (t:=t) ha' ?_ ?_;omega)|(refine fB ?_)|(refine fP ?_)|(refine fA ?_)|(refine qf (fun bk hbk=> ?_)))
    exact⟨q0J (vi (by simp[hz];try omega)),(eC)⟩
 ·clear hA hB hC hI;have hP:q1o t ⟨op,a,b',c,imm⟩=t.pc+1:=by unfold q1o;rw[if_neg (by simp only;omega)]
  rw[hP]
  repeat'((try(conv=>whnf));first|(refine fG ?_)|(refine q6l (t:=t) (k:=0) rfl ?_ ?_;omega)|(refine fB ?_)|(refine fA ?_)|(refine qf (fun bk hbk=> ?_)))
  exact⟨q0J (vi Y6),(eC)⟩
end
open Go
structure PB where
 h:PH
 D:Own
abbrev PB.ok(x:PB):Prop:=qu Ins.enc 40 5 x.h.a x.h.cap x.h.p x.D
abbrev qb7(l:List PB):Own:=(l.map PB.D).flatten
abbrev qh8(c:Cfg)(i p k:Value):Array Value:= #[.int .i64 c.words, .int .i64 c.orecs, .int .i64 c.base, .int .i64 c.c0, .int .i64 c.c1, .int .i64 c.c2, .int .i64 c.c3, .int .i64 c.reads, .int .i64 c.writes, .int .i64 c.allocs, .int .i64 c.frees, .int .i64 c.clock, .bool c.strong,i,p,k]
structure IH where
 a:Option Addr
 cap:Nat
 l:List Int
abbrev IH.enc(h:IH):List Value:= [.slice h.a h.l.length h.cap]
theorem qck(l:List PB)(x:PB):qb7 (l++ [x])=qb7 l++x.D:=by simp[qb7]
def qcI(t:Int)(k:Nat):Nat:=if(k:Int)=t then k+1 else k
def qcp(lim s:Int):Bool:=if s=0 then true else if s=1 then false else decide (lim≤qM (s-2))
def q2Q(t:Int)(m:MS)(f:FT):FT×AcM×Int:=
 if f.ld=false then(⟨true,m.ck,qcI t 0⟩,acL 3 0 m.ck,25)
 else(if qcp f.lim (m.sl.getD f.nx 0) then{f with nx:=qcI t (f.nx+1)} else f,acL 6 f.nx (m.sl.getD f.nx 0),26)
def q0n(n:Nat)(p:List Ins)(t:Int)(m:MS)(x:GT)(f:FT):MS×GT×StM×List EvM:=
 (m,if n≤(q2Q t m f).1.nx then({x with fn:=none,obs:=x.obs++ [⟨x.th.pc,6,0⟩]}:GT).to p.length (x.th.pc+1) else{x with fn:=some (q2Q t m f).1},
  ⟨t,(q2Q t m f).2.2,0,(q2Q t m f).2.1⟩,[])
def q1b(x:GT)(i:Ins):Int:=adr x.th.rg (if i.op=12 then i.b else i.a) i.imm
def q01(c:Cfg)(p:List Ins)(t:Int)(m:MS)(x:GT)(i:Ins):MS×GT×StM×List EvM:=
 if c.words≤q1b x i then(m,({x with th:={x.th with rg:=if i.op=12 then x.th.rg.set i.a.toNat 0 else x.th.rg},obs:=x.obs++ [⟨x.th.pc,7,7⟩]}:GT).to p.length (x.th.pc+1),⟨t,0,0,acz⟩,[])
 else if i.op=12 then(m,({x with th:={x.th with rg:=x.th.rg.set i.a.toNat (m.d.getD (q1b x i).toNat 0)},obs:=x.obs++ [⟨x.th.pc,4,m.d.getD (q1b x i).toNat 0⟩]}:GT).to p.length (x.th.pc+1),
  ⟨t,1,0,acL 1 (q1b x i) (m.d.getD (q1b x i).toNat 0)⟩,[⟨0,t,1,q1b x i,[],[]⟩])
 else({m with d:=m.d.set (q1b x i).toNat (x.th.rg.get i.b.toNat)},({x with obs:=x.obs++ [⟨x.th.pc,5,x.th.rg.get i.b.toNat⟩]}:GT).to p.length (x.th.pc+1),
  ⟨t,1,0,acS 1 (q1b x i) (m.d.getD (q1b x i).toNat 0) (x.th.rg.get i.b.toNat)⟩,[⟨0,t,2,q1b x i,[],[]⟩])
def q2d(c:Cfg)(p:List Ins)(n:Nat)(t:Int)(m:MS)(x:GT)(i:Ins):MS×GT×StM×List EvM:=
 if i.op=12∨i.op=13 then q01 c p t m x i else if i.op=16 then q0n n p t m x ⟨false,0,0⟩ else q15 c p t m x i
def qN(c:Cfg)(p:List Ins)(n:Nat)(t:Int)(m:MS)(x:GT):MS×GT×StM×List EvM:=
 match p[x.th.pc]? with
 |none=>(m,x,⟨t,0,0,acz⟩,[])
 |some i=>match x.fn with
  |some f=>q0n n p t m x f
  |none=>match x.at' with
   |some a=>if a.busy then q0M c p t m x a i else q2d c p n t m x i
   |none=>q2d c p n t m x i
def GT.rest(x:GT):Bool:=x.at'.isNone&&x.fn.isNone&&decide (x.tr=0)
def GT.dec(x:GT):Bool:=match x.at' with
 |some a=>a.dn
 |none=>false
def chN(x x':GT)(s:StM):List ChM:=
 if s.ph=16 then(if x'.dec then [⟨s.t,0,[]⟩] else [])
 else if s.ph=24 then(if x.dec=true∨x'.rest=false then [] else [⟨s.t,x'.th.oc,[]⟩])
 else if s.at'≠0∨x'.rest=false then [] else [⟨s.t,0,[]⟩]
def GT.stor(x:GT):Bool:=match x.at' with
 |some a=>a.dn&&a.sto&&(match a.ph with
  | .wr _ _=>true
  | .rl _ _=>true
  | .sp=>true
  |_=>false)
 |none=>false
def qmc(k:Nat)(e:EvM):EvM:={e with ev:=(k:Int)}
structure RM where
 m:MS
 xs:List GT
 S:List StM
 E:List EvM
def q0R(c:Cfg)(ps:List (List Ins))(n:Nat)(r:RM)(t:Nat):RM:=
 match r.xs[t]?,ps[t]? with
 |some x,some p=>if x.th.dn then r else⟨(qN c p n t r.m x).1,r.xs.set t (qN c p n t r.m x).2.1,r.S++ [(qN c p n t r.m x).2.2.1],r.E++(qN c p n t r.m x).2.2.2.map (qmc r.S.length)⟩
 |_,_=>r
def qfc(c:Cfg)(ps:List (List Ins))(n:Nat)(r:RM)(l:List Nat):RM:=l.foldl (q0R c ps n) r
theorem q4F{c:Cfg}{ps:List (List Ins)}{n:Nat}{r:RM}{l:List Nat}{t:Nat}:qfc c ps n r (l++ [t])=q0R c ps n (qfc c ps n r l) t:=List.foldl_append ..
def goM(r:RM)(t:Nat):Bool:=match r.xs[t]? with
 |some x=> !x.th.dn
 |none=>false
def chR(c:Cfg)(ps:List (List Ins))(n:Nat)(r:RM)(t:Nat):List ChM:=
 match r.xs[t]?,ps[t]? with
 |some x,some p=>if x.th.dn then [] else chN x (qN c p n t r.m x).2.1 (qN c p n t r.m x).2.2.1
 |_,_=> []
def q55(c:Cfg)(ps:List (List Ins))(n:Nat):RM→List Nat→List ChM
 |_,[]=> []
 |r,t::l=>chR c ps n r t++q55 c ps n (q0R c ps n r t) l
theorem q9d{c:Cfg}{ps:List (List Ins)}{n:Nat}:∀(l:List Nat) (r:RM) (l2:List Nat),q55 c ps n r (l++l2)=q55 c ps n r l++q55 c ps n (qfc c ps n r l) l2
 | [],_,_=>rfl
 |t::l,r,l2=>by
  rw[zl,q55,q55,q9d l,zd];rfl
theorem q6Z{c:Cfg}{ps:List (List Ins)}{n:Nat}{r:RM}{l:List Nat}{t:Nat}:q55 c ps n r (l++ [t])=q55 c ps n r l++chR c ps n (qfc c ps n r l) t:=by
 rw[q9d];show _++(chR c ps n _ t++ [])=_;rw[zC]
def q2J(p:List Ins):GT:=⟨⟨0,⟨0,0,0,0,0,0,0,0⟩,0,decide (0=p.length)⟩,none,0,⟨0,0,0,0,0,0,0,0⟩,0,[],none,[],0⟩
def ms0(il:List Int)(O n:Nat):MS:=⟨il,List.replicate O 0,0,0,0,List.replicate n 0,[0,0,0,0],[]⟩
abbrev q10(c:Cfg)(il:List Int)(O:Nat)(ps:List (List Ins))(l:List Nat):RM:=qfc c ps ps.length ⟨ms0 il O ps.length,ps.map q2J,[],[]⟩ l
theorem qgG{p:List Ins}{x:GT}{a:AT}(h1:a.code≠1)(h9:a.code≠9):x.endG p a=({x with at':=none,th:={x.th with rg:=x.sv,oc:=a.code},tr:=0,obs:=x.obs++ [⟨x.bg,3,a.code⟩]}:GT).to p.length (q0t p x.bg+1):=by
 unfold GT.endG;rw[if_neg h1,if_neg (fun h=>h9 h.1),if_neg h9]
theorem qeC{vl:List Int}{a:Int}:q41 [] vl a=none:=rfl
theorem q0P{x v a:Int}{ad vl:List Int}:q41 (x::ad) (v::vl) a=if x=a then some v else q41 ad vl a:=by
 unfold q41;rw[List.idxOf?_cons]
 by_cases h:x=a
 ·subst h;simp
 ·rw[if_neg h,if_neg (by simpa using h)];cases ad.idxOf? a <;>simp
theorem q16{a:Int}:∀{ad vl:List Int},ad.length=vl.length→(q41 ad vl a=none↔a∉ad)
 | [],_,_=>by simp[qeC]
 |x::ad,[],h=>by simp at h
 |x::ad,v::vl,h=>by
  have h':ad.length=vl.length:=by simpa using h
  rw[q0P,zQ,not_or]
  by_cases e:x=a
  ·subst e;simp
  ·rw[if_neg e,q16 h'];exact⟨fun h=>⟨fun h2=>e h2.symm,h⟩,fun h=>h.2⟩
theorem qc1{a v:Int}:∀{ad vl:List Int} {n:Nat},ad.length=vl.length→ad.idxOf? a=some n→∀k,q41 ad (vl.set n v) k=if a=k then some v else q41 ad vl k
 | [],_,_,_,h=>by simp at h
 |x::ad,[],_,hl,_=>by simp at hl
 |x::ad,w::vl,n,hl,h=>by
  intro k;have h':ad.length=vl.length:=by simpa using hl
  rw[List.idxOf?_cons] at h
  by_cases e:x=a
  ·subst e;simp at h;subst h;rw[Y1,q0P,q0P]
   split <;>rfl
  ·rw[if_neg (by simpa using e)] at h;obtain⟨j,hj,rfl⟩:=Zc.1 h;rw[List.set_cons_succ,q0P,q0P,qc1 h' hj k]
   by_cases e1:x=k
   ·rw[if_pos e1,if_pos e1,if_neg (fun h=>e (e1.trans h.symm))]
   ·rw[if_neg e1,if_neg e1]
theorem q9t{a v:Int}:∀{ad vl:List Int},ad.length=vl.length→a∉ad→∀k,q41 (ad++ [a]) (vl++ [v]) k=if a=k then some v else q41 ad vl k
 | [],[],_,_=>fun k=>by rw[zi,zi,q0P]
 | [],_::_,h,_=>by simp at h
 |_::_,[],h,_=>by simp at h
 |x::ad,w::vl,hl,hn=>fun k=>by
  have h':ad.length=vl.length:=by simpa using hl
  rw[zQ,not_or] at hn;rw[zl,zl,q0P,q0P,q9t h' hn.2 k]
  by_cases e1:x=k
  ·rw[if_pos e1,if_pos e1,if_neg (fun h=>hn.1 (h.trans e1.symm))]
  ·rw[if_neg e1,if_neg e1]
theorem q8w{cap a v:Int}{ad vl ad' vl':List Int}(hl:ad.length=vl.length)(h:q5k cap ad vl a v=some (ad',vl')):
  ad'.length=vl'.length∧ad'=q1G ad a∧∀k,q41 ad' vl' k=if a=k then some v else q41 ad vl k:=by
 unfold q5k at h
 split at h
 ·rename_i n hn;simp only[Option.some.injEq,Prod.mk.injEq] at h;obtain⟨rfl,rfl⟩:=h;refine⟨by rw[zj];exact hl,?_,qc1 hl hn⟩;unfold q1G;rw[if_pos]
  by_cases hm:a∈ad
  ·exact hm
  ·have hx:=(List.idxOf?_eq_none_iff (l:=ad) (a:=a)).2 hm;rw[hx] at hn;cases hn
 ·rename_i hn
  split at h
  ·cases h
  ·simp only[Option.some.injEq,Prod.mk.injEq] at h;obtain⟨rfl,rfl⟩:=h;have hm:a∉ad:=List.idxOf?_eq_none_iff.1 hn;refine⟨by simp[hl],?_,q9t hl hm⟩;unfold q1G;rw[if_neg hm]
def lay(ad vl d:List Int):List Int:=d.mapIdx fun j y=>(q41 ad vl j).getD y
theorem qib{ad vl d:List Int}:(lay ad vl d).length=d.length:=Y2
theorem q8n{vl d:List Int}:lay [] vl d=d:=by
 unfold lay;refine Zf fun j=> ?_
 rw[Zp];cases d[j]? <;>rfl
theorem q7e{ad vl d:List Int}{k:Nat}(h:k<d.length):(lay ad vl d).getD k 0=(q41 ad vl k).getD (d.getD k 0):=by
 unfold lay;rw[zh,Zp,zh,z6 h];rfl
theorem qic{ad vl ad' vl' d:List Int}{a:Nat}{v:Int}(h:∀k,q41 ad' vl' k=if(a:Int)=k then some v else q41 ad vl k):lay ad' vl' d=(lay ad vl d).set a v:=by
 unfold lay;refine Zf fun j=> ?_
 rw[Zp,zv,Zp,Y2]
 by_cases hj:j<d.length
 ·rw[z6 hj];simp only[Zu,h]
  by_cases e:a=j
  ·subst e;rw[if_pos rfl,if_pos rfl,if_pos hj];rfl
  ·rw[if_neg Y6,if_neg e]
 ·rw[zX Y6];simp only[Option.map_none]
  by_cases e:a=j
  ·rw[if_pos e,if_neg Y6]
  ·rw[if_neg e]
theorem qeK{a:Nat}{v:Int}{ad vl d:List Int}(hl:ad.length=vl.length)(hn:(a:Int)∉ad):lay ((a:Int)::ad) (v::vl) d=lay ad vl (d.set a v):=by
 unfold lay;refine Zf fun j=> ?_
 rw[Zp,Zp,zv]
 by_cases hj:j<d.length
 ·rw[z6 hj,q0P]
  by_cases e:a=j
  ·subst e;rw[if_pos rfl,if_pos rfl,if_pos hj,(q16 hl).2 hn];rfl
  ·rw[if_neg Y6,if_neg e]
 ·rw[zX Y6]
  by_cases e:a=j
  ·rw[if_pos e,if_neg Y6];rfl
  ·rw[if_neg e];rfl
inductive Rn (c:Cfg) (p:List Ins) (b:BM):BM→Prop
 |nil:Rn c p b b
 |snoc {b':BM} {i:Ins}:Rn c p b b'→p[b'.t.pc]? =some i→(q07 c b' i).2=0→Rn c p b (q07 c b' i).1
theorem qm0{b:BM}{a:Nat}:∀n,(wrL b a n).t=b.t
 |0=>rfl
 |n+1=>(qm0 n:(wrM (wrL b a n) (a+n) 0).t=b.t)
theorem qlO{c:Cfg}{b:BM}{i:Ins}(h:(q07 c b i).2=0):b.t.pc<(q07 c b i).1.t.pc:=by
 unfold q07 at h ⊢
 split
 ·split
  ·exact Z8 _
  ·exact Z8 _
 ·split
  ·split
   ·exact Z8 _
   ·exact Z8 _
  ·split
   ·rename_i h10 h11 h14;rw[if_neg h10,if_neg h11,if_pos h14] at h
    split
    ·rename_i hh;rw[hh] at h;cases h
    ·unfold BM.put;dsimp only;rw[qm0];exact Z8 _
   ·split
    ·split
     ·exact Z8 _
     ·exact Z8 _
    ·split
     ·exact Z8 _
     ·split
      ·exact Z8 _
      ·show b.t.pc<q1o b.t i;unfold q1o
       split <;>omega
theorem Rn.run{c:Cfg}{p:List Ins}{b b':BM}(h:Rn c p b b'):∃k,b.t.pc+k≤b'.t.pc∧∀f,q3U c p (k+f) b=q3U c p f b':=by
 induction h with
 |nil=>exact⟨0,zu _,fun f=>by rw[zD]⟩
 | @snoc b' i h1 hi h0 ih=>
  obtain⟨k,hk,hr⟩:=ih;have:=qlO h0;refine⟨k+1,Y6,fun f=> ?_⟩;rw[yd,yC 1 f,hr (f+1),q3U];simp only[hi];rw[if_pos h0]
theorem Rn.fin{c:Cfg}{p:List Ins}{b b':BM}{i:Ins}(h:Rn c p b b')(hi:p[b'.t.pc]? =some i)(h0:(q07 c b' i).2≠0):q3U c p p.length b=q07 c b' i:=by
 obtain⟨k,hk,hr⟩:=h.run;have hl:=(z7.1 hi).1;obtain⟨f,hf⟩:∃f,p.length=k+(f+1):=⟨p.length-k-1,Y6⟩
 rw[hf,hr (f+1),q3U];simp only[hi];rw[if_neg h0]
structure PrO(p:List Ins):Prop where
 ck:qw p=(0,0)
 na:∀i∈p,i.op≠14∧i.op≠15
def q57(c:Cfg)(r:Rg)(i:Ins):Int:=
 if i.op=10 then(if c.words≤adr r i.b i.imm then 7 else 0) else if i.op=11 then(if c.words≤adr r i.a i.imm then 7 else 0)
 else if i.op=8 then 1 else if i.op=9 then 2 else 0
section
variable{p:List Ins}{k:Nat}{x:Ins}
theorem qgB(h:qw p=(0,0))(hx:p[k]? =some x):0≤x.op∧x.op<18∧(stB p k<0→x.op≠8∧x.op≠9∧x.op≠10∧x.op≠11∧x.op≠14∧x.op≠15)∧(0≤stB p k→x.op≠7∧x.op≠12∧x.op≠13∧x.op≠16∧x.op≠17):=by
 have h0:=qbC h hx;have hi:=q36 h hx;have ho:¬(x.op<0∨18≤x.op):=fun e=>by
  have:=hi.1;unfold qS at this;rw[if_pos e] at this;cases this
 refine⟨Y6,Y6,fun hb=>⟨fun e=>by have:=hi.2.2.1 e;omega,fun e=>by have:=hi.2.2.2.2 (.inl e);omega,fun e=>by have:=hi.2.2.2.2 (.inr (.inl e));omega,fun e=>by have:=hi.2.2.2.2 (.inr (.inr (.inl e)));omega,fun e=>by have:=hi.2.2.2.2 (.inr (.inr (.inr (.inl e))));omega,fun e=>by have:=hi.2.2.2.2 (.inr (.inr (.inr (.inr e))));omega⟩,fun hb=> ?_⟩;have h7:x.op≠7:=fun e=>by have:=hi.2.1 e;omega
 unfold q7P at h0;rw[if_neg (by rw[hi.1];decide),if_neg Y6] at h0;have hp:¬q1M x=2:=fun e=>by
  rw[if_pos (.inr ⟨e,hb⟩)] at h0;cases h0
 refine⟨h7,?_⟩;unfold q1M at hp;rw[if_pos hi.1] at hp
 by_cases h1:x.op=8∨x.op=9∨x.op=10∨x.op=11∨x.op=14∨x.op=15
 ·omega
 ·rw[if_neg h1] at hp
  by_cases h2:x.op=7∨x.op=12∨x.op=13∨x.op=16∨x.op=17
  ·rw[if_pos h2] at hp;exact absurd rfl hp
  ·omega
theorem qii(h:qw p=(0,0)){th:Thr}(hx:p[th.pc]? =some x)(h9:x.op≠9):((q1o th x:Nat):Int)∈q2E p th.pc x:=by
 have ha:=q44 h hx;unfold q2E at ha ⊢;unfold q1o
 by_cases h4:x.op=4
 ·rw[if_pos h4] at ha ⊢;rw[if_pos (.inl h4)];obtain⟨j,hj,h1,_⟩:=ha _ (zf.2 rfl);rw[zf];omega
 ·rw[if_neg h4] at ha ⊢
  by_cases h5:x.op=5∨x.op=6
  ·rw[if_pos h5] at ha ⊢
   split
   ·obtain⟨j,hj,h1,_⟩:=ha _ (zp _ (zf.2 rfl));refine zp _ (zf.2 ?_);omega
   ·exact zQ.2 (.inl Y6)
  ·rw[if_neg h5,if_neg h9] at ha ⊢;rw[if_neg Y6,zf];omega
theorem qca(h:qw p=(0,0)){th:Thr}(hx:p[th.pc]? =some x)(h9:x.op≠9):th.pc<q1o th x∧q1o th x≤p.length∧(0≤stB p th.pc→x.op≠8→q1o th x≤q1k (p.drop th.pc) th.pc)∧
  (stB p th.pc<0→∀(b:Nat) (y:Ins),th.pc<b→p[b]? =some y→y.op=7→q1o th x≤b∨q0t p b<q1o th x):=by
 obtain⟨j,hj,h1,h2,h3,h4⟩:=q44 h hx _ (qii h hx h9);obtain rfl:q1o th x=j:=Y6;exact⟨h1,h2,fun h0 h8=>(h3 h0 h8).1 h9,h4⟩
theorem q7b(hp:PrO p){b:Nat}{ib:Ins}(hb:p[b]? =some ib)(h7:ib.op=7)(h1:b<k)(h2:k≤q0t p b):stB p k=b∧q1k (p.drop k) k=q0t p b∧k<p.length∧∃i,p[k]? =some i∧
  (i.op=8∨i.op=9∨i.op=10∨i.op=11∨(0≤i.op∧i.op≤6))∧(k<q0t p b→i.op≠8):=by
 obtain⟨c,hc,h3,h4,_,_,h6⟩:=q0k hp.ck hb h7;rw[hc] at h2 ⊢;obtain⟨e1,e2,e3⟩:=h6 k h1 h2;refine⟨e1,e2,Y6,?_⟩;obtain⟨i,hi⟩:∃i,p[k]? =some i:=⟨_,z6 Y6⟩
 obtain⟨r1,r2,_,r3⟩:=qgB hp.ck hi;have r3:=r3 (by rw[e1];omega);have hna:=hp.na i (zg hi);exact⟨i,hi,Y6,fun hlt=>(e3 hlt i hi).2⟩
theorem qh0(hp:PrO p)(hk:stB p k<0)(hx:p[k]? =some x):x.op=7∨x.op=12∨x.op=13∨x.op=16∨x.op=17∨(0≤x.op∧x.op≤6):=by
 obtain⟨r1,r2,r3,_⟩:=qgB hp.ck hx;have:=r3 hk;omega
theorem qjt(h:qw p=(0,0)){j:Nat}(hk:stB p k<0)(hkj:k<j)(hj:j≤p.length)(hx:p[k]? =some x)(h7:x.op≠7)(ho:∀(b:Nat) (y:Ins),k<b→p[b]? =some y→y.op=7→j≤b∨q0t p b<j):stB p j<0:=by
 rcases (qbB h hj).bb with e|⟨h0,h1,h2⟩
 ·omega
 ·exfalso
  --the begin lies behind k
  have hbeg:∀(n:Nat),n≤p.length→0≤stB p n→∃y,p[(stB p n).toNat]? =some y∧y.op=7:=by
   intro n
   induction n with
   |zero=>intro _ h;simp[stB] at h
   |succ n ih=>
    intro hn hs;obtain⟨z,hz⟩:∃z,p[n]? =some z:=⟨_,z6 Y6⟩
    rw[q24 hz] at hs ⊢;unfold q18 at hs ⊢
    by_cases e7:z.op=7
    ·rw[if_pos e7];exact⟨z,by simpa using hz,e7⟩
    ·rw[if_neg e7] at hs ⊢
     by_cases e8:z.op=8
     ·rw[if_pos e8] at hs;omega
     ·rw[if_neg e8] at hs ⊢;exact ih Y6 hs
  obtain⟨y,hy,hy7⟩:=hbeg j hj h0;obtain⟨c,hc,h3,h4,_,h5,h6⟩:=q0k h hy hy7;have hle:j≤q0t p (stB p j).toNat:=by rw[h2];exact(q2P _ _).1
  by_cases hbk:k<(stB p j).toNat
  ·rcases ho _ y hbk hy hy7 with e|e <;>omega
  ·by_cases hbe:k=(stB p j).toNat
   ·rw[←hbe,hx] at hy;cases hy;exact h7 hy7
   ·have:=(h6 k Y6 Y6).1;omega
end
end Go.Proofs.YtbhbldllneadeaaGreatDoor
