/- What the laws share, part 6. No condition. -/
import Derived.Shelf.Sort.Plain
import Derived.Shelf.Slices.In.SortNone
import Derived.Shelf.Slices.CompactI
import Derived.Ground.Names2Prog
import Derived.Test.YtkieffpjjfebjaaGreatDoorProg
import Derived.Test.YtkieffpjjfebjaaGreatDoorF5
set_option maxHeartbeats 64000000
set_option maxRecDepth 10000
namespace Go.Proofs.YtkieffpjjfebjaaGreatDoor
open Go
theorem zA{W0:World}{o:Own}{a:Addr}{K:Value→Prop}(h:Ld W0 o a K):Ld W0 o a K:=h
theorem zB{P:Program}{W0:World}{o:Own}{k:FuncId}{a:List Value}{K:Value→Own→Prop}(h:qf P W0 o k a K):qf P W0 o k a K:=h
theorem zC{a:Option Addr}{z:Nat}{i:Int}{n:Nat}{K:Addr→Prop}(h:IxS a z i n K):IxS a z i n K:=h
section
variable{W0:World}{Kp K:Own}{g:DP}{c:Cfg}{ps:List PH}{s:GS}
theorem qqX{t:Nat}{th:Thr}{ph:PH}(hT:qk7 c ps s t th ph)(h:g.ok W0 Kp ps s)(hp:qx ph.p=(0,0)){x0:Ins}(hx0:ph.p[th.pc]? =some x0)(h7:x0.op=7)(hst:stB ph.p th.pc<0)(htk:s.tk.length=(qy c).toNat)(f:Int){aa:Option Addr}{ad:List Int}{ac:Nat}(hA:RdE qM 1 W0 K aa ad)(hal:ad.length≤ac)(had:∀a∈ad,a≤9223372036854775807)(q:Own) [ek:qt q Kp] [ek2:qt q K]:
  q0E Tryz.prog W0 74 [.pointer (some ⟨g.rb,0,none⟩),chV t f aa ad.length ac] (g.O c ps.length s++q) (TxP W0 Kp g c ps s t th ph f ad q):=by
 by_cases hf:f=0
 ·subst hf
  exact qqg hT h hp hx0 h7 hst htk hA hal had q
 ·exact qqh hT h hp hx0 h7 hst hf q
theorem qot{W0:World}{e b:Nat×(Obj→Prop)}{G q:Own}:Ent W0 (e::(b::(G++q))) (G++([e,b]++q)):=qo []
theorem qnd{W0:World}{e b:Nat×(Obj→Prop)}{G q:Own}:Ent W0 (G++([e,b]++q)) (G++q):=qo [e,b]
theorem qqV(h:g.ok W0 Kp ps s)(hG:GOk c (ps.map PH.p) s)(hn:s.n≤5000)(t f:Int){aa:Option Addr}{ad:List Int}{ac:Nat}(hA:RdE qM 1 W0 K aa ad)(hal:ad.length≤ac)(had:∀a∈ad,a≤9223372036854775807)(q:Own) [ek:qt q Kp] [ek2:qt q K]:
  q0E Tryz.prog W0 45 [.pointer (some ⟨g.rb,0,none⟩),chV t f aa ad.length ac] (g.O c ps.length s++q) fun v own'=>∃g':DP,
   (v= .int .i64 (doM c (ps.map PH.p) s ⟨t,f,ad⟩).1∧g'.ok W0 Kp ps (doM c (ps.map PH.p) s ⟨t,f,ad⟩).2∧g'.rb=g.rb)∧Ent W0 own' (g'.O c ps.length (doM c (ps.map PH.p) s ⟨t,f,ad⟩).2++q):=by
 refine qa qj qmV (by simp[qlY]) ?_
 have hTR:=h.t.rd (W0:=W0)
 by_cases hr:t<0∨(s.T.length:Int)≤t∨∃(j:Nat) (th:Thr),t=j∧s.T[j]? =some th∧th.dn=true
 ·have hd:doM c (ps.map PH.p) s ⟨t,f,ad⟩=(70,s):=by
   unfold doM chM
   rcases hr with hr|hr|⟨j,th,rfl,hth,hdn⟩
   ·rw[if_pos hr]
   ·by_cases h0:t<0
    ·rw[if_pos h0]
    ·rw[if_neg h0,List.getElem?_eq_none (by show s.T.length≤t.toNat;omega)]
   ·rw[if_neg (by show ¬((j:Nat):Int)<0;omega)]
    simp only[Int.toNat_natCast,hth]
    cases hp:(ps.map PH.p)[j]? with
    |none=>rfl
    |some p=>simp only[hdn,if_true]
  rw[hd]
  rcases hr with ht|ht|⟨j,th,rfl,hth,hdn⟩
  ·repeat'((try(conv=>whnf));first|(refine fI ?_)|(refine fE ?_)|(refine fJ ?_)|(refine fA ?_)|(refine qc (fun bk hbk=> ?_)))
   all_goals exact⟨g,⟨rfl,h,rfl⟩,(eC)⟩
  ·by_cases h0:t<0
   all_goals
    repeat'((try(conv=>whnf));first|(refine fH ?_)|(refine fI ?_)|(refine fE ?_)|(refine fJ ?_)|(refine fK ?_)|(refine fA ?_)|(refine qc (fun bk hbk=> ?_)))
    all_goals exact⟨g,⟨rfl,h,rfl⟩,(eC)⟩
  ·have htl:=(List.getElem?_eq_some_iff.1 hth).1
   obtain⟨pc,rg,oc,dn⟩:=th
   dsimp only at hdn
   subst hdn
   repeat'((try(conv=>whnf));first|(refine fH ?_)|(refine fE ?_)|(refine fK ?_)|((refine zA ?_);first|(refine qgp hTR hth rfl ?_))|((refine zC ?_);first|((refine ixE hTR hth ?_ ?_;(first|rfl|omega))))|(refine fA ?_)|(refine qc (fun bk hbk=> ?_)))
   all_goals exact⟨g,⟨rfl,h,rfl⟩,(eC)⟩
 ·have ht0:0≤t∧t<s.T.length:=⟨by omega,by omega⟩
  obtain⟨j,rfl⟩:=Int.eq_ofNat_of_zero_le ht0.1
  have hjl:j<s.T.length:=by omega
  obtain⟨th,hth⟩:∃th,s.T[j]? =some th:=⟨_,List.getElem?_eq_getElem hjl⟩
  have htl:=hG.tl
  rw[List.length_map] at htl
  obtain⟨ph,hph⟩:∃ph,ps[j]? =some ph:=⟨_,List.getElem?_eq_getElem (by omega)⟩
  have hpp:=qjH hph
  have hpv:=hG.pv ph.p (List.mem_of_getElem? hpp)
  obtain⟨hrg,hpc,hst,hdn,hoc⟩:=hG.th j th ph.p hth hpp
  have hdf:th.dn=false:=by
   cases hd:th.dn with
   |false=>rfl
   |true=>exact absurd (.inr (.inr ⟨j,th,rfl,hth,hd⟩)) hr
  have hpcl:th.pc<ph.p.length:=by
   rw[hdf] at hdn
   have:=of_decide_eq_false hdn.symm
   omega
  obtain⟨x,hx⟩:∃x,ph.p[th.pc]? =some x:=⟨_,List.getElem?_eq_getElem hpcl⟩
  have hpl:=q6A hpv
  have hxi:=qgx hpv hx hst
  have hT:qk7 c ps s j th ph:=⟨hth,hph,hG.c0,hrg,hG.dl,hG.dr,by rw[hG.ol,hG.tl],fun l hl=>by have:=hG.ob l hl;omega,by have:=hG.el;omega⟩
  have hd:doM c (ps.map PH.p) s ⟨j,f,ad⟩=match (if x.op=7 then txM c ph.p s th j f ad else if ad= [] then sgM c ph.p s th j f x else none) with
   |some s'=>(0,{s' with n:=s.n+1})
   |none=>(70,s):=by
   unfold doM chM
   rw[if_neg (by show ¬((j:Nat):Int)<0;omega)]
   simp only[Int.toNat_natCast,hth,hpp,hdf,Bool.false_eq_true,if_false,hx]
   cases (if x.op=7 then txM c ph.p s th j f ad else if ad= [] then sgM c ph.p s th j f x else none) <;>rfl
  rw[hd]
  clear hd
  have hPR:=h.kp ph (List.mem_of_getElem? hph)
  have hKK:=h.k
  have e1:((s.n+1:Nat):Int)=(s.n:Int)+1:=by omega
  have hfin:∀(y:GS×DP×Thr),y.2.1.ok W0 Kp ps y.1→y.1.T[j]? =some y.2.2→∀D,qr Thr.enc 61 11 y.2.1.ta y.2.1.tc (y.1.T.set j {y.2.2 with dn:=decide (y.2.2.pc=ph.p.length)}) D→({y.2.1 with tD:=D}:DP).ok W0 Kp ps {(exS y.1 j ph.p.length y.2.2) with n:=s.n+1}:=fun y hk _ D hD=>
   ⟨hk.d,hk.m,hk.k,hk.kp,hD,hk.e,hk.em,hk.ev,hk.o,hk.os,hk.ol⟩
  by_cases h7:x.op=7
  ·rw[if_pos h7]
   have hbe:=fun(b1 b2:Nat)=>qqX (c:=c) hT h hpv hx h7 hst hG.kl f hA hal had ([(b2,fun o=>o=Obj.cells x.enc.toArray 69 (0,0)),ChB b1 j f aa ad.length ac]++q)
   generalize ho:txM c ph.p s th j f ad=o
   obtain⟨pc,rg,oc,dn⟩:=th
   dsimp only at hdf hx hpcl hpc
   subst hdf
   obtain⟨op,a,b',c',imm⟩:=x
   dsimp only[Ins.v] at*
   subst h7
   repeat'((try(conv=>whnf));first|(refine qc (fun b1 hb1=> ?_);(apply Stop.h)))
   refine Stop.mk ?_
   repeat'((try(conv=>whnf));first|(refine fH ?_)|(refine fE ?_)|(refine fD ?_)|(refine fK ?_)|(refine qc (fun b2 hb2=> ?_))|((refine zA ?_);first|(refine q1M hTR hth rfl ?_)|(refine qgp hTR hth rfl ?_)|(refine q1M hKK hph rfl ?_))|((refine zC ?_);first|((refine ixE hTR hth ?_ ?_;(first|rfl|omega)))|((refine ixE hKK hph ?_ ?_;(first|rfl|omega)))|((refine ixE hPR hx ?_ ?_;(first|rfl|omega))))|((with_reducible show LdN _ _ _ _ _);first|(refine q2e hPR hx rfl ?_))|((refine zB ?_);first|((refine q3r (hbe b1 b2) ?_ ?_ ?_ (fun v hv=> ?_) (fun y v hv=> ?_);(exact qot);(exact rfl);(exact rfl);all_goals(apply Stop.h))))|(refine fA ?_)|(refine fL ?_)|(refine fM ?_))
   ·obtain⟨rfl,hv2⟩:=hv
    rw[ho] at hv2
    subst hv2
    refine Stop.mk ?_
    repeat'((try(conv=>whnf));first|(refine fE ?_))
    exact⟨g,⟨rfl,h,rfl⟩,qnd⟩
   ·obtain⟨rfl,hth1,hv2,hn1,hk1,hrb1⟩:=hv
    rw[ho] at hv2
    subst hv2
    have hT1:=hk1.t
    have hTR1:=hT1.rd (W0:=W0)
    have hKK1:=hk1.k
    have hfn:=hfin y hk1 hth1
    have hdd:decide ((y.2.2.pc:Int)=ph.p.length)=decide (y.2.2.pc=ph.p.length):=dd (by omega)
    rw[←hrb1]
    refine Stop.mk ?_
    repeat'((try(conv=>whnf));first|(refine fD ?_)|(apply q5Q (enc:=Thr.enc) (T:=61) (j:=j) (k:=10) {y.2.2 with dn:=decide (y.2.2.pc=ph.p.length)} hT1 hth1;(exact rfl);(omega);(rw[hdd];exact rfl);(exact rfl);intro D2 hb2)|((refine zA ?_);first|(refine q1M hTR1 hth1 rfl ?_)|(refine q1M hKK1 hph rfl ?_))|((refine zC ?_);first|((refine ixE hTR1 hth1 ?_ ?_;(first|rfl|omega)))|((refine ixE hKK1 hph ?_ ?_;(first|rfl|omega))))|(refine fB ?_)|(refine fA ?_)|(refine fN ?_))
    all_goals
     refine⟨{y.2.1 with tD:=D2},⟨rfl,hfn D2 hb2,rfl⟩,?_⟩
     dsimp only[DP.O,DP.cells,exS]
     rw[List.length_set,e1,←hn1]
     exact qnd
  ·rw[if_neg h7]
   by_cases had0:ad= []
   ·rw[if_pos had0]
    have hl:(ad.length:Int)=0:=by rw[had0];rfl
    have hsi:=fun(b1 b2:Nat)=>qoI (c:=c) hT h hxi.1 (by omega) ⟨hpcl,hpl⟩ f aa ad.length ac ([(b2,fun o=>o=Obj.cells x.enc.toArray 69 (0,0)),ChB b1 j f aa ad.length ac]++q)
    generalize sgM c ph.p s th j f x=o at*
    obtain⟨pc,rg,oc,dn⟩:=th
    dsimp only at hdf hx hpcl hpc
    subst hdf
    obtain⟨op,a,b',c',imm⟩:=x
    dsimp only[Ins.v] at*
    repeat'((try(conv=>whnf));first|(refine qc (fun b1 hb1=> ?_);(apply Stop.h)))
    refine Stop.mk ?_
    repeat'((try(conv=>whnf));first|(refine fH ?_)|(refine fD ?_)|(refine fG ?_)|(refine fJ ?_)|(refine fK ?_)|(refine qc (fun b2 hb2=> ?_))|((refine zA ?_);first|(refine q1M hTR hth rfl ?_)|(refine qgp hTR hth rfl ?_)|(refine q1M hKK hph rfl ?_))|((refine zC ?_);first|((refine ixE hTR hth ?_ ?_;(first|rfl|omega)))|((refine ixE hKK hph ?_ ?_;(first|rfl|omega)))|((refine ixE hPR hx ?_ ?_;(first|rfl|omega))))|((with_reducible show LdN _ _ _ _ _);first|(refine q2e hPR hx rfl ?_))|((refine zB ?_);first|((refine q3r (hsi b1 b2) ?_ ?_ ?_ (fun v hv=> ?_) (fun y v hv=> ?_);(exact qot);(exact rfl);(exact rfl);all_goals(apply Stop.h))))|(refine fA ?_)|(refine fL ?_)|(refine fM ?_))
    ·obtain⟨rfl,rfl⟩:=hv
     refine Stop.mk ?_
     repeat'((try(conv=>whnf));first|(refine fE ?_))
     exact⟨g,⟨rfl,h,rfl⟩,qnd⟩
    ·obtain⟨rfl,hth1,rfl,hn1,hk1,hrb1⟩:=hv
     have hT1:=hk1.t
     have hTR1:=hT1.rd (W0:=W0)
     have hKK1:=hk1.k
     have hfn:=hfin y hk1 hth1
     have hdd:decide ((y.2.2.pc:Int)=ph.p.length)=decide (y.2.2.pc=ph.p.length):=dd (by omega)
     rw[←hrb1]
     refine Stop.mk ?_
     repeat'((try(conv=>whnf));first|(refine fD ?_)|(apply q5Q (enc:=Thr.enc) (T:=61) (j:=j) (k:=10) {y.2.2 with dn:=decide (y.2.2.pc=ph.p.length)} hT1 hth1;(exact rfl);(omega);(rw[hdd];exact rfl);(exact rfl);intro D2 hb2)|((refine zA ?_);first|(refine q1M hTR1 hth1 rfl ?_)|(refine q1M hKK1 hph rfl ?_))|((refine zC ?_);first|((refine ixE hTR1 hth1 ?_ ?_;(first|rfl|omega)))|((refine ixE hKK1 hph ?_ ?_;(first|rfl|omega))))|(refine fB ?_)|(refine fA ?_)|(refine fN ?_))
     all_goals
      refine⟨{y.2.1 with tD:=D2},⟨rfl,hfn D2 hb2,rfl⟩,?_⟩
      dsimp only[DP.O,DP.cells,exS]
      rw[List.length_set,e1,←hn1]
      exact qnd
   ·rw[if_neg had0]
    have hl:¬(ad.length:Int)=0:=fun e=>had0 (List.eq_nil_of_length_eq_zero (by omega))
    obtain⟨pc,rg,oc,dn⟩:=th
    dsimp only at hdf hx hpcl hpc
    subst hdf
    obtain⟨op,a,b',c',imm⟩:=x
    dsimp only[Ins.v] at*
    repeat'((try(conv=>whnf));first|(refine fH ?_)|(refine fI ?_)|(refine fE ?_)|(refine fD ?_)|(refine fG ?_)|(refine fK ?_)|((refine zA ?_);first|(refine q1M hTR hth rfl ?_)|(refine qgp hTR hth rfl ?_)|(refine q1M hKK hph rfl ?_))|((refine zC ?_);first|((refine ixE hTR hth ?_ ?_;(first|rfl|omega)))|((refine ixE hKK hph ?_ ?_;(first|rfl|omega)))|((refine ixE hPR hx ?_ ?_;(first|rfl|omega))))|((with_reducible show LdN _ _ _ _ _);first|(refine q2e hPR hx rfl ?_))|(refine fA ?_)|(refine fM ?_)|(refine qc (fun bk hbk=> ?_)))
    exact⟨g,⟨rfl,h,rfl⟩,(eC)⟩
end
open Go
section
variable{W0:World}{own:Own}{c:Cfg}{ia pa ka:Option Addr}{ic pc kc:Nat}{ps:List PH}{il ks:List Int}
abbrev ScE(b:Nat)(c:Cfg)(i p k:Value):Nat×(Obj→Prop):=(b,fun o=>o=Obj.cells (qiF c i p k) 32 (0,0))
theorem qqC{e b d:Nat×(Obj→Prop)}{A B Z:Own}:Ent W0 (e::(B++(A++(b::(d::Z))))) (b::(d::(e::(A++(B++Z))))):=qo []
theorem qqD{e b d:Nat×(Obj→Prop)}{A B Z:Own}:Ent W0 (B++(e::(A++(b::(d::Z))))) (b::(d::(e::(A++(B++Z))))):=qo []
theorem qqE{e b d:Nat×(Obj→Prop)}{A B Z:Own}:Ent W0 (B++(A++(e::(b::(d::Z))))) (b::(d::(e::(A++(B++Z))))):=qo []
theorem qqF{e b1 b2:Nat×(Obj→Prop)}{A B kD L Z:Own}:Ent W0 (b1::(b2::(e::(kD++(L++(A++(B++Z))))))) (kD++(L++(A++(B++Z)))):=qo [b1,b2,e]
theorem qqG{bk e b1 b2:Nat×(Obj→Prop)}{A B D3 D8 L Z:Own}:Ent W0 (bk::(D3++(b1::(b2::(e::(D8++(L++(A++(B++Z))))))))) (b1::(b2::(e::(D8++((L++D3)++(A++(B++Z))))))):=qo [bk]
theorem qnO(hI:RdE q7j 1 W0 own ia il)(hil:il.length≤1000000)(hP:RdE PH.enc 1 W0 own pa ps)(hpl:ps.length≤1000)(hQ:∀h∈ps,RdE Ins.enc 5 W0 own h.a h.p∧h.p.length≤1000000)(hK:RdE qM 1 W0 own ka ks)(hkl:ks.length≤1000000):
  q0E Tryz.prog W0 22 [qi0 c ia il.length ic pa ps.length pc ka ks.length kc] own fun v own'=>∃y:(Option Addr×Nat×Own)×(Option Addr×Nat×Own)×List PB×(Option Addr×Nat×Own),
   (v=qi0 c y.1.1 il.length y.1.2.1 y.2.2.2.1 (y.2.2.1.map PB.h).length y.2.2.2.2.1 y.2.1.1 ks.length y.2.1.2.1∧(y.2.2.1.map PB.h).map PH.p=ps.map PH.p∧qr PH.enc 66 1 y.2.2.2.1 y.2.2.2.2.1 (y.2.2.1.map PB.h) y.2.2.2.2.2∧∀x∈y.2.2.1,x.ok)∧
   Ent W0 own' (y.2.2.2.2.2++(q9L y.2.2.1++(y.1.2.2++(y.2.1.2.2++own)))):=by
 refine qa qj qmW (by simp[qlZ]) ?_
 have hcw:=fun(own':Own) [qt own' own]=>qmP (cap:=ic) (RdE.up (own:=own') hI) (by omega)
 have hci:=fun(own':Own) [qt own' own]=>qoo (cap:=kc) (RdE.up (own:=own') hK) (by omega)
 repeat'((try(conv=>whnf));first|(refine qc (fun b1 h1=> ?_);(apply Stop.h)))
 refine Stop.mk ?_
 repeat'((try(conv=>whnf));first|(refine qc (fun b2 h2=> ?_);(apply Stop.h)))
 refine Stop.mk ?_
 refine q4H (σ:=Nat×(Option Addr×Nat×Own)×(Option Addr×Nat×Own)) 16360 (fun y=> [(3, .pointer (some ⟨y.1,0,none⟩))])
  (fun y=>ScE b2 ⟨0,0,0,0,0,0,0,0,0,0,0,0,false⟩ (.slice none 0 0) (.slice none 0 0) (.slice none 0 0)::(ScE b1 c (.slice ia il.length ic) (.slice pa ps.length pc) (.slice ka ks.length kc)::(ScE y.1 c (.slice y.2.1.1 il.length y.2.1.2.1) (.slice none 0 0) (.slice y.2.2.1 ks.length y.2.2.2.1)::(y.2.1.2.2++(y.2.2.2.2++own)))))
  (fun y=>qr q7j 58 1 y.2.1.1 y.2.1.2.1 il y.2.1.2.2) rfl ?_ ?_
 ·repeat'((try(conv=>whnf));first|(refine qc (fun b3 h3=> ?_))|((refine zB ?_);first|((refine qZ (hcw _) ?_ ?_ (fun y v hv=> ?_);(exact rfl);(exact rfl);(obtain⟨a1,c1,D1⟩:=y;obtain⟨rfl,hB⟩:=hv;dsimp only at hB)))|((refine qZ (hci _) ?_ ?_ (fun y v hv=> ?_);(exact rfl);(exact rfl);(obtain⟨a2,c2,D2⟩:=y;obtain⟨rfl,hB2⟩:=hv;dsimp only at hB2))))|(refine fA ?_)|(refine fQ ?_)|(refine fM ?_)|(refine q4T.mk ?_ ?_))
  all_goals
   refine⟨(b3,(a1,c1,D1),(a2,c2,D2)),hB,(eF),?_⟩
   first|exact qqC|exact qqD|exact qqE
 ·rintro⟨b3,⟨a1,c1,D1⟩,⟨a2,c2,D2⟩⟩ junk _
  dsimp only
  refine q0Z (σ:=Nat×List PB×(Option Addr×Nat×Own)) (fun y=> [(4, .int .i64 y.1)])
   (fun y=>ScE b2 ⟨0,0,0,0,0,0,0,0,0,0,0,0,false⟩ (.slice none 0 0) (.slice none 0 0) (.slice none 0 0)::(ScE b1 c (.slice ia il.length ic) (.slice pa ps.length pc) (.slice ka ks.length kc)::(ScE b3 c (.slice a1 il.length c1) (.slice y.2.2.1 (y.2.1.map PB.h).length y.2.2.2.1) (.slice a2 ks.length c2)::(y.2.2.2.2++(q9L y.2.1++(D1++(D2++own)))))))
   (fun y=>y.1≤ps.length∧(y.2.1.map PB.h).map PH.p=(ps.take y.1).map PH.p∧qr PH.enc 66 1 y.2.2.1 y.2.2.2.1 (y.2.1.map PB.h) y.2.2.2.2∧(∀x∈y.2.1,x.ok))
   (fun y=>ps.length-y.1) (0,[],(none,0,[])) ⟨Nat.zero_le _,rfl,qr.nil,(fun _ h=>(by cases h))⟩ (eF) Ent.refl rfl ?_
  rintro⟨i,ys,⟨ka',kc',kD⟩⟩ junk ⟨hi,hm,hBk,hys⟩
  dsimp only at hi hm hBk hys ⊢
  have hyl:(ys.map PB.h).length=i:=qfi hm hi
  by_cases hil:i<ps.length
  ·obtain⟨x,hx⟩:∃x,ps[i]? =some x:=⟨_,List.getElem?_eq_getElem hil⟩
   obtain⟨hxP,hxl⟩:=hQ x (List.mem_of_getElem? hx)
   obtain⟨xa,xc,xp⟩:=x
   dsimp only at hxP hxl
   have hci:=fun(own':Own) [qt own' own]=>qnE (cap:=xc) (RdE.up (own:=own') hxP) (by omega)
   repeat'((try(conv=>whnf));first|(refine fF ?_)|(apply q69 (enc:=PH.enc) (T:=66) ⟨a3,c3,xp⟩ hBk;(exact rfl);(exact rfl);(omega);(exact rfl);(exact rfl);(omega);intro a8 c8 D8 hb8)|((refine zA ?_);first|(refine q1M hP hx rfl ?_))|((refine zC ?_);first|((refine ixE hP hx ?_ ?_;(first|rfl|omega))))|((refine zB ?_);first|((refine qZ (hci _) ?_ ?_ (fun y v hv=> ?_);(exact rfl);(exact rfl);(obtain⟨a3,c3,D3⟩:=y;obtain⟨rfl,hB3⟩:=hv;dsimp only at hB3))))|(refine fB ?_)|(refine fA ?_)|(refine fN ?_)|(refine qc (fun bk hbk=> ?_))|(refine q4T.mk ?_ ?_))
   all_goals
    have hsn:ys.map PB.h++ [⟨a3,c3,xp⟩]=(ys++ [(⟨⟨a3,c3,xp⟩,D3⟩:PB)]).map PB.h:=by simp
    rw[hsn] at hb8
    refine⟨(i+1,ys++ [⟨⟨a3,c3,xp⟩,D3⟩],(a8,c8,D8)),⟨hil,by rw[←hsn];exact qbQ hm hx rfl,hb8,fun x hx=> ?_⟩,(by show ps.length-(i+1)<ps.length-i;omega),(eF),?_⟩
    ·rcases List.mem_append.1 hx with hx|hx
     ·exact hys x hx
     ·rw[List.mem_singleton.1 hx];exact hB3
    ·have e1:((ys++ [(⟨⟨a3,c3,xp⟩,D3⟩:PB)]).map PB.h).length=(ys.map PB.h).length+1:=by simp
     dsimp only
     rw[e1,q72]
     exact qqG
  ·have hiN:i=ps.length:=by omega
   subst hiN
   rw[List.take_length] at hm
   repeat'((try(conv=>whnf));first|(refine fG ?_)|(refine fA ?_)|(refine fL ?_)|(refine fM ?_))
   exact⟨((a1,c1,D1),(a2,c2,D2),ys,(ka',kc',kD)),⟨rfl,hm,hBk,hys⟩,qqF⟩
end
open Go
section
variable{W0:World}{own:Own}{c:Cfg}{ia pa ka:Option Addr}{ic pc kc:Nat}{ps:List PH}{il ks:List Int}
theorem qqH{g b:Nat×(Obj→Prop)}{D0 D1 D2 D3 kD L Z:Own}:Ent W0 (g::(D3++(D2++(kD++(L++(D1++(D0++(b::Z)))))))) (b::(g::(D2++(D3++(kD++(L++Z)))))):=qo (D1++D0)
theorem qqI{x y b g:Nat×(Obj→Prop)}{D2 D3 T O kD L Z:Own}:Ent W0 (x::(y::(b::(g::(D2++(D3++(T++(O++(kD++(L++Z)))))))))) (b::(g::(D2++(D3++(T++(O++(kD++(L++Z)))))))):=qo [x,y]
theorem qqJ{b g:Nat×(Obj→Prop)}{D2 D3 T O kD L Z:Own}:Ent W0 (b::(g::(D2++(D3++(T++(O++(kD++(L++Z)))))))) ((g::(D2++(D3++(T++([]++(O++([]++ [])))))))++((kD++L)++Z)):=qo [b]
theorem qqf(hI:RdE q7j 1 W0 own ia il)(hil:il.length≤1000000)(hP:RdE PH.enc 1 W0 own pa ps)(hpl:ps.length≤16)(hQ:∀h∈ps,RdE Ins.enc 5 W0 own h.a h.p∧h.p.length≤64)(hK:RdE qM 1 W0 own ka ks)(hkl:ks.length≤1000000):
  q0E Tryz.prog W0 44 [qi0 c ia il.length ic pa ps.length pc ka ks.length kc] own fun v own'=>∃y:DP×List PB×Own,
   (v= .pointer (some ⟨y.1.rb,0,none⟩)∧y.1.ok W0 (y.2.2++q9L y.2.1) (y.2.1.map PB.h) (q7G c il (ps.map PH.p))∧(y.2.1.map PB.h).map PH.p=ps.map PH.p)∧
   Ent W0 own' (y.1.O c (y.2.1.map PB.h).length (q7G c il (ps.map PH.p))++((y.2.2++q9L y.2.1)++own)):=by
 refine qa qj qnD (by simp[qms]) ?_
 have hbd:=q6w c
 have hts:=fun(own':Own) [qt own' own]=>qnO (c:=c) (ic:=ic) (pc:=pc) (kc:=kc) (own:=own') (RdE.up hI) hil (RdE.up hP) (by omega) (fun h hh=>⟨(hQ h hh).1.up,by have:=(hQ h hh).2;omega⟩) (RdE.up hK) hkl
 have hcw:=fun(own':Own) [qt own' own]=>qmP (cap:=ic) (RdE.up (own:=own') hI) (by omega)
 have hbl:=fun own=>q8f W0 own c
 repeat'((try(conv=>whnf));first|(refine qc (fun b1 h1=> ?_);(apply Stop.h)))
 refine Stop.mk ?_
 refine q4H (σ:=Nat×Value×Value×(List PB×Option Addr×Nat×Own)×(Option Addr×Nat×Own)×(Option Addr×Nat×Own)) 65512 (fun y=> [(3, .pointer (some ⟨y.1,0,none⟩))])
  (fun y=>ScE b1 c (.slice ia il.length ic) (.slice pa ps.length pc) (.slice ka ks.length kc)::((y.1,fun o=>o=Obj.cells (cfL c [y.2.1, .slice y.2.2.2.1.2.1 (y.2.2.2.1.1.map PB.h).length y.2.2.2.1.2.2.1,y.2.2.1, .slice y.2.2.2.2.1.1 il.length y.2.2.2.2.1.2.1, .slice y.2.2.2.2.2.1 (qy c).toNat y.2.2.2.2.2.2.1, .slice none 0 0, .slice none 0 0, .slice none 0 0, .int .i64 0]).toArray 106 (0,0))::(y.2.2.2.2.1.2.2++(y.2.2.2.2.2.2.2++(y.2.2.2.1.2.2.2++(q9L y.2.2.2.1.1++own))))))
  (fun y=>(y.2.2.2.1.1.map PB.h).map PH.p=ps.map PH.p∧qr PH.enc 66 1 y.2.2.2.1.2.1 y.2.2.2.1.2.2.1 (y.2.2.2.1.1.map PB.h) y.2.2.2.1.2.2.2∧(∀x∈y.2.2.2.1.1,x.ok)∧qr q7j 58 1 y.2.2.2.2.1.1 y.2.2.2.2.1.2.1 il y.2.2.2.2.1.2.2∧qr qmI 4 1 y.2.2.2.2.2.1 y.2.2.2.2.2.2.1 (List.replicate (qy c).toNat false) y.2.2.2.2.2.2.2) rfl ?_ ?_
 ·repeat'((try(conv=>whnf));first|(refine mkE (enc:=qmI) false rfl rfl (by omega) (fun a3 c3 D3 hb3=> ?_))|(refine qc (fun gb hgb=> ?_))|((refine zB ?_);first|((refine qZ (hts _) ?_ ?_ (fun y v hv=> ?_);(exact rfl);(exact rfl);(obtain⟨⟨a1,c1,D1⟩,⟨a0,c0,D0⟩,ys,⟨a5,c5,kD⟩⟩:=y;obtain⟨rfl,hpp,hBk,hys⟩:=hv;dsimp only at hpp hBk hys)))|((refine qZ (hcw _) ?_ ?_ (fun y v hv=> ?_);(exact rfl);(exact rfl);(obtain⟨a2,c2,D2⟩:=y;obtain⟨rfl,hB2⟩:=hv;dsimp only at hB2))))|((with_reducible show q0b _ _ _ _ _ _);first|((refine qq (fun ex=>hbl _) ?_ ?_ ?_;(exact rfl);(exact rfl))))|(refine fA ?_)|(refine fL ?_)|(refine fQ ?_)|(refine q4T.mk ?_ ?_))
  all_goals
   refine⟨(gb, .slice a1 il.length c1, .slice a0 ks.length c0,(ys,a5,c5,kD),(a2,c2,D2),(a3,c3,D3)),⟨hpp,hBk,hys,hB2,hb3⟩,(eF),?_⟩
   exact qqH
 ·rintro⟨gb,iv,kv,⟨ys,a5,c5,kD⟩,⟨a2,c2,D2⟩,⟨a3,c3,D3⟩⟩ junk ⟨hpp,hBk,hys,hB2,hb3⟩
  dsimp only at hpp hBk hys hB2 hb3 ⊢
  refine q0Z (σ:=Nat×(Option Addr×Nat×Own)×(Option Addr×Nat×Own)) (fun y=> [(4, .int .i64 y.1)])
   (fun y=>ScE b1 c (.slice ia il.length ic) (.slice pa ps.length pc) (.slice ka ks.length kc)::((gb,fun o=>o=Obj.cells (cfL c [iv, .slice a5 (ys.map PB.h).length c5,kv, .slice a2 il.length c2, .slice a3 (qy c).toNat c3, .slice y.2.1.1 ((ps.take y.1).map fun h=>qcD h.p).length y.2.1.2.1, .slice none 0 0, .slice y.2.2.1 (List.replicate y.1 (⟨none,0,[],[]⟩:ObS)).length y.2.2.2.1, .int .i64 0]).toArray 106 (0,0))::(D2++(D3++(y.2.1.2.2++(y.2.2.2.2++(kD++(q9L ys++own))))))))
   (fun y=>y.1≤ps.length∧qr Thr.enc 61 11 y.2.1.1 y.2.1.2.1 ((ps.take y.1).map fun h=>qcD h.p) y.2.1.2.2∧qr ObS.enc 124 1 y.2.2.1 y.2.2.2.1 (List.replicate y.1 (⟨none,0,[],[]⟩:ObS)) y.2.2.2.2)
   (fun y=>ps.length-y.1) (0,(none,0,[]),(none,0,[])) ⟨Nat.zero_le _,qr.nil,qr.nil⟩ (eF) ?_ rfl ?_
  ·exact Ent.refl
  rintro⟨i,⟨ta,tc,tD⟩,⟨oa,oc,oD⟩⟩ junk ⟨hi,hBt,hBo⟩
  dsimp only at hi hBt hBo ⊢
  have htl:((ps.take i).map fun h=>qcD h.p).length=i:=by simp;omega
  have hol:(List.replicate i (⟨none,0,[],[]⟩:ObS)).length=i:=by simp
  by_cases hil:i<ps.length
  ·obtain⟨x,hx⟩:∃x,ps[i]? =some x:=⟨_,List.getElem?_eq_getElem hil⟩
   obtain⟨xa,xc,xp⟩:=x
   have hthr:∀b:Bool,b=decide (xp.length=0)→ [.int .i64 0, .int .u64 0, .int .u64 0, .int .u64 0, .int .u64 0, .int .u64 0, .int .u64 0, .int .u64 0, .int .u64 0, .int .i64 0, .bool b]=(qcD xp).enc:=fun b hb=>by rw[hb];rfl
   repeat'((try(conv=>whnf));first|(refine fF ?_)|(apply q69 (enc:=Thr.enc) (T:=61) (qcD xp) hBt;(refine hthr _ ?_;simp);(exact rfl);(omega);(exact rfl);(exact rfl);(omega);intro a9 c9 D9 hb9)|(apply q69 (enc:=ObS.enc) (T:=124) ⟨none,0,[],[]⟩ hBo;(exact rfl);(exact rfl);(omega);(exact rfl);(exact rfl);(omega);intro a8 c8 D8 hb8)|((refine zA ?_);first|(refine q1M hP hx rfl ?_))|((refine zC ?_);first|((refine ixE hP hx ?_ ?_;(first|rfl|omega))))|(refine fB ?_)|(refine fA ?_)|(refine fN ?_)|(refine qc (fun bk hbk=> ?_)))
   all_goals
    have htk:((ps.take i).map fun h=>qcD h.p)++ [qcD xp]=(ps.take (i+1)).map fun h=>qcD h.p:=by
     rw[List.take_add_one,hx];simp
    have hrp:List.replicate i (⟨none,0,[],[]⟩:ObS)++ [⟨none,0,[],[]⟩]=List.replicate (i+1) ⟨none,0,[],[]⟩:=List.replicate_succ'.symm
    have e1:((ps.take (i+1)).map fun h=>qcD h.p).length=((ps.take i).map fun h=>qcD h.p).length+1:=by rw[←htk];simp
    have e2:(List.replicate (i+1) (⟨none,0,[],[]⟩:ObS)).length=(List.replicate i (⟨none,0,[],[]⟩:ObS)).length+1:=by simp
    rw[htk] at hb9
    rw[hrp] at hb8
    refine⟨(i+1,(a9,c9,D9),(a8,c8,D8)),⟨hil,hb9,hb8⟩,(by show ps.length-(i+1)<ps.length-i;omega),(eF),?_⟩
    dsimp only
    rw[e1,e2]
    exact qqI
  ·have hiN:i=ps.length:=by omega
   subst hiN
   rw[List.take_length] at hBt ⊢
   repeat'((try(conv=>whnf));first|(refine fG ?_)|(refine fA ?_))
   have hT:(q7G c il (ps.map PH.p)).T=ps.map fun h=>qcD h.p:=by simp[q7G,qcD]
   have hz:q5q (List.replicate ps.length (⟨none,0,[],[]⟩:ObS))= []:=by simp[q5q]
   have hk:(q7G c il (ps.map PH.p)).tk.length=(qy c).toNat:=by simp[q7G]
   refine⟨(⟨gb,iv,a5,c5,kv,a2,c2,D2,a3,c3,D3,ta,tc,tD,none,0,[],[],[],oa,oc,oD,List.replicate ps.length ⟨none,0,[],[]⟩⟩,ys,kD),⟨rfl,⟨hB2,hb3,RdE.up (hBk.rd (W0:=W0)),?_,hT ▸ hBt,qr.nil,rfl,(fun _ h=>(by cases h)),hBo,?_,?_⟩,hpp⟩,?_⟩
   ·intro h hh
    obtain⟨x,hx,rfl⟩:=List.mem_map.1 hh
    exact qhO hx ((hys x hx).rd (W0:=W0))
   ·intro x hx
    rw[List.eq_of_mem_replicate hx]
    exact qr.nil
   ·simp only[q7G,List.map_map,List.map_replicate]
    exact(List.map_const' ..).symm
   ·dsimp only[DP.O,DP.cells]
    rw[hT,hz,hk]
    exact qqJ
end
open Go
section
variable{W0:World}{own:Own}{c:Cfg}{ia pa ka:Option Addr}{ic pc kc:Nat}{ps:List PH}{il ks:List Int}{ca:Option Addr}{cc:Nat}{cl:List CH}
theorem qpC(c:Cfg)(ia pa ka:Option Addr)(il ic pn pc kn kc:Nat)(own:Own):qD Tryz.prog W0 40 [qi0 c ia il ic pa pn pc ka kn kc] own (qi0 c ia il ic pa pn pc none 0 0):=by
 refine qe (qa qj qnz (by simp[qmo]) ?_)
 repeat'((try(conv=>whnf));first|(refine fL ?_)|(refine fN ?_)|(refine fM ?_)|(refine qc (fun bk hbk=> ?_)))
 all_goals exact⟨rfl,(eC)⟩
end
open Go
theorem qr3{c:Cfg}{P:List (List Ins)}{s:GS}{ch:ChM}:(doM c P s ch).2.n≤s.n+1:=by
 by_cases h:(doM c P s ch).1=0
 ·rw[qrh h];exact Nat.le_refl _
 ·rw[qpW h];exact Nat.le_succ _
section
variable{W0:World}{Kp K:Own}{g:DP}{c:Cfg}{ps:List PH}{P:List (List Ins)}{s:GS}{rb:Nat}
theorem qp7(hrb:g.rb=rb)(h:g.ok W0 Kp ps s)(hG:GOk c P s)(hP:ps.map PH.p=P)(hn:s.n≤5000)(t f:Int){aa:Option Addr}{ad:List Int}{ac:Nat}(hA:RdE qM 1 W0 K aa ad)(hal:ad.length≤ac)(had:∀a∈ad,a≤9223372036854775807)(q:Own) [ek:qt q Kp] [ek2:qt q K]:
  q0E Tryz.prog W0 45 [.pointer (some ⟨rb,0,none⟩),chV t f aa ad.length ac] (g.O c ps.length s++q) fun v own'=>∃g':DP,
   (v= .int .i64 (doM c P s ⟨t,f,ad⟩).1∧g'.ok W0 Kp ps (doM c P s ⟨t,f,ad⟩).2∧g'.rb=rb)∧Ent W0 own' (g'.O c ps.length (doM c P s ⟨t,f,ad⟩).2++q):=by
 subst hrb;subst hP
 exact qqV (c:=c) h hG hn t f hA hal had q
end
open Go
def gs0:GS:=⟨[],[],[],[],[],0⟩
def qrm:GS ⊕ Nat→GS×Int×Int
 | .inl s=>(s,0,0)
 | .inr j=>(gs0,j,70)
def qrg(c:Cfg)(il:List Int)(ps:List PH)(cl:List ChM):GS×Int×Int:=
 if(csM c il.length ps []).2.2≠0 then(gs0,0,(csM c il.length ps []).2.2) else qrm (qce c (ps.map PH.p) cl 0 (q7G c il (ps.map PH.p)))
section
variable{W0:World}{own:Own}{m:MS}{st:Bool}{ca:Option Addr}{cc:Nat}{cl:List CH}
theorem MS.ok.ilu(h:m.ok st):∀x∈m.il,okU x:=fun x hx=>by have:=h.iw x hx;exact⟨by omega,by omega⟩
theorem MS.ok.il5(h:m.ok st):m.il.length≤500000:=by
 have h1:=h.il
 have h2:=(q1R h.c0).1
 unfold okW at h2
 omega
end
open Go
section
variable{W0:World}{own:Own}{la:Option Addr}{lc:Nat}{ls:List IH}
theorem qqd(hL:RdE IH.enc 1 W0 own la ls)(hll:ls.length≤17592186043904)(hQ:∀h∈ls,h.l.length≤17592186043904):
  q0E Tryz.prog W0 9 [.slice la ls.length lc] own fun v own'=>∃z:Bool,(v= .bool z∧(z=false→ls.length≤3∧∀h∈ls,h.l.length≤24))∧Ent W0 own' own:=by
 refine qa qj qnx (by simp[qmm]) ?_
 refine q0Z (σ:=Nat×Int) (fun y=> [(3, .int .i64 y.2),(4, .int .i64 y.1)]) (fun _=>own)
  (fun y=>y.1≤ls.length∧qks ls y.1 y.2) (fun y=>ls.length-y.1) (0,0) ⟨Nat.zero_le _,fun _=>⟨Int.le_refl _,by simp,fun _ h=>(by cases h)⟩⟩ (eF) Ent.refl rfl ?_
 rintro⟨i,n⟩ junk ⟨hi,hS⟩
 dsimp only at hi hS ⊢
 by_cases hil:i<ls.length
 ·obtain⟨x,hx⟩:∃x,ls[i]? =some x:=⟨_,List.getElem?_eq_getElem hil⟩
  have hxl:=hQ x (List.mem_of_getElem? hx)
  have hSn:=hS.next hx hxl
  obtain⟨xa,xc,xl⟩:=x
  repeat'((try(conv=>whnf));first|(refine fF ?_)|(refine fB ?_)|(refine arw ?_)|((refine zA ?_);first|(refine q1M hL hx rfl ?_))|((refine zC ?_);first|((refine ixE hL hx ?_ ?_;(first|rfl|omega)))))
  exact⟨(i+1,_),⟨hil,hSn⟩,(by show ls.length-(i+1)<ls.length-i;omega),(eF),Ent.refl⟩
 ·have hiN:i=ls.length:=by omega
  subst hiN
  by_cases hc:(3:Int)<ls.length
  ·repeat'((try(conv=>whnf));first|(refine fI ?_)|(refine fG ?_)|(refine fJ ?_))
   all_goals exact⟨true,⟨rfl,fun h=>(by cases h)⟩,(eC)⟩
  ·obtain⟨hn0, -,hn2⟩:=hS (by omega)
   repeat'((try(conv=>whnf));first|(refine fH ?_)|(refine fG ?_)|(refine fK ?_))
   all_goals exact⟨decide (24<n),⟨rfl,fun hz=>by
    have hn:¬24<n:=of_decide_eq_false hz
    exact⟨by omega,fun h hh=>by have:=hn2 h (by rw[List.take_of_length_le (by omega)];exact hh);omega⟩⟩,(eC)⟩
end
open Go
abbrev qp3(w o:Int):Cfg:=⟨1+qbu w 12,1+qbu o 12,0,0,0,0,0,16,32,0,0,1000,false⟩
theorem qq7(w o:Int):qL (qp3 w o)=0:=by
 have h1:=qbv w (n:=12) (by omega)
 have h2:=qbv o (n:=12) (by omega)
 exact(cm0 (by unfold okW;dsimp only;omega) (by unfold okH okC nB nW;dsimp only;omega) (by unfold okL;dsimp only;omega) (by unfold okK;dsimp only;omega)).symm
structure MS.cl(m:MS):Prop where
 i:qr q7j 58 1 m.ia m.ic m.il m.Di
 p:qr PH.enc 66 1 m.pa m.pc (m.ps.map PB.h) m.Dp
 q:∀x∈m.ps,x.ok∧qx x.h.p=(0,0)
 na:∀x∈m.ps,∀y∈x.h.p,y.op≠14∧y.op≠15
 len:∀x∈m.ps,x.h.p.length≤6
 il:(m.il.length:Int)=m.c.words
 iw:∀x∈m.il,0≤x∧x≤3
 pl:m.ps.length=2∨m.ps.length=3
 cw:1≤m.c.words∧m.c.words≤12
 c0:qL m.c=0
 cs:m.c.strong=false
section
variable{W0:World}{own:Own}{la:Option Addr}{lc:Nat}{ls:List IH}
theorem qpy(w o:Int):qD Tryz.prog W0 24 [.int .i64 w, .int .i64 o] own (qp3 w o).v:=by
 refine qe (qa qj qny (by simp[qmn]) ?_)
 have hw:=qbv w (n:=12) (by omega)
 have ho:=qbv o (n:=12) (by omega)
 have p1:=fun q=>qbG W0 q w 12 (by omega)
 have p2:=fun q=>qbG W0 q o 12 (by omega)
 repeat'((try(conv=>whnf));first|((refine zB ?_);first|((refine qh (p1 _) ?_ ?_ ?_;(exact rfl);exact rfl))|((refine qh (p2 _) ?_ ?_ ?_;(exact rfl);exact rfl)))|(refine fB ?_)|(refine fL ?_)|(refine fM ?_)|(refine qc (fun bk hbk=> ?_)))
 all_goals exact⟨rfl,(eC)⟩
theorem qoD{c:Cfg}(h0:qL c=0)(hcs:c.strong=false)(hcw:1≤c.words∧c.words≤12)(n:Int)(hn:n=2∨n=3)(hL:RdE IH.enc 1 W0 own la ls)(hQ:∀h∈ls,RdE qM 1 W0 own h.a h.l∧h.l.length≤1000000):
  q0E Tryz.prog W0 18 [c.v, .int .i64 n, .slice la ls.length lc, .int .i64 (8-n), .bool false, .bool true, .slice none 0 0] own fun v own'=>∃m:MS,(v=m.v∧m.cl∧m.c=c)∧Ent W0 own' (m.O++own):=fun w hw=>by
 refine(qiG (c:=c) (pka:=none) (pks:= []) (pkc:=0) n (8-n) false true (by omega) (by omega) (by omega) hL hQ RdE.nil (by simp) w hw).mono fun _ _ ⟨v,o,a,b,ia,il,ic,Di,pa,ps,pc,Dp,ka,ks,kc,Dk,hv,hI,hP,hK,hp,hl,hw,hpl,hkl,_,hE⟩=> ?_
 have hk0:ks= []:=List.eq_nil_of_length_eq_zero hkl
 subst hk0
 refine⟨v,o,a,b,⟨c,ia,il,ic,Di,pa,ps,pc,Dp,ka,kc,Dk⟩,⟨hv,⟨hI,hP,fun x hx=>⟨(hp x hx).1,by rw[qeS];exact(hp x hx).2.1⟩,fun x hx y hy=> ?_,fun x hx=>by have:=(hp x hx).2.2.1;omega,hl,hw,(by show ps.length=2∨ps.length=3;omega),hcw,h0,hcs⟩,rfl⟩,?_⟩
 ·have:=((hp x hx).2.2.2 y hy).2
  exact⟨fun h=>(by have:=this (.inl h);cases this),fun h=>(by have:=this (.inr h);cases this)⟩
 ·simpa only[MS.O,List.append_assoc] using hE
theorem qqs{x y z:Nat×(Obj→Prop)}{A Z:Own}:Ent W0 (x::(A++(y::(z::Z)))) (A++Z):=qo [x,y,z]
theorem qp4(w o:Int)(hL:RdE IH.enc 1 W0 own la ls)(hll:ls.length≤3)(hQ:∀h∈ls,RdE qM 1 W0 own h.a h.l∧h.l.length≤24):
  q0E Tryz.prog W0 11 [.int .i64 w, .int .i64 o, .slice la ls.length lc] own fun v own'=>∃m:MS,(v=m.v∧m.cl∧m.c=qp3 w o)∧Ent W0 own' (m.O++own):=by
 refine qa qj qna (by simp[qm9]) ?_
 have hw:=qbv w (n:=12) (by omega)
 have hro:=fun q=>qpy (W0:=W0) (own:=q) w o
 have hsc:=fun(own':Own) [qt own' own]=>qoD (lc:=lc) (own:=own') (c:=qp3 w o) (qq7 w o) rfl (by dsimp only;omega) (2+(ls.length:Int) % 2) (by omega) hL.up (fun h hh=>⟨(hQ h hh).1.up,by have:=(hQ h hh).2;omega⟩)
 generalize qp3 w o=c at*
 repeat'((try(conv=>whnf));first|((refine zB ?_);first|((refine qh (hro _) ?_ ?_ ?_;(exact rfl);exact rfl))|((refine qm (hsc _) Ent.refl ?_ ?_ (fun m v hv=> ?_);(exact rfl);(exact rfl);(obtain⟨rfl,hm,hc⟩:=hv))))|(refine fB ?_)|(refine fL ?_)|(refine fM ?_)|(refine qc (fun bk hbk=> ?_))|(refine q9M ?_ ?_;omega))
 all_goals exact⟨m,⟨rfl,hm,hc⟩,qqs⟩
end
open Go
section
variable{m:MS}
theorem MS.cl.cs0(h:m.cl):csM m.c m.il.length (m.ps.map PB.h) []=(0,0,0):=by
 unfold csM
 have hp:=h.pl
 rw[if_neg (by rw[h.c0];simp),if_neg (by rw[List.length_map];omega),if_neg (by rw[h.il];simp),qod _ _ fun y hy=>by
  obtain⟨x,hx,rfl⟩:=List.mem_map.1 hy
  exact(h.q x hx).2]
 rfl
theorem MS.cl.ilu(h:m.cl):∀x∈m.il,okU x:=fun x hx=>by have:=h.iw x hx;exact⟨by omega,by omega⟩
theorem MS.cl.g0(h:m.cl):GOk m.c m.P (q7G m.c m.il m.P):=
 qgw h.c0 h.il h.ilu fun p hp=>by
  obtain⟨y,hy,rfl⟩:=List.mem_map.1 hp
  obtain⟨x,hx,rfl⟩:=List.mem_map.1 hy
  exact(h.q x hx).2
theorem MS.cl.pl16(h:m.cl):m.P.length≤16:=by
 have hp:=h.pl
 simp only[List.length_map]
 omega
theorem MS.cl.il5(h:m.cl):m.il.length≤500000:=by
 have h1:=h.il
 have h2:=h.cw
 omega
theorem MS.cl.noal(h:m.cl):qfn m.P:=fun p hp=>by
 obtain⟨y,hy,rfl⟩:=List.mem_map.1 hp
 obtain⟨x,hx,rfl⟩:=List.mem_map.1 hy
 exact h.na x hx
theorem MS.cl.alq(h:m.cl):alQ (m.ps.map PB.h)=false:=by
 unfold alQ
 rw[List.any_eq_false]
 intro y hy
 obtain⟨x,hx,rfl⟩:=List.mem_map.1 hy
 rw[Bool.not_eq_true,List.any_eq_false]
 intro z hz
 have:=h.na x hx z hz
 unfold alI
 simp[this.1,this.2]
theorem MS.cl.arg(h:m.cl){fo:List Int}{lim:Int}(hf:fo.length≤4)(hfo:∀k∈fo,3≤k∧k≤6)(hl:1≤lim∧lim≤100000):qeN m.c m.il.length (m.ps.map PB.h) fo lim=0:=by
 unfold qeN
 rw[h.cs0,if_neg (by simp),if_neg (by rw[h.cs,h.alq];simp),if_neg (by omega),if_pos]
 unfold foB
 rw[List.all_eq_true]
 intro k hk
 exact decide_eq_true (hfo k hk)
theorem MS.cl.rp{W0:World}(h:m.cl):RdE PH.enc 1 W0 (m.O) m.pa (m.ps.map PB.h):=h.p.rd.ent (qo (m.Dk++(q9L m.ps++m.Di)) fun a=>by simp only[MS.O,q2k];omega)
theorem MS.cl.ri{W0:World}(h:m.cl):RdE q7j 1 W0 (m.O) m.ia m.il:=h.i.rd.ent (qo (m.Dk++(m.Dp++q9L m.ps)) fun a=>by simp only[MS.O,q2k];omega)
theorem MS.cl.rq{W0:World}(h:m.cl):∀x∈m.ps.map PB.h,RdE Ins.enc 5 W0 (m.O) x.a x.p:=fun y hy=>by
 obtain⟨x,hx,rfl⟩:=List.mem_map.1 hy
 have:=qhO (kD:= []) hx ((h.q x hx).1.rd (W0:=W0))
 exact this.ent (qo (m.Dk++(m.Dp++m.Di)) fun a=>by simp only[MS.O,q2k,q6C];omega)
end
structure Ans(c:Cfg)(il:List Int)(P:List (List Ins))(fo:List Int)(R:SS×Int):Prop where
 e:R.2=0∨(R.2=80∧R.1=ss0)
 n:R.1.racy=false→R.1.found= []
 r:R.2=0→R.1.racy=true→∃s',qex c P fo (q7G c il P) [] s' R.1.found∧rcC P.length s'.E=true
 a:R.2=0→R.1.racy=false→∀s' l',qex c P fo (q7G c il P) [] s' l'→rcC P.length s'.E=false
theorem MS.cl.ans{m:MS}(h:m.cl){fo:List Int}{lim:Int}(hf:fo.length≤4)(hfo:∀k∈fo,3≤k∧k≤6)(hl:1≤lim∧lim≤100000):Ans m.c m.il m.P fo (q5x m.c m.il (m.ps.map PB.h) fo lim):=by
 unfold q5x
 rw[h.arg hf hfo hl,if_neg (by simp)]
 unfold qll
 have h1:=qnP (rc:=rcC m.P.length) (c:=m.c) (P:=m.P) (fo:=fo) (lim:=lim) (q1n m.P (q7G m.c m.il m.P)+1) (q7G m.c m.il m.P) [] ss0 rfl
 have h2:=qoq (rc:=rcC m.P.length) (c:=m.c) (P:=m.P) (fo:=fo) (lim:=lim) h.noal hfo (q1n m.P (q7G m.c m.il m.P)+1) (q7G m.c m.il m.P) [] ss0 h.g0 (Nat.lt_succ_self _)
 have h3:=q7h (rc:=rcC m.P.length) (c:=m.c) (P:=m.P) (fo:=fo) (lim:=lim) (n:=q1n m.P (q7G m.c m.il m.P)+1) (s:=q7G m.c m.il m.P) (l:= []) (x:=ss0) rfl rfl
 dsimp only
 generalize q7L (rcC m.P.length) m.c m.P fo lim (q1n m.P (q7G m.c m.il m.P)+1) (q7G m.c m.il m.P) [] ss0=R at*
 cases hm:R.many with
 |true=>exact⟨.inr ⟨rfl,rfl⟩,fun _=>rfl,fun h=>absurd h (by simp),fun h=>absurd h (by simp)⟩
 |false=>
  refine⟨.inl rfl,h3,fun _ hr=>h1 hr,fun _ hr=>h2 ?_⟩
  unfold SS.stop
  have hr':R.racy=false:=hr
  rw[hr',hm]
  rfl
theorem qex.len{c:Cfg}{P:List (List Ins)}{fo:List Int}(hna:qfn P)(hfo:∀k∈fo,3≤k∧k≤6){s s':GS}{l l':List ChM}(h:qex c P fo s l s' l'):GOk c P s→l.length≤s.n→GOk c P s'∧l'.length≤s'.n∧s'.n+q1n P s'≤s.n+q1n P s:=by
 induction h with
 |done h=>exact fun hG hl=>⟨hG,hl,Nat.le_refl _⟩
 | @loc s s' l l' t ht hd ha _ ih=>
  intro hG hl
  obtain⟨g1,g2, -⟩:=qg3 (t:=t) hna 64 s l hG
  obtain⟨i1,i2,i3⟩:=ih g1 (qiM hna t 64 s l hG hl)
  exact⟨i1,i2,by omega⟩
 | @step s s' l l' t k ht hd ha hk _ ih=>
  intro hG hl
  obtain⟨g1,g2, -⟩:=qg3 (t:=t) hna 64 s l hG
  have hn:=qiM hna t 64 s l hG hl
  obtain⟨i,hi⟩:=qh2 g1 ha
  obtain⟨-,m1,m2,m3,m4,m5⟩:=q3Z g1 hna hi (k:=k) (by
   rcases qag hfo hk with hk|⟨j,hj,h7,hk⟩
   ·exact .inl hk
   ·rw[hi] at hj
    obtain rfl:=Option.some.inj hj
    exact .inr ⟨h7,hk⟩)
  obtain⟨i1,i2,i3⟩:=ih m1 (by rw[List.length_append,List.length_singleton];omega)
  exact⟨i1,i2,by omega⟩
open Go
def bcS(f:Nat→Nat):Nat→Nat
 |0=>1
 |b+1=>f (b+1)+bcS f b
def bc:Nat→Nat→Nat
 |0=>fun _=>1
 |a+1=>bcS (bc a)
abbrev qrl:Ins:=⟨13,0,0,0,0⟩
abbrev qrk:Ins:=⟨12,1,0,0,1⟩
def qrn(n m:Nat):List (List Ins):= [List.replicate n qrl,List.replicate m qrk]
structure Two(c:Cfg)(n m:Nat)(s:GS)(i j:Nat):Prop where
 G:GOk c (qrn n m) s
 T:∃a b:Thr,s.T= [a,b]∧a.pc=i∧b.pc=j∧a.rg.r0=0∧b.rg.r0=0∧a.dn=decide (i=n)∧b.dn=decide (j=m)
 E:∀e∈s.E,(e.k=1∨e.k=2)∧e.w=e.t
theorem RdE.conv{α β:Type}{enc:α→List Value}{enc2:β→List Value}{f:α→β}{sz:Nat}{W0:World}{own:Own}{a:Option Addr}{l:List α}(h:RdE enc sz W0 own a l)(he:∀x∈l,enc2 (f x)=enc x):RdE enc2 sz W0 own a (l.map f):=by
 refine⟨fun hn=>h.isS (fun e=>hn (by rw[e];rfl)),fun x hx=> ?_,fun{j k x v} hx hv=> ?_⟩
 ·obtain⟨y,hy,rfl⟩:=List.mem_map.1 hx
  rw[he y hy]
  exact h.wid y hy
 ·rw[List.getElem?_map] at hx
  cases hy:l[j]? with
  |none=>rw[hy] at hx;cases hx
  |some y=>
   rw[hy] at hx
   obtain rfl:=Option.some.inj hx
   rw[he y (List.mem_of_getElem? hy)] at hv
   exact h.cell hy hv
theorem qpt{m:MS}(h:m.cl){fo:List Int}(hfo:∀k∈fo,3≤k∧k≤6){s':GS}{l:List ChM}(hL:qex m.c m.P fo (q7G m.c m.il m.P) [] s' l):
  qrg m.c m.il (m.ps.map PB.h) l=(s',0,0)∧(∀x∈l,x.ad= [])∧l.length≤5000∧q6E s'=true∧SzG s':=by
 obtain⟨g,g1,g2,g3,g4⟩:=hL.runs h.noal hfo h.g0
 rw[List.nil_append] at g1
 subst g1
 obtain⟨i1,i2,i3⟩:=hL.len h.noal hfo h.g0 (Nat.zero_le _)
 have hml:=qhJ h.g0 h.pl16
 have hn0:(q7G m.c m.il m.P).n=0:=rfl
 refine⟨?_,g2,by omega,g3,i1.sz (by omega) h.pl16⟩
 unfold qrg
 rw[h.cs0,if_neg (by simp),g4 0]
 rfl
section
variable{W0:World}{own:Own}{m:MS}{pa:Option Addr}{pc:Nat}{pl:List Int}
theorem qpG(h:m.cl) [e:qt own m.O]:
  q0E Tryz.prog W0 44 [qi0 m.c m.ia m.il.length m.ic m.pa m.ps.length m.pc m.ka 0 m.kc] own fun v own'=>∃y:DP×List PB×Own,
   (v= .pointer (some ⟨y.1.rb,0,none⟩)∧y.1.ok W0 (y.2.2++q9L y.2.1) (y.2.1.map PB.h) (q7G m.c m.il m.P)∧(y.2.1.map PB.h).map PH.p=m.P)∧
   Ent W0 own' (y.1.O m.c (y.2.1.map PB.h).length (q7G m.c m.il m.P)++((y.2.2++q9L y.2.1)++own)):=by
 have:=qqf (ks:= []) (own:=own) (c:=m.c) (ic:=m.ic) (pc:=m.pc) (ka:=m.ka) (kc:=m.kc) (h.ri.up (W0:=W0)) (by have:=h.il5;omega) (h.rp.up) (by have:=h.pl;rw[List.length_map];omega) (fun y hy=>⟨(h.rq y hy).up,by
  obtain⟨x,hx,rfl⟩:=List.mem_map.1 hy
  exact q6A (h.q x hx).2⟩) RdE.nil (Nat.zero_le _)
 rw[List.length_map] at this
 exact this
end
open Go
theorem qpR{p:List Ins}{k:Nat}{x:Ins}(hx:p[k]? =some x)(h:(p.take k).any alI=false)(hn:¬(x.op=14∨x.op=15)):(p.take (k+1)).any alI=false:=by
 rw[List.take_add_one,hx,List.any_append,h]
 unfold alI
 simp only[Option.toList,List.any_cons,List.any_nil]
 simpa using hn
theorem qph{ps:List PH}{k:Nat}{x:PH}(hx:ps[k]? =some x)(h:alQ (ps.take k)=false)(hn:x.p.any alI=false):alQ (ps.take (k+1))=false:=by
 unfold alQ at*
 rw[List.take_add_one,hx,List.any_append,h]
 simp[hn]
theorem qql{ps:List PH}{k j:Nat}{h:PH}{x:Ins}(hh:ps[k]? =some h)(hx:h.p[j]? =some x)(hn:x.op=14∨x.op=15):alQ ps=true:=by
 unfold alQ
 rw[List.any_eq_true]
 refine⟨h,List.mem_of_getElem? hh,?_⟩
 rw[List.any_eq_true]
 refine⟨x,List.mem_of_getElem? hx,?_⟩
 unfold alI
 rcases hn with hn|hn <;>simp[hn]
section
variable{W0:World}{own:Own}{c:Cfg}{ia pa ka:Option Addr}{ic pc kc:Nat}{ps:List PH}{il ks:List Int}{fa:Option Addr}{fc:Nat}{fo:List Int}
theorem qog(k:Int):qD Tryz.prog W0 41 [.int .i64 k] own (.bool (decide (3≤k∧k≤6))):=by
 refine qe (qa qj qn1 (by simp[qm1]) ?_)
 by_cases h3:k=3
 ·subst h3
  repeat'((try(conv=>whnf));first|(refine fI ?_))
  all_goals exact⟨rfl,(eC)⟩
 ·by_cases h4:k=4
  ·subst h4
   repeat'((try(conv=>whnf));first|(refine fH ?_)|(refine fI ?_))
   all_goals exact⟨rfl,(eC)⟩
  ·by_cases h5:k=5
   ·subst h5
    repeat'((try(conv=>whnf));first|(refine fH ?_)|(refine fI ?_))
    all_goals exact⟨rfl,(eC)⟩
   ·by_cases h6:k=6
    ·subst h6
     repeat'((try(conv=>whnf));first|(refine fH ?_))
     all_goals exact⟨rfl,(eC)⟩
    ·have hd:decide (3≤k∧k≤6)=false:=decide_eq_false (by omega)
     rw[hd]
     repeat'((try(conv=>whnf));first|(refine fH ?_)|(refine fK ?_))
     all_goals exact⟨by rw[decide_eq_false h6];rfl,(eC)⟩
theorem qpB(hP:RdE PH.enc 1 W0 own pa ps)(hpl:ps.length≤1000000)(hQ:∀h∈ps,RdE Ins.enc 5 W0 own h.a h.p)(hfo:RdE qM 1 W0 own fa fo)(lim:Int):
  qD Tryz.prog W0 16 [qi0 c ia il.length ic pa ps.length pc ka ks.length kc, .slice fa fo.length fc, .int .i64 lim] own (.int .i64 (qeN c il.length ps fo lim)):=by
 refine qe (qa qj qnC (by simp[qmr]) ?_)
 have hba:=fun own'=>qpC (W0:=W0) c ia pa ka il.length ic ps.length pc ks.length kc own'
 have hcs:=fun(own':Own) [qt own' own]=>qqU (c:=c) (ia:=ia) (il:=il.length) (ic:=ic) (pc:=pc) (ka:=none) (ks:= []) (kc:=0) (own:=own') hP.up (fun h hh=>(hQ h hh).up) RdE.nil
 unfold qeN
 by_cases h0:(csM c il.length ps []).2.2=0
 ·rw[if_neg (by omega)]
  have hck:=(qh1 h0).2.2.2.2
  generalize csM c il.length ps []=z at*
  obtain⟨z1,z2,z3⟩:=z
  dsimp only at h0 hcs
  subst h0
  have hpl2:∀h∈ps,h.p.length≤64:=fun h hh=>q6A (hck h hh)
  obtain⟨q0,q1,q2,q3,q4,q5,q6,q7,q8,q9,q10,q11,st⟩:=c
  dsimp only at*
  cases st with
  |true=>
   rw[if_pos (.inl rfl)]
   repeat'((try(conv=>whnf));first|(refine fE ?_)|(refine fD ?_)|(refine qc (fun b3 h3=> ?_))|((refine zB ?_);first|((refine qh (hba _) ?_ ?_ ?_;(exact rfl);exact rfl))|((refine qh (hcs _) ?_ ?_ ?_;(exact rfl);exact rfl)))|(refine fO ?_)|(refine fA ?_)|(refine fL ?_))
   all_goals exact⟨rfl,(eC)⟩
  |false=>
   repeat'((try(conv=>whnf));first|(refine fD ?_)|(refine qc (fun b3 h3=> ?_))|((refine zB ?_);first|((refine qh (hba _) ?_ ?_ ?_;(exact rfl);exact rfl))|((refine qh (hcs _) ?_ ?_ ?_;(exact rfl);exact rfl)))|(refine fO ?_)|(refine fA ?_)|(refine fL ?_))
   refine q1N (σ:=Nat) (fun i=> [(10, .int .i64 i)]) (fun i=>i≤ps.length∧alQ (ps.take i)=false) (fun i=>ps.length-i) 0 ⟨Nat.zero_le _,rfl⟩ (eF) rfl ?_
   rintro i junk ⟨hi,hI⟩
   by_cases hin:i<ps.length
   ·obtain⟨x,hx⟩:∃x,ps[i]? =some x:=⟨_,List.getElem?_eq_getElem hin⟩
    have hxm:=List.mem_of_getElem? hx
    have hxl:=hpl2 x hxm
    have hxR:=hQ x hxm
    have hay:=fun j y=>qql (ps:=ps) (k:=i) (j:=j) (x:=y) hx
    have hat:=fun h=>qph (k:=i) hx hI h
    obtain⟨xa,xc,xp⟩:=x
    dsimp only at hxl hxR hay hat
    have hin':(i:Int)<ps.length:=by omega
    repeat'((try(conv=>whnf));first|(refine fF ?_)|(refine fA ?_))
    refine q1N (σ:=Nat) (fun j=> [(11, .int .i64 j)]) (fun j=>j≤xp.length∧(xp.take j).any alI=false) (fun j=>xp.length-j) 0 ⟨Nat.zero_le _,rfl⟩ (eF) rfl ?_
    rintro j junk2 ⟨hj,hJ⟩
    by_cases hjn:j<xp.length
    ·obtain⟨y,hy⟩:∃y,xp[j]? =some y:=⟨_,List.getElem?_eq_getElem hjn⟩
     have hal:=fun h=>qpR hy hJ h
     have hye:=hay j y hy
     have hjn':(j:Int)<xp.length:=by omega
     obtain⟨o1,o2,o3,o4,o5⟩:=y
     dsimp only at hal hye
     by_cases ho:o1=14∨o1=15
     ·have haq:=hye ho
      rw[if_pos (.inr haq)]
      rcases ho with rfl|rfl
      all_goals
       repeat'((try(conv=>whnf));first|(refine fH ?_)|(refine fI ?_)|(refine fE ?_)|(refine fF ?_)|((refine zA ?_);first|(refine q1M hP hx rfl ?_)|(refine q1M hxR hy rfl ?_))|((refine zC ?_);first|((refine ixE hP hx ?_ ?_;(first|rfl|omega)))|((refine ixE hxR hy ?_ ?_;(first|rfl|omega))))|(refine fA ?_))
      all_goals exact⟨rfl,(eC)⟩
     ·have ho1:¬o1=14:=fun h=>ho (.inl h)
      have ho2:¬o1=15:=fun h=>ho (.inr h)
      repeat'((try(conv=>whnf));first|(refine fH ?_)|(refine fF ?_)|(refine fG ?_)|(refine fK ?_)|((refine zA ?_);first|(refine q1M hP hx rfl ?_)|(refine q1M hxR hy rfl ?_))|((refine zC ?_);first|((refine ixE hP hx ?_ ?_;(first|rfl|omega)))|((refine ixE hxR hy ?_ ?_;(first|rfl|omega))))|(refine fB ?_)|(refine fA ?_))
      all_goals exact⟨j+1,⟨hjn,hal ho⟩,(by show xp.length-(j+1)<xp.length-j;omega),(eF),Ent.refl⟩
    ·have hjN:j=xp.length:=by omega
     subst hjN
     have hjn':¬((xp.length:Nat):Int)<xp.length:=by omega
     rw[List.take_length] at hJ
     repeat'((try(conv=>whnf));first|(refine fG ?_)|((refine zA ?_);first|(refine q1M hP hx rfl ?_))|((refine zC ?_);first|((refine ixE hP hx ?_ ?_;(first|rfl|omega))))|(refine fB ?_)|(refine fA ?_))
     all_goals exact⟨i+1,⟨hin,hat hJ⟩,(by show ps.length-(i+1)<ps.length-i;omega),(eF),Ent.refl⟩
   ·have hiN:i=ps.length:=by omega
    subst hiN
    rw[List.take_length] at hI
    have hin':¬((ps.length:Nat):Int)<ps.length:=by omega
    rw[hI,if_neg (by simp)]
    by_cases h2:lim<1∨100000<lim∨(4:Int)<fo.length
    ·rw[if_pos h2]
     repeat'((try(conv=>whnf));first|(refine fH ?_)|(refine fI ?_)|(refine fE ?_)|(refine fF ?_)|(refine fG ?_)|(refine fA ?_)|(apply q4P;(exact rfl);(exact rfl);all_goals intro hc))
     all_goals first|exact⟨rfl,(eC)⟩|(exfalso;omega)
    ·rw[if_neg h2]
     have h2':(fo.length:Int)≤4:=by omega
     repeat'((try(conv=>whnf));first|(refine fH ?_)|(refine fG ?_)|(refine fK ?_)|(refine fA ?_))
     refine q1N (σ:=Nat) (fun i=> [(13, .int .i64 i)]) (fun i=>i≤fo.length∧foB (fo.take i)=true) (fun i=>fo.length-i) 0 ⟨Nat.zero_le _,rfl⟩ (eF) rfl ?_
     rintro k junk3 ⟨hk,hK⟩
     by_cases hkn:k<fo.length
     ·obtain⟨x,hx⟩:∃x,fo[k]? =some x:=⟨_,List.getElem?_eq_getElem hkn⟩
      have hkn':(k:Int)<fo.length:=by omega
      have hfc:=fun own=>qog (W0:=W0) (own:=own) x
      by_cases hk2:3≤x∧x≤6
      ·rw[decide_eq_true hk2] at hfc
       repeat'((try(conv=>whnf));first|(refine fD ?_)|(refine fF ?_)|((refine zA ?_);first|(refine q1M hfo hx rfl ?_))|((refine zC ?_);first|((refine ixE hfo hx ?_ ?_;(first|rfl|omega))))|((refine zB ?_);first|((refine qh (hfc _) ?_ ?_ ?_;(exact rfl);exact rfl)))|(refine fB ?_))
       all_goals exact⟨k+1,⟨hkn,qhs hx hK hk2⟩,(by show fo.length-(k+1)<fo.length-k;omega),(eF),Ent.refl⟩
      ·rw[qjo hx hk2]
       rw[decide_eq_false hk2] at hfc
       repeat'((try(conv=>whnf));first|(refine fE ?_)|(refine fF ?_)|((refine zA ?_);first|(refine q1M hfo hx rfl ?_))|((refine zC ?_);first|((refine ixE hfo hx ?_ ?_;(first|rfl|omega))))|((refine zB ?_);first|((refine qh (hfc _) ?_ ?_ ?_;(exact rfl);exact rfl))))
       all_goals exact⟨rfl,(eC)⟩
     ·have hkN:k=fo.length:=by omega
      subst hkN
      have hkn':¬((fo.length:Nat):Int)<fo.length:=by omega
      rw[List.take_length] at hK
      rw[hK]
      repeat'((try(conv=>whnf));first|(refine fG ?_))
      all_goals exact⟨rfl,(eC)⟩
 ·rw[if_pos h0]
  generalize csM c il.length ps []=z at*
  obtain⟨z1,z2,z3⟩:=z
  dsimp only at h0 hcs ⊢
  repeat'((try(conv=>whnf));first|(refine fF ?_)|(refine qc (fun b3 h3=> ?_))|((refine zB ?_);first|((refine qh (hba _) ?_ ?_ ?_;(exact rfl);exact rfl))|((refine qh (hcs _) ?_ ?_ ?_;(exact rfl);exact rfl)))|(refine fO ?_)|(refine fL ?_))
  all_goals exact⟨rfl,(eC)⟩
end
open Go
def qnR(c:Cfg)(P:List (List Ins))(s:GS)(l:List ChM):GS:=l.foldl (fun s x=>(doM c P s x).2) s
theorem qn2{c:Cfg}{P:List (List Ins)}{s:GS}{l:List ChM}{x:ChM}:qnR c P s (l++ [x])=(doM c P (qnR c P s l) x).2:=by
 unfold qnR
 rw[List.foldl_append]
 rfl
theorem qor{c:Cfg}{P:List (List Ins)}{t:Nat}{s0:GS}:∀(n:Nat) (s:GS) (l:List ChM),qnR c P s0 l=s→qnR c P s0 (q1t c P t n s l).2=(q1t c P t n s l).1
 |0,_,_,h=>h
 |n+1,s,l,h=>by
  unfold q1t
  split
  ·exact qor n _ _ (by rw[qn2,h])
  ·exact h
theorem qpJ{c:Cfg}{P:List (List Ins)}{t:Nat}:∀(n:Nat) (s:GS) (l:List ChM),(∀x∈l,x.ad= [])→∀x∈(q1t c P t n s l).2,x.ad= []
 |0,_,_,h=>h
 |n+1,s,l,h=>by
  unfold q1t
  split
  ·refine qpJ n _ _ fun x hx=> ?_
   rcases List.mem_append.1 hx with hx|hx
   ·exact h x hx
   ·rw[List.mem_singleton.1 hx]
  ·exact h
abbrev SeB(sb:Nat)(m:MS)(foa:Option Addr)(fol foc:Nat)(lim:Int)(x:SS)(fa:Option Addr)(fc:Nat):Nat×(Obj→Prop):=
 (sb,fun o=>o=Obj.cells (cfL m.c [.slice m.ia m.il.length m.ic, .slice m.pa m.ps.length m.pc, .slice m.ka 0 m.kc, .slice foa fol foc, .int .i64 lim, .int .i64 x.runs, .bool x.racy, .bool x.many, .slice fa x.found.length fc]).toArray 90 (0,0))
section
variable{W0:World}{m:MS}{sb:Nat}{foa fa:Option Addr}{fol foc fc:Nat}{lim:Int}{x:SS}{la:Option Addr}{l:List ChM}{lc:Nat}{K:Own}
theorem qo2{i:Ins}(hx:qv i=0)(own:Own):qD Tryz.prog W0 70 [i.v] own (.bool (isL i)):=by
 refine qe (qa qj qnt (by simp[qml]) ?_)
 have hp:=fun own=>qec W0 own i
 have hop:=(q2l hx).1
 obtain⟨o1,o2,o3,o4,o5⟩:=i
 dsimp only at hop
 by_cases h6:o1≤6
 ·have hz:q2Y ⟨o1,o2,o3,o4,o5⟩=0:=by unfold q2Y;rw[if_pos hx];dsimp only;rw[if_neg (by omega),if_neg (by omega)]
  have hl:isL ⟨o1,o2,o3,o4,o5⟩=true:=decide_eq_true (.inl ⟨hop.1,h6⟩)
  rw[hl]
  rw[hz] at hp
  repeat'((try(conv=>whnf));first|(refine fI ?_)|(refine qc (fun b1 h1=> ?_))|((refine zB ?_);first|((refine qh (hp _) ?_ ?_ ?_;(exact rfl);exact rfl)))|(refine fL ?_))
  all_goals exact⟨rfl,(eC)⟩
 ·by_cases h17:o1=17
  ·subst h17
   have hz:q2Y ⟨17,o2,o3,o4,o5⟩=2:=by unfold q2Y;rw[if_pos hx];dsimp only;rw[if_neg (by omega),if_pos (by omega)]
   have hl:isL ⟨17,o2,o3,o4,o5⟩=true:=decide_eq_true (.inr rfl)
   rw[hl]
   rw[hz] at hp
   repeat'((try(conv=>whnf));first|(refine fH ?_)|(refine qc (fun b1 h1=> ?_))|((refine zB ?_);first|((refine qh (hp _) ?_ ?_ ?_;(exact rfl);exact rfl)))|(refine fA ?_)|(refine fL ?_))
   all_goals exact⟨rfl,(eC)⟩
  ·have hz:¬q2Y ⟨o1,o2,o3,o4,o5⟩=0:=by
    unfold q2Y
    rw[if_pos hx]
    dsimp only
    by_cases h:o1=8∨o1=9∨o1=10∨o1=11∨o1=14∨o1=15
    ·rw[if_pos h];decide
    ·rw[if_neg h,if_pos (by omega)];decide
   have hl:isL ⟨o1,o2,o3,o4,o5⟩=false:=decide_eq_false (by dsimp only;omega)
   rw[hl]
   generalize q2Y ⟨o1,o2,o3,o4,o5⟩=z at*
   repeat'((try(conv=>whnf));first|(refine fH ?_)|(refine fK ?_)|(refine qc (fun b1 h1=> ?_))|((refine zB ?_);first|((refine qh (hp _) ?_ ?_ ?_;(exact rfl);exact rfl)))|(refine fA ?_)|(refine fL ?_))
   all_goals exact⟨by show(Value.bool (decide (o1=17)))= .bool false;rw[decide_eq_false h17],(eC)⟩
theorem qp8(h:m.cl)(hL:RdE q8x 3 W0 K la l)(hA:∀x∈l,x.ad= [])(hll:l.length≤5000)(q:Own) [qt q m.O] [qt q K]:
  q0E Tryz.prog W0 69 [.pointer (some ⟨sb,0,none⟩), .slice la l.length lc] (SeB sb m foa fol foc lim x fa fc::q) fun v own'=>∃y:DP×List PH×Own,
   (v= .pointer (some ⟨y.1.rb,0,none⟩)∧y.1.ok W0 y.2.2 y.2.1 (qnR m.c m.P (q7G m.c m.il m.P) l)∧y.2.1.map PH.p=m.P)∧Ent W0 own' (y.1.O m.c y.2.1.length (qnR m.c m.P (q7G m.c m.il m.P) l)++(y.2.2++(SeB sb m foa fol foc lim x fa fc::q))):=by
 refine qa qj qmC (by simp[qlO]) ?_
 have hrn:=fun(own':Own) [qt own' m.O]=>qpG (W0:=W0) (own:=own') h
 repeat'((try(conv=>whnf));first|((refine zB ?_);first|((refine qm (hrn _) Ent.refl ?_ ?_ (fun y v hv=> ?_);(exact rfl);(exact rfl);(apply Stop.h))))|(refine fQ ?_))
 obtain⟨r,zs,rD⟩:=y
 obtain⟨rfl,hrok,hrp⟩:=hv
 dsimp only at hrok hrp ⊢
 have hG0:=h.g0
 have hP16:=h.pl16
 have hn0:(q7G m.c m.il m.P).n=0:=rfl
 generalize q7G m.c m.il m.P=s0 at*
 generalize m.P=P at*
 generalize rD++q9L zs=Kr at*
 generalize zs.map PB.h=pr at*
 refine Stop.mk ?_
 refine q0Z (σ:=Nat×DP) (fun y=> [(6, .int .i64 y.1)]) (fun y=>y.2.O m.c pr.length (qnR m.c P s0 (l.take y.1))++(Kr++(SeB sb m foa fol foc lim x fa fc::q)))
  (fun y=>y.1≤l.length∧y.2.ok W0 Kr pr (qnR m.c P s0 (l.take y.1))∧y.2.rb=r.rb∧GOk m.c P (qnR m.c P s0 (l.take y.1))∧(qnR m.c P s0 (l.take y.1)).n≤y.1) (fun y=>l.length-y.1) (0,r) ⟨Nat.zero_le _,hrok,rfl,hG0,Nat.le_of_eq hn0⟩ (eF) Ent.refl rfl ?_
 rintro⟨i,r1⟩ junk ⟨hi,hok,hrb,hG,hn⟩
 dsimp only at hi hok hrb hG hn ⊢
 by_cases hil:i<l.length
 ·obtain⟨z,hz⟩:∃z,l[i]? =some z:=⟨_,List.getElem?_eq_getElem hil⟩
  have hza:=hA z (List.mem_of_getElem? hz)
  have hil':(i:Int)<l.length:=by omega
  have htk:qnR m.c P s0 (l.take (i+1))=(doM m.c P (qnR m.c P s0 (l.take i)) z).2:=by rw[List.take_add_one,hz];exact qn2
  have hdo:=fun(Q:Own) [qt Q Kr]=>qp7 (c:=m.c) (aa:=none) (ad:= []) (ac:=0) hrb hok hG hrp (by omega) z.t z.f (K:= []) RdE.nil (Nat.zero_le _) (fun _ h=>by cases h) Q
  have hG2:=qeY hG (ch:=z) (by rw[hza];exact fun _ h=>by cases h)
  have hn2:=qr3 (c:=m.c) (P:=P) (s:=qnR m.c P s0 (l.take i)) (ch:=z)
  obtain⟨zt,zf,zad⟩:=z
  dsimp only at hza hdo
  subst hza
  rw[←htk] at hG2 hn2
  simp only[←htk] at hdo
  repeat'((try(conv=>whnf));first|(refine fF ?_)|((refine zC ?_);first|((refine ixE hL hz ?_ ?_;(first|rfl|omega))))|((with_reducible show LdN _ _ _ _ _);first|(refine q2e hL hz rfl ?_))|((refine zB ?_);first|((refine qm (hdo _) Ent.refl ?_ ?_ (fun r2 v hv=> ?_);(exact rfl);(exact rfl);(obtain⟨-,hok2,hrb2⟩:=hv))))|(refine fB ?_))
  all_goals exact⟨(i+1,r2),⟨hil,hok2,hrb2,hG2,(by show(qnR m.c P s0 (l.take (i+1))).n≤i+1;omega)⟩,(by show l.length-(i+1)<l.length-i;omega),(eF),Ent.refl⟩
 ·have hiN:i=l.length:=by omega
  subst hiN
  have hil':¬((l.length:Nat):Int)<l.length:=by omega
  rw[List.take_length] at hok
  rw[List.take_length]
  repeat'((try(conv=>whnf));first|(refine fG ?_))
  all_goals exact⟨(r1,pr,Kr),⟨by rw[hrb];rfl,hok,hrp⟩,Ent.refl⟩
end
open Go
theorem qoc{T:TypeId}{b:Nat}:qr q8x T 3 (some ⟨b,0,none⟩) 0 [] [(b,fun o=>o=Obj.cells #[] T (0,0))]:=⟨fun _ h=>(by cases h), .inr ⟨b,[],rfl,rfl,rfl,Nat.le_refl _⟩⟩
theorem qq6{l:List ChM}:∀x∈l,(q8x x).all q4A=true:=fun _ _=>rfl
theorem qpQ{c:Cfg}{P:List (List Ins)}{t:Nat}{s:GS}{l:List ChM}(h:q7u P s t=false):∀f,q1t c P t f s l=(s,l)
 |0=>rfl
 |f+1=>by unfold q1t;rw[h];rfl
theorem qqk{c:Cfg}{P:List (List Ins)}{t f:Nat}{s:GS}{l:List ChM}(h:q7u P s t=true):q1t c P t (f+1) s l=q1t c P t f (doM c P s (ch0 t)).2 (l++ [ch0 t]):=by
 conv=>lhs;unfold q1t
 rw[h]
 rfl
theorem qqj{α:Type}{enc:α→List Value}{sz n:Nat}{W0:World}{own:Own}{a:Option Addr}{l:List α}{i:Int}{K:Addr→Prop}{j:Nat}{x:α}(h:RdE enc sz W0 own a l)(hx:l[j]? =some x)(hn:n=l.length)(hi:i=j)(hk:K ⟨ab a,ao a+j*sz,none⟩):IxS a sz i n K:=by
 subst hn
 exact ixE h hx hi hk
theorem qp1{m:MS}{t:Nat}{p:List Ins}(h:m.P[t]? =some p):∃a c,(m.ps.map PB.h)[t]? =some ⟨a,c,p⟩:=by
 rw[MS.P,List.getElem?_map] at h
 cases hx:(m.ps.map PB.h)[t]? with
 |none=>rw[hx] at h;cases h
 |some y=>
  rw[hx] at h
  obtain rfl:=Option.some.inj h
  exact⟨y.a,y.cap,rfl⟩
section
variable{W0:World}{se b:Nat×(Obj→Prop)}{C D E G H K L Q Y:Own}
theorem qqu:Ent W0 (se::(Y++(H++(L++(D++(G++(K++(E++Q)))))))) (G++(K++(se::((Y++D)++Q)))):=qo (H++(L++E))
theorem qnS:Ent W0 (G++(K++(se::(E++Q)))) (se::(E++Q)):=qo (G++K)
theorem qqv:Ent W0 (H++(L++(se::(D++(G++(K++(E++Q))))))) (se::(H++(L++(D++(G++(K++(E++Q))))))):=qo []
theorem qpK:Ent W0 (b::(D++(H++(L++(se::(E++(C++(Y++(G++(K++Q)))))))))) (se::(D++(H++(L++(C++(Y++(G++(K++Q)))))))):=qo (b::E)
theorem qpL:Ent W0 (D++(b::(H++(L++(se::(E++(C++(Y++(G++(K++Q)))))))))) (se::(D++(H++(L++(C++(Y++(G++(K++Q)))))))):=qo (b::E)
theorem qpM:Ent W0 (se::(Y++(D++(H++(L++Q))))) (H++(L++(se::((Y++D)++Q)))):=qo []
theorem qnF:Ent W0 (H++(L++(se::(E++(C++(Y++(G++(K++Q)))))))) (G++(K++(se::(E++Q)))):=qo (H++(L++(C++Y)))
theorem qpZ:Ent W0 (C++(H++(L++(se::(D++(G++(K++(E++Q)))))))) (H++(L++(se::([]++(C++(D++(G++(K++Q)))))))):=qo E
theorem qq0:Ent W0 (b::(H++(L++(se::(D++(G++(K++(E++Q)))))))) (H++(L++(se::([]++([b]++(D++(G++(K++Q)))))))):=qo E
theorem qq1:Ent W0 (G++(K++(se::(E++Q)))) (se::([]++Q)):=qo (G++(K++E))
theorem qqt:Ent W0 (D++(G++(K++(se::(E++Q))))) (se::(D++(G++(K++(E++Q))))):=qo []
end
section
variable{W0:World}{m:MS}{sb:Nat}{foa:Option Addr}{foc:Nat}{fo:List Int}{lim:Int}{Kf:Own}
theorem qpD{Kp own:Own}{ps:List PH}{s:GS}{r:DP}(hr:r.ok W0 Kp ps s)(hz:SzG s)(N:Nat) [qt own r.eD] [qt own r.X]:qD Tryz.prog W0 20 [.slice r.ea r.L.length r.ec, .int .i64 N] own (.agg (Ord.encRc (Ord.frR (s.E.map evH) N)).toArray):=by
 have:=Ord.sp_rfirst (own:=own) (cap:=r.ec) (hr.e.rd (W0:=W0)).up (fun y hy=>⟨(hr.ev y hy).1.up,(hr.ev y hy).2.up,by have:=(hz.ev y.m (by rw[←hr.em];exact List.mem_map_of_mem hy)).1;exact Nat.le_trans this (by decide),by have:=(hz.ev y.m (by rw[←hr.em];exact List.mem_map_of_mem hy)).2;exact Nat.le_trans this (by decide)⟩) N
 rw[(qly hr.em).1] at this
 exact this
theorem qpX{s:GS}(h:∀u,u<s.T.length→dnB s u=true):q6E s=true:=by
 unfold q6E
 rw[List.all_eq_true]
 intro x hx
 obtain⟨u,hu,rfl⟩:=List.getElem_of_mem hx
 have key:=h u hu
 unfold dnB at key
 rw[List.getElem?_eq_getElem hu] at key
 exact key
abbrev FrR(W0:World)(sb:Nat)(m:MS)(foa:Option Addr)(fol foc:Nat)(lim:Int)(K q:Own)(R:SS)(own':Own):Prop:=
 ∃y:Option Addr×Nat×Own,RdE q8x 3 W0 (y.2.2++K) y.1 R.found∧Ent W0 own' (SeB sb m foa fol foc lim R y.1 y.2.1::(y.2.2++q))
theorem qp5(h:m.cl)(hfo:∀k∈fo,3≤k∧k≤6)(hfl:fo.length≤4)(hlim:lim≤100000)(hFo:RdE qM 1 W0 Kf foa fo):
  ∀(n:Nat) (s:GS) (l:List ChM) (x:SS) (la fa:Option Addr) (lc fc:Nat) (K q:Own) (_:qnR m.c m.P (q7G m.c m.il m.P) l=s) (_:∀z∈l,z.ad= []) (_:GOk m.c m.P s) (_:q1n m.P s<n) (_:s.n+q1n m.P s≤1024) (_:l.length≤s.n) (_:RdE q8x 3 W0 K la l) (_:x.stop=false) (_:x.found= []) (_:(x.runs:Int)≤lim) (_:qt q m.O) (_:qt q K) (_:qt q Kf),
   q0E Tryz.prog W0 37 [.pointer (some ⟨sb,0,none⟩), .slice la l.length lc] (SeB sb m foa fo.length foc lim x fa fc::q) fun _ own'=>FrR W0 sb m foa fo.length foc lim K q (q7L (rcC m.P.length) m.c m.P fo lim n s l x) own'
 |0,_,_,_,_,_,_,_,_,_,_,_,_,hm,_,_,_,_,_,_,_,_,_=>absurd hm (by omega)
 |n+1,s,l,x,la,fa,lc,fc,K,q,hs,had,hG,hm,hsn,hl,hL,hx,hfd,hru,i1,i2,i3=>by
  have ih:=qp5 h hfo hfl hlim hFo n
  refine qa qj qmN (by simp[qlT]) ?_
  have hna:=h.noal
  have hP16:=h.pl16
  have hTl:s.T.length=m.P.length:=hG.tl
  have hz:=hG.sz (by omega) hP16
  have hrp:=fun(Q:Own) (x:SS) (fa:Option Addr) (fc:Nat) [qt Q m.O] [qt Q K]=>qp8 (sb:=sb) (foa:=foa) (fol:=fo.length) (foc:=foc) (lim:=lim) (x:=x) (fa:=fa) (fc:=fc) (lc:=lc) h hL had (by omega) Q
  rw[hs] at hrp
  have hve:=qgL (rcC m.P.length) m.c m.P fo lim n s l x
  rw[hTl] at hve
  generalize q7L (rcC m.P.length) m.c m.P fo lim (n+1) s l x=R at*
  repeat'((try(conv=>whnf));first|((refine zB ?_);first|((refine qm (hrp _ x fa fc) Ent.refl ?_ ?_ (fun y v hv=> ?_);(exact rfl);(exact rfl);(apply Stop.h)))))
  obtain⟨r,pr,Kr⟩:=y
  obtain⟨rfl,hrok,hrp2⟩:=hv
  dsimp only at hrok hrp2 ⊢
  refine Stop.mk ?_
  refine q0Z (σ:=Nat×Bool×SS×(Option Addr×Nat×Own)) (fun y=> [(6, .int .i64 y.1),(5, .bool y.2.1)]) (fun y=>r.O m.c pr.length s++(Kr++(SeB sb m foa fo.length foc lim y.2.2.1 y.2.2.2.1 y.2.2.2.2.1::(y.2.2.2.2.2++q))))
   (fun y=>y.1≤m.P.length∧(y.2.2.1.stop=false→y.2.2.1.found= []∧(y.2.2.1.runs:Int)≤lim)∧(y.2.1=true→y.2.2.1=x∧∀u,u<y.1→dnB s u=true)∧(y.2.1=false→q6E s=false)∧RdE q8x 3 W0 (y.2.2.2.2.2++K) y.2.2.2.1 y.2.2.1.found∧(List.range m.P.length).foldl (q7J (rcC m.P.length) m.c m.P fo lim n s l) x=((List.range m.P.length).drop y.1).foldl (q7J (rcC m.P.length) m.c m.P fo lim n s l) y.2.2.1)
   (fun y=>m.P.length-y.1) (0,true,x,fa,fc,[]) ⟨Nat.zero_le _,fun _=>⟨hfd,hru⟩,fun _=>⟨rfl,fun u hu=>absurd hu (by omega)⟩,fun h=>(by cases h),by rw[hfd];exact RdE.nil,rfl⟩ (eF) Ent.refl rfl ?_
  rintro⟨t,dn,x1,fa1,fc1,E⟩ junk ⟨ht,hx1,hdt,hdf,hfR,hfold⟩
  dsimp only at ht hx1 hdt hdf hfR hfold ⊢
  have hTr:=hrok.t.rd (W0:=W0)
  by_cases hgo:t<m.P.length∧x1.stop=false
  ·obtain⟨htN,hx1s⟩:=hgo
   obtain⟨hfd1,hru1⟩:=hx1 hx1s
   obtain⟨hx1r,hx1m⟩:=q5T hx1s
   rw[qcb htN,List.foldl_cons] at hfold
   obtain⟨tx,htx⟩:∃tx,s.T[t]? =some tx:=⟨_,List.getElem?_eq_getElem (by omega)⟩
   have hdx:dnB s t=tx.dn:=by unfold dnB;rw[htx]
   obtain⟨xr,xc,xm,xf⟩:=x1
   dsimp only at hfd1 hru1 hx1r hx1m
   subst hfd1;subst hx1r;subst hx1m
   have htN':(t:Int)<s.T.length:=by omega
   cases hd:dnB s t with
   |true=>
    have hst:q7J (rcC m.P.length) m.c m.P fo lim n s l ⟨xr,false,false,[]⟩ t=⟨xr,false,false,[]⟩:=by unfold q7J;rw[if_neg (by rw[hx1s];simp),if_pos hd]
    rw[hst] at hfold
    obtain⟨p1,p2,p3,p4⟩:=tx
    dsimp only at hdx
    rw[hd] at hdx
    subst hdx
    repeat'((try(conv=>whnf));first|(refine q1P ?_ ?_;exact rfl)|(refine q5s ?_ ?_;exact rfl)|(apply q9g;(exact rfl);omega)|((refine zA ?_);first|(refine qgp hTr htx rfl ?_))|((refine zC ?_);first|((refine ixE hTr htx ?_ ?_;(first|rfl|omega))))|(refine ari ?_ ?_;omega)|(refine fA ?_))
    all_goals exact⟨(t+1,dn,⟨xr,false,false,[]⟩,fa1,fc1,E),⟨htN,fun _=>⟨rfl,hru1⟩,fun h2=>⟨(hdt h2).1,fun u hu=>by by_cases hut:u<t;exact(hdt h2).2 u hut;rw[show u=t by omega];exact hd⟩,hdf,hfR,hfold⟩,(by show m.P.length-(t+1)<m.P.length-t;omega),(eF),Ent.refl⟩
   |false=>
    have hnd:q6E s=false:=qfo (by omega) hd
    rw[if_neg (by rw[hnd];simp)] at hve
    clear hdt hdf
    obtain⟨a1,a2,a3,a4,a5⟩:=qg3 (c:=m.c) (t:=t) hna 64 s l hG
    have a5:=a5 (qgE hG)
    have aln:=qiM (c:=m.c) hna t 64 s l hG hl
    have arun:=qor (c:=m.c) (P:=m.P) (t:=t) 64 s l hs
    have aad:=qpJ (c:=m.c) (P:=m.P) (t:=t) 64 s l had
    have hstep:q7J (rcC m.P.length) m.c m.P fo lim n s l ⟨xr,false,false,[]⟩ t=if dnB (q1t m.c m.P t 64 s l).1 t then q7L (rcC m.P.length) m.c m.P fo lim n (q1t m.c m.P t 64 s l).1 (q1t m.c m.P t 64 s l).2 ⟨xr,false,false,[]⟩ else(q52 fo (nxM m.P (q1t m.c m.P t 64 s l).1 t)).foldl (q5S (rcC m.P.length) m.c m.P fo lim n (q1t m.c m.P t 64 s l).1 (q1t m.c m.P t 64 s l).2 t) ⟨xr,false,false,[]⟩:=by
     conv=>lhs;unfold q7J
     rw[if_neg (by rw[hx1s];simp),if_neg (by rw[hd];simp)]
    rw[hstep] at hfold
    have hne:dnB (q1t m.c m.P t 64 s l).1 t=true→q1n m.P (q1t m.c m.P t 64 s l).1<n:=fun hdd=>by
     rcases a4 with a4|a4
     ·rw[a4] at hdd;rw[hd] at hdd;cases hdd
     ·omega
    have hmn:q1n m.P (q1t m.c m.P t 64 s l).1≤q1n m.P s:=by
     rcases a4 with a4|a4
     ·rw[a4];exact Nat.le_refl _
     ·omega
    clear hstep a3 a4
    have hadv:∃f:Nat,q6q m.P s t≤f∧q1t m.c m.P t f s l=q1t m.c m.P t 64 s l:=⟨64,qgE hG,rfl⟩
    generalize hav:q1t m.c m.P t 64 s l=av at*
    obtain⟨s2,l2⟩:=av
    dsimp only at a1 a2 a5 aln arun aad hfold hne hmn
    obtain⟨p1,p2,p3,p4⟩:=tx
    dsimp only at hdx
    rw[hd] at hdx
    subst hdx
    repeat'((try(conv=>whnf));first|(refine q1P ?_ ?_;exact rfl)|(refine q5s ?_ ?_;exact rfl)|(refine fD ?_)|(apply q9g;(exact rfl);omega)|(refine qc (fun b45 hb45=> ?_);(apply Stop.h))|((refine zA ?_);first|(refine qgp hTr htx rfl ?_))|((refine zC ?_);first|((refine ixE hTr htx ?_ ?_;(first|rfl|omega))))|(refine fA ?_))
    refine Stop.mk ?_
    dsimp only[List.toArray]
    repeat'((try(conv=>whnf));first|(refine qkz qoc hL ?_ ?_ ?_ ?_ qq6 ?_ (fun na nc D1 hB1=> ?_);(exact rfl);(exact rfl);(exact rfl);(omega);(simp only[List.length_nil];omega);(apply Stop.h)))
    rw[List.nil_append] at hB1
    simp only[List.nil_append]
    refine Stop.mk ?_
    repeat'((try(conv=>whnf));first|((refine zB ?_);first|((refine qm (hrp _ ⟨xr,false,false,[]⟩ fa1 fc1) qqt ?_ ?_ (fun y v hv=> ?_);(exact rfl);(exact rfl);(apply Stop.h)))))
    obtain⟨r2,pr2,Kr2⟩:=y
    obtain⟨rfl,hrok2,hrp3⟩:=hv
    dsimp only at hrok2 hrp3 ⊢
    have hs1G:=hG
    have hR0:(s.n+q1n m.P s≤s.n+q1n m.P s):=Nat.le_refl _
    have hprR:=h.rp (W0:=W0)
    have hprl:(m.ps.map PB.h).length=m.ps.length:=List.length_map ..
    refine Stop.mk ?_
    refine q0Z (σ:=GS×List ChM×DP×(Option Addr×Nat×Own)) (fun y=> [(7, .slice y.2.2.2.1 y.2.1.length y.2.2.2.2.1)]) (fun y=>y.2.2.1.O m.c pr2.length y.1++(Kr2++(SeB sb m foa fo.length foc lim ⟨xr,false,false,[]⟩ fa1 fc1::(y.2.2.2.2.2++(r.O m.c pr.length s++(Kr++(E++q)))))))
     (fun y=>y.2.2.1.ok W0 Kr2 pr2 y.1∧y.2.2.1.rb=r2.rb∧GOk m.c m.P y.1∧y.1.n+q1n m.P y.1≤s.n+q1n m.P s∧(∃f:Nat,q6q m.P y.1 t≤f∧q1t m.c m.P t f y.1 y.2.1=(s2,l2))∧qr q8x 79 3 y.2.2.2.1 y.2.2.2.2.1 y.2.1 y.2.2.2.2.2∧y.2.1.length≤y.1.n) (fun y=>q1n m.P y.1)
     (s,l,r2,(na,nc,D1)) ⟨hrok2,rfl,hG,Nat.le_refl _,hadv,hB1,hl⟩ (eF) ?_ rfl ?_
    ·exact Ent.refl
    clear hadv
    rintro⟨s1,l1,h1,na1,nc1,D2⟩ junk2 ⟨hok1,hrb1,hG1,hn1,⟨f,hf,hadv⟩,hB2,hl1⟩
    dsimp only at hok1 hrb1 hG1 hn1 hf hadv hB2 hl1 ⊢
    rw[←hrb1]
    have hTl1:s1.T.length=m.P.length:=hG1.tl
    have hTr1:=hok1.t.rd (W0:=W0)
    obtain⟨tx,htx1⟩:∃tx,s1.T[t]? =some tx:=⟨_,List.getElem?_eq_getElem (by omega)⟩
    have hdx1:dnB s1 t=tx.dn:=by unfold dnB;rw[htx1]
    have htN1:(t:Int)<s1.T.length:=by omega
    cases hlb:q7u m.P s1 t with
    |true=>
     obtain⟨i,hi,hil⟩:=q86 hlb
     obtain⟨th,p,hth,hp,hdn,hpi⟩:=qat hi
     obtain rfl:tx=th:=Option.some.inj (htx1.symm.trans hth)
     have hck:=(q9v (hG1.pv p (List.mem_of_getElem? hp)) hpi).1
     obtain⟨pha,phc,hph⟩:=qp1 hp
     have hphR:RdE Ins.enc 5 W0 m.O pha p:=h.rq _ (List.mem_of_getElem? hph)
     have hloc:=fun own=>qo2 (W0:=W0) hck own
     rw[hil] at hloc
     obtain⟨-,g1,g2,g3,g4,g5⟩:(doM m.c m.P s1 ⟨t,0,[]⟩).1=0∧_:=q3Z hG1 hna hi (.inl rfl)
     obtain⟨f',rfl⟩:∃f',f=f'+1:=⟨f-1,by omega⟩
     rw[qqk hlb] at hadv
     have hdo:=fun(Q:Own) [qt Q Kr2]=>qp7 (c:=m.c) (aa:=none) (ad:= []) (ac:=0) rfl hok1 hG1 hrp3 (by omega) t 0 (K:= []) RdE.nil (Nat.zero_le _) (fun _ h=>by cases h) Q
     have hlen:(l1++ [ch0 t]).length=l1.length+1:=by simp
     generalize doM m.c m.P s1 ⟨t,0,[]⟩=z at*
     obtain⟨zc,s3⟩:=z
     dsimp only at g1 g2 g3 g4 g5 hdo hadv
     obtain⟨q1,q2,q3,q4⟩:=tx
     dsimp only at hdn hpi
     subst hdn
     repeat'((try(conv=>whnf));first|(refine q1P ?_ ?_;exact rfl)|(refine q5s ?_ ?_;exact rfl)|(refine qqj hprR hph hprl.symm ?_ ?_;omega)|(apply q69 (enc:=q8x) (T:=79) (ch0 t) hB2;(exact rfl);(exact rfl);(omega);(exact rfl);(exact rfl);(omega);intro a2 c2 D3 hb3)|((refine zA ?_);first|(refine q1M hTr1 htx1 rfl ?_)|(refine qgp hTr1 htx1 rfl ?_)|(refine q1M hprR hph rfl ?_))|((refine zC ?_);first|((refine ixE hTr1 htx1 ?_ ?_;(first|rfl|omega)))|((refine ixE hphR hpi ?_ ?_;(first|rfl|omega))))|((with_reducible show LdN _ _ _ _ _);first|(refine q2e hphR hpi rfl ?_))|((refine zB ?_);first|((refine qm (hdo _) Ent.refl ?_ ?_ (fun h2 v hv=> ?_);(exact rfl);(exact rfl);(obtain⟨-,hok3,hrb3⟩:=hv))))|((with_reducible show q0b _ _ _ _ _ _);first|((refine q6y hloc ?_)))|(refine fA ?_)|(refine qc (fun bk hbk=> ?_)))
     all_goals
      refine⟨(s3,l1++ [ch0 t],h2,(a2,c2,D3)),⟨hok3,hrb3,g1,(by show s3.n+q1n m.P s3≤s.n+q1n m.P s;omega),⟨f',(by show q6q m.P s3 t≤f';omega),hadv⟩,hb3,(by show(l1++ [ch0 t]).length≤s3.n;omega)⟩,g5,?_,Ent.drop⟩
      dsimp only
      rw[hlen]
      exact(eF)
    |false=>
     rw[qpQ hlb f] at hadv
     obtain⟨e1,e2⟩:s1=s2∧l1=l2:=by simpa using hadv
     subst e1;subst e2
     clear hadv hf
     cases hd2:dnB s1 t with
     |true=>
      rw[if_pos hd2] at hfold
      have hvi:=fun(Q:Own) (j1:qt Q m.O) (j2:qt Q D2) (j3:qt Q Kf)=>ih s1 l1 ⟨xr,false,false,[]⟩ na1 fa1 nc1 fc1 D2 Q arun aad a1 (hne hd2) (by omega) aln hB2.rd rfl rfl hru1 j1 j2 j3
      have hr3:=q9c (rc:=rcC m.P.length) (c:=m.c) (P:=m.P) (fo:=fo) (n:=n) (s:=s1) (l:=l1) (x:=⟨xr,false,false,[]⟩) rfl hru1
      have hf3:=q7h (rc:=rcC m.P.length) (c:=m.c) (P:=m.P) (fo:=fo) (lim:=lim) (n:=n) (s:=s1) (l:=l1) (x:=⟨xr,false,false,[]⟩) rfl rfl
      generalize q7L (rcC m.P.length) m.c m.P fo lim n s1 l1 ⟨xr,false,false,[]⟩=R3 at*
      obtain⟨q1,q2,q3,q4⟩:=tx
      dsimp only at hdx1
      rw[hd2] at hdx1
      subst hdx1
      repeat'((try(conv=>whnf));first|(refine fI ?_)|(refine q5s ?_ ?_;exact rfl)|(refine fD ?_)|((refine zA ?_);first|(refine qgp hTr1 htx1 rfl ?_))|((refine zC ?_);first|((refine ixE hTr1 htx1 ?_ ?_;(first|rfl|omega))))|((refine zB ?_);first|((refine qm (hvi _ inferInstance inferInstance inferInstance) qqv ?_ ?_ (fun y v hv=> ?_);(exact rfl);(exact rfl))))|(refine ari ?_ ?_;omega)|(refine fA ?_))
      all_goals exact⟨(t+1,false,R3,y.1,y.2.1,y.2.2++D2),⟨htN,fun hs3=>⟨hf3 (q5T hs3).1,hr3⟩,fun h=>(by cases h),fun _=>hnd,hv.ent Ent.left,hfold⟩,(by show m.P.length-(t+1)<m.P.length-t;omega),(eF),qqu⟩
     |false=>
      obtain⟨i2,hi2⟩:=qh2 a1 hd2
      rw[if_neg (by rw[hd2];simp),hi2] at hfold
      obtain⟨th,p,hth,hp,hdn,hpi⟩:=qat hi2
      obtain rfl:tx=th:=Option.some.inj (htx1.symm.trans hth)
      have hck:=(q9v (hG1.pv p (List.mem_of_getElem? hp)) hpi).1
      obtain⟨pha,phc,hph⟩:=qp1 hp
      have hphR:RdE Ins.enc 5 W0 m.O pha p:=h.rq _ (List.mem_of_getElem? hph)
      have hloc:=fun own=>qo2 (W0:=W0) hck own
      have hil:isL i2=false:=by unfold q7u at hlb;rw[hi2] at hlb;exact hlb
      rw[hil] at hloc
      obtain⟨q1,q2,q3,q4⟩:=tx
      dsimp only at hdn hpi
      subst hdn
      by_cases h7:i2.op=7
      ·have hcs0: [(0:Int)]++fo=q52 fo (some i2):=by show [(0:Int)]++fo=if i2.op=7 then 0::fo else [0];rw[if_pos h7];rfl
       rw[←hcs0] at hfold
       repeat'((try(conv=>whnf));first|(refine q1P ?_ ?_;exact rfl)|(refine fD ?_)|(apply qaR;(exact rfl);omega)|(refine qqj hprR hph hprl.symm ?_ ?_;omega)|(refine qc (fun b101 hb101=> ?_);(dsimp only[List.set]))|(refine qkz (qdu (w:=0)) hFo ?_ ?_ ?_ ?_ qlC ?_ (fun ca cc Dc hBc=> ?_);(exact rfl);(exact rfl);(exact rfl);(omega);(simp only[List.length_cons,List.length_nil];omega))|((refine zA ?_);first|(refine q1M hTr1 htx1 rfl ?_)|(refine qgp hTr1 htx1 rfl ?_)|(refine q1M hprR hph rfl ?_)|(refine q1M hphR hpi rfl ?_))|((refine zC ?_);first|((refine ixE hTr1 htx1 ?_ ?_;(first|rfl|omega)))|((refine ixE hphR hpi ?_ ?_;(first|rfl|omega))))|((with_reducible show LdN _ _ _ _ _);first|(refine q2e hphR hpi rfl ?_))|((with_reducible show q0b _ _ _ _ _ _);first|((refine q6y hloc ?_)))|(refine fA ?_))
       have hcsR:=hBc.rd (W0:=W0)
       have hcl5:([(0:Int)]++fo).length≤5:=by simp;omega
       generalize [(0:Int)]++fo=cs at*
       refine q0Z (σ:=Nat×SS×(Option Addr×Nat×Own)) (fun y=> [(10, .int .i64 y.1)]) (fun y=>h1.O m.c pr2.length s1++(Kr2++(SeB sb m foa fo.length foc lim y.2.1 y.2.2.1 y.2.2.2.1::(y.2.2.2.2++(Dc++(D2++(r.O m.c pr.length s++(Kr++q))))))))
        (fun y=>y.1≤cs.length∧(y.2.1.stop=false→y.2.1.found= []∧(y.2.1.runs:Int)≤lim)∧RdE q8x 3 W0 y.2.2.2.2 y.2.2.1 y.2.1.found∧cs.foldl (q5S (rcC m.P.length) m.c m.P fo lim n s1 l1 t) ⟨xr,false,false,[]⟩=(cs.drop y.1).foldl (q5S (rcC m.P.length) m.c m.P fo lim n s1 l1 t) y.2.1)
        (fun y=>cs.length-y.1) (0,⟨xr,false,false,[]⟩,fa1,fc1,[]) ⟨Nat.zero_le _,fun _=>⟨rfl,hru1⟩,RdE.nil,rfl⟩ (eF) ?_ rfl ?_
       ·exact qpZ
       rintro⟨k,x2,fa2,fc2,E2⟩ junk3 ⟨hk,hx2,hfy,hfold2⟩
       dsimp only at hk hx2 hfy hfold2 ⊢
       obtain⟨yr,yc,ym,yf⟩:=x2
       dsimp only at hfy ⊢
       by_cases hgo:k<cs.length∧yc=false∧ym=false
       ·as_aux_lemma=>
         obtain⟨hkl,rfl,rfl⟩:=hgo
         obtain⟨hyf,hyr⟩:=hx2 rfl
         dsimp only at hyf hyr
         subst hyf
         obtain⟨kc,hkc⟩:∃kc,cs[k]? =some kc:=⟨_,List.getElem?_eq_getElem hkl⟩
         have hkl':(k:Int)<cs.length:=by omega
         rw[q4I hkc,List.foldl_cons,show q5S (rcC m.P.length) m.c m.P fo lim n s1 l1 t ⟨yr,false,false,[]⟩ kc=q7L (rcC m.P.length) m.c m.P fo lim n (doM m.c m.P s1 ⟨t,kc,[]⟩).2 (l1++ [⟨t,kc,[]⟩]) ⟨yr,false,false,[]⟩ from rfl] at hfold2
         have hck2:kc=0∨(i2.op=7∧3≤kc∧kc≤6):=by
          rcases qag hfo (hcs0 ▸ List.mem_of_getElem? hkc) with hh|⟨j,hj,h7',hh⟩
          ·exact .inl hh
          ·obtain rfl:=Option.some.inj hj
           exact .inr ⟨h7',hh⟩
         obtain⟨-,m1,m2,m3,m4,m5⟩:=q3Z a1 hna hi2 hck2
         have hlen:(l1++ [(⟨t,kc,[]⟩:ChM)]).length=l1.length+1:=by simp
         have hru3:qnR m.c m.P (q7G m.c m.il m.P) (l1++ [⟨t,kc,[]⟩])=(doM m.c m.P s1 ⟨t,kc,[]⟩).2:=by rw[qn2,arun]
         have had3:∀z∈l1++ [(⟨t,kc,[]⟩:ChM)],z.ad= []:=fun z hz=>by
          rcases List.mem_append.1 hz with hz|hz
          ·exact aad z hz
          ·rw[List.mem_singleton.1 hz]
         generalize (doM m.c m.P s1 ⟨t,kc,[]⟩).2=s3 at*
         have hvi:∀(la5:Option Addr) (lc5:Nat) (D5:Own) (hL5:RdE q8x 3 W0 D5 la5 (l1++ [⟨t,kc,[]⟩])) (Q:Own) (_:qt Q m.O) (_:qt Q D5) (_:qt Q Kf),q0E Tryz.prog W0 37 [.pointer (some ⟨sb,0,none⟩), .slice la5 (l1.length+1) lc5]
           (SeB sb m foa fo.length foc lim ⟨yr,false,false,[]⟩ fa2 fc2::Q) fun _ own'=>FrR W0 sb m foa fo.length foc lim D5 Q (q7L (rcC m.P.length) m.c m.P fo lim n s3 (l1++ [⟨t,kc,[]⟩]) ⟨yr,false,false,[]⟩) own':=fun la5 lc5 D5 hL5 Q j1 j2 j3=>by
          have:=ih s3 (l1++ [⟨t,kc,[]⟩]) ⟨yr,false,false,[]⟩ la5 fa2 lc5 fc2 D5 Q hru3 had3 m1 (by omega) (by omega) (by rw[hlen];omega) hL5 rfl rfl hyr j1 j2 j3
          rw[hlen] at this
          exact this
         have hr3:=q9c (rc:=rcC m.P.length) (c:=m.c) (P:=m.P) (fo:=fo) (n:=n) (s:=s3) (l:=l1++ [⟨t,kc,[]⟩]) (x:=⟨yr,false,false,[]⟩) rfl hyr
         have hf3:=q7h (rc:=rcC m.P.length) (c:=m.c) (P:=m.P) (fo:=fo) (lim:=lim) (n:=n) (s:=s3) (l:=l1++ [⟨t,kc,[]⟩]) (x:=⟨yr,false,false,[]⟩) rfl rfl
         generalize q7L (rcC m.P.length) m.c m.P fo lim n s3 (l1++ [⟨t,kc,[]⟩]) ⟨yr,false,false,[]⟩=R3 at*
         have hBr:=hB2.rd (W0:=W0)
         repeat'((try(conv=>whnf));first|(refine q1P ?_ ?_;exact rfl)|(refine q5s ?_ ?_;exact rfl)|(apply q9g;(exact rfl);omega)|(refine qqj hcsR hkc rfl ?_ ?_;omega)|(refine qc (fun b149 hb149=> ?_);(dsimp only[List.toArray]))|(refine qkz qoc hBr ?_ ?_ ?_ ?_ qq6 ?_ (fun a5 c5 D5 hB5=> ?_);(exact rfl);(exact rfl);(exact rfl);(omega);(simp only[List.length_nil];omega))|(apply q69 (enc:=q8x) (T:=79) (⟨t,kc,[]⟩:ChM) hB5;(exact rfl);(exact rfl);(omega);(exact rfl);(exact rfl);(simp only[List.nil_append];omega);intro a6 c6 D6 hB6)|((refine zA ?_);first|(refine q1M hcsR hkc rfl ?_))|((refine zB ?_);first|((refine qm (hvi a6 c6 D6 hB6.rd _ inferInstance inferInstance inferInstance) qpK ?_ ?_ (fun y v hv=> ?_);(exact rfl);(exact rfl)))|((refine qm (hvi a6 c6 D6 hB6.rd _ inferInstance inferInstance inferInstance) qpL ?_ ?_ (fun y v hv=> ?_);(exact rfl);(exact rfl))))|(refine ari ?_ ?_;omega)|(refine fA ?_)|(refine q4T.mk ?_ ?_))
         all_goals exact⟨(k+1,R3,y.1,y.2.1,y.2.2++D6),⟨hkl,fun hs3=>⟨hf3 (q5T hs3).1,hr3⟩,hv,hfold2⟩,(by show cs.length-(k+1)<cs.length-k;omega),(eF),qpM⟩
       ·as_aux_lemma=>
         have hx2e:cs.foldl (q5S (rcC m.P.length) m.c m.P fo lim n s1 l1 t) ⟨xr,false,false,[]⟩=⟨yr,yc,ym,yf⟩:=by
          rw[hfold2]
          by_cases hkl:k<cs.length
          ·refine q2w (fun x a hs=>qa2 x a hs) _ _ ?_
           cases yc with
           |true=>rfl
           |false=>
            cases ym with
            |true=>rfl
            |false=>exact absurd ⟨hkl,rfl,rfl⟩ hgo
          ·rw[List.drop_of_length_le (by omega)];rfl
         rw[hx2e] at hfold
         by_cases hkl:k<cs.length
         ·have hkl':(k:Int)<cs.length:=by omega
          cases yc
          ·cases ym
           ·exact absurd ⟨hkl,rfl,rfl⟩ hgo
           ·repeat'((try(conv=>whnf));first|(refine q1P ?_ ?_;exact rfl)|(refine fD ?_)|(apply q9g;(exact rfl);omega)|(refine ari ?_ ?_;omega)|(refine fA ?_))
            all_goals exact⟨(t+1,false,⟨yr,false,true,yf⟩,fa2,fc2,E2),⟨htN,hx2,fun h=>(by cases h),fun _=>hnd,hfy.ent Ent.left,hfold⟩,(by show m.P.length-(t+1)<m.P.length-t;omega),(eF),qnF⟩
          ·repeat'((try(conv=>whnf));first|(refine q1P ?_ ?_;exact rfl)|(refine fI ?_)|(refine fD ?_)|(apply q9g;(exact rfl);omega)|(refine ari ?_ ?_;omega)|(refine fA ?_))
           all_goals exact⟨(t+1,false,⟨yr,true,ym,yf⟩,fa2,fc2,E2),⟨htN,hx2,fun h=>(by cases h),fun _=>hnd,hfy.ent Ent.left,hfold⟩,(by show m.P.length-(t+1)<m.P.length-t;omega),(eF),qnF⟩
         ·have hkl':¬(k:Int)<cs.length:=by omega
          repeat'((try(conv=>whnf));first|(refine fI ?_)|(refine fD ?_)|(apply q9f;(exact rfl);omega)|(refine ari ?_ ?_;omega))
          all_goals exact⟨(t+1,false,⟨yr,yc,ym,yf⟩,fa2,fc2,E2),⟨htN,hx2,fun h=>(by cases h),fun _=>hnd,hfy.ent Ent.left,hfold⟩,(by show m.P.length-(t+1)<m.P.length-t;omega),(eF),qnF⟩
      ·have hcs0: [(0:Int)]=q52 fo (some i2):=by show [(0:Int)]=if i2.op=7 then 0::fo else [0];rw[if_neg h7]
       rw[←hcs0] at hfold
       repeat'((try(conv=>whnf));first|(refine q1P ?_ ?_;exact rfl)|(refine fD ?_)|(apply qaQ;(exact rfl);omega)|(refine qqj hprR hph hprl.symm ?_ ?_;omega)|(refine qc (fun b101 hb101=> ?_);(dsimp only[List.set]))|((refine zA ?_);first|(refine q1M hTr1 htx1 rfl ?_)|(refine qgp hTr1 htx1 rfl ?_)|(refine q1M hprR hph rfl ?_)|(refine q1M hphR hpi rfl ?_))|((refine zC ?_);first|((refine ixE hTr1 htx1 ?_ ?_;(first|rfl|omega)))|((refine ixE hphR hpi ?_ ?_;(first|rfl|omega))))|((with_reducible show LdN _ _ _ _ _);first|(refine q2e hphR hpi rfl ?_))|((with_reducible show q0b _ _ _ _ _ _);first|((refine q6y hloc ?_)))|(refine fA ?_))
       have hcsR:=(qdu (T:=3) (b:=b101) (w:=0)).rd (W0:=W0)
       generalize hcs1: [(0:Int)]=cs at*
       have hcl1:cs.length=1:=by rw[←hcs1];rfl
       refine q0Z (σ:=Nat×SS×(Option Addr×Nat×Own)) (fun y=> [(10, .int .i64 y.1)]) (fun y=>h1.O m.c pr2.length s1++(Kr2++(SeB sb m foa fo.length foc lim y.2.1 y.2.2.1 y.2.2.2.1::(y.2.2.2.2++([(b101,fun o=>o=Obj.cells #[.int .i64 0] 3 (0,0))]++(D2++(r.O m.c pr.length s++(Kr++q))))))))
        (fun y=>y.1≤cs.length∧(y.2.1.stop=false→y.2.1.found= []∧(y.2.1.runs:Int)≤lim)∧RdE q8x 3 W0 y.2.2.2.2 y.2.2.1 y.2.1.found∧cs.foldl (q5S (rcC m.P.length) m.c m.P fo lim n s1 l1 t) ⟨xr,false,false,[]⟩=(cs.drop y.1).foldl (q5S (rcC m.P.length) m.c m.P fo lim n s1 l1 t) y.2.1)
        (fun y=>cs.length-y.1) (0,⟨xr,false,false,[]⟩,fa1,fc1,[]) ⟨Nat.zero_le _,fun _=>⟨rfl,hru1⟩,RdE.nil,rfl⟩ (eF) ?_ rfl ?_
       ·exact qq0
       rintro⟨k,x2,fa2,fc2,E2⟩ junk3 ⟨hk,hx2,hfy,hfold2⟩
       dsimp only at hk hx2 hfy hfold2 ⊢
       obtain⟨yr,yc,ym,yf⟩:=x2
       dsimp only at hfy ⊢
       by_cases hgo:k<cs.length∧yc=false∧ym=false
       ·as_aux_lemma=>
         obtain⟨hkl,rfl,rfl⟩:=hgo
         obtain⟨hyf,hyr⟩:=hx2 rfl
         dsimp only at hyf hyr
         subst hyf
         obtain⟨kc,hkc⟩:∃kc,cs[k]? =some kc:=⟨_,List.getElem?_eq_getElem hkl⟩
         have hkl':(k:Int)<cs.length:=by omega
         rw[q4I hkc,List.foldl_cons,show q5S (rcC m.P.length) m.c m.P fo lim n s1 l1 t ⟨yr,false,false,[]⟩ kc=q7L (rcC m.P.length) m.c m.P fo lim n (doM m.c m.P s1 ⟨t,kc,[]⟩).2 (l1++ [⟨t,kc,[]⟩]) ⟨yr,false,false,[]⟩ from rfl] at hfold2
         have hck2:kc=0∨(i2.op=7∧3≤kc∧kc≤6):=by
          rcases qag hfo (hcs0 ▸ List.mem_of_getElem? hkc) with hh|⟨j,hj,h7',hh⟩
          ·exact .inl hh
          ·obtain rfl:=Option.some.inj hj
           exact .inr ⟨h7',hh⟩
         obtain⟨-,m1,m2,m3,m4,m5⟩:=q3Z a1 hna hi2 hck2
         have hlen:(l1++ [(⟨t,kc,[]⟩:ChM)]).length=l1.length+1:=by simp
         have hru3:qnR m.c m.P (q7G m.c m.il m.P) (l1++ [⟨t,kc,[]⟩])=(doM m.c m.P s1 ⟨t,kc,[]⟩).2:=by rw[qn2,arun]
         have had3:∀z∈l1++ [(⟨t,kc,[]⟩:ChM)],z.ad= []:=fun z hz=>by
          rcases List.mem_append.1 hz with hz|hz
          ·exact aad z hz
          ·rw[List.mem_singleton.1 hz]
         generalize (doM m.c m.P s1 ⟨t,kc,[]⟩).2=s3 at*
         have hvi:∀(la5:Option Addr) (lc5:Nat) (D5:Own) (hL5:RdE q8x 3 W0 D5 la5 (l1++ [⟨t,kc,[]⟩])) (Q:Own) (_:qt Q m.O) (_:qt Q D5) (_:qt Q Kf),q0E Tryz.prog W0 37 [.pointer (some ⟨sb,0,none⟩), .slice la5 (l1.length+1) lc5]
           (SeB sb m foa fo.length foc lim ⟨yr,false,false,[]⟩ fa2 fc2::Q) fun _ own'=>FrR W0 sb m foa fo.length foc lim D5 Q (q7L (rcC m.P.length) m.c m.P fo lim n s3 (l1++ [⟨t,kc,[]⟩]) ⟨yr,false,false,[]⟩) own':=fun la5 lc5 D5 hL5 Q j1 j2 j3=>by
          have:=ih s3 (l1++ [⟨t,kc,[]⟩]) ⟨yr,false,false,[]⟩ la5 fa2 lc5 fc2 D5 Q hru3 had3 m1 (by omega) (by omega) (by rw[hlen];omega) hL5 rfl rfl hyr j1 j2 j3
          rw[hlen] at this
          exact this
         have hr3:=q9c (rc:=rcC m.P.length) (c:=m.c) (P:=m.P) (fo:=fo) (n:=n) (s:=s3) (l:=l1++ [⟨t,kc,[]⟩]) (x:=⟨yr,false,false,[]⟩) rfl hyr
         have hf3:=q7h (rc:=rcC m.P.length) (c:=m.c) (P:=m.P) (fo:=fo) (lim:=lim) (n:=n) (s:=s3) (l:=l1++ [⟨t,kc,[]⟩]) (x:=⟨yr,false,false,[]⟩) rfl rfl
         generalize q7L (rcC m.P.length) m.c m.P fo lim n s3 (l1++ [⟨t,kc,[]⟩]) ⟨yr,false,false,[]⟩=R3 at*
         have hBr:=hB2.rd (W0:=W0)
         repeat'((try(conv=>whnf));first|(refine q1P ?_ ?_;exact rfl)|(refine q5s ?_ ?_;exact rfl)|(apply q9g;(exact rfl);omega)|(refine qqj hcsR hkc hcl1.symm ?_ ?_;omega)|(refine qc (fun b149 hb149=> ?_);(dsimp only[List.toArray]))|(refine qkz qoc hBr ?_ ?_ ?_ ?_ qq6 ?_ (fun a5 c5 D5 hB5=> ?_);(exact rfl);(exact rfl);(exact rfl);(omega);(simp only[List.length_nil];omega))|(apply q69 (enc:=q8x) (T:=79) (⟨t,kc,[]⟩:ChM) hB5;(exact rfl);(exact rfl);(omega);(exact rfl);(exact rfl);(simp only[List.nil_append];omega);intro a6 c6 D6 hB6)|((refine zA ?_);first|(refine q1M hcsR hkc rfl ?_))|((refine zB ?_);first|((refine qm (hvi a6 c6 D6 hB6.rd _ inferInstance inferInstance inferInstance) qpK ?_ ?_ (fun y v hv=> ?_);(exact rfl);(exact rfl)))|((refine qm (hvi a6 c6 D6 hB6.rd _ inferInstance inferInstance inferInstance) qpL ?_ ?_ (fun y v hv=> ?_);(exact rfl);(exact rfl))))|(refine ari ?_ ?_;omega)|(refine fA ?_)|(refine q4T.mk ?_ ?_))
         all_goals exact⟨(k+1,R3,y.1,y.2.1,y.2.2++D6),⟨hkl,fun hs3=>⟨hf3 (q5T hs3).1,hr3⟩,hv,hfold2⟩,(by show cs.length-(k+1)<cs.length-k;omega),(eF),qpM⟩
       ·as_aux_lemma=>
         have hx2e:cs.foldl (q5S (rcC m.P.length) m.c m.P fo lim n s1 l1 t) ⟨xr,false,false,[]⟩=⟨yr,yc,ym,yf⟩:=by
          rw[hfold2]
          by_cases hkl:k<cs.length
          ·refine q2w (fun x a hs=>qa2 x a hs) _ _ ?_
           cases yc with
           |true=>rfl
           |false=>
            cases ym with
            |true=>rfl
            |false=>exact absurd ⟨hkl,rfl,rfl⟩ hgo
          ·rw[List.drop_of_length_le (by omega)];rfl
         rw[hx2e] at hfold
         by_cases hkl:k<cs.length
         ·have hkl':(k:Int)<cs.length:=by omega
          cases yc
          ·cases ym
           ·exact absurd ⟨hkl,rfl,rfl⟩ hgo
           ·repeat'((try(conv=>whnf));first|(refine q1P ?_ ?_;exact rfl)|(refine fD ?_)|(apply q9g;(exact rfl);omega)|(refine ari ?_ ?_;omega)|(refine fA ?_))
            all_goals exact⟨(t+1,false,⟨yr,false,true,yf⟩,fa2,fc2,E2),⟨htN,hx2,fun h=>(by cases h),fun _=>hnd,hfy.ent Ent.left,hfold⟩,(by show m.P.length-(t+1)<m.P.length-t;omega),(eF),qnF⟩
          ·repeat'((try(conv=>whnf));first|(refine q1P ?_ ?_;exact rfl)|(refine fI ?_)|(refine fD ?_)|(apply q9g;(exact rfl);omega)|(refine ari ?_ ?_;omega)|(refine fA ?_))
           all_goals exact⟨(t+1,false,⟨yr,true,ym,yf⟩,fa2,fc2,E2),⟨htN,hx2,fun h=>(by cases h),fun _=>hnd,hfy.ent Ent.left,hfold⟩,(by show m.P.length-(t+1)<m.P.length-t;omega),(eF),qnF⟩
         ·have hkl':¬(k:Int)<cs.length:=by omega
          repeat'((try(conv=>whnf));first|(refine fI ?_)|(refine fD ?_)|(apply q9f;(exact rfl);omega)|(refine ari ?_ ?_;omega))
          all_goals exact⟨(t+1,false,⟨yr,yc,ym,yf⟩,fa2,fc2,E2),⟨htN,hx2,fun h=>(by cases h),fun _=>hnd,hfy.ent Ent.left,hfold⟩,(by show m.P.length-(t+1)<m.P.length-t;omega),(eF),qnF⟩
  ·as_aux_lemma=>
    obtain⟨xr,xc,xm,xf⟩:=x1
    clear hx1
    dsimp only at hfR ⊢
    by_cases htN:t<m.P.length
    ·have hst:(⟨xr,xc,xm,xf⟩:SS).stop=true:=by
      cases hss:(⟨xr,xc,xm,xf⟩:SS).stop with
      |true=>rfl
      |false=>exact absurd ⟨htN,hss⟩ hgo
     have htN':(t:Int)<s.T.length:=by omega
     rw[q2w (fun x a hs=>q3l x a hs) _ _ hst] at hfold
     cases dn with
     |true=>
      rw[(hdt rfl).1,hx] at hst
      cases hst
     |false=>
      rw[if_neg (by rw[hdf rfl];simp)] at hve
      have hR:=hve.trans hfold
      subst hR
      clear hdt hdf hve hfold
      cases xc
      ·cases xm
       ·cases hst
       ·repeat'((try(conv=>whnf));first|(refine q1P ?_ ?_;exact rfl)|(refine q5s ?_ ?_;exact rfl)|(refine fD ?_)|(apply q9g;(exact rfl);omega)|(refine fA ?_))
        all_goals exact⟨(fa1,fc1,E),hfR,qnS⟩
      ·repeat'((try(conv=>whnf));first|(refine q1P ?_ ?_;exact rfl)|(refine fI ?_)|(refine q5s ?_ ?_;exact rfl)|(refine fD ?_)|(apply q9g;(exact rfl);omega)|(refine fA ?_))
       all_goals exact⟨(fa1,fc1,E),hfR,qnS⟩
    ·have htE:t=m.P.length:=by omega
     have htN':¬(t:Int)<s.T.length:=by omega
     rw[List.drop_of_length_le (by rw[List.length_range];omega)] at hfold
     cases dn with
     |false=>
      rw[if_neg (by rw[hdf rfl];simp)] at hve
      have hR:=hve.trans hfold
      subst hR
      clear hdt hdf hve hfold
      repeat'((try(conv=>whnf));first|(refine fI ?_)|(refine q5s ?_ ?_;exact rfl)|(refine fD ?_)|(apply q9f;(exact rfl);omega)|(refine fA ?_))
      all_goals exact⟨(fa1,fc1,E),hfR,qnS⟩
     |true=>
      obtain⟨e,hall⟩:=hdt rfl
      subst e
      have hdone:q6E s=true:=qpX fun u hu=>hall u (by omega)
      rw[if_pos hdone] at hve
      obtain⟨hxr,hxm⟩:=q5T hx
      dsimp only at hxr hxm hfd hru
      subst hxr;subst hxm;subst hfd
      have hru2:(((⟨xr,false,false,[]⟩:SS).runs:Nat):Int)≤lim:=hru
      clear hdt hdf hfold hall hrp
      unfold qey at hve
      dsimp only at hve
      by_cases hlm:(xr:Int)=lim
      ·rw[if_pos hlm] at hve
       subst hve
       repeat'((try(conv=>whnf));first|(refine fI ?_)|(refine fD ?_)|(apply qaR;(exact rfl);omega)|(apply q9f;(exact rfl);omega)|(refine fA ?_)|(refine fN ?_))
       all_goals exact⟨(fa1,fc1,E),RdE.nil,qnS⟩
      ·rw[if_neg hlm] at hve
       have hfs:=fun(own':Own) (j1:qt own' r.eD) (j2:qt own' r.X)=>qpD (own:=own') hrok hz m.P.length
       have hrc:rcC m.P.length s.E=decide (0≤(Ord.frR (s.E.map evH) m.P.length).2.1):=qjI
       generalize Ord.frR (s.E.map evH) m.P.length=fr at*
       rw[←hTl] at hfs
       obtain⟨f1,f2,f3⟩:=fr
       dsimp only at hrc hfs
       by_cases hf:0≤f2
       ·rw[hrc,decide_eq_true hf,if_pos rfl] at hve
        subst hve
        have hf':f2≥0:=hf
        repeat'((try(conv=>whnf));first|(refine fI ?_)|(refine fD ?_)|(apply qaR;(exact rfl);omega)|(apply qaQ;(exact rfl);omega)|(apply q9f;(exact rfl);omega)|((with_reducible show q0b _ _ _ _ _ _);first|((refine qq (fun ex=>hfs _ inferInstance inferInstance) ?_ ?_ ?_;(exact rfl);(exact rfl))))|(refine ari ?_ ?_;omega)|(refine fO ?_)|(refine fA ?_)|(refine fN ?_))
        all_goals exact⟨(la,lc,[]),hL,qq1⟩
       ·rw[hrc,decide_eq_false hf,if_neg (by simp)] at hve
        subst hve
        have hf':¬f2≥0:=hf
        repeat'((try(conv=>whnf));first|(refine fI ?_)|(refine fD ?_)|(apply qaQ;(exact rfl);omega)|(apply q9f;(exact rfl);omega)|((with_reducible show q0b _ _ _ _ _ _);first|((refine qq (fun ex=>hfs _ inferInstance inferInstance) ?_ ?_ ?_;(exact rfl);(exact rfl))))|(refine ari ?_ ?_;omega)|(refine fO ?_)|(refine fA ?_)|(refine fN ?_))
        all_goals exact⟨(fa1,fc1,E),RdE.nil,qnS⟩
end
open Go
section
variable{W0:World}{own:Own}{m:MS}{fa:Option Addr}{fc:Nat}{fo:List Int}{lim:Int}
theorem qr6{q:Own}:Ent W0 q []:=qo q fun a=>by simp only[q6C,Nat.zero_add]
theorem qq2{x y z:Nat×(Obj→Prop)}{A Z:Own}:Ent W0 (x::(A++(y::(z::Z)))) (A++Z):=qo [x,y,z]
theorem qq3{x y z:Nat×(Obj→Prop)}{A Z:Own}:Ent W0 (x::(A++(y::(z::Z)))) ([]++Z):=qo (x::y::z::A)
theorem qoi(h:m.cl)(hfk:∀k∈fo,3≤k∧k≤6)(hfl:fo.length≤4)(hl:1≤lim∧lim≤100000) [e:qt own m.O](hfo:RdE qM 1 W0 own fa fo):
  q0E Tryz.prog W0 14 [qi0 m.c m.ia m.il.length m.ic m.pa m.ps.length m.pc m.ka 0 m.kc, .slice fa fo.length fc, .int .i64 lim] own fun v own'=>∃y:Option Addr×Nat×Own,
   (v= .tuple #[.agg #[.bool (q5x m.c m.il (m.ps.map PB.h) fo lim).1.racy, .slice y.1 (q5x m.c m.il (m.ps.map PB.h) fo lim).1.found.length y.2.1, .int .i64 (q5x m.c m.il (m.ps.map PB.h) fo lim).1.runs], .int .i64 (q5x m.c m.il (m.ps.map PB.h) fo lim).2]∧RdE q8x 3 W0 y.2.2 y.1 (q5x m.c m.il (m.ps.map PB.h) fo lim).1.found)∧Ent W0 own' (y.2.2++own):=by
 refine qa qj qn7 (by simp[qm5]) ?_
 have hag:=fun(own':Own) [qt own' m.O] [qt own' own]=>qpB (ks:= []) (c:=m.c) (ia:=m.ia) (il:=m.il) (ic:=m.ic) (pc:=m.pc) (ka:=m.ka) (kc:=m.kc) (fc:=fc) (own:=own') (h.rp.up (W0:=W0)) (by have:=h.pl;rw[List.length_map];omega) (fun x hx=>(h.rq x hx).up) hfo.up lim
 have ha:=h.arg hfl hfk hl
 have hml:=qhJ h.g0 h.pl16
 have hn0:(q7G m.c m.il m.P).n=0:=rfl
 have hfr:=fun(sb:Nat) (q:Own) (j1:qt q m.O) (j3:qt q own)=>qp5 (W0:=W0) (sb:=sb) (foc:=fc) h hfk hfl hl.2 hfo (q1n m.P (q7G m.c m.il m.P)+1) (q7G m.c m.il m.P) [] ss0 none none 0 0 [] q rfl (fun _ h=>by cases h) h.g0 (Nat.lt_succ_self _) (by omega) (Nat.zero_le _) RdE.nil rfl rfl (by show(0:Int)≤lim;omega) j1 ⟨fun _=>qr6⟩ j3
 unfold q5x
 rw[ha] at hag
 rw[ha,if_neg (by simp)]
 unfold qll
 generalize q7L (rcC (List.map PH.p (m.ps.map PB.h)).length) m.c (List.map PH.p (m.ps.map PB.h)) fo lim (q1n (List.map PH.p (m.ps.map PB.h)) (q7G m.c m.il (List.map PH.p (m.ps.map PB.h)))+1) (q7G m.c m.il (List.map PH.p (m.ps.map PB.h))) [] ss0=R at*
 rw[List.length_map] at hag
 obtain⟨xr,xc,xm,xf⟩:=R
 dsimp only at hfr ⊢
 repeat'((try(conv=>whnf));first|(refine qc (fun b3 h3=> ?_);(apply Stop.h)))
 refine Stop.mk ?_
 repeat'((try(conv=>whnf));first|(refine qc (fun b6 h6=> ?_);(apply Stop.h)))
 refine Stop.mk ?_
 repeat'((try(conv=>whnf));first|(refine fD ?_)|(refine qc (fun sb hsb=> ?_);(apply Stop.h))|((refine zB ?_);first|((refine qh (hag _) ?_ ?_ ?_;(exact rfl);exact rfl)))|(refine fL ?_))
 refine Stop.mk ?_
 repeat'((try(conv=>whnf));first|((refine zB ?_);first|((refine qm (hfr sb _ inferInstance inferInstance) Ent.refl ?_ ?_ (fun y v hv=> ?_);(exact rfl);(exact rfl);(apply Stop.h)))))
 refine Stop.mk ?_
 obtain⟨ya,yc,yD⟩:=y
 dsimp only at hv ⊢
 rw[List.append_nil] at hv
 cases xm with
 |true=>
  simp only[if_true]
  repeat'((try(conv=>whnf));first|(refine fE ?_)|(refine fA ?_)|(refine fL ?_)|(refine fM ?_))
  all_goals exact⟨(none,0,[]),⟨rfl,RdE.nil⟩,qq3⟩
 |false=>
  simp only[Bool.false_eq_true,if_false]
  repeat'((try(conv=>whnf));first|(refine fD ?_)|(refine fA ?_)|(refine fL ?_)|(refine fM ?_))
  all_goals exact⟨(ya,yc,yD),⟨rfl,hv⟩,qq2⟩
end
open Go
section
variable{W0:World}{own:Own}{la:Option Addr}{lc:Nat}{ls:List IH}
theorem qqP{m:MS}(hF:q0A W0)(hN:q1s W0 0 Ord.noneV)(h:m.cl) [e:qt own m.O]{fa:Option Addr}{fc:Nat}{fo:List Int}(hfo:RdE qM 1 W0 own fa fo)(lim:Int):
  q0E Tryz.prog W0 13 [qi0 m.c m.ia m.il.length m.ic m.pa m.ps.length m.pc m.ka 0 m.kc, .slice fa fo.length fc, .int .i64 lim] own fun v own'=>∃y:Option Addr×Nat×Own,
   (v= .tuple #[.agg #[.bool (q5x m.c m.il (m.ps.map PB.h) fo lim).1.racy, .slice y.1 (q5x m.c m.il (m.ps.map PB.h) fo lim).1.found.length y.2.1, .int .i64 (q5x m.c m.il (m.ps.map PB.h) fo lim).1.runs], .int .i64 (q5x m.c m.il (m.ps.map PB.h) fo lim).2]∧RdE q8x 3 W0 y.2.2 y.1 (q5x m.c m.il (m.ps.map PB.h) fo lim).1.found)∧Ent W0 own' (y.2.2++own):=by
 have:=qch (ks:= []) (c:=m.c) (ic:=m.ic) (pc:=m.pc) (ka:=m.ka) (kc:=m.kc) (fc:=fc) hF hN (h.ri.up (W0:=W0) (own:=own)) h.il5 h.ilu h.rp.up (by have:=h.pl;rw[List.length_map];omega) (fun x hx=>(h.rq x hx).up) hfo lim
 rw[List.length_map] at this
 exact this
end
end Go.Proofs.YtkieffpjjfebjaaGreatDoor
