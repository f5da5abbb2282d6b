/- What the laws share, part 10. No condition. -/
import Derived.Test.YtkieffpjjfebjaaGreatDoorC9
set_option maxHeartbeats 16000000
set_option maxRecDepth 10000
namespace Go.Proofs.YtkieffpjjfebjaaGreatDoor
open Go
theorem qnU(len t:Nat):∀(l:List Ins) (j:Nat) (b:Nat),b≤t→t<j→t<len→len=j+l.length→q1I len t l j b=((b:Int),(q2P l j:Int))
 | [],j,b,hb,hj,hl,he=>by
  simp only[List.length_nil,Nat.add_zero] at he
  unfold q1I q2P
  rw[if_pos (by omega),he]
 |x::l,j,b,hb,hj,hl,he=>by
  simp only[List.length_cons] at he
  rw[q1I,show q2P (x::l) j=(if x.op=8 then j else q2P l (j+1)) from rfl,if_neg (by omega)]
  by_cases h8:x.op=8
  ·rw[if_pos ⟨by omega,h8⟩,if_pos (by omega),if_pos h8]
  ·rw[if_neg (by omega),if_neg h8]
   exact qnU len t l (j+1) b hb (by omega) hl (by omega)
theorem qp8{p:List Ins}(h:qx p=(0,0)){k:Nat}{x:Ins}(hx:p[k]? =some x)(h7:x.op=7)(hb:stB p k<0):qei p k=((k:Int),(q40 p k:Int)):=by
 have hk:=(List.getElem?_eq_some_iff.1 hx).1
 have hi:=qgb h (by omega:k≤p.length)
 rw[hi.sp k (Nat.le_refl _),q0R hx,q1I,if_pos ⟨hb,h7⟩,qnU p.length k (p.drop (k+1)) (k+1) k (Nat.le_refl _) (Nat.lt_succ_self _) hk (by rw[List.length_drop];omega)]
 rfl
abbrev ChB(b3:Nat)(t f:Int)(aa:Option Addr)(al ac:Nat):Nat×(Obj→Prop):=(b3,fun o=>o=Obj.cells #[.int .i64 t, .int .i64 f, .slice aa al ac] 79 (0,0))
section
variable{W0:World}{Kp K:Own}{g:DP}{c:Cfg}{ps:List PH}{s:GS}
abbrev TxP(W0:World)(Kp:Own)(g:DP)(c:Cfg)(ps:List PH)(s:GS)(t:Nat)(th:Thr)(ph:PH)(f:Int)(ad:List Int)(q:Own)(v:Value)(own':Own):Prop:=
 ((v= .bool false∧txM c ph.p s th t f ad=none)∧Ent W0 own' (g.O c ps.length s++q))∨
 ∃y:GS×DP×Thr,(v= .bool true∧y.1.T[t]? =some y.2.2∧txM c ph.p s th t f ad=some (exS y.1 t ph.p.length y.2.2)∧y.1.n=s.n∧y.2.1.ok W0 Kp ps y.1∧y.2.1.rb=g.rb)∧Ent W0 own' (y.2.1.O c ps.length y.1++q)
theorem qqi{t:Nat}{th:Thr}{ph:PH}(hT:qk7 c ps s t th ph)(h:g.ok W0 Kp ps s)(hp:qx ph.p=(0,0)){x0:Ins}(hx0:ph.p[th.pc]? =some x0)(h7:x0.op=7)(hst:stB ph.p th.pc<0){f:Int}(hf:f≠0){aa:Option Addr}{ad:List Int}{ac:Nat}(q:Own) [ek:qt q Kp]:
  q0E Tryz.prog W0 74 [.pointer (some ⟨g.rb,0,none⟩),chV t f aa ad.length ac] (g.O c ps.length s++q) (TxP W0 Kp g c ps s t th ph f ad q):=by
 have hth:=hT.hth
 have htl:=(List.getElem?_eq_some_iff.1 hth).1
 have htO:t<s.O.length:=by rw[hT.tl];exact htl
 have hT0:=h.t
 have hTR:=hT0.rd (W0:=W0)
 have hpl:=q6A hp
 have hsp0:=qp8 hp hx0 h7 hst
 obtain⟨e',he',hke,hel, -⟩:=q3G hp hx0 h7
 have hmem:=List.mem_of_getElem? hT.hph
 have hph:=hT.hph
 have hKK:=h.k
 have hsp:=fun(own':Own) [qt own' Kp]=>qic (own:=own') (cap:=ph.cap) (RdE.up (h.kp ph hmem)) (by omega) th.pc
 rw[hsp0,he'] at hsp
 dsimp only at hsp
 have htS:t<g.S.length:=by
  have h1:=congrArg List.length h.ol
  rw[List.length_map] at h1
  omega
 have htx:txM c ph.p s th t f ad=if(3≤f∧f≤6)∧ad= [] then some (s.fin t ⟨e'+1,th.rg,f,decide (e'+1=ph.p.length)⟩ [⟨th.pc,3,f⟩]) else none:=by
  unfold txM;rw[if_pos hf,he']
 refine qa qj qlN (by simp[q8]) ?_
 delta TxP
 rw[htx]
 clear htx
 by_cases hff:3≤f∧f≤6
 ·by_cases hal0:ad= []
  ·rw[if_pos ⟨hff,hal0⟩]
   have hl0:¬(0:Int)<ad.length:=by rw[hal0];simp
   have hq:f=3∨f=4∨f=5∨f=6:=by omega
   have hth1:(s.T.set t {th with oc:=f})[t]? =some {th with oc:=f}:=List.getElem?_set_self htl
   have hob9:∀l∈s.O,l.length≤1000000:=fun l hl=>by have:=hT.ob l hl;omega
   have hse:=fun(b3:Nat) (D2:Own) (hb2:qr Thr.enc 61 11 g.ta g.tc ((s.T.set t {th with oc:=f}).set t {th with oc:=f,pc:=e'+1}) D2)=>
    qG (E:= [ChB b3 t f aa ad.length ac]) (q:=q) (qmD (c:=c) (g:={g with tD:=D2}) (s:={s with T:=(s.T.set t {th with oc:=f}).set t {th with oc:=f,pc:=e'+1}}) (ps:=ps) (W0:=W0) (Kp:=Kp) ⟨h.d,h.m,h.k,h.kp,hb2,h.e,h.em,h.ev,h.o,h.os,h.ol⟩ htS hob9 th.pc 3 f)
   repeat'((try(conv=>whnf));first|(refine qc (fun b3 h3=> ?_);(apply Stop.h)))
   refine Stop.mk ?_
   repeat'((try(conv=>whnf));first|(refine fH ?_)|(refine fI ?_)|(refine fF ?_)|(refine fG ?_)|(refine fK ?_)|(apply q5Q (enc:=Thr.enc) (T:=61) (j:=t) (k:=9) {th with oc:=f} hT0 hth;(exact rfl);(omega);(exact rfl);(exact rfl);intro D1 hb1)|(apply q5Q (enc:=Thr.enc) (T:=61) (j:=t) (k:=0) {th with oc:=f,pc:=e'+1} hb1 hth1;(exact rfl);(omega);(exact rfl);(exact rfl);intro D2 hb2)|((with_reducible show Ld _ _ _ _);first|(refine q1M hTR hth rfl ?_)|(refine q1M hKK hph rfl ?_))|((with_reducible show IxS _ _ _ _ _);first|((refine ixE hTR hth ?_ ?_;(first|rfl|omega)))|((refine ixE hKK hph ?_ ?_;(first|rfl|omega))))|((with_reducible show qf _ _ _ _ _ _);first|((refine qh (hsp _) ?_ ?_ ?_;(exact rfl);exact rfl))|((refine qm (hse b3 D2 hb2) ?_ ?_ ?_ (fun g2 v hg2=> ?_);(dsimp only[DP.O,DP.cells];rw[List.length_set,List.length_set];exact(eC));(exact rfl);(exact rfl);(obtain⟨hk2,hg2, -⟩:=hg2))))|(refine fB ?_)|(refine fC ?_)|(refine fO ?_)|(refine fA ?_)|(apply q0e;(exact rfl);(exact rfl);all_goals intro hc))
   all_goals first|(exfalso;omega)|skip
   all_goals
    refine .inr ⟨({s with T:=(s.T.set t {th with oc:=f}).set t {th with oc:=f,pc:=e'+1},O:=s.O.set t (s.O.getD t []++ [⟨th.pc,3,f⟩])},g2,{th with oc:=f,pc:=e'+1}),⟨rfl,?_,?_,rfl,hk2,by rw[hg2]⟩,(eC)⟩
    ·show((s.T.set t {th with oc:=f}).set t {th with oc:=f,pc:=e'+1})[t]? =_
     rw[List.getElem?_set_self (by rw[List.length_set];exact htl)]
    ·simp only[exS,GS.fin,List.set_set]
  ·rw[if_neg (fun h=>hal0 h.2)]
   have hl0:(0:Int)<ad.length:=by
    have:ad.length≠0:=fun h=>hal0 (List.eq_nil_of_length_eq_zero h)
    omega
   have hq:f=3∨f=4∨f=5∨f=6:=by omega
   repeat'((try(conv=>whnf));first|(refine fH ?_)|(refine fI ?_)|(refine fF ?_)|(refine fK ?_)|((with_reducible show Ld _ _ _ _);first|(refine q1M hTR hth rfl ?_)|(refine q1M hKK hph rfl ?_))|((with_reducible show IxS _ _ _ _ _);first|((refine ixE hTR hth ?_ ?_;(first|rfl|omega)))|((refine ixE hKK hph ?_ ?_;(first|rfl|omega))))|((with_reducible show qf _ _ _ _ _ _);first|((refine qh (hsp _) ?_ ?_ ?_;(exact rfl);exact rfl)))|(refine fO ?_)|(refine fA ?_)|(refine qc (fun bk hbk=> ?_))|(apply q0e;(exact rfl);(exact rfl);all_goals intro hc))
   all_goals first|(exfalso;omega)|exact .inl ⟨⟨rfl,rfl⟩,(eC)⟩
 ·rw[if_neg (fun h=>hff h.1)]
  repeat'((try(conv=>whnf));first|(refine fH ?_)|(refine fI ?_)|(refine fE ?_)|(refine fF ?_)|(refine fJ ?_)|((with_reducible show Ld _ _ _ _);first|(refine q1M hTR hth rfl ?_)|(refine q1M hKK hph rfl ?_))|((with_reducible show IxS _ _ _ _ _);first|((refine ixE hTR hth ?_ ?_;(first|rfl|omega)))|((refine ixE hKK hph ?_ ?_;(first|rfl|omega))))|((with_reducible show qf _ _ _ _ _ _);first|((refine qh (hsp _) ?_ ?_ ?_;(exact rfl);exact rfl)))|(refine fO ?_)|(refine fA ?_)|(refine qc (fun bk hbk=> ?_)))
  all_goals first|(exfalso;omega)|exact .inl ⟨⟨rfl,rfl⟩,(eC)⟩
end
open Go
section
variable{α:Type}{enc:α→List Value}{sz:Nat}{W0:World}{own own':Own}{a:Option Addr}
theorem qrd{T:TypeId}{bytes cap m:Nat}{zs:List Value}{D:Own}{C:Own→Own}{a2:Option Addr}{l2:List α}{K:Value→Own→Prop}(hB:qr enc T sz a cap [] D)(hx:RdE enc sz W0 own' a2 l2) [mm:AtC D own C] [me:qt own own'](hm:m=l2.length)
  (hz:zs.length=sz) (hs:0<sz) (h1:∀x∈l2,(enc x).all q4A=true) (hb:l2.length*bytes≤140737488355328)
  (hk:∀a' cap' D',qr enc T sz a' cap' l2 D'→K (.slice a' l2.length cap') (C D')):qcz W0 own T sz bytes zs a 0 cap a2 m K:=
 qiO hB hx hm hz hs h1 (fun _=>by simpa using hb) fun a' cap' D' h=>by
  have e:([]:List α).length+l2.length=l2.length:=Nat.zero_add _
  rw[e]
  exact hk a' cap' D' h
theorem qrm{b:Nat}{T:TypeId}{pre post:List Value}{t:Thr}{off:Nat}{v:Value}{K:Own→Prop}{C:(Obj→Prop)→Own} [m:UpC b (fun o=>o=Obj.cells (pre++(t.enc++post)).toArray T (0,0)) own C](pre':List Value)(hs:(pre++(t.enc++post)).set off v=pre'++(t.enc++post))(h1:q4A v=true)(ho:off<(pre++(t.enc++post)).length)
  (h:K (C fun o=>o=Obj.cells (pre'++(t.enc++post)).toArray T (0,0))):StT W0 own ⟨b,off,none⟩ v K:=by
 refine qjY (by simp at ho ⊢;omega) h1 ?_
 rw[List.toList_toArray,hs]
 exact h
theorem qpm{W0:World}{e b:Nat×(Obj→Prop)}{D Z:Own}:Ent W0 (e::(D++(b::Z))) ([b]++((e::(D++([]++([]++([]++ [])))))++Z)):=qo []
theorem qpn{W0:World}{e b:Nat×(Obj→Prop)}{D D2 R W N G q:Own}:Ent W0 ([b]++((e::(D++(D2++(R++(W++N)))))++(G++q))) ((e::(D++(D2++(R++(W++N)))))++(G++(b::q))):=qo []
theorem qoh{W0:World}{b:Nat×(Obj→Prop)}{X G q:Own}:Ent W0 (X++(G++(b::q))) (G++q):=qo (b::X)
theorem qpo{W0:World}{m e b:Nat×(Obj→Prop)}{Dd Dk A B T E O S1 S2 S3 X R W N q:Own}:Ent W0 ((m::(A++(B++(T++(E++(O++((S1++(S2++S3))++X)))))))++((e::(Dd++(Dk++(R++(W++N)))))++(b::q)))
  (e::((m::(Dd++(Dk++(T++(E++(O++((S1++(S2++S3))++(R++(W++X)))))))))++(b::q))):=qo (A++(B++N))
theorem qpp{W0:World}{m e b:Nat×(Obj→Prop)}{Dd Dk A B T E O S X R W N q:Own}:Ent W0 ((m::(A++(B++(T++(E++(O++(S++X)))))))++((e::(Dd++(Dk++(R++(W++N)))))++(b::q)))
  (e::((m::(A++(B++(T++(E++(O++(S++(R++X))))))))++(b::q))):=qo (Dd++(Dk++(W++N)))
theorem qpr{W0:World}{e:Nat×(Obj→Prop)}{G q:Own}:Ent W0 (e::(G++q)) (G++([e]++q)):=qo []
theorem qpq{W0:World}{e b:Nat×(Obj→Prop)}{G q:Own}:Ent W0 (G++([e]++(b::q))) (G++q):=qo [e,b]
end
section
variable{W0:World}{Kp K:Own}{g:DP}{c:Cfg}{ps:List PH}{s:GS}
structure TxE(W0:World)(Kp:Own)(g:DP)(c:Cfg)(ps:List PH)(s:GS)(t:Nat)(th:Thr)(ph:PH)(ad:List Int)(e':Nat)(out:Int)(xb:Nat)(y:GS×DP×BG×BM×Thr):Prop where
 ok:y.2.1.ok W0 Kp ps y.1
 rb:y.2.1.rb=g.rb
 ta:y.2.1.ta=g.ta
 hxb:y.2.2.1.xb=xb
 hth:y.1.T[t]? =some y.2.2.2.2
 tO:t<y.1.O.length
 ob:∀l∈y.1.O,l.length≤1000000
 el:y.1.E.length≤600000
 n:y.1.n=s.n
 r:RdE qM 1 W0 y.2.1.X y.2.2.1.ra y.2.2.2.1.r
 w:RdE qM 1 W0 y.2.1.X y.2.2.1.wa y.2.2.2.1.w
 tx:txM c ph.p s th t 0 ad=some (exS {(y.1.ev [⟨y.1.n,t,4,0,y.2.2.2.1.r,y.2.2.2.1.w⟩]) with T:=(y.1.T.set t {y.2.2.2.2 with oc:=out}).set t {y.2.2.2.2 with oc:=out,pc:=e'+1},O:=y.1.O.set t (y.1.O.getD t []++ [⟨th.pc,3,out⟩])} t ph.p.length {y.2.2.2.2 with oc:=out,pc:=e'+1})
theorem qqh{t:Nat}{th:Thr}{ph:PH}(hT:qk7 c ps s t th ph)(h:g.ok W0 Kp ps s)(hp:qx ph.p=(0,0)){x0:Ins}(hx0:ph.p[th.pc]? =some x0)(h7:x0.op=7)(hst:stB ph.p th.pc<0)(htk:s.tk.length=(qy c).toNat){aa:Option Addr}{ad:List Int}{ac:Nat}(hA:RdE qM 1 W0 K aa ad)(hal:ad.length≤ac)(had:∀a∈ad,a≤9223372036854775807)(q:Own) [ek:qt q Kp] [ek2:qt q K]:
  q0E Tryz.prog W0 74 [.pointer (some ⟨g.rb,0,none⟩),chV t 0 aa ad.length ac] (g.O c ps.length s++q) (TxP W0 Kp g c ps s t th ph 0 ad q):=by
 have hth:=hT.hth
 have htl:=(List.getElem?_eq_some_iff.1 hth).1
 have htO:t<s.O.length:=by rw[hT.tl];exact htl
 have hT0:=h.t
 have hTR:=hT0.rd (W0:=W0)
 have hMR:=h.m.rd (W0:=W0)
 have hpl:=q6A hp
 have hsp0:=qp8 hp hx0 h7 hst
 obtain⟨e',he',hke,hel, -⟩:=q3G hp hx0 h7
 have hmem:=List.mem_of_getElem? hT.hph
 have hph:=hT.hph
 have hKK:=h.k
 have hPR:=h.kp ph hmem
 have hwd:=(q1R hT.c0).1
 unfold okW at hwd
 have hdl:=hT.dl
 have hkb:=(q6w c)
 have hsp:=fun(own':Own) [qt own' Kp]=>qic (own:=own') (cap:=ph.cap) (RdE.up hPR) (by omega) th.pc
 rw[hsp0,he'] at hsp
 dsimp only at hsp
 have htS:t<g.S.length:=by
  have h1:=congrArg List.length h.ol
  rw[List.length_map] at h1
  omega
 have hBI:BI c ⟨s.d,s.tk,{th with pc:=th.pc+1},[],[],[],ad⟩:=⟨hT.dl,hT.dr,htk,hT.rg,Nat.zero_le _,Nat.zero_le _,Nat.zero_le _,fun _ h=>(by cases h),fun _ h=>(by cases h),had⟩
 have htx:txM c ph.p s th t 0 ad=match q5e c ph.p ph.p.length ⟨s.d,s.tk,{th with pc:=th.pc+1},[],[],[],ad⟩ with
  |(b,o)=>if o= -1∨b.ad≠ [] then none
   else if o=1 then some (((s.mem b.d b.tk).ev [⟨s.n,t,3,0,[],[]⟩,⟨s.n,t,4,0,b.r,b.w⟩]).fin t ⟨e'+1,b.t.rg,1,decide (e'+1=ph.p.length)⟩ (b.o++ [⟨th.pc,3,1⟩]))
   else some ((s.ev [⟨s.n,t,3,0,[],[]⟩,⟨s.n,t,4,0,b.r,[]⟩]).fin t ⟨e'+1,th.rg,o,decide (e'+1=ph.p.length)⟩ [⟨th.pc,3,o⟩]):=by
  unfold txM;rw[if_neg (by simp),he']
 refine qa qj qlN (by simp[q8]) ?_
 delta TxP
 have htw:=fun(own':Own) [qt own' g.dD]=>qmn (cap:=g.dc) (RdE.up (own:=own') (h.d.rd (W0:=W0))) (by omega)
 repeat'((try(conv=>whnf));first|(refine qc (fun b3 h3=> ?_);(apply Stop.h)))
 refine Stop.mk ?_
 repeat'((try(conv=>whnf));first|(refine fD ?_)|((with_reducible show Ld _ _ _ _);first|(refine q1M hTR hth rfl ?_)|(refine q1M hKK hph rfl ?_))|((with_reducible show IxS _ _ _ _ _);first|((refine ixE hTR hth ?_ ?_;(first|rfl|omega)))|((refine ixE hKK hph ?_ ?_;(first|rfl|omega))))|((with_reducible show qf _ _ _ _ _ _);first|((refine qh (hsp _) ?_ ?_ ?_;(exact rfl);exact rfl)))|(refine fO ?_)|(refine fA ?_))
 refine q4H (σ:=BG) (2 ^ 95-2 ^ 83+2 ^ 10) (fun x=> [(10, .pointer (some ⟨x.xb,0,none⟩))]) (fun x=> [ChB b3 t 0 aa ad.length ac]++(x.O (⟨s.d,[],th,[],[],[],ad⟩:BM) false++(g.O c ps.length s++q))) (fun x=>x.ok W0 K (⟨s.d,[],th,[],[],[],ad⟩:BM)) rfl ?_ ?_
 ·repeat'((try(conv=>whnf));first|(refine qc (fun bk hbk=> ?_))|((with_reducible show LdN _ _ _ _ _);first|(refine q2e hTR hth rfl ?_))|((with_reducible show qf _ _ _ _ _ _);first|((refine qZ (htw _) ?_ ?_ (fun y v hv=> ?_);(exact rfl);(exact rfl);(obtain⟨a1,c1,D1⟩:=y;obtain⟨rfl,hB⟩:=hv;dsimp only at hB))))|(refine fA ?_)|(refine q4T.mk ?_ ?_))
  all_goals exact⟨⟨bk,a1,c1,D1,none,0,[],none,0,[],none,0,[],none,0,[],aa,ac⟩,⟨hB,qr.nil,hA,hal,qr.nil,qr.nil,qr.nil⟩,(eF),qpm⟩
 rintro x junk hxok
 dsimp only at hxok ⊢
 have hxm:=hxok.m
 dsimp only at hxm
 --VSHOW
 repeat'((try(conv=>whnf));first|(refine qrd hxm hMR rfl rfl (by omega) (fun _ _=>rfl) (by omega) (fun a2 c2 D2 hb2=> ?_);(apply Stop.h))|(refine fA ?_))
 refine Stop.mk ?_
 obtain⟨x1,hx1⟩:∃x1:BG,x1={x with ka:=a2,kc:=c2,kD:=D2}:=⟨_,rfl⟩
 repeat'((try(conv=>whnf));first|(refine qrm (t:=th) (pre:=x.pre (⟨s.d,[],th,[],[],[],ad⟩:BM)) (post:=x.post (⟨s.d,[],th,[],[],[],ad⟩:BM) false) (({x with ka:=a2,kc:=c2,kD:=D2}:BG).pre (⟨s.d,s.tk,th,[],[],[],ad⟩:BM)) rfl rfl ?_ ?_;(simp))|(refine q8F (t:=th) (pre:=({x with ka:=a2,kc:=c2,kD:=D2}:BG).pre (⟨s.d,s.tk,th,[],[],[],ad⟩:BM)) (post:=x.post (⟨s.d,[],th,[],[],[],ad⟩:BM) false) (k:=0) (v:= .int .i64 th.pc) rfl ?_ ?_;(exact rfl))|(refine qmE (t:=th) (pre:=({x with ka:=a2,kc:=c2,kD:=D2}:BG).pre (⟨s.d,s.tk,th,[],[],[],ad⟩:BM)) (post:=x.post (⟨s.d,[],th,[],[],[],ad⟩:BM) false) (n:=th.pc+1) ?_ ?_ ?_;(omega);(exact rfl))|(refine fB ?_))
 generalize hz:q5e c ph.p ph.p.length ⟨s.d,s.tk,{th with pc:=th.pc+1},[],[],[],ad⟩=z at htx
 obtain⟨zb,zo⟩:=z
 dsimp only at htx
 refine q0Z (σ:=Nat×BM×BG×Int×Bool) (fun y=> [(11, .int .i64 y.2.2.2.1)]) (fun y=>y.2.2.1.O y.2.1 y.2.2.2.2++(g.O c ps.length s++(ChB b3 t 0 aa ad.length ac::q)))
  (fun y=>y.2.2.1.xb=x.xb∧((y.2.2.2.2=false∧y.2.2.1.ok W0 K y.2.1∧BI c y.2.1∧y.2.1.t.pc≤e'∧((y.2.2.2.1=0∧q5e c ph.p y.1 y.2.1=(zb,zo)∧th.pc<y.2.1.t.pc∧e'<y.1+y.2.1.t.pc)∨(0<y.2.2.2.1∧y.2.2.2.1≤8∧(y.2.1.go,y.2.2.2.1)=(zb,zo))))∨(y.2.2.2.2=true∧y.2.2.2.1=0∧zo= -1)))
  (fun y=>if y.2.2.2.1=0∧y.2.2.2.2=false then y.1+1 else 0) (ph.p.length,⟨s.d,s.tk,{th with pc:=th.pc+1},[],[],[],ad⟩,{x with ka:=a2,kc:=c2,kD:=D2},0,false)
  ⟨rfl, .inl ⟨rfl,⟨hxok.d,hb2,hxok.a,hxok.al,hxok.r,hxok.w,hxok.o⟩,hBI,(by show th.pc+1≤e';omega), .inl ⟨rfl,hz,Nat.lt_succ_self _,by show e'<ph.p.length+(th.pc+1);omega⟩⟩⟩ (eF) qpn rfl ?_
 rintro⟨n,b1,x1,out,bad⟩ junk ⟨hxb,hI⟩
 dsimp only at hxb hI ⊢
 rw[←hxb]
 rcases hI with ⟨rfl,hok,hbi,hk2,⟨rfl,hrun,hk1,hk3⟩|⟨ho1,ho2,hrun⟩⟩|⟨rfl,rfl,hzn⟩
 ·obtain⟨xi,hxi,hi, -,n7,n12,n13,n16,n17⟩:=qiu hp hx0 h7 hk1 (by rw[he'];exact hk2)
  obtain⟨m,rfl⟩:∃m,n=m+1:=⟨n-1,by omega⟩
  have hst1:=qaC hp hx0 h7 hk1 (by rw[he'];exact hk2) hxi (c:=c) (b:=b1) rfl
  have hso:=qeo (c:=c) (b:=b1) hi hbi
  have hse:=qip (c:=c) (b:=b1) (x:=xi)
  rw[q5e,hxi] at hrun
  simp only at hrun
  have h18:=(q2l hi).1
  have hop:isL xi=true∨xi.op=8∨xi.op=9∨xi.op=10∨xi.op=11∨xi.op=14∨xi.op=15:=by simp only[isL,decide_eq_true_eq];omega
  have hin:=qp0 (dp:=g) (np:=ps.length) (s:=s) hok hi hop hT.c0 hbi (by omega) (ChB b3 t 0 aa ad.length ac::q)
  generalize q18 c b1 xi=y at*
  repeat'((try(conv=>whnf));first|(refine fH ?_)|(refine fE ?_)|(refine q8F (t:=b1.t) (pre:=x1.pre b1) (post:=x1.post b1 false) (k:=0) (v:= .int .i64 b1.t.pc) rfl ?_ ?_;(exact rfl))|((with_reducible show IxS _ _ _ _ _);first|((refine ixE hPR hxi ?_ ?_;(first|rfl|omega))))|((with_reducible show LdN _ _ _ _ _);first|(refine q2e hPR hxi rfl ?_))|((with_reducible show qf _ _ _ _ _ _);first|((refine q3r hin ?_ ?_ ?_ (fun v hv=> ?_) (fun y2 v hv=> ?_);(exact Ent.refl);(exact rfl);(exact rfl);all_goals(apply Stop.h))))|(refine fA ?_))
  ·obtain⟨rfl,hz1⟩:=hv
   refine Stop.mk ?_
   refine⟨(m,b1,x1,0,true),⟨rfl, .inr ⟨rfl,rfl,?_⟩⟩,by simp,(eF),Ent.refl⟩
   rw[if_neg (by omega)] at hrun
   rw[hrun] at hz1
   exact hz1
  ·obtain⟨rfl,hz1,hok2,hxb2,h20,h2n⟩:=hv
   refine Stop.mk ?_
   by_cases h0:y.2=0
   ·have:=hst1 h0
    have hy2:=h20 h0
    rw[if_pos h0] at hrun
    refine⟨(m,y2.2,y2.1,y.2,false),⟨hxb2, .inl ⟨rfl,hok2,by rw[hy2];exact hso hz1,?_, .inl ⟨h0,by rw[hy2];exact hrun,?_,?_⟩⟩⟩,?_,(eF),Ent.refl⟩
    ·show y2.2.t.pc≤e';rw[hy2];omega
    ·show th.pc<y2.2.t.pc;rw[hy2];omega
    ·show e'<m+y2.2.t.pc;rw[hy2];omega
    ·dsimp only;split <;>simp
   ·have hy2:=h2n h0
    rw[if_neg h0] at hrun
    obtain⟨he1,he2,he3⟩:=hse h0 hz1
    refine⟨(m,y2.2,y2.1,y.2,false),⟨hxb2, .inl ⟨rfl,hok2,by rw[hy2];exact hbi,by rw[hy2];exact hk2, .inr ⟨he2,he3,?_⟩⟩⟩,?_,(eF),Ent.refl⟩
    ·rw[hy2]
     dsimp only
     rw[←he1]
     exact hrun
    ·simp[h0]
 ·obtain⟨rfl,rfl⟩:=Prod.mk.inj hrun
  have ho9:¬out=0:=by omega
  have hadg:b1.go.ad=b1.ad:=rfl
  by_cases had0:b1.ad= []
  ·have hl:¬(0:Int)<b1.ad.length:=by rw[had0];simp
   rw[if_neg (fun h=>h.elim (fun h=>by omega) (fun h=>h had0))] at htx
   have hev:=qmq (c:=c) (W0:=W0) h t 3 0 (ra:=none) (wa:=none) (rl:= []) (wl:= []) (rc:=0) (wc:=0) RdE.nil RdE.nil (by have:=hT.el;omega) (x1.O b1 false++(ChB b3 t 0 aa ad.length ac::q))
   repeat'((try(conv=>whnf));first|(refine fH ?_)|(refine fI ?_)|(refine fD ?_)|(refine fG ?_)|(refine fK ?_)|((with_reducible show qf _ _ _ _ _ _);first|((refine qm hev ?_ ?_ ?_ (fun g1 v hg1=> ?_);(exact Ent.of_perm (List.perm_append_comm_assoc _ _ _));(exact rfl);(exact rfl);(apply Stop.h))))|(refine fA ?_))
   obtain⟨hk1,hg1⟩:=hg1
   have hrb1:g1.rb=g.rb:=by rw[hg1]
   have hta1:g1.ta=g.ta:=by rw[hg1]
   rw[←hrb1,←hta1]
   refine Stop.mk ?_
   refine q4H (σ:=GS×DP×BG×BM×Thr) (2 ^ 199-2 ^ 152) (fun _=> []) (fun y=>thB y.2.2.1.xb 174 (y.2.2.1.pre y.2.2.2.1) (y.2.2.1.post y.2.2.2.1 false) y.2.2.2.1.t::(y.2.1.O c ps.length y.1++(ChB b3 t 0 aa ad.length ac::q))) (TxE W0 Kp g1 c ps s t th ph ad e' out x1.xb) rfl ?_ ?_
   ·by_cases ho:out=1
    ·subst ho
     rw[if_pos rfl] at htx
     have htS1:t<g1.S.length:=by
      have h1:=congrArg List.length hk1.ol
      rw[List.length_map] at h1
      have h2:(s.ev [⟨s.n,t,3,0,[],[]⟩]).O.length=s.O.length:=rfl
      omega
     obtain⟨xo,hxo1⟩:∃xo,g1.S[t]? =some xo:=⟨_,List.getElem?_eq_getElem htS1⟩
     have hxm1:=List.mem_of_getElem? hxo1
     have hB:=hk1.os xo hxm1
     have hxl:xo.l.length≤500000:=hT.ob xo.l (by have:=List.mem_map_of_mem (f:=ObS.l) hxm1;rw[hk1.ol] at this;exact this)
     have hOO:=hk1.o
     have hOR:=hOO.rd (W0:=W0)
     have hTR1:=hk1.t.rd (W0:=W0)
     have hoR:=hok.o.rd (W0:=W0)
     have hbo:=hbi.ol
     have hb64:b1.t.pc≤100:=by omega
     dsimp only[DP.O]
     rw[q3k hxo1]
     repeat'((try(conv=>whnf));first|(refine fE ?_)|(refine qio b1.t.rg hk1.t hth ?_ ?_ ?_ ?_;(exact rfl);omega;(exact rfl);intro D1 hb1)|(refine qiO hB hoR rfl rfl (by omega) (fun _ _=>rfl) (fun _=>by omega) (fun a5 c5 D5 hb5=> ?_))|(apply q5Q (enc:=ObS.enc) (T:=124) (j:=t) (k:=0) ⟨a5,c5,xo.l++b1.o,D5⟩ hOO hxo1;(exact rfl);(omega);(simp only[ObS.enc,List.length_append];exact rfl);(exact rfl);intro D6 hb6)|((with_reducible show Ld _ _ _ _);first|(refine q1M hOR hxo1 rfl ?_))|((with_reducible show IxS _ _ _ _ _);first|((refine ixE hOR hxo1 ?_ ?_;(first|rfl|omega))))|(refine fA ?_)|(refine fQ ?_)|(refine fN ?_)|(refine q4T.mk ?_ ?_))
     all_goals
      have ho:=hk1.obs hxo1 hb5 hb6
      refine⟨({(s.ev [⟨s.n,t,3,0,[],[]⟩]) with d:=b1.d,tk:=b1.tk,T:=s.T.set t {th with rg:=b1.t.rg},O:=s.O.set t (s.O.getD t []++b1.o)},{g1 with da:=x1.da,dc:=x1.dc,dD:=x1.dD,ka:=x1.ka,kc:=x1.kc,kD:=x1.kD,tD:=D1,oD:=D6,S:=g1.S.set t ⟨a5,c5,xo.l++b1.o,D5⟩,X:=x1.rD++(x1.wD++g1.X)},x1,b1,{th with rg:=b1.t.rg}),
       ⟨⟨hok.d,hok.m,hk1.k,hk1.kp,hb1,hk1.e,hk1.em,fun e he=>⟨(hk1.ev e he).1.up,(hk1.ev e he).2.up⟩,ho.o,ho.os,ho.ol⟩,rfl,rfl,rfl,List.getElem?_set_self htl,by simpa using htO,fun l hl=>qjA hT.ob (a:=b1.o) (by omega) l hl,by have:=hT.el;simp only[GS.ev,List.length_append,List.length_cons,List.length_nil];omega,rfl,(hok.r.rd (W0:=W0)).up,(hok.w.rd (W0:=W0)).up,?_⟩,trivial,?_⟩
      ·rw[htx]
       dsimp only[BM.go]
       simp only[exS,GS.fin,GS.ev,GS.mem,List.set_set,qi2 htO,List.append_assoc,List.cons_append,List.nil_append]
      ·dsimp only[DP.O,DP.cells,GS.ev]
       rw[qbr hxo1]
       simp only[List.length_set]
       exact qpo
    ·rw[if_neg ho] at htx
     repeat'((try(conv=>whnf));first|(refine fG ?_)|(refine qr9 (t:=b1.t) (pre:=x1.pre b1) (post:=x1.post b1 false) (({x1 with wa:=none,wc:=0}:BG).post ({b1 with w:= []}:BM) false) rfl rfl ?_ ?_;(simp)))
     all_goals
      refine⟨(s.ev [⟨s.n,t,3,0,[],[]⟩],{g1 with X:=x1.rD++g1.X},{x1 with wa:=none,wc:=0},{b1 with w:= []},th),
       ⟨⟨hk1.d,hk1.m,hk1.k,hk1.kp,hk1.t,hk1.e,hk1.em,fun e he=>⟨(hk1.ev e he).1.up,(hk1.ev e he).2.up⟩,hk1.o,hk1.os,hk1.ol⟩,rfl,rfl,rfl,hth,htO,fun l hl=>by have:=hT.ob l hl;omega,by have:=hT.el;simp only[GS.ev,List.length_append,List.length_cons,List.length_nil];omega,rfl,(hok.r.rd (W0:=W0)).up,RdE.nil,?_⟩,trivial,qpp⟩
      rw[htx]
      dsimp only[BM.go]
      simp only[exS,GS.fin,GS.ev,List.set_set,List.append_assoc,List.cons_append,List.nil_append]
   ·rintro⟨s2,g2,x2,b2,th2⟩ junk ⟨hk2,hrb2,hta2,hxb2,hth2,htO2,hob2,hel2,hn2,hr2,hw2,htx2⟩
    dsimp only at hk2 hrb2 hta2 hxb2 hth2 htO2 hob2 hel2 hn2 hr2 hw2 htx2 ⊢
    rw[←hrb2,←hta2,←hxb2]
    have htl2:=(List.getElem?_eq_some_iff.1 hth2).1
    have hev2:=qmq (c:=c) hk2 t 4 0 (rc:=x2.rc) (wc:=x2.wc) hr2 hw2 (by omega) ([thB x2.xb 174 (x2.pre b2) (x2.post b2 false) b2.t]++(ChB b3 t 0 aa ad.length ac::q))
    repeat'((try(conv=>whnf));first|((with_reducible show qf _ _ _ _ _ _);first|((refine qm hev2 ?_ ?_ ?_ (fun g3 v hg3=> ?_);(exact qpr);(exact rfl);(exact rfl);(apply Stop.h))))|(refine fA ?_))
    obtain⟨hk3,hg3⟩:=hg3
    have hrb3:g3.rb=g2.rb:=by rw[hg3]
    have hta3:g3.ta=g2.ta:=by rw[hg3]
    rw[←hrb3,←hta3]
    have hT3:=hk3.t
    have hth4:(s2.T.set t {th2 with oc:=out})[t]? =some {th2 with oc:=out}:=List.getElem?_set_self htl2
    have htS3:t<g3.S.length:=by
     have h1:=congrArg List.length hk3.ol
     rw[List.length_map] at h1
     have h2:(s2.ev [⟨s2.n,t,4,0,b2.r,b2.w⟩]).O.length=s2.O.length:=rfl
     omega
    have hse:=fun(D2:Own) (hb2:qr Thr.enc 61 11 g3.ta g3.tc ((s2.T.set t {th2 with oc:=out}).set t {th2 with oc:=out,pc:=e'+1}) D2)=>
     qmD (c:=c) (g:={g3 with tD:=D2}) (s:={(s2.ev [⟨s2.n,t,4,0,b2.r,b2.w⟩]) with T:=(s2.T.set t {th2 with oc:=out}).set t {th2 with oc:=out,pc:=e'+1}}) (ps:=ps) (W0:=W0) (Kp:=Kp) ⟨hk3.d,hk3.m,hk3.k,hk3.kp,hb2,hk3.e,hk3.em,hk3.ev,hk3.o,hk3.os,hk3.ol⟩ htS3 hob2 th.pc 3 out ([thB x2.xb 174 (x2.pre b2) (x2.post b2 false) b2.t]++(ChB b3 t 0 aa ad.length ac::q))
    refine Stop.mk ?_
    repeat'((try(conv=>whnf));first|(apply q5Q (enc:=Thr.enc) (T:=61) (j:=t) (k:=9) {th2 with oc:=out} hT3 hth2;(exact rfl);(omega);(exact rfl);(exact rfl);intro D1 hb1)|(apply q5Q (enc:=Thr.enc) (T:=61) (j:=t) (k:=0) {th2 with oc:=out,pc:=e'+1} hb1 hth4;(exact rfl);(omega);(exact rfl);(exact rfl);intro D2 hb2)|((with_reducible show qf _ _ _ _ _ _);first|((refine qm (hse D2 hb2) ?_ ?_ ?_ (fun g4 v hg4=> ?_);(dsimp only[DP.O,DP.cells,GS.ev];rw[List.length_set,List.length_set];exact(eC));(exact rfl);(exact rfl);(obtain⟨hk4,hg4, -⟩:=hg4))))|(refine fB ?_)|(refine fC ?_)|(refine fA ?_))
    refine .inr ⟨({(s2.ev [⟨s2.n,t,4,0,b2.r,b2.w⟩]) with T:=(s2.T.set t {th2 with oc:=out}).set t {th2 with oc:=out,pc:=e'+1},O:=s2.O.set t (s2.O.getD t []++ [⟨th.pc,3,out⟩])},g4,{th2 with oc:=out,pc:=e'+1}),⟨rfl,?_,htx2,hn2,hk4,by rw[hg4]⟩,qpq⟩
    show((s2.T.set t {th2 with oc:=out}).set t {th2 with oc:=out,pc:=e'+1})[t]? =_
    rw[List.getElem?_set_self (by rw[List.length_set];exact htl2)]
  ·have hl:(0:Int)<b1.ad.length:=by
    have:b1.ad.length≠0:=fun h=>had0 (List.eq_nil_of_length_eq_zero h)
    omega
   rw[if_pos (.inr had0)] at htx
   repeat'((try(conv=>whnf));first|(refine fH ?_)|(refine fI ?_)|(refine fD ?_)|(refine fF ?_)|(refine fK ?_)|(refine fA ?_))
   exact .inl ⟨⟨rfl,htx⟩,qoh⟩
 ·subst hzn
  rw[if_pos (.inl rfl)] at htx
  repeat'((try(conv=>whnf));first|(refine fH ?_)|(refine fI ?_)|(refine fE ?_)|(refine fD ?_)|(refine fA ?_))
  exact .inl ⟨⟨rfl,htx⟩,qoh⟩
end
open Go
section
variable{W0:World}{Kp K:Own}{g:DP}{c:Cfg}{ps:List PH}{s:GS}
theorem qr8{t:Nat}{th:Thr}{ph:PH}(hT:qk7 c ps s t th ph)(h:g.ok W0 Kp ps s)(hp:qx ph.p=(0,0)){x0:Ins}(hx0:ph.p[th.pc]? =some x0)(h7:x0.op=7)(hst:stB ph.p th.pc<0)(htk:s.tk.length=(qy c).toNat)(f:Int){aa:Option Addr}{ad:List Int}{ac:Nat}(hA:RdE qM 1 W0 K aa ad)(hal:ad.length≤ac)(had:∀a∈ad,a≤9223372036854775807)(q:Own) [ek:qt q Kp] [ek2:qt q K]:
  q0E Tryz.prog W0 74 [.pointer (some ⟨g.rb,0,none⟩),chV t f aa ad.length ac] (g.O c ps.length s++q) (TxP W0 Kp g c ps s t th ph f ad q):=by
 by_cases hf:f=0
 ·subst hf
  exact qqh hT h hp hx0 h7 hst htk hA hal had q
 ·exact qqi hT h hp hx0 h7 hst hf q
theorem qof{W0:World}{e b:Nat×(Obj→Prop)}{G q:Own}:Ent W0 (e::(b::(G++q))) (G++([e,b]++q)):=qo []
theorem qn3{W0:World}{e b:Nat×(Obj→Prop)}{G q:Own}:Ent W0 (G++([e,b]++q)) (G++q):=qo [e,b]
theorem qpQ(h:g.ok W0 Kp ps s)(hG:GOk c (ps.map PH.p) s)(hn:s.n≤5000)(t f:Int){aa:Option Addr}{ad:List Int}{ac:Nat}(hA:RdE qM 1 W0 K aa ad)(hal:ad.length≤ac)(had:∀a∈ad,a≤9223372036854775807)(q:Own) [ek:qt q Kp] [ek2:qt q K]:
  q0E Tryz.prog W0 45 [.pointer (some ⟨g.rb,0,none⟩),chV t f aa ad.length ac] (g.O c ps.length s++q) fun v own'=>∃g':DP,
   (v= .int .i64 (doM c (ps.map PH.p) s ⟨t,f,ad⟩).1∧g'.ok W0 Kp ps (doM c (ps.map PH.p) s ⟨t,f,ad⟩).2∧g'.rb=g.rb)∧Ent W0 own' (g'.O c ps.length (doM c (ps.map PH.p) s ⟨t,f,ad⟩).2++q):=by
 refine qa qj qmK (by simp[qlP]) ?_
 have hTR:=h.t.rd (W0:=W0)
 by_cases hr:t<0∨(s.T.length:Int)≤t∨∃(j:Nat) (th:Thr),t=j∧s.T[j]? =some th∧th.dn=true
 ·have hd:doM c (ps.map PH.p) s ⟨t,f,ad⟩=(70,s):=by
   unfold doM chM
   rcases hr with hr|hr|⟨j,th,rfl,hth,hdn⟩
   ·rw[if_pos hr]
   ·by_cases h0:t<0
    ·rw[if_pos h0]
    ·rw[if_neg h0,List.getElem?_eq_none (by show s.T.length≤t.toNat;omega)]
   ·rw[if_neg (by show ¬((j:Nat):Int)<0;omega)]
    simp only[Int.toNat_natCast,hth]
    cases hp:(ps.map PH.p)[j]? with
    |none=>rfl
    |some p=>simp only[hdn,if_true]
  rw[hd]
  rcases hr with ht|ht|⟨j,th,rfl,hth,hdn⟩
  ·repeat'((try(conv=>whnf));first|(refine fI ?_)|(refine fE ?_)|(refine fJ ?_)|(refine fA ?_)|(refine qc (fun bk hbk=> ?_)))
   all_goals exact⟨g,⟨rfl,h,rfl⟩,(eC)⟩
  ·by_cases h0:t<0
   all_goals
    repeat'((try(conv=>whnf));first|(refine fH ?_)|(refine fI ?_)|(refine fE ?_)|(refine fJ ?_)|(refine fK ?_)|(refine fA ?_)|(refine qc (fun bk hbk=> ?_)))
    all_goals exact⟨g,⟨rfl,h,rfl⟩,(eC)⟩
  ·have htl:=(List.getElem?_eq_some_iff.1 hth).1
   obtain⟨pc,rg,oc,dn⟩:=th
   dsimp only at hdn
   subst hdn
   repeat'((try(conv=>whnf));first|(refine fH ?_)|(refine fE ?_)|(refine fK ?_)|((with_reducible show Ld _ _ _ _);first|(refine qgp hTR hth rfl ?_))|((with_reducible show IxS _ _ _ _ _);first|((refine ixE hTR hth ?_ ?_;(first|rfl|omega))))|(refine fA ?_)|(refine qc (fun bk hbk=> ?_)))
   all_goals exact⟨g,⟨rfl,h,rfl⟩,(eC)⟩
 ·have ht0:0≤t∧t<s.T.length:=⟨by omega,by omega⟩
  obtain⟨j,rfl⟩:=Int.eq_ofNat_of_zero_le ht0.1
  have hjl:j<s.T.length:=by omega
  obtain⟨th,hth⟩:∃th,s.T[j]? =some th:=⟨_,List.getElem?_eq_getElem hjl⟩
  have htl:=hG.tl
  rw[List.length_map] at htl
  obtain⟨ph,hph⟩:∃ph,ps[j]? =some ph:=⟨_,List.getElem?_eq_getElem (by omega)⟩
  have hpp:=qjH hph
  have hpv:=hG.pv ph.p (List.mem_of_getElem? hpp)
  obtain⟨hrg,hpc,hst,hdn,hoc⟩:=hG.th j th ph.p hth hpp
  have hdf:th.dn=false:=by
   cases hd:th.dn with
   |false=>rfl
   |true=>exact absurd (.inr (.inr ⟨j,th,rfl,hth,hd⟩)) hr
  have hpcl:th.pc<ph.p.length:=by
   rw[hdf] at hdn
   have:=of_decide_eq_false hdn.symm
   omega
  obtain⟨x,hx⟩:∃x,ph.p[th.pc]? =some x:=⟨_,List.getElem?_eq_getElem hpcl⟩
  have hpl:=q6A hpv
  have hxi:=qgx hpv hx hst
  have hT:qk7 c ps s j th ph:=⟨hth,hph,hG.c0,hrg,hG.dl,hG.dr,by rw[hG.ol,hG.tl],fun l hl=>by have:=hG.ob l hl;omega,by have:=hG.el;omega⟩
  have hd:doM c (ps.map PH.p) s ⟨j,f,ad⟩=match (if x.op=7 then txM c ph.p s th j f ad else if ad= [] then sgM c ph.p s th j f x else none) with
   |some s'=>(0,{s' with n:=s.n+1})
   |none=>(70,s):=by
   unfold doM chM
   rw[if_neg (by show ¬((j:Nat):Int)<0;omega)]
   simp only[Int.toNat_natCast,hth,hpp,hdf,Bool.false_eq_true,if_false,hx]
   cases (if x.op=7 then txM c ph.p s th j f ad else if ad= [] then sgM c ph.p s th j f x else none) <;>rfl
  rw[hd]
  clear hd
  have hPR:=h.kp ph (List.mem_of_getElem? hph)
  have hKK:=h.k
  have e1:((s.n+1:Nat):Int)=(s.n:Int)+1:=by omega
  have hfin:∀(y:GS×DP×Thr),y.2.1.ok W0 Kp ps y.1→y.1.T[j]? =some y.2.2→∀D,qr Thr.enc 61 11 y.2.1.ta y.2.1.tc (y.1.T.set j {y.2.2 with dn:=decide (y.2.2.pc=ph.p.length)}) D→({y.2.1 with tD:=D}:DP).ok W0 Kp ps {(exS y.1 j ph.p.length y.2.2) with n:=s.n+1}:=fun y hk _ D hD=>
   ⟨hk.d,hk.m,hk.k,hk.kp,hD,hk.e,hk.em,hk.ev,hk.o,hk.os,hk.ol⟩
  by_cases h7:x.op=7
  ·rw[if_pos h7]
   have hbe:=fun(b1 b2:Nat)=>qr8 (c:=c) hT h hpv hx h7 hst hG.kl f hA hal had ([(b2,fun o=>o=Obj.cells x.enc.toArray 69 (0,0)),ChB b1 j f aa ad.length ac]++q)
   generalize ho:txM c ph.p s th j f ad=o
   obtain⟨pc,rg,oc,dn⟩:=th
   dsimp only at hdf hx hpcl hpc
   subst hdf
   obtain⟨op,a,b',c',imm⟩:=x
   dsimp only[Ins.v] at*
   subst h7
   repeat'((try(conv=>whnf));first|(refine qc (fun b1 hb1=> ?_);(apply Stop.h)))
   refine Stop.mk ?_
   repeat'((try(conv=>whnf));first|(refine fH ?_)|(refine fE ?_)|(refine fD ?_)|(refine fK ?_)|(refine qc (fun b2 hb2=> ?_))|((with_reducible show Ld _ _ _ _);first|(refine q1M hTR hth rfl ?_)|(refine qgp hTR hth rfl ?_)|(refine q1M hKK hph rfl ?_))|((with_reducible show IxS _ _ _ _ _);first|((refine ixE hTR hth ?_ ?_;(first|rfl|omega)))|((refine ixE hKK hph ?_ ?_;(first|rfl|omega)))|((refine ixE hPR hx ?_ ?_;(first|rfl|omega))))|((with_reducible show LdN _ _ _ _ _);first|(refine q2e hPR hx rfl ?_))|((with_reducible show qf _ _ _ _ _ _);first|((refine q3r (hbe b1 b2) ?_ ?_ ?_ (fun v hv=> ?_) (fun y v hv=> ?_);(exact qof);(exact rfl);(exact rfl);all_goals(apply Stop.h))))|(refine fA ?_)|(refine fL ?_)|(refine fM ?_))
   ·obtain⟨rfl,hv2⟩:=hv
    rw[ho] at hv2
    subst hv2
    refine Stop.mk ?_
    repeat'((try(conv=>whnf));first|(refine fE ?_))
    exact⟨g,⟨rfl,h,rfl⟩,qn3⟩
   ·obtain⟨rfl,hth1,hv2,hn1,hk1,hrb1⟩:=hv
    rw[ho] at hv2
    subst hv2
    have hT1:=hk1.t
    have hTR1:=hT1.rd (W0:=W0)
    have hKK1:=hk1.k
    have hfn:=hfin y hk1 hth1
    have hdd:decide ((y.2.2.pc:Int)=ph.p.length)=decide (y.2.2.pc=ph.p.length):=dd (by omega)
    rw[←hrb1]
    refine Stop.mk ?_
    repeat'((try(conv=>whnf));first|(refine fD ?_)|(apply q5Q (enc:=Thr.enc) (T:=61) (j:=j) (k:=10) {y.2.2 with dn:=decide (y.2.2.pc=ph.p.length)} hT1 hth1;(exact rfl);(omega);(rw[hdd];exact rfl);(exact rfl);intro D2 hb2)|((with_reducible show Ld _ _ _ _);first|(refine q1M hTR1 hth1 rfl ?_)|(refine q1M hKK1 hph rfl ?_))|((with_reducible show IxS _ _ _ _ _);first|((refine ixE hTR1 hth1 ?_ ?_;(first|rfl|omega)))|((refine ixE hKK1 hph ?_ ?_;(first|rfl|omega))))|(refine fB ?_)|(refine fA ?_)|(refine fN ?_))
    all_goals
     refine⟨{y.2.1 with tD:=D2},⟨rfl,hfn D2 hb2,rfl⟩,?_⟩
     dsimp only[DP.O,DP.cells,exS]
     rw[List.length_set,e1,←hn1]
     exact qn3
  ·rw[if_neg h7]
   by_cases had0:ad= []
   ·rw[if_pos had0]
    have hl:(ad.length:Int)=0:=by rw[had0];rfl
    have hsi:=fun(b1 b2:Nat)=>qoA (c:=c) hT h hxi.1 (by omega) ⟨hpcl,hpl⟩ f aa ad.length ac ([(b2,fun o=>o=Obj.cells x.enc.toArray 69 (0,0)),ChB b1 j f aa ad.length ac]++q)
    generalize sgM c ph.p s th j f x=o at*
    obtain⟨pc,rg,oc,dn⟩:=th
    dsimp only at hdf hx hpcl hpc
    subst hdf
    obtain⟨op,a,b',c',imm⟩:=x
    dsimp only[Ins.v] at*
    repeat'((try(conv=>whnf));first|(refine qc (fun b1 hb1=> ?_);(apply Stop.h)))
    refine Stop.mk ?_
    repeat'((try(conv=>whnf));first|(refine fH ?_)|(refine fD ?_)|(refine fG ?_)|(refine fJ ?_)|(refine fK ?_)|(refine qc (fun b2 hb2=> ?_))|((with_reducible show Ld _ _ _ _);first|(refine q1M hTR hth rfl ?_)|(refine qgp hTR hth rfl ?_)|(refine q1M hKK hph rfl ?_))|((with_reducible show IxS _ _ _ _ _);first|((refine ixE hTR hth ?_ ?_;(first|rfl|omega)))|((refine ixE hKK hph ?_ ?_;(first|rfl|omega)))|((refine ixE hPR hx ?_ ?_;(first|rfl|omega))))|((with_reducible show LdN _ _ _ _ _);first|(refine q2e hPR hx rfl ?_))|((with_reducible show qf _ _ _ _ _ _);first|((refine q3r (hsi b1 b2) ?_ ?_ ?_ (fun v hv=> ?_) (fun y v hv=> ?_);(exact qof);(exact rfl);(exact rfl);all_goals(apply Stop.h))))|(refine fA ?_)|(refine fL ?_)|(refine fM ?_))
    ·obtain⟨rfl,rfl⟩:=hv
     refine Stop.mk ?_
     repeat'((try(conv=>whnf));first|(refine fE ?_))
     exact⟨g,⟨rfl,h,rfl⟩,qn3⟩
    ·obtain⟨rfl,hth1,rfl,hn1,hk1,hrb1⟩:=hv
     have hT1:=hk1.t
     have hTR1:=hT1.rd (W0:=W0)
     have hKK1:=hk1.k
     have hfn:=hfin y hk1 hth1
     have hdd:decide ((y.2.2.pc:Int)=ph.p.length)=decide (y.2.2.pc=ph.p.length):=dd (by omega)
     rw[←hrb1]
     refine Stop.mk ?_
     repeat'((try(conv=>whnf));first|(refine fD ?_)|(apply q5Q (enc:=Thr.enc) (T:=61) (j:=j) (k:=10) {y.2.2 with dn:=decide (y.2.2.pc=ph.p.length)} hT1 hth1;(exact rfl);(omega);(rw[hdd];exact rfl);(exact rfl);intro D2 hb2)|((with_reducible show Ld _ _ _ _);first|(refine q1M hTR1 hth1 rfl ?_)|(refine q1M hKK1 hph rfl ?_))|((with_reducible show IxS _ _ _ _ _);first|((refine ixE hTR1 hth1 ?_ ?_;(first|rfl|omega)))|((refine ixE hKK1 hph ?_ ?_;(first|rfl|omega))))|(refine fB ?_)|(refine fA ?_)|(refine fN ?_))
     all_goals
      refine⟨{y.2.1 with tD:=D2},⟨rfl,hfn D2 hb2,rfl⟩,?_⟩
      dsimp only[DP.O,DP.cells,exS]
      rw[List.length_set,e1,←hn1]
      exact qn3
   ·rw[if_neg had0]
    have hl:¬(ad.length:Int)=0:=fun e=>had0 (List.eq_nil_of_length_eq_zero (by omega))
    obtain⟨pc,rg,oc,dn⟩:=th
    dsimp only at hdf hx hpcl hpc
    subst hdf
    obtain⟨op,a,b',c',imm⟩:=x
    dsimp only[Ins.v] at*
    repeat'((try(conv=>whnf));first|(refine fH ?_)|(refine fI ?_)|(refine fE ?_)|(refine fD ?_)|(refine fG ?_)|(refine fK ?_)|((with_reducible show Ld _ _ _ _);first|(refine q1M hTR hth rfl ?_)|(refine qgp hTR hth rfl ?_)|(refine q1M hKK hph rfl ?_))|((with_reducible show IxS _ _ _ _ _);first|((refine ixE hTR hth ?_ ?_;(first|rfl|omega)))|((refine ixE hKK hph ?_ ?_;(first|rfl|omega)))|((refine ixE hPR hx ?_ ?_;(first|rfl|omega))))|((with_reducible show LdN _ _ _ _ _);first|(refine q2e hPR hx rfl ?_))|(refine fA ?_)|(refine fM ?_)|(refine qc (fun bk hbk=> ?_)))
    exact⟨g,⟨rfl,h,rfl⟩,(eC)⟩
end
open Go
section
variable{W0:World}{own:Own}
theorem qqQ{bk b5:Nat×(Obj→Prop)}{D3 D4 D5 X Z:Own}:Ent W0 (bk::(D4++(D3++(b5::(D5++(X++Z)))))) (D5++((D3++(D4++X))++Z)):=qo [bk,b5]
theorem qnD{ea:Option Addr}{L:List EH}{ec:Nat}(hE:RdE EH.enc 6 W0 own ea L)(hl:L.length≤1000000)(hv:∀e∈L,(RdE qM 1 W0 own e.ra e.rl∧RdE qM 1 W0 own e.wa e.wl)∧e.rl.length≤1000000∧e.wl.length≤1000000):
  q0E Tryz.prog W0 76 [.slice ea L.length ec] own fun v own'=>∃y:List EH×Own×Option Addr×Nat×Own,
   (v= .slice y.2.2.1 y.1.length y.2.2.2.1∧y.1.map EH.m=L.map EH.m∧qr EH.enc 116 6 y.2.2.1 y.2.2.2.1 y.1 y.2.2.2.2∧∀e∈y.1,RdE qM 1 W0 y.2.1 e.ra e.rl∧RdE qM 1 W0 y.2.1 e.wa e.wl)∧Ent W0 own' (y.2.2.2.2++(y.2.1++own)):=by
 refine qa qj qmQ (by simp[qlR]) ?_
 refine q0Z (σ:=Nat×List EH×Own×Option Addr×Nat×Own) (fun y=> [(3, .slice y.2.2.2.1 y.2.1.length y.2.2.2.2.1),(4, .int .i64 y.1)])
  (fun y=>y.2.2.2.2.2++(y.2.2.1++own))
  (fun y=>y.1≤L.length∧y.2.1.map EH.m=(L.take y.1).map EH.m∧qr EH.enc 116 6 y.2.2.2.1 y.2.2.2.2.1 y.2.1 y.2.2.2.2.2∧∀e∈y.2.1,RdE qM 1 W0 y.2.2.1 e.ra e.rl∧RdE qM 1 W0 y.2.2.1 e.wa e.wl)
  (fun y=>L.length-y.1) (0,[],[],none,0,[]) ⟨Nat.zero_le _,rfl,qr.nil,fun _ h=>by cases h⟩ (eF) Ent.refl rfl ?_
 rintro⟨i,L',X',a',c',eD⟩ junk ⟨hi,hm,hB,hX⟩
 dsimp only at hi hm hB hX ⊢
 have hll:=qfi hm hi
 by_cases hil:i<L.length
 ·obtain⟨e,hx⟩:∃e,L[i]? =some e:=⟨_,List.getElem?_eq_getElem hil⟩
  have hem:=List.mem_of_getElem? hx
  obtain⟨⟨hvr,hvw⟩,hie⟩:=hv e hem
  obtain⟨ev,et,ekk,ew,era,erl,erc,ewa,ewl,ewc⟩:=e
  dsimp only at hvr hvw hie
  have hcr:=fun(own':Own) [qt own' own]=>qmM (cap:=erc) (RdE.up (own:=own') hvr) (by omega)
  have hcw:=fun(own':Own) [qt own' own]=>qmM (cap:=ewc) (RdE.up (own:=own') hvw) (by omega)
  repeat'((try(conv=>whnf));first|(refine fF ?_)|(refine qc (fun b5 h5=> ?_);(apply Stop.h))|((with_reducible show IxS _ _ _ _ _);first|((refine ixE hE hx ?_ ?_;(first|rfl|omega))))|((with_reducible show LdN _ _ _ _ _);first|(refine q2e hE hx rfl ?_)))
  refine Stop.mk ?_
  repeat'((try(conv=>whnf));first|(apply q69 (enc:=EH.enc) (T:=116) ⟨ev,et,ekk,ew,a3,erl,c3,a4,ewl,c4⟩ hB;(exact rfl);(exact rfl);(omega);(exact rfl);(exact rfl);(omega);intro a9 c9 D5 hb1)|((with_reducible show qf _ _ _ _ _ _);first|((refine qZ (hcr _) ?_ ?_ (fun y v hv=> ?_);(exact rfl);(exact rfl);(obtain⟨a3,c3,D3⟩:=y;obtain⟨rfl,hB3⟩:=hv;dsimp only at hB3)))|((refine qZ (hcw _) ?_ ?_ (fun y v hv=> ?_);(exact rfl);(exact rfl);(obtain⟨a4,c4,D4⟩:=y;obtain⟨rfl,hB4⟩:=hv;dsimp only at hB4))))|(refine fB ?_)|(refine fA ?_)|(refine fL ?_)|(refine fN ?_)|(refine fM ?_)|(refine qc (fun bk hbk=> ?_))|(refine q4T.mk ?_ ?_))
  all_goals
   refine⟨(i+1,L'++ [⟨ev,et,ekk,ew,a3,erl,c3,a4,ewl,c4⟩],D3++(D4++X'),a9,c9,D5),⟨hil,qbQ hm hx rfl,hb1,fun e he=> ?_⟩,(by show L.length-(i+1)<L.length-i;omega),?_,?_⟩
   ·rcases List.mem_append.1 he with he|he
    ·exact⟨(hX e he).1.up,(hX e he).2.up⟩
    ·rw[List.mem_singleton.1 he]
     exact⟨RdE.up (hB3.rd (W0:=W0)),RdE.up (hB4.rd (W0:=W0))⟩
   ·have hlen:(L'++ [(⟨ev,et,ekk,ew,a3,erl,c3,a4,ewl,c4⟩:EH)]).length=L'.length+1:=by simp
    dsimp only
    rw[hlen]
    exact(eF)
   ·exact qqQ
 ·have hiN:i=L.length:=by omega
  subst hiN
  rw[List.take_length] at hm
  repeat'((try(conv=>whnf));first|(refine fG ?_))
  exact⟨(L',X',a',c',eD),⟨rfl,hm,hB,hX⟩,Ent.refl⟩
end
end Go.Proofs.YtkieffpjjfebjaaGreatDoor
