/- What the laws share, part 8. No condition. -/
import Derived.Test.YtkieffpjjfebjaaGreatDoorC7
set_option maxHeartbeats 16000000
set_option maxRecDepth 10000
namespace Go.Proofs.YtkieffpjjfebjaaGreatDoor
open Go
abbrev qmx(b:Bool):List Value:= [.bool b]
structure DP where
 rb:Nat
 iv:Value
 pa:Option Addr
 pc:Nat
 kv:Value
 da:Option Addr
 dc:Nat
 dD:Own
 ka:Option Addr
 kc:Nat
 kD:Own
 ta:Option Addr
 tc:Nat
 tD:Own
 ea:Option Addr
 ec:Nat
 eD:Own
 L:List EH
 X:Own
 oa:Option Addr
 oc:Nat
 oD:Own
 S:List ObS
abbrev DP.cells(g:DP)(c:Cfg)(np:Nat)(s:GS):List Value:=cfL c [g.iv, .slice g.pa np g.pc,g.kv, .slice g.da s.d.length g.dc, .slice g.ka s.tk.length g.kc, .slice g.ta s.T.length g.tc, .slice g.ea g.L.length g.ec, .slice g.oa g.S.length g.oc, .int .i64 s.n]
abbrev DP.O(g:DP)(c:Cfg)(np:Nat)(s:GS):Own:=(g.rb,fun o=>o=Obj.cells (g.cells c np s).toArray 106 (0,0))::(g.dD++(g.kD++(g.tD++(g.eD++(g.oD++(q5q g.S++g.X))))))
structure DP.ok(g:DP)(W0:World)(Kp:Own)(ps:List PH)(s:GS):Prop where
 d:qr q7j 58 1 g.da g.dc s.d g.dD
 m:qr qmx 4 1 g.ka g.kc s.tk g.kD
 k:RdE PH.enc 1 W0 Kp g.pa ps
 kp:∀h∈ps,RdE Ins.enc 5 W0 Kp h.a h.p
 t:qr Thr.enc 61 11 g.ta g.tc s.T g.tD
 e:qr EH.enc 116 6 g.ea g.ec g.L g.eD
 em:g.L.map EH.m=s.E
 ev:∀e∈g.L,RdE qM 1 W0 g.X e.ra e.rl∧RdE qM 1 W0 g.X e.wa e.wl
 o:qr ObS.enc 124 1 g.oa g.oc g.S g.oD
 os:∀x∈g.S,qr ObM.enc 127 3 x.a x.cap x.l x.D
 ol:g.S.map ObS.l=s.O
theorem DP.ok.ot{g:DP}{W0:World}{Kp:Own}{ps:List PH}{s:GS}(h:g.ok W0 Kp ps s){t:Nat}{x:ObS}(hx:g.S[t]? =some x):s.O.getD t []=x.l:=by
 rw[←h.ol]
 simp[List.getD,hx]
theorem DP.ok.obs{g:DP}{W0:World}{Kp:Own}{ps:List PH}{s:GS}(h:g.ok W0 Kp ps s){t:Nat}{x:ObS}(hx:g.S[t]? =some x){a:Option Addr}{cap:Nat}{D D':Own}{l:List ObM}(hb:qr ObM.enc 127 3 a cap (x.l++l) D)(hb2:qr ObS.enc 124 1 g.oa g.oc (g.S.set t ⟨a,cap,x.l++l,D⟩) D'):
  ({g with oD:=D',S:=g.S.set t ⟨a,cap,x.l++l,D⟩}:DP).ok W0 Kp ps {s with O:=s.O.set t (s.O.getD t []++l)}:=by
 refine⟨h.d,h.m,h.k,h.kp,h.t,h.e,h.em,h.ev,hb2,fun y hy=> ?_,?_⟩
 ·rcases List.mem_or_eq_of_mem_set hy with hy|rfl
  ·exact h.os y hy
  ·exact hb
 ·rw[h.ot hx,←h.ol,List.map_set]
section
variable{W0:World}{Kp:Own}{g:DP}{c:Cfg}{ps:List PH}{s:GS}
theorem qmD(h:g.ok W0 Kp ps s){t:Nat}(ht:t<g.S.length)(hl:∀l∈s.O,l.length≤1000000)(pc:Nat)(k v:Int)(q:Own):
  q0E Tryz.prog W0 105 [.pointer (some ⟨g.rb,0,none⟩), .int .i64 t, .int .i64 pc, .int .i64 k, .int .u64 v] (g.O c ps.length s++q) fun _ own'=>∃g':DP,
   (g'.ok W0 Kp ps {s with O:=s.O.set t (s.O.getD t []++ [⟨pc,k,v⟩])}∧g'={g with oD:=g'.oD,S:=g'.S}∧g'.S.length=g.S.length)∧Ent W0 own' (g'.O c ps.length {s with O:=s.O.set t (s.O.getD t []++ [⟨pc,k,v⟩])}++q):=by
 obtain⟨x,hx⟩:∃x,g.S[t]? =some x:=⟨_,List.getElem?_eq_getElem ht⟩
 have hxm:=List.mem_of_getElem? hx
 have hB:=h.os x hxm
 have hxl:x.l.length≤1000000:=hl x.l (by rw[←h.ol];exact List.mem_map_of_mem hxm)
 have hO:=h.o
 have hOR:=hO.rd (W0:=W0)
 refine qa qj qmH (by simp[qlL]) ?_
 dsimp only[DP.O]
 rw[q3k hx]
 repeat'((try(conv=>whnf));first|(apply q69 (enc:=ObM.enc) (T:=127) ⟨pc,k,v⟩ hB;(exact rfl);(exact rfl);(omega);(exact rfl);(exact rfl);(omega);intro a1 c1 D1 hb1)|(apply q5Q (enc:=ObS.enc) (T:=124) (j:=t) (k:=0) ⟨a1,c1,x.l++ [⟨pc,k,v⟩],D1⟩ hO hx;(exact rfl);(omega);(simp only[ObS.enc,List.length_append,List.length_cons,List.length_nil,Nat.zero_add];exact rfl);(exact rfl);intro D2 hb2)|((with_reducible show Ld _ _ _ _);first|(refine q1M hOR hx rfl ?_))|((with_reducible show IxS _ _ _ _ _);first|((refine ixE hOR hx ?_ ?_;(first|rfl|omega))))|(refine fA ?_)|(refine qc (fun bk hbk=> ?_))|(refine q4T.mk ?_ ?_))
 all_goals
  refine⟨{g with oD:=D2,S:=g.S.set t ⟨a1,c1,x.l++ [⟨pc,k,v⟩],D1⟩},⟨h.obs hx hb1 hb2,rfl,List.length_set ..⟩,?_⟩
  dsimp only[DP.O,DP.cells]
  rw[qbr hx,List.length_set]
  exact(eC)
theorem qqH{e:Nat×(Obj→Prop)}{D A B C E F S X q:Own}:Ent W0 (D++((e::(A++(B++(C++(E++(F++(S++X)))))))++q)) ((e::(A++(B++(C++(E++(F++(S++(D++X))))))))++q):=qo []
theorem DP.perm_X{D:Own}{q:Own}:Ent W0 (D++(g.O c ps.length s++q)) (({g with X:=D++g.X}:DP).O c ps.length s++q):=by
 dsimp only[DP.O]
 exact qqH
theorem qmq(h:g.ok W0 Kp ps s)(t k w:Int){ra wa:Option Addr}{rl wl:List Int}{rc wc:Nat}(h1:RdE qM 1 W0 g.X ra rl)(h2:RdE qM 1 W0 g.X wa wl)(hl:s.E.length≤1000000)(q:Own):
  q0E Tryz.prog W0 107 [.pointer (some ⟨g.rb,0,none⟩), .int .i64 t, .int .i64 k, .int .i64 w, .slice ra rl.length rc, .slice wa wl.length wc] (g.O c ps.length s++q) fun _ own'=>∃g':DP,
   (g'.ok W0 Kp ps (s.ev [⟨s.n,t,k,w,rl,wl⟩])∧g'={g with ea:=g'.ea,ec:=g'.ec,eD:=g'.eD,L:=g'.L})∧Ent W0 own' (g'.O c ps.length (s.ev [⟨s.n,t,k,w,rl,wl⟩])++q):=by
 refine qa qj qmv (by simp[qR]) ?_
 have hE:=h.e
 have hLl:g.L.length≤1000000:=by rw[←h.em,List.length_map] at hl;exact hl
 dsimp only[DP.O]
 repeat'((try(conv=>whnf));first|(apply q69 (enc:=EH.enc) (T:=116) ⟨s.n,t,k,w,ra,rl,rc,wa,wl,wc⟩ hE;(exact rfl);(exact rfl);(omega);(exact rfl);(exact rfl);(omega);intro a1 c1 D1 hb1)|(refine fA ?_)|(refine fN ?_)|(refine qc (fun bk hbk=> ?_)))
 refine⟨{g with ea:=a1,ec:=c1,eD:=D1,L:=g.L++ [⟨s.n,t,k,w,ra,rl,rc,wa,wl,wc⟩]},⟨⟨h.d,h.m,h.k,h.kp,h.t,hb1,?_,fun y hy=> ?_,h.o,h.os,h.ol⟩,rfl⟩,?_⟩
 ·rw[List.map_append,h.em];rfl
 ·rcases List.mem_append.1 hy with hy|hy
  ·exact h.ev y hy
  ·rw[List.mem_singleton.1 hy];exact⟨h1,h2⟩
 ·dsimp only[DP.O,DP.cells,GS.ev]
  simp only[List.length_append,List.length_cons,List.length_nil,Nat.zero_add]
  exact(eC)
end
open Go
section
variable{W0:World}{Kp:Own}{g:DP}{c:Cfg}{ps:List PH}{s:GS}
theorem DP.ok.x{D:Own}(h:g.ok W0 Kp ps s):({g with X:=D++g.X}:DP).ok W0 Kp ps s:=⟨h.d,h.m,h.k,h.kp,h.t,h.e,h.em,fun e he=>⟨(h.ev e he).1.ent (Ent.app Ent.refl),(h.ev e he).2.ent (Ent.app Ent.refl)⟩,h.o,h.os,h.ol⟩
theorem qnS(h:g.ok W0 Kp ps s)(hl:s.E.length≤900000)(t a:Nat){k:Int}(hk:k=1∨k=2)(q:Own):
  q0E Tryz.prog W0 109 [.pointer (some ⟨g.rb,0,none⟩), .int .i64 t, .int .i64 k, .int .i64 a] (g.O c ps.length s++q) fun _ own'=>∃g':DP,
   (g'.ok W0 Kp ps (s.ev (plE c s.n t k a))∧g'={g with ea:=g'.ea,ec:=g'.ec,eD:=g'.eD,L:=g'.L,X:=g'.X})∧Ent W0 own' (g'.O c ps.length (s.ev (plE c s.n t k a))++q):=by
 refine qa qj qmw (by simp[qW]) ?_
 cases hs:c.strong with
 |false=>
  have he:=qmq (c:=c) h t k a (ra:=none) (wa:=none) (rc:=0) (wc:=0) RdE.nil RdE.nil (by omega) q
  have hp:plE c s.n t k a= [⟨s.n,t,k,a,[],[]⟩]:=by unfold plE;rw[hs];rfl
  rw[hp]
  have hsv:(!c.strong)=true:=by rw[hs];rfl
  repeat'((try(conv=>whnf));first|(refine q5s hsv ?_)|((with_reducible show qf _ _ _ _ _ _);first|((refine qm he ?_ ?_ ?_ (fun g' v hg=> ?_);(exact(eC));(exact rfl);(exact rfl))))|(refine fA ?_))
  exact⟨g',⟨hg.1,by rw[hg.2]⟩,Ent.refl⟩
 |true=>
  have hsv:(!c.strong)=false:=by rw[hs];rfl
  have he:=fun q=>qmq (c:=c) h t 3 0 (ra:=none) (wa:=none) (rc:=0) (wc:=0) RdE.nil RdE.nil (by omega) q
  rcases hk with rfl|rfl
  ·have hp:plE c s.n t 1 a= [⟨s.n,t,3,0,[],[]⟩]++ [⟨s.n,t,4,0,[(a:Int)],[]⟩]:=by unfold plE;rw[hs];rfl
   rw[hp,←qjl]
   repeat'((try(conv=>whnf));first|(refine qgU hsv ?_)|((with_reducible show qf _ _ _ _ _ _);first|((refine qm (he q) ?_ ?_ ?_ (fun g1 v hg1=> ?_);(exact(eC));(exact rfl);(exact rfl);(apply Stop.h))))|(refine fA ?_))
   obtain⟨hk1,hg1⟩:=hg1
   refine Stop.mk ?_
   repeat'((try(conv=>whnf));first|(refine fE ?_)|(refine qc (fun b8 hb8=> ?_);(apply Stop.h)))
   dsimp only[List.set]
   have hk2:=hk1.x (D:= [(b8,fun o=>o=Obj.cells #[.int .i64 a] 3 (0,0))])
   have he2:=qmq (c:=c) hk2 t 4 0 (ra:=some ⟨b8,0,none⟩) (rl:= [(a:Int)]) (rc:=1) (wa:=none) (wc:=0) (q4E (List.Mem.head _) (fun _ _=>rfl) rfl) RdE.nil (by simp[GS.ev];omega) q
   have hrb:g1.rb=g.rb:=by rw[hg1]
   rw[←hrb]
   refine Stop.mk ?_
   repeat'((try(conv=>whnf));first|((with_reducible show qf _ _ _ _ _ _);first|((refine qm he2 ?_ ?_ ?_ (fun g2 v hg2=> ?_);(exact DP.perm_X (D:= [(b8,fun o=>o=Obj.cells #[.int .i64 a] 3 (0,0))]));(exact rfl);(exact rfl)))))
   exact⟨g2,⟨hg2.1,by rw[hg2.2,hg1]⟩,Ent.refl⟩
  ·have hp:plE c s.n t 2 a= [⟨s.n,t,3,0,[],[]⟩]++ [⟨s.n,t,4,0,[],[(a:Int)]⟩]:=by unfold plE;rw[hs];rfl
   rw[hp,←qjl]
   repeat'((try(conv=>whnf));first|(refine qgU hsv ?_)|((with_reducible show qf _ _ _ _ _ _);first|((refine qm (he q) ?_ ?_ ?_ (fun g1 v hg1=> ?_);(exact(eC));(exact rfl);(exact rfl);(apply Stop.h))))|(refine fA ?_))
   obtain⟨hk1,hg1⟩:=hg1
   refine Stop.mk ?_
   repeat'((try(conv=>whnf));first|(refine fD ?_)|(refine qc (fun b8 hb8=> ?_);(apply Stop.h)))
   dsimp only[List.set]
   have hk2:=hk1.x (D:= [(b8,fun o=>o=Obj.cells #[.int .i64 a] 3 (0,0))])
   have he2:=qmq (c:=c) hk2 t 4 0 (ra:=none) (rc:=0) (wa:=some ⟨b8,0,none⟩) (wl:= [(a:Int)]) (wc:=1) RdE.nil (q4E (List.Mem.head _) (fun _ _=>rfl) rfl) (by simp[GS.ev];omega) q
   have hrb:g1.rb=g.rb:=by rw[hg1]
   rw[←hrb]
   refine Stop.mk ?_
   repeat'((try(conv=>whnf));first|((with_reducible show qf _ _ _ _ _ _);first|((refine qm he2 ?_ ?_ ?_ (fun g2 v hg2=> ?_);(exact DP.perm_X (D:= [(b8,fun o=>o=Obj.cells #[.int .i64 a] 3 (0,0))]));(exact rfl);(exact rfl)))))
   exact⟨g2,⟨hg2.1,by rw[hg2.2,hg1]⟩,Ent.refl⟩
end
open Go
theorem qo2{x:Ins}(h:qv x=0):(0≤x.a∧x.a<8)∧0≤x.b∧x.b<8:=by
 unfold qv at h
 split at h
 ·cases h
 ·split at h
  ·rename_i hr
   obtain⟨h1,h2, -⟩:=hr
   unfold q2o at h1 h2
   constructor
   ·split at h1 <;>omega
   ·split at h2 <;>omega
  ·cases h
section
variable{W0:World}{Kp:Own}{g:DP}{c:Cfg}{ps:List PH}{s:GS}
theorem qoy{t:Nat}{th:Thr}(h:g.ok W0 Kp ps s)(hth:s.T[t]? =some th){x:Ins}(hx:qv x=0)(hl:isL x=true)(hrg:th.rg.ok)(hpc:th.pc≤64)(q:Own):
  q0E Tryz.prog W0 108 [.pointer (some ⟨ab g.ta,ao g.ta+t*11,none⟩),x.v] (g.O c ps.length s++q) fun v own'=>∃g':DP,
   (v= .bool true∧g'.ok W0 Kp ps {s with T:=s.T.set t (q6a th x)}∧g'={g with tD:=g'.tD})∧Ent W0 own' (g'.O c ps.length {s with T:=s.T.set t (q6a th x)}++q):=by
 obtain⟨tb,pre,post,hta,htD,hpl,hset⟩:=qcW h.t hth
 obtain⟨rb,iv,pa,pc,kv,da,dc,dD,ka,kc,kD,ta,tc,tD,ea,ec,eD,L,X,oa,oc,oD,S⟩:=g
 dsimp only at hta htD hset
 subst hta;subst htD
 have hl:=qik (own:=(DP.mk rb iv pa pc kv da dc dD ka kc kD (some ⟨tb,0,none⟩) tc [thB tb 61 pre post th] ea ec eD L X oa oc oD S).O c ps.length s++q) (qnj (W0:=W0) (b:=tb) (T:=61) (pre:=pre) (post:=post) (t:=th) (o:=0+t*11) hx hl hrg hpc (by omega) _)
 intro w hw
 refine(hl w hw).mono fun _ _ ⟨v,o,a,b,_,hv,hE⟩=>⟨v,o,a,b,⟨rb,iv,pa,pc,kv,da,dc,dD,ka,kc,kD,some ⟨tb,0,none⟩,tc,[thB tb 61 pre post (q6a th x)],ea,ec,eD,L,X,oa,oc,oD,S⟩,⟨hv,⟨h.d,h.m,h.k,h.kp,hset _,h.e,h.em,h.ev,h.o,h.os,h.ol⟩,rfl⟩,hE.trans ?_⟩
 dsimp only[DP.O,DP.cells]
 rw[List.length_set]
 exact qj1
theorem qn9{a b:Nat×(Obj→Prop)}{G q:Own}:Ent W0 (a::(b::(G++q))) (G++([a,b]++q)):=qo []
theorem qna{a b:Nat×(Obj→Prop)}{G q:Own}:Ent W0 (G++([a,b]++q)) (G++q):=qo [a,b]
abbrev exS(s1:GS)(t n:Nat)(th1:Thr):GS:={s1 with T:=s1.T.set t {th1 with dn:=decide (th1.pc=n)}}
theorem qp2{t:Nat}{th:Thr}{ph:PH}(hT:qk7 c ps s t th ph)(h:g.ok W0 Kp ps s){x:Ins}(hx:qv x=0)(hop:x.op=16)(hpc:th.pc<ph.p.length∧ph.p.length≤64)(aa:Option Addr)(al ac:Nat)(q:Own):
  q0E Tryz.prog W0 75 [.pointer (some ⟨g.rb,0,none⟩),chV t 0 aa al ac,x.v] (g.O c ps.length s++q) fun v own'=>∃g1:DP,
   (v= .bool true∧g1.ok W0 Kp ps {s with T:=s.T.set t {th with pc:=th.pc+1},O:=s.O.set t (s.O.getD t []++ [⟨th.pc,6,0⟩])}∧g1.rb=g.rb)∧Ent W0 own' (g1.O c ps.length {s with T:=s.T.set t {th with pc:=th.pc+1},O:=s.O.set t (s.O.getD t []++ [⟨th.pc,6,0⟩])}++q):=by
 refine qa qj q7 (by simp[q5]) ?_
 have hT0:=h.t
 have hTR:=hT0.rd (W0:=W0)
 have hth:=hT.hth
 obtain⟨ha,hb⟩:=qo2 hx
 have hb':x.b.toNat<8:=by omega
 have gb:th.enc[1+x.b.toNat]? =some (.int .u64 (th.rg.get x.b.toNat)):=Thr.enc_get hb'
 have hwd:=(q1R hT.c0).1
 unfold okW at hwd
 have htS:t<g.S.length:=by
  have h1:=congrArg List.length h.ol
  rw[List.length_map] at h1
  have:=(List.getElem?_eq_some_iff.1 hth).1
  have:=hT.tl
  omega
 have hob9:∀l∈s.O,l.length≤1000000:=fun l hl=>by have:=hT.ob l hl;omega
 have hln:=fun own=>q9 (W0:=W0) (b:=ab g.ta) (o:=ao g.ta+t*11) (x:=x) (by simp[isL,hop]) own
 have hse:=fun E=>qmD (c:=c) h htS hob9 th.pc 6 0 (E++q)
 obtain⟨op,a,b',c',imm⟩:=x
 dsimp only[Ins.v] at*
 subst hop
 repeat'((try(conv=>whnf));first|(refine fE ?_)|(refine fD ?_)|(refine ldE (k:=1+b'.toNat) (RdE.up hTR) hth ?_ gb ?_;omega)|(refine arw (k:= .u64) ?_)|((with_reducible show Ld _ _ _ _);first|(refine q1M hTR hth rfl ?_))|((with_reducible show IxS _ _ _ _ _);first|((refine ixE hTR hth ?_ ?_;(first|rfl|omega))))|((with_reducible show qf _ _ _ _ _ _);first|((refine qh (hln _) ?_ ?_ ?_;(exact rfl);exact rfl))|(((apply Stop.h))))|(refine fP ?_)|(refine fA ?_)|(refine fL ?_)|(refine qc (fun bk hbk=> ?_)))
 rename_i b4 h4
 have hse2:=hse [(bk,fun o=>o=Obj.cells #[.int .i64 16, .int .i64 a, .int .i64 b', .int .i64 c', .int .i64 imm] 69 (0,0)),(b4,fun o=>o=Obj.cells #[.int .i64 t, .int .i64 0, .slice aa al ac] 79 (0,0))]
 refine Stop.mk ?_
 repeat'((try(conv=>whnf));first|((with_reducible show qf _ _ _ _ _ _);first|((refine qm hse2 qn9 ?_ ?_ (fun g1 v hv=> ?_);(exact rfl);(exact rfl);(apply Stop.h)))))
 obtain⟨hk1,hg1, -⟩:=hv
 have hta:g1.ta=g.ta:=by rw[hg1]
 have hT1:=hk1.t
 have hR1:=hT1.rd (W0:=W0)
 rw[←hta]
 refine Stop.mk ?_
 repeat'((try(conv=>whnf));first|(refine ldE (k:=0) (v:= .int .i64 th.pc) (RdE.up hR1) hth ?_ rfl ?_;omega)|(apply q5Q (enc:=Thr.enc) (T:=61) (j:=t) (k:=0) {th with pc:=th.pc+1} hT1 hth;(omega);(omega);(exact rfl);(exact rfl);intro D1 hb1)|(refine fB ?_))
 refine⟨{g1 with tD:=D1},⟨rfl,⟨hk1.d,hk1.m,hk1.k,hk1.kp,hb1,hk1.e,hk1.em,hk1.ev,hk1.o,hk1.os,hk1.ol⟩,by show g1.rb=g.rb;rw[hg1]⟩,?_⟩
 dsimp only[DP.O,DP.cells]
 rw[List.length_set]
 exact qna
end
open Go
theorem qmN{k:IntKind}{e z:Int}{K:Int→Prop}(h:k.wrap e=z)(hk:K z):q6t k e K:=arw (by rw[h];exact hk)
section
variable{W0:World}{Kp:Own}{g:DP}{c:Cfg}{ps:List PH}{s:GS}
theorem qp5{t:Nat}{th:Thr}{ph:PH}(hT:qk7 c ps s t th ph)(h:g.ok W0 Kp ps s){x:Ins}(hx:qv x=0)(hop:x.op=13)(hpc:th.pc<ph.p.length∧ph.p.length≤64){z:Nat}(hz:adr th.rg x.a x.imm=z)(hzo:c.words≤z)(aa:Option Addr)(al ac:Nat)(q:Own):
  q0E Tryz.prog W0 75 [.pointer (some ⟨g.rb,0,none⟩),chV t 0 aa al ac,x.v] (g.O c ps.length s++q) fun v own'=>∃g1:DP,
   (v= .bool true∧g1.ok W0 Kp ps {s with T:=s.T.set t {th with pc:=th.pc+1},O:=s.O.set t (s.O.getD t []++ [⟨th.pc,7,7⟩])}∧g1.rb=g.rb)∧Ent W0 own' (g1.O c ps.length {s with T:=s.T.set t {th with pc:=th.pc+1},O:=s.O.set t (s.O.getD t []++ [⟨th.pc,7,7⟩])}++q):=by
 refine qa qj q7 (by simp[q5]) ?_
 have hT0:=h.t
 have hTR:=hT0.rd (W0:=W0)
 have hD0:=h.d
 have hDR:=hD0.rd (W0:=W0)
 have hth:=hT.hth
 have htl:=(List.getElem?_eq_some_iff.1 hth).1
 obtain⟨ha,hb⟩:=qo2 hx
 have ha':x.a.toNat<8:=by omega
 have hb':x.b.toNat<8:=by omega
 have ga:th.enc[1+x.a.toNat]? =some (.int .u64 (th.rg.get x.a.toNat)):=Thr.enc_get ha'
 have gb:th.enc[1+x.b.toNat]? =some (.int .u64 (th.rg.get x.b.toNat)):=Thr.enc_get hb'
 have hwd:=(q1R hT.c0).1
 unfold okW at hwd
 have hdl:=hT.dl
 have htS:t<g.S.length:=by
  have h1:=congrArg List.length h.ol
  rw[List.length_map] at h1
  have:=hT.tl
  omega
 have hob9:∀l∈s.O,l.length≤1000000:=fun l hl=>by have:=hT.ob l hl;omega
 have hel:=hT.el
 have hln:=fun own=>q9 (W0:=W0) (b:=ab g.ta) (o:=ao g.ta+t*11) (x:=x) (by simp[isL,hop]) own
 obtain⟨op,a,b',c',imm⟩:=x
 dsimp only[Ins.v] at*
 subst hop
 have hzw:IntKind.u64.wrap (th.rg.get a.toNat+IntKind.u64.wrap imm)=(z:Int):=hz
 have hse:=fun(b4 bk:Nat)=>qmD (c:=c) h htS hob9 th.pc 7 7 ([(bk,fun o=>o=Obj.cells #[.int .i64 13, .int .i64 a, .int .i64 b', .int .i64 c', .int .i64 imm] 69 (0,0)),(b4,fun o=>o=Obj.cells #[.int .i64 t, .int .i64 0, .slice aa al ac] 79 (0,0))]++q)
 repeat'((try(conv=>whnf));first|(refine fE ?_)|(refine fD ?_)|(apply qcU;(exact rfl);omega)|(refine ldE (k:=1+b'.toNat) (RdE.up hTR) hth ?_ gb ?_;omega)|(refine ldE (k:=1+a.toNat) (RdE.up hTR) hth ?_ ga ?_;omega)|(refine qmN hzw ?_)|(refine fC ?_)|(refine arw (k:= .u64) ?_)|((with_reducible show Ld _ _ _ _);first|(refine q1M hTR hth rfl ?_))|((with_reducible show IxS _ _ _ _ _);first|((refine ixE hTR hth ?_ ?_;(first|rfl|omega))))|((with_reducible show qf _ _ _ _ _ _);first|((refine qh (hln _) ?_ ?_ ?_;(exact rfl);exact rfl))|(((apply Stop.h))))|(refine fP ?_)|(refine fA ?_)|(refine fL ?_)|(refine qc (fun bk hbk=> ?_)))
 rename_i b4 h4
 refine Stop.mk ?_
 repeat'((try(conv=>whnf));first|((with_reducible show qf _ _ _ _ _ _);first|((refine qm (hse b4 bk) qn9 ?_ ?_ (fun g1 v hv=> ?_);(exact rfl);(exact rfl);(apply Stop.h)))))
 obtain⟨hk1,hg1, -⟩:=hv
 have hta1:g1.ta=g.ta:=by rw[hg1]
 have hT1:=hk1.t
 have hR1:=hT1.rd (W0:=W0)
 rw[←hta1]
 refine Stop.mk ?_
 repeat'((try(conv=>whnf));first|(refine fD ?_)|(refine ldE (k:=0) (v:= .int .i64 th.pc) (RdE.up hR1) hth ?_ rfl ?_;omega)|(apply q5Q (enc:=Thr.enc) (T:=61) (j:=t) (k:=0) {th with pc:=th.pc+1} hT1 hth;(omega);(omega);(exact rfl);(exact rfl);intro D9 hb9)|(refine fB ?_)|(refine fA ?_))
 refine⟨{g1 with tD:=D9},⟨rfl,⟨hk1.d,hk1.m,hk1.k,hk1.kp,hb9,hk1.e,hk1.em,hk1.ev,hk1.o,hk1.os,hk1.ol⟩,by show g1.rb=g.rb;rw[hg1]⟩,?_⟩
 dsimp only[DP.O,DP.cells,GS.ev]
 rw[List.length_set]
 exact qna
theorem qox{t:Nat}{th:Thr}{ph:PH}(hT:qk7 c ps s t th ph)(h:g.ok W0 Kp ps s){x:Ins}(hx:qv x=0)(hop:x.op=13)(hpc:th.pc<ph.p.length∧ph.p.length≤64){z:Nat}(hz:adr th.rg x.a x.imm=z)(hzi:(z:Int)<c.words)(hst:c.strong=true)(aa:Option Addr)(al ac:Nat)(q:Own):
  q0E Tryz.prog W0 75 [.pointer (some ⟨g.rb,0,none⟩),chV t 6 aa al ac,x.v] (g.O c ps.length s++q) fun v own'=>∃g1:DP,
   (v= .bool true∧g1.ok W0 Kp ps {s with T:=s.T.set t {th with pc:=th.pc+1},O:=s.O.set t (s.O.getD t []++ [⟨th.pc,7,6⟩])}∧g1.rb=g.rb)∧Ent W0 own' (g1.O c ps.length {s with T:=s.T.set t {th with pc:=th.pc+1},O:=s.O.set t (s.O.getD t []++ [⟨th.pc,7,6⟩])}++q):=by
 refine qa qj q7 (by simp[q5]) ?_
 have hT0:=h.t
 have hTR:=hT0.rd (W0:=W0)
 have hD0:=h.d
 have hDR:=hD0.rd (W0:=W0)
 have hth:=hT.hth
 have htl:=(List.getElem?_eq_some_iff.1 hth).1
 obtain⟨ha,hb⟩:=qo2 hx
 have ha':x.a.toNat<8:=by omega
 have hb':x.b.toNat<8:=by omega
 have ga:th.enc[1+x.a.toNat]? =some (.int .u64 (th.rg.get x.a.toNat)):=Thr.enc_get ha'
 have gb:th.enc[1+x.b.toNat]? =some (.int .u64 (th.rg.get x.b.toNat)):=Thr.enc_get hb'
 have hwd:=(q1R hT.c0).1
 unfold okW at hwd
 have hdl:=hT.dl
 have htS:t<g.S.length:=by
  have h1:=congrArg List.length h.ol
  rw[List.length_map] at h1
  have:=hT.tl
  omega
 have hob9:∀l∈s.O,l.length≤1000000:=fun l hl=>by have:=hT.ob l hl;omega
 have hel:=hT.el
 have hln:=fun own=>q9 (W0:=W0) (b:=ab g.ta) (o:=ao g.ta+t*11) (x:=x) (by simp[isL,hop]) own
 obtain⟨op,a,b',c',imm⟩:=x
 dsimp only[Ins.v] at*
 subst hop
 have hzw:IntKind.u64.wrap (th.rg.get a.toNat+IntKind.u64.wrap imm)=(z:Int):=hz
 have hse:=fun(b4 bk:Nat)=>qmD (c:=c) h htS hob9 th.pc 7 6 ([(bk,fun o=>o=Obj.cells #[.int .i64 13, .int .i64 a, .int .i64 b', .int .i64 c', .int .i64 imm] 69 (0,0)),(b4,fun o=>o=Obj.cells #[.int .i64 t, .int .i64 6, .slice aa al ac] 79 (0,0))]++q)
 have hns:(!c.strong)=false:=by rw[hst];rfl
 repeat'((try(conv=>whnf));first|(refine fH ?_)|(refine fE ?_)|(apply qcV;(exact rfl);omega)|(refine q1P hns ?_)|(refine ldE (k:=1+b'.toNat) (RdE.up hTR) hth ?_ gb ?_;omega)|(refine ldE (k:=1+a.toNat) (RdE.up hTR) hth ?_ ga ?_;omega)|(refine qmN hzw ?_)|(refine fC ?_)|(refine arw (k:= .u64) ?_)|((with_reducible show Ld _ _ _ _);first|(refine q1M hTR hth rfl ?_))|((with_reducible show IxS _ _ _ _ _);first|((refine ixE hTR hth ?_ ?_;(first|rfl|omega))))|((with_reducible show qf _ _ _ _ _ _);first|(((apply Stop.h))))|(refine fP ?_)|(refine fA ?_)|(refine qc (fun bk hbk=> ?_)))
 rename_i b4 h4
 refine Stop.mk ?_
 repeat'((try(conv=>whnf));first|((with_reducible show qf _ _ _ _ _ _);first|((refine qm (hse b4 bk) qn9 ?_ ?_ (fun g1 v hv=> ?_);(exact rfl);(exact rfl);(apply Stop.h)))))
 obtain⟨hk1,hg1, -⟩:=hv
 have hta1:g1.ta=g.ta:=by rw[hg1]
 have hT1:=hk1.t
 have hR1:=hT1.rd (W0:=W0)
 rw[←hta1]
 refine Stop.mk ?_
 repeat'((try(conv=>whnf));first|(refine ldE (k:=0) (v:= .int .i64 th.pc) (RdE.up hR1) hth ?_ rfl ?_;omega)|(apply q5Q (enc:=Thr.enc) (T:=61) (j:=t) (k:=0) {th with pc:=th.pc+1} hT1 hth;(omega);(omega);(exact rfl);(exact rfl);intro D9 hb9)|(refine fB ?_))
 refine⟨{g1 with tD:=D9},⟨rfl,⟨hk1.d,hk1.m,hk1.k,hk1.kp,hb9,hk1.e,hk1.em,hk1.ev,hk1.o,hk1.os,hk1.ol⟩,by show g1.rb=g.rb;rw[hg1]⟩,?_⟩
 dsimp only[DP.O,DP.cells,GS.ev]
 rw[List.length_set]
 exact qna
theorem qp4{t:Nat}{th:Thr}{ph:PH}(hT:qk7 c ps s t th ph)(h:g.ok W0 Kp ps s){x:Ins}(hx:qv x=0)(hop:x.op=12)(hpc:th.pc<ph.p.length∧ph.p.length≤64){z:Nat}(hz:adr th.rg x.b x.imm=z)(hzo:c.words≤z)(aa:Option Addr)(al ac:Nat)(q:Own):
  q0E Tryz.prog W0 75 [.pointer (some ⟨g.rb,0,none⟩),chV t 0 aa al ac,x.v] (g.O c ps.length s++q) fun v own'=>∃g1:DP,
   (v= .bool true∧g1.ok W0 Kp ps {s with T:=s.T.set t {th with rg:=th.rg.set x.a.toNat 0,pc:=th.pc+1},O:=s.O.set t (s.O.getD t []++ [⟨th.pc,7,7⟩])}∧g1.rb=g.rb)∧Ent W0 own' (g1.O c ps.length {s with T:=s.T.set t {th with rg:=th.rg.set x.a.toNat 0,pc:=th.pc+1},O:=s.O.set t (s.O.getD t []++ [⟨th.pc,7,7⟩])}++q):=by
 refine qa qj q7 (by simp[q5]) ?_
 have hT0:=h.t
 have hTR:=hT0.rd (W0:=W0)
 have hD0:=h.d
 have hDR:=hD0.rd (W0:=W0)
 have hth:=hT.hth
 have htl:=(List.getElem?_eq_some_iff.1 hth).1
 obtain⟨ha,hb⟩:=qo2 hx
 have ha':x.a.toNat<8:=by omega
 have hb':x.b.toNat<8:=by omega
 have ga:th.enc[1+x.a.toNat]? =some (.int .u64 (th.rg.get x.a.toNat)):=Thr.enc_get ha'
 have gb:th.enc[1+x.b.toNat]? =some (.int .u64 (th.rg.get x.b.toNat)):=Thr.enc_get hb'
 have hwd:=(q1R hT.c0).1
 unfold okW at hwd
 have hdl:=hT.dl
 have htS:t<g.S.length:=by
  have h1:=congrArg List.length h.ol
  rw[List.length_map] at h1
  have:=hT.tl
  omega
 have hob9:∀l∈s.O,l.length≤1000000:=fun l hl=>by have:=hT.ob l hl;omega
 have hel:=hT.el
 have hln:=fun own=>q9 (W0:=W0) (b:=ab g.ta) (o:=ao g.ta+t*11) (x:=x) (by simp[isL,hop]) own
 obtain⟨op,a,b',c',imm⟩:=x
 dsimp only[Ins.v] at*
 subst hop
 have hzw:IntKind.u64.wrap (th.rg.get b'.toNat+IntKind.u64.wrap imm)=(z:Int):=hz
 have hth2:(s.T.set t {th with rg:=th.rg.set a.toNat 0})[t]? =some {th with rg:=th.rg.set a.toNat 0}:=List.getElem?_set_self htl
 have hse:=fun(b4 bk:Nat)=>qmD (c:=c) h htS hob9 th.pc 7 7 ([(bk,fun o=>o=Obj.cells #[.int .i64 12, .int .i64 a, .int .i64 b', .int .i64 c', .int .i64 imm] 69 (0,0)),(b4,fun o=>o=Obj.cells #[.int .i64 t, .int .i64 0, .slice aa al ac] 79 (0,0))]++q)
 repeat'((try(conv=>whnf));first|(refine fD ?_)|(apply qcU;(exact rfl);omega)|(refine ldE (k:=1+b'.toNat) (RdE.up hTR) hth ?_ gb ?_;omega)|(refine qmN hzw ?_)|(refine fC ?_)|(refine arw (k:= .u64) ?_)|((with_reducible show Ld _ _ _ _);first|(refine q1M hTR hth rfl ?_))|((with_reducible show IxS _ _ _ _ _);first|((refine ixE hTR hth ?_ ?_;(first|rfl|omega))))|((with_reducible show qf _ _ _ _ _ _);first|((refine qh (hln _) ?_ ?_ ?_;(exact rfl);exact rfl))|(((apply Stop.h))))|(refine fP ?_)|(refine fA ?_)|(refine fL ?_)|(refine qc (fun bk hbk=> ?_)))
 rename_i b4 h4
 refine Stop.mk ?_
 repeat'((try(conv=>whnf));first|((with_reducible show qf _ _ _ _ _ _);first|((refine qm (hse b4 bk) qn9 ?_ ?_ (fun g1 v hv=> ?_);(exact rfl);(exact rfl);(apply Stop.h)))))
 obtain⟨hk1,hg1, -⟩:=hv
 have hta1:g1.ta=g.ta:=by rw[hg1]
 have hT1:=hk1.t
 have hR1:=hT1.rd (W0:=W0)
 rw[←hta1]
 refine Stop.mk ?_
 repeat'((try(conv=>whnf));first|(refine fE ?_)|(refine ldE (k:=0) (v:= .int .i64 th.pc) (RdE.up (hb8.rd (W0:=W0))) hth2 ?_ rfl ?_;omega)|(apply q5Q (enc:=Thr.enc) (T:=61) (j:=t) (k:=0) {th with rg:=th.rg.set a.toNat 0,pc:=th.pc+1} hb8 hth2;(omega);(omega);(exact rfl);(exact rfl);intro D9 hb9)|(apply q5Q (enc:=Thr.enc) (T:=61) (j:=t) (k:=1+a.toNat) {th with rg:=th.rg.set a.toNat 0} hT1 hth;(omega);(omega);(exact(Thr.enc_set ha').symm);(exact rfl);intro D8 hb8)|(refine fB ?_)|(refine fP ?_)|(refine fA ?_))
 rw[List.set_set] at hb9
 refine⟨{g1 with tD:=D9},⟨rfl,⟨hk1.d,hk1.m,hk1.k,hk1.kp,hb9,hk1.e,hk1.em,hk1.ev,hk1.o,hk1.os,hk1.ol⟩,by show g1.rb=g.rb;rw[hg1]⟩,?_⟩
 dsimp only[DP.O,DP.cells]
 rw[List.length_set]
 exact qna
theorem qpC{t:Nat}{th:Thr}{ph:PH}(hT:qk7 c ps s t th ph)(h:g.ok W0 Kp ps s){x:Ins}(hx:qv x=0)(hop:x.op=12)(hpc:th.pc<ph.p.length∧ph.p.length≤64){z:Nat}(hz:adr th.rg x.b x.imm=z)(hzi:(z:Int)<c.words)(aa:Option Addr)(al ac:Nat)(q:Own):
  q0E Tryz.prog W0 75 [.pointer (some ⟨g.rb,0,none⟩),chV t 0 aa al ac,x.v] (g.O c ps.length s++q) fun v own'=>∃g1:DP,
   (v= .bool true∧g1.ok W0 Kp ps {s with T:=s.T.set t {th with rg:=th.rg.set x.a.toNat (s.d.getD z 0),pc:=th.pc+1},O:=s.O.set t (s.O.getD t []++ [⟨th.pc,4,s.d.getD z 0⟩]),E:=s.E++plE c s.n t 1 z}∧g1.rb=g.rb)∧Ent W0 own' (g1.O c ps.length {s with T:=s.T.set t {th with rg:=th.rg.set x.a.toNat (s.d.getD z 0),pc:=th.pc+1},O:=s.O.set t (s.O.getD t []++ [⟨th.pc,4,s.d.getD z 0⟩]),E:=s.E++plE c s.n t 1 z}++q):=by
 refine qa qj q7 (by simp[q5]) ?_
 have hT0:=h.t
 have hTR:=hT0.rd (W0:=W0)
 have hD0:=h.d
 have hDR:=hD0.rd (W0:=W0)
 have hth:=hT.hth
 have htl:=(List.getElem?_eq_some_iff.1 hth).1
 obtain⟨ha,hb⟩:=qo2 hx
 have ha':x.a.toNat<8:=by omega
 have hb':x.b.toNat<8:=by omega
 have ga:th.enc[1+x.a.toNat]? =some (.int .u64 (th.rg.get x.a.toNat)):=Thr.enc_get ha'
 have gb:th.enc[1+x.b.toNat]? =some (.int .u64 (th.rg.get x.b.toNat)):=Thr.enc_get hb'
 have hwd:=(q1R hT.c0).1
 unfold okW at hwd
 have hdl:=hT.dl
 have htS:t<g.S.length:=by
  have h1:=congrArg List.length h.ol
  rw[List.length_map] at h1
  have:=hT.tl
  omega
 have hob9:∀l∈s.O,l.length≤1000000:=fun l hl=>by have:=hT.ob l hl;omega
 have hel:=hT.el
 have hln:=fun own=>q9 (W0:=W0) (b:=ab g.ta) (o:=ao g.ta+t*11) (x:=x) (by simp[isL,hop]) own
 obtain⟨op,a,b',c',imm⟩:=x
 dsimp only[Ins.v] at*
 subst hop
 have hzw:IntKind.u64.wrap (th.rg.get b'.toNat+IntKind.u64.wrap imm)=(z:Int):=hz
 obtain⟨dz,hdz⟩:∃dz,s.d[z]? =some dz:=⟨_,List.getElem?_eq_getElem (by omega)⟩
 have hdd:s.d.getD z 0=dz:=by rw[List.getD_eq_getElem?_getD,hdz];rfl
 rw[hdd]
 have hth2:(s.T.set t {th with rg:=th.rg.set a.toNat dz})[t]? =some {th with rg:=th.rg.set a.toNat dz}:=List.getElem?_set_self htl
 have hse:=fun(D8:Own) (hb8:qr Thr.enc 61 11 g.ta g.tc (s.T.set t {th with rg:=th.rg.set a.toNat dz}) D8) (b4 bk:Nat)=>qmD (c:=c) (g:={g with tD:=D8}) (s:={s with T:=s.T.set t {th with rg:=th.rg.set a.toNat dz}}) ⟨h.d,h.m,h.k,h.kp,hb8,h.e,h.em,h.ev,h.o,h.os,h.ol⟩ htS hob9 th.pc 4 dz ([(bk,fun o=>o=Obj.cells #[.int .i64 12, .int .i64 a, .int .i64 b', .int .i64 c', .int .i64 imm] 69 (0,0)),(b4,fun o=>o=Obj.cells #[.int .i64 t, .int .i64 0, .slice aa al ac] 79 (0,0))]++q)
 repeat'((try(conv=>whnf));first|(refine fE ?_)|(refine fD ?_)|(apply qcV;(exact rfl);omega)|(refine ldE (k:=1+b'.toNat) (RdE.up hTR) hth ?_ gb ?_;omega)|(refine qmN hzw ?_)|(refine fC ?_)|(refine arw (k:= .u64) ?_)|(apply q5Q (enc:=Thr.enc) (T:=61) (j:=t) (k:=1+a.toNat) {th with rg:=th.rg.set a.toNat dz} hT0 hth;(omega);(omega);(exact(Thr.enc_set ha').symm);(exact rfl);intro D8 hb8)|(refine ldE (k:=0) (v:= .int .i64 th.pc) (RdE.up (hb8.rd (W0:=W0))) hth2 ?_ rfl ?_;omega)|((with_reducible show Ld _ _ _ _);first|(refine q1M hDR hdz rfl ?_))|((with_reducible show IxS _ _ _ _ _);first|((refine ixE hDR hdz ?_ ?_;(first|rfl|omega)))|((refine ixE hTR hth ?_ ?_;(first|rfl|omega))))|((with_reducible show qf _ _ _ _ _ _);first|((refine qh (hln _) ?_ ?_ ?_;(exact rfl);exact rfl))|(((apply Stop.h))))|(refine fP ?_)|(refine fA ?_)|(refine fL ?_)|(refine qc (fun bk hbk=> ?_)))
 rename_i b4 h4
 refine Stop.mk ?_
 repeat'((try(conv=>whnf));first|((with_reducible show qf _ _ _ _ _ _);first|((refine qm (hse D8 hb8 b4 bk) ?_ ?_ ?_ (fun g1 v hv=> ?_);(dsimp only[DP.O,DP.cells];rw[List.length_set];exact qn9);(exact rfl);(exact rfl);(apply Stop.h)))))
 obtain⟨hk1,hg1, -⟩:=hv
 have hrb1:g1.rb=g.rb:=by rw[hg1]
 have hpl:=fun(b4 bk:Nat)=>qnS (c:=c) hk1 (by show s.E.length≤_;omega) t z (k:=1) (.inl rfl) ([(bk,fun o=>o=Obj.cells #[.int .i64 12, .int .i64 a, .int .i64 b', .int .i64 c', .int .i64 imm] 69 (0,0)),(b4,fun o=>o=Obj.cells #[.int .i64 t, .int .i64 0, .slice aa al ac] 79 (0,0))]++q)
 rw[←hrb1]
 refine Stop.mk ?_
 repeat'((try(conv=>whnf));first|((with_reducible show qf _ _ _ _ _ _);first|((refine qm (hpl b4 bk) Ent.refl ?_ ?_ (fun g2 v hv=> ?_);(exact rfl);(exact rfl);(apply Stop.h))))|(refine fB ?_)|(refine fA ?_))
 obtain⟨hk2,hg2⟩:=hv
 have hta2:g2.ta=g.ta:=by rw[hg2,hg1]
 have hT2:=hk2.t
 have hR2:=hT2.rd (W0:=W0)
 rw[←hta2]
 refine Stop.mk ?_
 repeat'((try(conv=>whnf));first|(refine ldE (k:=0) (v:= .int .i64 th.pc) (RdE.up hR2) hth2 ?_ rfl ?_;omega)|(apply q5Q (enc:=Thr.enc) (T:=61) (j:=t) (k:=0) {th with rg:=th.rg.set a.toNat dz,pc:=th.pc+1} hT2 hth2;(omega);(omega);(exact rfl);(exact rfl);intro D9 hb9)|(refine fB ?_))
 dsimp only[GS.ev] at hb9
 rw[List.set_set] at hb9
 refine⟨{g2 with tD:=D9},⟨rfl,⟨hk2.d,hk2.m,hk2.k,hk2.kp,hb9,hk2.e,hk2.em,hk2.ev,hk2.o,hk2.os,hk2.ol⟩,by show g2.rb=g1.rb;rw[hg2]⟩,?_⟩
 dsimp only[DP.O,DP.cells,GS.ev]
 simp only[List.length_set]
 exact qna
theorem qpD{t:Nat}{th:Thr}{ph:PH}(hT:qk7 c ps s t th ph)(h:g.ok W0 Kp ps s){x:Ins}(hx:qv x=0)(hop:x.op=13)(hpc:th.pc<ph.p.length∧ph.p.length≤64){z:Nat}(hz:adr th.rg x.a x.imm=z)(hzi:(z:Int)<c.words)(aa:Option Addr)(al ac:Nat)(q:Own):
  q0E Tryz.prog W0 75 [.pointer (some ⟨g.rb,0,none⟩),chV t 0 aa al ac,x.v] (g.O c ps.length s++q) fun v own'=>∃g1:DP,
   (v= .bool true∧g1.ok W0 Kp ps {s with d:=s.d.set z (th.rg.get x.b.toNat),T:=s.T.set t {th with pc:=th.pc+1},O:=s.O.set t (s.O.getD t []++ [⟨th.pc,5,th.rg.get x.b.toNat⟩]),E:=s.E++plE c s.n t 2 z}∧g1.rb=g.rb)∧Ent W0 own' (g1.O c ps.length {s with d:=s.d.set z (th.rg.get x.b.toNat),T:=s.T.set t {th with pc:=th.pc+1},O:=s.O.set t (s.O.getD t []++ [⟨th.pc,5,th.rg.get x.b.toNat⟩]),E:=s.E++plE c s.n t 2 z}++q):=by
 refine qa qj q7 (by simp[q5]) ?_
 have hT0:=h.t
 have hTR:=hT0.rd (W0:=W0)
 have hD0:=h.d
 have hDR:=hD0.rd (W0:=W0)
 have hth:=hT.hth
 have htl:=(List.getElem?_eq_some_iff.1 hth).1
 obtain⟨ha,hb⟩:=qo2 hx
 have ha':x.a.toNat<8:=by omega
 have hb':x.b.toNat<8:=by omega
 have ga:th.enc[1+x.a.toNat]? =some (.int .u64 (th.rg.get x.a.toNat)):=Thr.enc_get ha'
 have gb:th.enc[1+x.b.toNat]? =some (.int .u64 (th.rg.get x.b.toNat)):=Thr.enc_get hb'
 have hwd:=(q1R hT.c0).1
 unfold okW at hwd
 have hdl:=hT.dl
 have htS:t<g.S.length:=by
  have h1:=congrArg List.length h.ol
  rw[List.length_map] at h1
  have:=hT.tl
  omega
 have hob9:∀l∈s.O,l.length≤1000000:=fun l hl=>by have:=hT.ob l hl;omega
 have hel:=hT.el
 have hln:=fun own=>q9 (W0:=W0) (b:=ab g.ta) (o:=ao g.ta+t*11) (x:=x) (by simp[isL,hop]) own
 obtain⟨op,a,b',c',imm⟩:=x
 dsimp only[Ins.v] at*
 subst hop
 have hzw:IntKind.u64.wrap (th.rg.get a.toNat+IntKind.u64.wrap imm)=(z:Int):=hz
 obtain⟨dz,hdz⟩:∃dz,s.d[z]? =some dz:=⟨_,List.getElem?_eq_getElem (by omega)⟩
 have hse:=fun(D7:Own) (hb7:qr q7j 58 1 g.da g.dc (s.d.set z (th.rg.get b'.toNat)) D7) (b4 bk:Nat)=>qmD (c:=c) (g:={g with dD:=D7}) (s:={s with d:=s.d.set z (th.rg.get b'.toNat)}) ⟨hb7,h.m,h.k,h.kp,h.t,h.e,h.em,h.ev,h.o,h.os,h.ol⟩ htS hob9 th.pc 5 (th.rg.get b'.toNat) ([(bk,fun o=>o=Obj.cells #[.int .i64 13, .int .i64 a, .int .i64 b', .int .i64 c', .int .i64 imm] 69 (0,0)),(b4,fun o=>o=Obj.cells #[.int .i64 t, .int .i64 0, .slice aa al ac] 79 (0,0))]++q)
 repeat'((try(conv=>whnf));first|(refine fE ?_)|(refine fD ?_)|(apply qcV;(exact rfl);omega)|(refine ldE (k:=1+b'.toNat) (RdE.up hTR) hth ?_ gb ?_;omega)|(refine ldE (k:=1+a.toNat) (RdE.up hTR) hth ?_ ga ?_;omega)|(refine qmN hzw ?_)|(refine fC ?_)|(refine arw (k:= .u64) ?_)|(apply q5Q (enc:=q7j) (T:=58) (j:=z) (k:=0) (th.rg.get b'.toNat) hD0 hdz;(omega);(omega);(exact rfl);(exact rfl);intro D7 hb7)|((with_reducible show Ld _ _ _ _);first|(refine q1M hTR hth rfl ?_))|((with_reducible show IxS _ _ _ _ _);first|((refine ixE hDR hdz ?_ ?_;(first|rfl|omega)))|((refine ixE hTR hth ?_ ?_;(first|rfl|omega))))|((with_reducible show qf _ _ _ _ _ _);first|((refine qh (hln _) ?_ ?_ ?_;(exact rfl);exact rfl))|(((apply Stop.h))))|(refine fP ?_)|(refine fA ?_)|(refine fL ?_)|(refine qc (fun bk hbk=> ?_)))
 rename_i b4 h4
 refine Stop.mk ?_
 repeat'((try(conv=>whnf));first|((with_reducible show qf _ _ _ _ _ _);first|((refine qm (hse D7 hb7 b4 bk) ?_ ?_ ?_ (fun g1 v hv=> ?_);(dsimp only[DP.O,DP.cells];rw[List.length_set];exact qn9);(exact rfl);(exact rfl);(apply Stop.h)))))
 obtain⟨hk1,hg1, -⟩:=hv
 have hrb1:g1.rb=g.rb:=by rw[hg1]
 have hpl:=fun(b4 bk:Nat)=>qnS (c:=c) hk1 (by show s.E.length≤_;omega) t z (k:=2) (.inr rfl) ([(bk,fun o=>o=Obj.cells #[.int .i64 13, .int .i64 a, .int .i64 b', .int .i64 c', .int .i64 imm] 69 (0,0)),(b4,fun o=>o=Obj.cells #[.int .i64 t, .int .i64 0, .slice aa al ac] 79 (0,0))]++q)
 rw[←hrb1]
 refine Stop.mk ?_
 repeat'((try(conv=>whnf));first|((with_reducible show qf _ _ _ _ _ _);first|((refine qm (hpl b4 bk) Ent.refl ?_ ?_ (fun g2 v hv=> ?_);(exact rfl);(exact rfl);(apply Stop.h))))|(refine fB ?_)|(refine fA ?_))
 obtain⟨hk2,hg2⟩:=hv
 have hta2:g2.ta=g.ta:=by rw[hg2,hg1]
 have hT2:=hk2.t
 have hR2:=hT2.rd (W0:=W0)
 rw[←hta2]
 refine Stop.mk ?_
 repeat'((try(conv=>whnf));first|(refine ldE (k:=0) (v:= .int .i64 th.pc) (RdE.up hR2) hth ?_ rfl ?_;omega)|(apply q5Q (enc:=Thr.enc) (T:=61) (j:=t) (k:=0) {th with pc:=th.pc+1} hT2 hth;(omega);(omega);(exact rfl);(exact rfl);intro D9 hb9)|(refine fB ?_))
 dsimp only[GS.ev] at hb9
 refine⟨{g2 with tD:=D9},⟨rfl,⟨hk2.d,hk2.m,hk2.k,hk2.kp,hb9,hk2.e,hk2.em,hk2.ev,hk2.o,hk2.os,hk2.ol⟩,by show g2.rb=g1.rb;rw[hg2]⟩,?_⟩
 dsimp only[DP.O,DP.cells,GS.ev]
 simp only[List.length_set]
 exact qna
end
open Go
section
variable{W0:World}{Kp:Own}{g:DP}{c:Cfg}{ps:List PH}{s:GS}
theorem qr7{t:Nat}{th:Thr}{ph:PH}(hT:qk7 c ps s t th ph)(h:g.ok W0 Kp ps s){x:Ins}(hx:qv x=0){f:Int}(hf:f≠0)(hno:¬(f=6∧c.strong=true∧x.op=13∧adr th.rg x.a x.imm<c.words))(aa:Option Addr)(al ac:Nat)(q:Own):
  qD Tryz.prog W0 75 [.pointer (some ⟨g.rb,0,none⟩),chV t f aa al ac,x.v] (g.O c ps.length s++q) (.bool false):=by
 refine qe (qa qj q7 (by simp[q5]) ?_)
 have hT0:=h.t
 have hTR:=hT0.rd (W0:=W0)
 have hth:=hT.hth
 obtain⟨ha,hb⟩:=qo2 hx
 have ha':x.a.toNat<8:=by omega
 have hb':x.b.toNat<8:=by omega
 have ga:th.enc[1+x.a.toNat]? =some (.int .u64 (th.rg.get x.a.toNat)):=Thr.enc_get ha'
 have gb:th.enc[1+x.b.toNat]? =some (.int .u64 (th.rg.get x.b.toNat)):=Thr.enc_get hb'
 have hwd:=(q1R hT.c0).1
 unfold okW at hwd
 have hz0:=(q9l (r:=th.rg) (b:=x.a) (imm:=x.imm)).1
 obtain⟨z,hz⟩:=Int.eq_ofNat_of_zero_le hz0
 rw[hz] at hno
 obtain⟨op,a,b',c',imm⟩:=x
 dsimp only[Ins.v] at*
 have hzw:IntKind.u64.wrap (th.rg.get a.toNat+IntKind.u64.wrap imm)=(z:Int):=hz
 by_cases h13:op=13
 ·subst h13
  have e13:¬(13:Int)≠13:=fun h=>h rfl
  by_cases h6:f=6
  ·subst h6
   have e6:¬(6:Int)≠6:=fun h=>h rfl
   cases hs:c.strong with
   |false=>
    have hns:(!c.strong)=true:=by rw[hs];rfl
    repeat'((try(conv=>whnf));first|(refine fH ?_)|(refine fI ?_)|(refine fE ?_)|(refine qes hns ?_)|(refine ldE (k:=1+b'.toNat) (RdE.up hTR) hth ?_ gb ?_;omega)|(refine ldE (k:=1+a.toNat) (RdE.up hTR) hth ?_ ga ?_;omega)|(refine qmN hzw ?_)|(refine fC ?_)|(refine arw (k:= .u64) ?_)|((with_reducible show IxS _ _ _ _ _);first|((refine ixE hTR hth ?_ ?_;(first|rfl|omega))))|(refine fP ?_)|(refine fA ?_)|(refine qc (fun bk hbk=> ?_)))
    all_goals exact⟨rfl,(eC)⟩
   |true=>
    have hns:(!c.strong)=false:=by rw[hs];rfl
    have hzo:¬(z:Int)<c.words:=fun h=>hno ⟨rfl,hs,rfl,h⟩
    repeat'((try(conv=>whnf));first|(refine fH ?_)|(refine fE ?_)|(apply qcU;(exact rfl);omega)|(refine q1P hns ?_)|(refine ldE (k:=1+b'.toNat) (RdE.up hTR) hth ?_ gb ?_;omega)|(refine ldE (k:=1+a.toNat) (RdE.up hTR) hth ?_ ga ?_;omega)|(refine qmN hzw ?_)|(refine fC ?_)|(refine arw (k:= .u64) ?_)|((with_reducible show IxS _ _ _ _ _);first|((refine ixE hTR hth ?_ ?_;(first|rfl|omega))))|(refine fP ?_)|(refine fA ?_)|(refine qc (fun bk hbk=> ?_)))
    all_goals exact⟨rfl,(eC)⟩
  ·repeat'((try(conv=>whnf));first|(refine fI ?_)|(refine fE ?_)|(refine fF ?_)|(refine fJ ?_)|(refine ldE (k:=1+b'.toNat) (RdE.up hTR) hth ?_ gb ?_;omega)|(refine ldE (k:=1+a.toNat) (RdE.up hTR) hth ?_ ga ?_;omega)|(refine qmN hzw ?_)|(refine fC ?_)|(refine arw (k:= .u64) ?_)|((with_reducible show IxS _ _ _ _ _);first|((refine ixE hTR hth ?_ ?_;(first|rfl|omega))))|(refine fP ?_)|(refine fA ?_)|(refine qc (fun bk hbk=> ?_)))
   all_goals exact⟨rfl,(eC)⟩
 ·by_cases h6:f=6
  ·subst h6
   have e6:¬(6:Int)≠6:=fun h=>h rfl
   repeat'((try(conv=>whnf));first|(refine fH ?_)|(refine fI ?_)|(refine fE ?_)|(refine fG ?_)|(refine fJ ?_)|(refine ldE (k:=1+b'.toNat) (RdE.up hTR) hth ?_ gb ?_;omega)|(refine fC ?_)|(refine arw (k:= .u64) ?_)|((with_reducible show IxS _ _ _ _ _);first|((refine ixE hTR hth ?_ ?_;(first|rfl|omega))))|(refine fP ?_)|(refine fA ?_)|(refine qc (fun bk hbk=> ?_)))
   all_goals exact⟨rfl,(eC)⟩
  ·repeat'((try(conv=>whnf));first|(refine fI ?_)|(refine fE ?_)|(refine fF ?_)|(refine fG ?_)|(refine fJ ?_)|(refine ldE (k:=1+b'.toNat) (RdE.up hTR) hth ?_ gb ?_;omega)|(refine fC ?_)|(refine arw (k:= .u64) ?_)|((with_reducible show IxS _ _ _ _ _);first|((refine ixE hTR hth ?_ ?_;(first|rfl|omega))))|(refine fP ?_)|(refine fA ?_)|(refine qc (fun bk hbk=> ?_)))
   all_goals exact⟨rfl,(eC)⟩
theorem qqg{t:Nat}{th:Thr}{ph:PH}(hT:qk7 c ps s t th ph)(h:g.ok W0 Kp ps s){x:Ins}(hx:qv x=0)(hl:isL x=true)(hpc:th.pc<ph.p.length∧ph.p.length≤64)(aa:Option Addr)(al ac:Nat)(q:Own):
  q0E Tryz.prog W0 75 [.pointer (some ⟨g.rb,0,none⟩),chV t 0 aa al ac,x.v] (g.O c ps.length s++q) fun v own'=>∃g1:DP,
   (v= .bool true∧g1.ok W0 Kp ps {s with T:=s.T.set t (q6a th x)}∧g1.rb=g.rb)∧Ent W0 own' (g1.O c ps.length {s with T:=s.T.set t (q6a th x)}++q):=by
 refine qa qj q7 (by simp[q5]) ?_
 have hT0:=h.t
 have hTR:=hT0.rd (W0:=W0)
 have hth:=hT.hth
 obtain⟨ha,hb⟩:=qo2 hx
 have hb':x.b.toNat<8:=by omega
 have gb:th.enc[1+x.b.toNat]? =some (.int .u64 (th.rg.get x.b.toNat)):=Thr.enc_get hb'
 have hwd:=(q1R hT.c0).1
 unfold okW at hwd
 have h13:x.op≠13:=fun e=>by simp[isL,e] at hl
 have hls:=fun E=>qoy (c:=c) h hth hx hl hT.rg (by omega) (E++q)
 obtain⟨op,a,b',c',imm⟩:=x
 dsimp only[Ins.v] at*
 repeat'((try(conv=>whnf));first|(refine fD ?_)|(refine fG ?_)|(refine ldE (k:=1+b'.toNat) (RdE.up hTR) hth ?_ gb ?_;omega)|(refine fC ?_)|(refine arw (k:= .u64) ?_)|((with_reducible show IxS _ _ _ _ _);first|((refine ixE hTR hth ?_ ?_;(first|rfl|omega))))|((with_reducible show qf _ _ _ _ _ _);first|(((apply Stop.h))))|(refine fP ?_)|(refine fA ?_)|(refine fL ?_)|(refine qc (fun bk hbk=> ?_)))
 rename_i b4 h4
 have hls2:=hls [(bk,fun o=>o=Obj.cells #[.int .i64 op, .int .i64 a, .int .i64 b', .int .i64 c', .int .i64 imm] 69 (0,0)),(b4,fun o=>o=Obj.cells #[.int .i64 t, .int .i64 0, .slice aa al ac] 79 (0,0))]
 refine Stop.mk ?_
 repeat'((try(conv=>whnf));first|(refine fE ?_)|((with_reducible show qf _ _ _ _ _ _);first|((refine qm hls2 qn9 ?_ ?_ (fun g1 v hv=> ?_);(exact rfl);(exact rfl);(obtain⟨rfl,hk1,hg1⟩:=hv)))))
 exact⟨g1,⟨rfl,hk1,by rw[hg1]⟩,qna⟩
theorem qoA{t:Nat}{th:Thr}{ph:PH}(hT:qk7 c ps s t th ph)(h:g.ok W0 Kp ps s){x:Ins}(hx:qv x=0)(hop:(0≤x.op∧x.op≤6)∨x.op=12∨x.op=13∨x.op=16∨x.op=17)(hpc:th.pc<ph.p.length∧ph.p.length≤64)(f:Int)(aa:Option Addr)(al ac:Nat)(q:Own):
  q0E Tryz.prog W0 75 [.pointer (some ⟨g.rb,0,none⟩),chV t f aa al ac,x.v] (g.O c ps.length s++q) fun v own'=>
   ((v= .bool false∧sgM c ph.p s th t f x=none)∧Ent W0 own' (g.O c ps.length s++q))∨
   ∃y:GS×DP×Thr,(v= .bool true∧y.1.T[t]? =some y.2.2∧sgM c ph.p s th t f x=some (exS y.1 t ph.p.length y.2.2)∧y.1.n=s.n∧y.2.1.ok W0 Kp ps y.1∧y.2.1.rb=g.rb)∧Ent W0 own' (y.2.1.O c ps.length y.1++q):=by
 have htl:=(List.getElem?_eq_some_iff.1 hT.hth).1
 have mk:∀(s1:GS) (th1:Thr),s1.T[t]? =some th1→s1.n=s.n→sgM c ph.p s th t f x=some (exS s1 t ph.p.length th1)→(q0E Tryz.prog W0 75 [.pointer (some ⟨g.rb,0,none⟩),chV t f aa al ac,x.v] (g.O c ps.length s++q) fun v own'=>∃g1:DP,(v= .bool true∧g1.ok W0 Kp ps s1∧g1.rb=g.rb)∧Ent W0 own' (g1.O c ps.length s1++q))→
   q0E Tryz.prog W0 75 [.pointer (some ⟨g.rb,0,none⟩),chV t f aa al ac,x.v] (g.O c ps.length s++q) fun v own'=>
   ((v= .bool false∧sgM c ph.p s th t f x=none)∧Ent W0 own' (g.O c ps.length s++q))∨
   ∃y:GS×DP×Thr,(v= .bool true∧y.1.T[t]? =some y.2.2∧sgM c ph.p s th t f x=some (exS y.1 t ph.p.length y.2.2)∧y.1.n=s.n∧y.2.1.ok W0 Kp ps y.1∧y.2.1.rb=g.rb)∧Ent W0 own' (y.2.1.O c ps.length y.1++q):=fun s1 th1 h1 hn h2 hs w hw=>
  (hs w hw).mono fun _ _ ⟨v,o,a,b,g1,⟨h3,h4,h5⟩,h6⟩=>⟨v,o,a,b, .inr ⟨(s1,g1,th1),⟨h3,h1,h2,hn,h4,h5⟩,h6⟩⟩
 have hz0:=(q9l (r:=th.rg) (b:=x.a) (imm:=x.imm)).1
 have hy0:=(q9l (r:=th.rg) (b:=x.b) (imm:=x.imm)).1
 obtain⟨z,hz⟩:=Int.eq_ofNat_of_zero_le hz0
 obtain⟨y,hy⟩:=Int.eq_ofNat_of_zero_le hy0
 have hgs:∀l:List Thr,∀a b:Thr,(l.set t a).set t b=l.set t b:=fun l a b=>List.set_set ..
 by_cases hf:f=0
 ·subst hf
  by_cases h12:x.op=12
  ·have hsg:sgM c ph.p s th t 0 x=if c.words≤(y:Int) then some (s.fin t (th.nxt ph.p.length (th.rg.set x.a.toNat 0)) [⟨th.pc,7,7⟩]) else some ((s.ev (plE c s.n t 1 y)).fin t (th.nxt ph.p.length (th.rg.set x.a.toNat (s.d.getD y 0))) [⟨th.pc,4,s.d.getD y 0⟩]):=by
    unfold sgM
    rw[if_pos (.inl h12),if_pos h12,hy]
    simp[h12]
   by_cases hw:c.words≤(y:Int)
   ·refine mk _ {th with rg:=th.rg.set x.a.toNat 0,pc:=th.pc+1} ?_ ?_ ?_ (qp4 (ps:=ps) hT h hx h12 hpc hy hw aa al ac q)
    ·exact List.getElem?_set_self htl
    ·rfl
    ·rw[hsg,if_pos hw];simp only[exS,GS.fin,Thr.nxt,hgs]
   ·refine mk _ {th with rg:=th.rg.set x.a.toNat (s.d.getD y 0),pc:=th.pc+1} ?_ ?_ ?_ (qpC (ps:=ps) hT h hx h12 hpc hy (by omega) aa al ac q)
    ·exact List.getElem?_set_self htl
    ·rfl
    ·rw[hsg,if_neg hw];simp only[exS,GS.fin,GS.ev,Thr.nxt,hgs]
  ·by_cases h13:x.op=13
   ·have hsg:sgM c ph.p s th t 0 x=if c.words≤(z:Int) then some (s.fin t (th.nxt ph.p.length th.rg) [⟨th.pc,7,7⟩]) else some (((s.mem (s.d.set z (th.rg.get x.b.toNat)) s.tk).ev (plE c s.n t 2 z)).fin t (th.nxt ph.p.length th.rg) [⟨th.pc,5,th.rg.get x.b.toNat⟩]):=by
     unfold sgM
     rw[if_pos (.inr h13),if_neg h12,hz]
     simp[h13]
    by_cases hw:c.words≤(z:Int)
    ·refine mk _ {th with pc:=th.pc+1} ?_ ?_ ?_ (qp5 (ps:=ps) hT h hx h13 hpc hz hw aa al ac q)
     ·exact List.getElem?_set_self htl
     ·rfl
     ·rw[hsg,if_pos hw];simp only[exS,GS.fin,Thr.nxt,hgs]
    ·refine mk _ {th with pc:=th.pc+1} ?_ ?_ ?_ (qpD (ps:=ps) hT h hx h13 hpc hz (by omega) aa al ac q)
     ·exact List.getElem?_set_self htl
     ·rfl
     ·rw[hsg,if_neg hw];simp only[exS,GS.fin,GS.ev,GS.mem,Thr.nxt,hgs]
   ·have hsg:sgM c ph.p s th t 0 x=some (s.fin t {q6a th x with dn:=decide ((q6a th x).pc=ph.p.length)} (if x.op=16 then [⟨th.pc,6,0⟩] else [])):=by
     unfold sgM
     rw[if_neg (by omega),if_neg (by simp)]
    by_cases h16:x.op=16
    ·have hlo:q6a th x={th with pc:=th.pc+1}:=by simp[q6a,q85,q60,h16]
     refine mk _ {th with pc:=th.pc+1} ?_ ?_ ?_ (qp2 (ps:=ps) hT h hx h16 hpc aa al ac q)
     ·exact List.getElem?_set_self htl
     ·rfl
     ·rw[hsg,if_pos h16,hlo];simp only[exS,GS.fin,hgs]
    ·have hl:isL x=true:=by simp only[isL,decide_eq_true_eq];omega
     refine mk _ (q6a th x) ?_ ?_ ?_ (qqg (ps:=ps) hT h hx hl hpc aa al ac q)
     ·exact List.getElem?_set_self htl
     ·rfl
     ·rw[hsg,if_neg h16];simp only[exS,GS.fin,hgs];rw[qfD (by rw[hT.tl];exact htl)]
 ·by_cases hp:f=6∧c.strong=true∧x.op=13∧adr th.rg x.a x.imm<c.words
  ·obtain⟨rfl,hs,h13,hw⟩:=hp
   rw[hz] at hw
   refine mk _ {th with pc:=th.pc+1} ?_ ?_ ?_ (qox (ps:=ps) hT h hx h13 hpc hz hw hs aa al ac q)
   ·exact List.getElem?_set_self htl
   ·rfl
   ·unfold sgM
    have e12:¬x.op=12:=by omega
    rw[if_pos (.inr h13),if_neg e12,hz]
    simp only[exS,GS.fin,Thr.nxt,hgs,ne_eq,Int.reduceEq,not_false_eq_true,if_true,hs,h13,hw,true_and]
  ·have hsg:sgM c ph.p s th t f x=none:=by
    unfold sgM
    by_cases h1:x.op=12∨x.op=13
    ·rw[if_pos h1]
     by_cases h12:x.op=12
     ·rw[if_pos h12]
      dsimp only
      rw[if_pos hf,if_neg (by omega)]
     ·rw[if_neg h12]
      dsimp only
      rw[if_pos hf,if_neg hp]
    ·rw[if_neg h1,if_pos hf]
   rw[hsg]
   have hno:=qr7 (ps:=ps) hT h hx hf hp aa al ac q
   intro w hw
   exact(hno w hw).mono fun e w' ⟨he,hs⟩=>⟨_,_,he,hs, .inl ⟨⟨rfl,rfl⟩,Ent.refl⟩⟩
end
end Go.Proofs.YtkieffpjjfebjaaGreatDoor
