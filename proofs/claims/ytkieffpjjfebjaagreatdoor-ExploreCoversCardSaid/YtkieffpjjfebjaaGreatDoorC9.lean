/- What the laws share, part 9. No condition. -/
import Derived.Test.YtkieffpjjfebjaaGreatDoorC8
set_option maxHeartbeats 16000000
set_option maxRecDepth 10000
namespace Go.Proofs.YtkieffpjjfebjaaGreatDoor
open Go
structure BG where
 xb:Nat
 da:Option Addr
 dc:Nat
 dD:Own
 ka:Option Addr
 kc:Nat
 kD:Own
 ra:Option Addr
 rc:Nat
 rD:Own
 wa:Option Addr
 wc:Nat
 wD:Own
 oa:Option Addr
 oc:Nat
 oD:Own
 aa:Option Addr
 ac:Nat
abbrev BG.pre(g:BG)(b:BM):List Value:= [.slice g.da b.d.length g.dc, .slice g.ka b.tk.length g.kc]
abbrev BG.post(g:BG)(b:BM)(bad:Bool):List Value:= [.slice g.ra b.r.length g.rc, .slice g.wa b.w.length g.wc, .slice g.oa b.o.length g.oc, .slice g.aa b.ad.length g.ac, .bool bad]
abbrev BG.O(g:BG)(b:BM)(bad:Bool):Own:=thB g.xb 174 (g.pre b) (g.post b bad) b.t::(g.dD++(g.kD++(g.rD++(g.wD++g.oD))))
structure BG.ok(g:BG)(W0:World)(K:Own)(b:BM):Prop where
 d:qr q7j 58 1 g.da g.dc b.d g.dD
 m:qr qmx 4 1 g.ka g.kc b.tk g.kD
 a:RdE qM 1 W0 K g.aa b.ad
 al:b.ad.length≤g.ac
 r:qr qM 3 1 g.ra g.rc b.r g.rD
 w:qr qM 3 1 g.wa g.wc b.w g.wD
 o:qr ObM.enc 127 3 g.oa g.oc b.o g.oD
section
variable{W0:World}{K:Own}{g:BG}{c:Cfg}{b:BM}{bad:Bool}
theorem qnN(h:g.ok W0 K b){a:Nat}(ha:a<b.d.length)(hl:b.w.length≤1000000)(v:Int)(q:Own):
  q0E Tryz.prog W0 133 [.pointer (some ⟨g.xb,0,none⟩), .int .i64 a, .int .u64 v] (g.O b bad++q) fun _ own'=>∃g':BG,
   (g'.ok W0 K (wrM b a v)∧g'.xb=g.xb)∧Ent W0 own' (g'.O (wrM b a v) bad++q):=by
 refine qa qj qmI (by simp[qlM]) ?_
 have hD:=h.d
 have hDR:=hD.rd (W0:=W0)
 have hW:=h.w
 obtain⟨x,hx⟩:∃x,b.d[a]? =some x:=⟨_,List.getElem?_eq_getElem ha⟩
 have hc:=fun(own':Own) [qt own' g.wD]=>qnO (own:=own') (cap:=g.wc) ((hW.rd (W0:=W0)).up) (by omega) a
 by_cases hm:(a:Int)∈b.w
 ·repeat'((try(conv=>whnf));first|(apply qcV;(exact rfl);omega)|(apply q5Q (enc:=q7j) (T:=58) (j:=a) (k:=0) v hD hx;(exact rfl);(omega);(exact rfl);(exact rfl);intro D1 hb1)|((with_reducible show IxS _ _ _ _ _);first|((refine ixE hDR hx ?_ ?_;(first|rfl|omega))))|((with_reducible show qf _ _ _ _ _ _);first|((refine qh (hc _) ?_ ?_ ?_;(exact rfl);exact rfl)))|(refine fA ?_))
  refine⟨{g with dD:=D1},⟨⟨hb1,h.m,h.a,h.al,h.r,?_,h.o⟩,rfl⟩,?_⟩
  ·show qr _ _ _ _ _ (qbU b.w a) _
   rw[qbU,if_pos hm];exact hW
  ·dsimp only[BG.O,BG.pre,BG.post,wrM]
   rw[qbU,if_pos hm,List.length_set]
   exact(eC)
 ·repeat'((try(conv=>whnf));first|(apply qcU;(exact rfl);omega)|(apply q5Q (enc:=q7j) (T:=58) (j:=a) (k:=0) v hD hx;(exact rfl);(omega);(exact rfl);(exact rfl);intro D1 hb1)|(apply q69 (enc:=qM) (T:=3) (a:Int) hW;(exact rfl);(exact rfl);(omega);(exact rfl);(exact rfl);(omega);intro a2 c2 D2 hb2)|((with_reducible show IxS _ _ _ _ _);first|((refine ixE hDR hx ?_ ?_;(first|rfl|omega))))|((with_reducible show qf _ _ _ _ _ _);first|((refine qh (hc _) ?_ ?_ ?_;(exact rfl);exact rfl)))|(refine fA ?_)|(refine fN ?_)|(refine qc (fun bk hbk=> ?_)))
  refine⟨{g with dD:=D1,wa:=a2,wc:=c2,wD:=D2},⟨⟨hb1,h.m,h.a,h.al,h.r,?_,h.o⟩,rfl⟩,?_⟩
  ·show qr _ _ _ _ _ (qbU b.w a) _
   rw[qbU,if_neg hm];exact hb2
  ·dsimp only[BG.O,BG.pre,BG.post,wrM]
   rw[qbU,if_neg hm,List.length_set]
   simp only[List.length_append,List.length_cons,List.length_nil,Nat.zero_add]
   exact(eC)
end
open Go
section
variable{W0:World}{own:Own}{b:Nat}{T:TypeId}{pre post:List Value}{t:Thr}
theorem qr9{off:Nat}{v:Value}{K:Own→Prop}{C:(Obj→Prop)→Own} [m:UpC b (fun o=>o=Obj.cells (pre++(t.enc++post)).toArray T (0,0)) own C](post':List Value)(hs:(pre++(t.enc++post)).set off v=pre++(t.enc++post'))(h1:q4A v=true)(ho:off<(pre++(t.enc++post)).length)
  (h:K (C fun o=>o=Obj.cells (pre++(t.enc++post')).toArray T (0,0))):StT W0 own ⟨b,off,none⟩ v K:=by
 refine qjY (by simp at ho ⊢;omega) h1 ?_
 rw[List.toList_toArray,hs]
 exact h
end
section
variable{W0:World}{K Kp:Own}{g:BG}{dp:DP}{c:Cfg}{np:Nat}{s:GS}{b:BM}
theorem qpP{x:Ins}(hop:x.op=8∨x.op=9)(q:Own):qD Tryz.prog W0 106 [.pointer (some ⟨dp.rb,0,none⟩), .pointer (some ⟨g.xb,0,none⟩),x.v] (g.O b false++(dp.O c np s++q)) (.int .i64 (if x.op=8 then 1 else 2)):=by
 refine qe (qa qj q6 (by simp[q4]) ?_)
 have hln:=fun own=>q9 (W0:=W0) (b:=g.xb) (o:=2) (x:=x) (by rcases hop with h|h <;>simp[isL,h]) own
 obtain⟨op,a,b',c',imm⟩:=x
 dsimp only[Ins.v] at*
 rcases hop with rfl|rfl
 all_goals
  repeat'((try(conv=>whnf));first|(refine fE ?_)|(refine fD ?_)|((with_reducible show qf _ _ _ _ _ _);first|((refine qg (hln _) ?_)))|(refine fA ?_)|(refine fL ?_)|(refine fQ ?_)|(refine fM ?_)|(refine qc (fun bk hbk=> ?_)))
  all_goals exact⟨rfl,(eC)⟩
theorem qq8{x:Ins}(hx:qv x=0)(hop:x.op=10)(hc:qL c=0){z:Nat}(hz:adr b.t.rg x.b x.imm=z)(hzo:c.words≤z)(q:Own):
  qD Tryz.prog W0 106 [.pointer (some ⟨dp.rb,0,none⟩), .pointer (some ⟨g.xb,0,none⟩),x.v] (g.O b false++(dp.O c np s++q)) (.int .i64 7):=by
 refine qe (qa qj q6 (by simp[q4]) ?_)
 obtain⟨ha,hb⟩:=qo2 hx
 have ha':x.a.toNat<8:=by omega
 have hb':x.b.toNat<8:=by omega
 have hwd:=(q1R hc).1
 unfold okW at hwd
 have hln:=fun own=>q9 (W0:=W0) (b:=g.xb) (o:=2) (x:=x) (by simp[isL,hop]) own
 obtain⟨op,a,b',c',imm⟩:=x
 dsimp only[Ins.v] at*
 subst hop
 have hzw:IntKind.u64.wrap (b.t.rg.get b'.toNat+IntKind.u64.wrap imm)=(z:Int):=hz
 repeat'((try(conv=>whnf));first|(refine fE ?_)|(refine fD ?_)|(refine fF ?_)|(refine q4D (t:=b.t) (pre:=g.pre b) (post:=g.post b false) hb' ?_ ?_;(simp;omega))|(refine qmN hzw ?_)|(refine fC ?_)|(refine arw (k:= .u64) ?_)|((with_reducible show qf _ _ _ _ _ _);first|((refine qg (hln _) ?_)))|(refine fP ?_)|(refine fA ?_)|(refine fL ?_)|(refine fQ ?_)|(refine fM ?_)|(refine qc (fun bk hbk=> ?_)))
 all_goals exact⟨rfl,(eC)⟩
theorem qq9{x:Ins}(hx:qv x=0)(hop:x.op=11)(hc:qL c=0){z:Nat}(hz:adr b.t.rg x.a x.imm=z)(hzo:c.words≤z)(q:Own):
  qD Tryz.prog W0 106 [.pointer (some ⟨dp.rb,0,none⟩), .pointer (some ⟨g.xb,0,none⟩),x.v] (g.O b false++(dp.O c np s++q)) (.int .i64 7):=by
 refine qe (qa qj q6 (by simp[q4]) ?_)
 obtain⟨ha,hb⟩:=qo2 hx
 have ha':x.a.toNat<8:=by omega
 have hb':x.b.toNat<8:=by omega
 have hwd:=(q1R hc).1
 unfold okW at hwd
 have hln:=fun own=>q9 (W0:=W0) (b:=g.xb) (o:=2) (x:=x) (by simp[isL,hop]) own
 obtain⟨op,a,b',c',imm⟩:=x
 dsimp only[Ins.v] at*
 subst hop
 have hzw:IntKind.u64.wrap (b.t.rg.get a.toNat+IntKind.u64.wrap imm)=(z:Int):=hz
 repeat'((try(conv=>whnf));first|(refine fE ?_)|(refine fD ?_)|(refine fF ?_)|(refine q4D (t:=b.t) (pre:=g.pre b) (post:=g.post b false) ha' ?_ ?_;(simp;omega))|(refine qmN hzw ?_)|(refine fC ?_)|(refine arw (k:= .u64) ?_)|((with_reducible show qf _ _ _ _ _ _);first|((refine qg (hln _) ?_)))|(refine fP ?_)|(refine fA ?_)|(refine fL ?_)|(refine fQ ?_)|(refine fM ?_)|(refine qc (fun bk hbk=> ?_)))
 all_goals exact⟨rfl,(eC)⟩
end
open Go
section
variable{W0:World}{K Kp:Own}{g:BG}{dp:DP}{c:Cfg}{np:Nat}{s:GS}{b:BM}
theorem qoH{e a b d:Nat×(Obj→Prop)}{A Z:Own}:Ent W0 (d::(a::(b::((e::A)++Z)))) ((e::A)++Z):=qo [d,a,b]
theorem qoI{e a b d f:Nat×(Obj→Prop)}{A Z:Own}:Ent W0 (d::(f::(a::(b::((e::A)++Z))))) ((e::A)++Z):=qo [d,f,a,b]
theorem qqy{e a b:Nat×(Obj→Prop)}{A Z:Own}:Ent W0 (a::(b::((e::A)++Z))) ((e::A)++Z):=qo [a,b]
theorem qqx{e a b:Nat×(Obj→Prop)}{A Z:Own}:Ent W0 (e::(A++(a::(b::Z)))) ((e::A)++Z):=qo [a,b]
theorem qr2{x:Ins}(h:g.ok W0 K b)(hx:qv x=0)(hop:x.op=11)(hc:qL c=0)(hpc:b.t.pc≤64)(hdl:(b.d.length:Int)=c.words)(hw:b.w.length≤900000){z:Nat}(hz:adr b.t.rg x.a x.imm=z)(hzi:(z:Int)<c.words)(q:Own):
  q0E Tryz.prog W0 106 [.pointer (some ⟨dp.rb,0,none⟩), .pointer (some ⟨g.xb,0,none⟩),x.v] (g.O b false++(dp.O c np s++q)) fun v own'=>∃g1:BG,(v= .int .i64 0∧g1.ok W0 K (wrM b z (b.t.rg.get x.b.toNat)).go∧g1.xb=g.xb)∧Ent W0 own' (g1.O (wrM b z (b.t.rg.get x.b.toNat)).go false++(dp.O c np s++q)):=by
 refine qa qj q6 (by simp[q4]) ?_
 obtain⟨ha,hb⟩:=qo2 hx
 have ha':x.a.toNat<8:=by omega
 have hb':x.b.toNat<8:=by omega
 have hwd:=(q1R hc).1
 unfold okW at hwd
 have hln:=fun own=>q9 (W0:=W0) (b:=g.xb) (o:=2) (x:=x) (by simp[isL,hop]) own
 obtain⟨op,a,b',c',imm⟩:=x
 dsimp only[Ins.v] at*
 subst hop
 have hzw:IntKind.u64.wrap (b.t.rg.get a.toNat+IntKind.u64.wrap imm)=(z:Int):=hz
 have hwr:=fun q=>qnN (bad:=false) h (a:=z) (by omega) (by omega) (b.t.rg.get b'.toNat) q
 repeat'((try(conv=>whnf));first|(refine fE ?_)|(refine fD ?_)|(refine fG ?_)|(refine q4D (t:=b.t) (pre:=g.pre b) (post:=g.post b false) ha' ?_ ?_;(simp;omega))|(refine q4D (t:=b.t) (pre:=g.pre b) (post:=g.post b false) hb' ?_ ?_;(simp;omega))|(refine qmN hzw ?_)|(refine fC ?_)|(refine arw (k:= .u64) ?_)|((with_reducible show qf _ _ _ _ _ _);first|((refine qg (hln _) ?_))|((refine qgV (hwr _) ?_ ?_ (fun g1 v hv=> ?_);(exact rfl);(exact rfl);(apply Stop.h))))|(refine fB ?_)|(refine fP ?_)|(refine fA ?_)|(refine fL ?_)|(refine fQ ?_)|(refine fM ?_)|(refine qc (fun bk hbk=> ?_)))
 obtain⟨hk1,hxb⟩:=hv
 rw[←hxb]
 refine Stop.mk ?_
 repeat'((try(conv=>whnf));first|(refine q8F (t:=b.t) (pre:=g1.pre (wrM b z (b.t.rg.get b'.toNat))) (post:=g1.post (wrM b z (b.t.rg.get b'.toNat)) false) (k:=0) (v:= .int .i64 b.t.pc) rfl ?_ ?_;(exact rfl))|(refine qmE (t:=b.t) (pre:=g1.pre (wrM b z (b.t.rg.get b'.toNat))) (post:=g1.post (wrM b z (b.t.rg.get b'.toNat)) false) (n:=b.t.pc+1) ?_ ?_ ?_;(omega);(exact rfl))|(refine fB ?_))
 exact⟨g1,⟨rfl,⟨hk1.d,hk1.m,hk1.a,hk1.al,hk1.r,hk1.w,hk1.o⟩,rfl⟩,qqx⟩
theorem qr1{x:Ins}(h:g.ok W0 K b)(hx:qv x=0)(hop:x.op=10)(hc:qL c=0)(hpc:b.t.pc≤64)(hdl:(b.d.length:Int)=c.words)(hw:b.w.length≤900000)(hr:b.r.length≤900000)(ho:b.o.length≤900000){z:Nat}(hz:adr b.t.rg x.b x.imm=z)(hzi:(z:Int)<c.words)(q:Own):
  q0E Tryz.prog W0 106 [.pointer (some ⟨dp.rb,0,none⟩), .pointer (some ⟨g.xb,0,none⟩),x.v] (g.O b false++(dp.O c np s++q)) fun v own'=>∃g1:BG,(v= .int .i64 0∧g1.ok W0 K ((rdM b z).put x.a 1 (b.d.getD z 0))∧g1.xb=g.xb)∧Ent W0 own' (g1.O ((rdM b z).put x.a 1 (b.d.getD z 0)) false++(dp.O c np s++q)):=by
 refine qa qj q6 (by simp[q4]) ?_
 obtain⟨ha,hb⟩:=qo2 hx
 have ha':x.a.toNat<8:=by omega
 have hb':x.b.toNat<8:=by omega
 have hwd:=(q1R hc).1
 unfold okW at hwd
 have hln:=fun own=>q9 (W0:=W0) (b:=g.xb) (o:=2) (x:=x) (by simp[isL,hop]) own
 obtain⟨op,a,b',c',imm⟩:=x
 dsimp only[Ins.v] at*
 subst hop
 have hzw:IntKind.u64.wrap (b.t.rg.get b'.toNat+IntKind.u64.wrap imm)=(z:Int):=hz
 obtain⟨dz,hdz⟩:∃dz,b.d[z]? =some dz:=⟨_,List.getElem?_eq_getElem (by omega)⟩
 have hdd:b.d.getD z 0=dz:=by rw[List.getD_eq_getElem?_getD,hdz];rfl
 rw[hdd]
 have hDR:=h.d.rd (W0:=W0)
 have hR0:=h.r
 have hO0:=h.o
 have hiw:=fun(own':Own) [qt own' g.wD]=>qnO (own:=own') (cap:=g.wc) ((h.w.rd (W0:=W0)).up) (by omega) z
 have hir:=fun(own':Own) [qt own' g.rD]=>qnO (own:=own') (cap:=g.rc) ((h.r.rd (W0:=W0)).up) (by omega) z
 by_cases hmw:(z:Int)∈b.w
 ·have hrm:rdM b z=b:=by unfold rdM;rw[if_pos (.inl hmw)]
  rw[hrm]
  repeat'((try(conv=>whnf));first|(refine fE ?_)|(refine fD ?_)|(refine fG ?_)|(refine q4D (t:=b.t) (pre:=g.pre b) (post:=g.post b false) hb' ?_ ?_;(simp;omega))|(refine qmN hzw ?_)|(refine fC ?_)|(refine arw (k:= .u64) ?_)|((with_reducible show qf _ _ _ _ _ _);first|((refine qg (hln _) ?_))|(((apply Stop.h))))|(refine fB ?_)|(refine fP ?_)|(refine fA ?_)|(refine fL ?_)|(refine fQ ?_)|(refine fM ?_)|(refine qc (fun bk hbk=> ?_)))
  refine Stop.mk ?_
  repeat'((try(conv=>whnf));first|(refine fI ?_)|(refine fD ?_)|(apply qet;(exact rfl);omega)|(refine qa1 (t:=b.t) (pre:=g.pre b) (post:=g.post b false) ha' ?_ ?_;(simp;omega))|(refine qlz (v:= .int .i64 b.t.pc) ?_ ?_;(exact rfl))|(apply q69 (enc:=ObM.enc) (T:=127) ⟨b.t.pc,1,dz⟩ hO0;(exact rfl);(exact rfl);(omega);(exact rfl);(exact rfl);(omega);intro a1 c1 D1 hb1)|((with_reducible show Ld _ _ _ _);first|(refine q1M hDR hdz rfl ?_))|((with_reducible show IxS _ _ _ _ _);first|((refine ixE hDR hdz ?_ ?_;(first|rfl|omega))))|((with_reducible show qf _ _ _ _ _ _);first|((refine qh (hiw _) ?_ ?_ ?_;(exact rfl);exact rfl)))|(refine fB ?_)|(refine fP ?_)|(refine fA ?_)|(refine fN ?_)|(refine qc (fun bk hbk=> ?_)))
  all_goals
   refine⟨{g with oa:=a1,oc:=c1,oD:=D1},⟨rfl,⟨h.d,h.m,h.a,h.al,h.r,h.w,hb1⟩,rfl⟩,?_⟩
   dsimp only[BG.O,BG.pre,BG.post,BM.put]
   simp only[List.length_append,List.length_cons,List.length_nil,Nat.zero_add]
   first|exact qoH|exact qoI
 ·by_cases hmr:(z:Int)∈b.r
  ·have hrm:rdM b z=b:=by unfold rdM;rw[if_pos (.inr hmr)]
   rw[hrm]
   repeat'((try(conv=>whnf));first|(refine fE ?_)|(refine fD ?_)|(refine fG ?_)|(refine q4D (t:=b.t) (pre:=g.pre b) (post:=g.post b false) hb' ?_ ?_;(simp;omega))|(refine qmN hzw ?_)|(refine fC ?_)|(refine arw (k:= .u64) ?_)|((with_reducible show qf _ _ _ _ _ _);first|((refine qg (hln _) ?_))|(((apply Stop.h))))|(refine fB ?_)|(refine fP ?_)|(refine fA ?_)|(refine fL ?_)|(refine fQ ?_)|(refine fM ?_)|(refine qc (fun bk hbk=> ?_)))
   refine Stop.mk ?_
   repeat'((try(conv=>whnf));first|(refine fH ?_)|(apply qcV;(exact rfl);omega)|(apply qa4;(exact rfl);omega)|(refine qa1 (t:=b.t) (pre:=g.pre b) (post:=g.post b false) ha' ?_ ?_;(simp;omega))|(refine qlz (v:= .int .i64 b.t.pc) ?_ ?_;(exact rfl))|(apply q69 (enc:=ObM.enc) (T:=127) ⟨b.t.pc,1,dz⟩ hO0;(exact rfl);(exact rfl);(omega);(exact rfl);(exact rfl);(omega);intro a1 c1 D1 hb1)|((with_reducible show Ld _ _ _ _);first|(refine q1M hDR hdz rfl ?_))|((with_reducible show IxS _ _ _ _ _);first|((refine ixE hDR hdz ?_ ?_;(first|rfl|omega))))|((with_reducible show qf _ _ _ _ _ _);first|((refine qh (hiw _) ?_ ?_ ?_;(exact rfl);exact rfl))|((refine qh (hir _) ?_ ?_ ?_;(exact rfl);exact rfl)))|(refine fB ?_)|(refine fP ?_)|(refine fA ?_)|(refine fN ?_)|(refine qc (fun bk hbk=> ?_)))
   all_goals
    refine⟨{g with oa:=a1,oc:=c1,oD:=D1},⟨rfl,⟨h.d,h.m,h.a,h.al,h.r,h.w,hb1⟩,rfl⟩,?_⟩
    dsimp only[BG.O,BG.pre,BG.post,BM.put]
    simp only[List.length_append,List.length_cons,List.length_nil,Nat.zero_add]
    first|exact qoH|exact qoI
  ·have hrm:rdM b z={b with r:=b.r++ [(z:Int)]}:=by unfold rdM;rw[if_neg (fun h=>h.elim hmw hmr)]
   rw[hrm]
   repeat'((try(conv=>whnf));first|(refine fE ?_)|(refine fD ?_)|(refine fG ?_)|(refine q4D (t:=b.t) (pre:=g.pre b) (post:=g.post b false) hb' ?_ ?_;(simp;omega))|(refine qmN hzw ?_)|(refine fC ?_)|(refine arw (k:= .u64) ?_)|((with_reducible show qf _ _ _ _ _ _);first|((refine qg (hln _) ?_))|(((apply Stop.h))))|(refine fB ?_)|(refine fP ?_)|(refine fA ?_)|(refine fL ?_)|(refine fQ ?_)|(refine fM ?_)|(refine qc (fun bk hbk=> ?_)))
   refine Stop.mk ?_
   repeat'((try(conv=>whnf));first|(refine fH ?_)|(apply qcU;(exact rfl);omega)|(apply qa4;(exact rfl);omega)|(apply q69 (enc:=qM) (T:=3) (z:Int) hR0;(exact rfl);(exact rfl);(omega);(exact rfl);(exact rfl);(omega);intro aR cR DR hbR)|(refine qr9 (t:=b.t) (pre:=g.pre b) (post:=g.post b false) [.slice aR (b.r.length+1) cR, .slice g.wa b.w.length g.wc, .slice g.oa b.o.length g.oc, .slice g.aa b.ad.length g.ac, .bool false] ?_ ?_ ?_ ?_;(exact rfl);(exact rfl);(exact(by decide:13<18)))|(refine qa1 (t:=b.t) (pre:=g.pre b) (post:= [.slice aR (b.r.length+1) cR, .slice g.wa b.w.length g.wc, .slice g.oa b.o.length g.oc, .slice g.aa b.ad.length g.ac, .bool false]) ha' ?_ ?_;(simp;omega))|(refine qlz (v:= .int .i64 b.t.pc) ?_ ?_;(exact rfl))|(apply q69 (enc:=ObM.enc) (T:=127) ⟨b.t.pc,1,dz⟩ hO0;(exact rfl);(exact rfl);(omega);(exact rfl);(exact rfl);(omega);intro a1 c1 D1 hb1)|((with_reducible show Ld _ _ _ _);first|(refine q1M hDR hdz rfl ?_))|((with_reducible show IxS _ _ _ _ _);first|((refine ixE hDR hdz ?_ ?_;(first|rfl|omega))))|((with_reducible show qf _ _ _ _ _ _);first|((refine qh (hiw _) ?_ ?_ ?_;(exact rfl);exact rfl))|((refine qh (hir _) ?_ ?_ ?_;(exact rfl);exact rfl)))|(refine fB ?_)|(refine fP ?_)|(refine fA ?_)|(refine fN ?_)|(refine qc (fun bk hbk=> ?_)))
   all_goals
    refine⟨{g with ra:=aR,rc:=cR,rD:=DR,oa:=a1,oc:=c1,oD:=D1},⟨rfl,⟨h.d,h.m,h.a,h.al,hbR,h.w,hb1⟩,rfl⟩,?_⟩
    dsimp only[BG.O,BG.pre,BG.post,BM.put]
    simp only[List.length_append,List.length_cons,List.length_nil,Nat.zero_add]
    first|exact qoH|exact qoI
theorem qr4{x:Ins}(h:g.ok W0 K b)(hx:qv x=0)(hop:x.op=15)(hc:qL c=0)(hpc:b.t.pc≤64){k:Nat}(hk:q0a c (b.t.rg.get x.a.toNat)=k)(hkt:b.tk[k]? =some true)(q:Own):
  q0E Tryz.prog W0 106 [.pointer (some ⟨dp.rb,0,none⟩), .pointer (some ⟨g.xb,0,none⟩),x.v] (g.O b false++(dp.O c np s++q)) fun v own'=>∃g1:BG,(v= .int .i64 0∧g1.ok W0 K {b with tk:=b.tk.set k false}.go∧g1.xb=g.xb)∧Ent W0 own' (g1.O {b with tk:=b.tk.set k false}.go false++(dp.O c np s++q)):=by
 refine qa qj q6 (by simp[q4]) ?_
 obtain⟨ha,hb⟩:=qo2 hx
 have ha':x.a.toNat<8:=by omega
 have hb':x.b.toNat<8:=by omega
 have hwd:=(q1R hc).1
 unfold okW at hwd
 have hln:=fun own=>q9 (W0:=W0) (b:=g.xb) (o:=2) (x:=x) (by simp[isL,hop]) own
 obtain⟨op,a,b',c',imm⟩:=x
 dsimp only[Ins.v] at*
 subst hop
 have hfi:=fun own=>qn6 W0 own c (b.t.rg.get a.toNat)
 rw[hk] at hfi
 have hM0:=h.m
 have hMR:=hM0.rd (W0:=W0)
 have hk0:¬((k:Nat):Int)<0:=by omega
 repeat'((try(conv=>whnf));first|(refine fE ?_)|(refine fD ?_)|(refine q4D (t:=b.t) (pre:=g.pre b) (post:=g.post b false) ha' ?_ ?_;(simp;omega))|((with_reducible show qf _ _ _ _ _ _);first|((refine qg (hln _) ?_)))|((with_reducible show q0b _ _ _ _ _ _);first|((refine qq (fun ex=>hfi _) ?_ ?_ ?_;(exact rfl);(exact rfl);(apply Stop.h))))|(refine fP ?_)|(refine fA ?_)|(refine fL ?_)|(refine fQ ?_)|(refine fM ?_)|(refine qc (fun bk hbk=> ?_)))
 refine Stop.mk ?_
 repeat'((try(conv=>whnf));first|(refine fH ?_)|(refine fD ?_)|(apply q5Q (enc:=qmx) (T:=4) (j:=k) (k:=0) false hM0 hkt;(omega);(omega);(exact rfl);(exact rfl);intro D1 hb1)|(refine q8F (t:=b.t) (pre:=g.pre (b)) (post:=g.post b false) (k:=0) (v:= .int .i64 b.t.pc) rfl ?_ ?_;(exact rfl))|(refine qmE (t:=b.t) (pre:=g.pre (b)) (post:=g.post b false) (n:=b.t.pc+1) ?_ ?_ ?_;(omega);(exact rfl))|((with_reducible show Ld _ _ _ _);first|(refine q1M hMR hkt rfl ?_))|((with_reducible show IxS _ _ _ _ _);first|((refine ixE hMR hkt ?_ ?_;(first|rfl|omega))))|(refine fB ?_)|(refine fA ?_))
 refine⟨{g with kD:=D1},⟨rfl,⟨h.d,hb1,h.a,h.al,h.r,h.w,h.o⟩,rfl⟩,?_⟩
 dsimp only[BG.O,BG.pre,BG.post,BM.go]
 rw[List.length_set]
 exact qqy
end
open Go
section
variable{W0:World}{K:Own}{g:BG}{dp:DP}{c:Cfg}{np:Nat}{s:GS}{b:BM}
theorem qqz{e a b:Nat×(Obj→Prop)}{A Z:Own}:Ent W0 ([e]++(a::(b::(A++Z)))) ((e::A)++Z):=qo [a,b]
theorem qrl{x:Ins}(h:g.ok W0 K b)(hx:qv x=0)(hl:isL x=true)(hrg:b.t.rg.ok)(hpc:b.t.pc≤64)(q:Own):
  q0E Tryz.prog W0 106 [.pointer (some ⟨dp.rb,0,none⟩), .pointer (some ⟨g.xb,0,none⟩),x.v] (g.O b false++(dp.O c np s++q)) fun v own'=>∃g1:BG,
   (v= .int .i64 0∧g1.ok W0 K {b with t:=q6a b.t x}∧g1.xb=g.xb)∧Ent W0 own' (g1.O {b with t:=q6a b.t x} false++(dp.O c np s++q)):=by
 refine qa qj q6 (by simp[q4]) ?_
 have hly:=fun r=>qnj (W0:=W0) (b:=g.xb) (T:=174) (pre:=g.pre b) (post:=g.post b false) (t:=b.t) (o:=2) hx hl hrg hpc rfl r
 obtain⟨op,a,b',c',imm⟩:=x
 dsimp only[Ins.v] at*
 repeat'((try(conv=>whnf));first|(refine fE ?_)|((with_reducible show qf _ _ _ _ _ _);first|((refine qgV (hly _) ?_ ?_ (fun _ v hv=> ?_);(exact rfl);(exact rfl);(subst hv))))|(refine fL ?_)|(refine fQ ?_)|(refine fM ?_)|(refine qc (fun bk hbk=> ?_)))
 exact⟨g,⟨rfl,⟨h.d,h.m,h.a,h.al,h.r,h.w,h.o⟩,rfl⟩,qqz⟩
theorem qqb{x:Ins}(h:g.ok W0 K b)(hx:qv x=0)(hop:x.op=15)(htk:b.tk.length=(qy c).toNat)(hk:q0a c (b.t.rg.get x.a.toNat)<0∨b.tk.getD (q0a c (b.t.rg.get x.a.toNat)).toNat false=false)(q:Own):
  qD Tryz.prog W0 106 [.pointer (some ⟨dp.rb,0,none⟩), .pointer (some ⟨g.xb,0,none⟩),x.v] (g.O b false++(dp.O c np s++q)) (.int .i64 8):=by
 refine qe (qa qj q6 (by simp[q4]) ?_)
 obtain⟨ha, -⟩:=qo2 hx
 have ha':x.a.toNat<8:=by omega
 have hln:=fun own=>q9 (W0:=W0) (b:=g.xb) (o:=2) (x:=x) (by simp[isL,hop]) own
 obtain⟨op,a,b',c',imm⟩:=x
 dsimp only[Ins.v] at*
 subst hop
 have hfi:=fun own=>qn6 W0 own c (b.t.rg.get a.toNat)
 have hMR:=h.m.rd (W0:=W0)
 have hfb:=q8G c (b.t.rg.get a.toNat)
 generalize q0a c (b.t.rg.get a.toNat)=k at*
 repeat'((try(conv=>whnf));first|(refine fE ?_)|(refine fD ?_)|(refine q4D (t:=b.t) (pre:=g.pre b) (post:=g.post b false) ha' ?_ ?_;(simp;omega))|((with_reducible show qf _ _ _ _ _ _);first|((refine qg (hln _) ?_)))|((with_reducible show q0b _ _ _ _ _ _);first|((refine qq (fun ex=>hfi _) ?_ ?_ ?_;(exact rfl);(exact rfl);(apply Stop.h))))|(refine fP ?_)|(refine fA ?_)|(refine fL ?_)|(refine fQ ?_)|(refine fM ?_)|(refine qc (fun bk hbk=> ?_)))
 refine Stop.mk ?_
 by_cases hk0:k<0
 ·repeat'((try(conv=>whnf));first|(refine fI ?_)|(refine fE ?_)|(refine fJ ?_))
  all_goals exact⟨rfl,(eC)⟩
 ·obtain⟨kn,rfl⟩:=Int.eq_ofNat_of_zero_le (show 0≤k by omega)
  rcases hk with hk|hk
  ·exact absurd hk hk0
  ·rw[Int.toNat_natCast] at hk
   obtain⟨y,hy⟩:∃y,b.tk[kn]? =some y:=⟨_,List.getElem?_eq_getElem (by omega)⟩
   have hyf:y=false:=by
    rw[List.getD_eq_getElem?_getD,hy] at hk
    exact hk
   subst hyf
   repeat'((try(conv=>whnf));first|(refine fH ?_)|(refine fE ?_)|((with_reducible show Ld _ _ _ _);first|(refine q1M hMR hy rfl ?_))|((with_reducible show IxS _ _ _ _ _);first|((refine ixE hMR hy ?_ ?_;(first|rfl|omega))))|(refine fA ?_))
   all_goals exact⟨rfl,(eC)⟩
end
open Go
section
variable{W0:World}{K:Own}{g:BG}{dp:DP}{c:Cfg}{np:Nat}{s:GS}{b:BM}
theorem qnI{e a b:Nat×(Obj→Prop)}{A Z:Own}:Ent W0 (a::(b::((e::A)++Z))) ((e::A)++Z):=qo [a,b]
theorem qqa{x:Ins}(h:g.ok W0 K b)(hop:x.op=14)(htk:b.tk.length=(qy c).toNat)(had:∀a∈b.ad,a≤9223372036854775807)(hn:alB c b.tk b.ad x.imm=none)(q:Own) [ek:qt q K]:
  q0E Tryz.prog W0 106 [.pointer (some ⟨dp.rb,0,none⟩), .pointer (some ⟨g.xb,0,none⟩),x.v] (g.O b false++(dp.O c np s++q)) fun v own'=>v= .int .i64 0∧Ent W0 own' (g.O b true++(dp.O c np s++q)):=by
 refine qa qj q6 (by simp[q4]) ?_
 have hln:=fun own=>q9 (W0:=W0) (b:=g.xb) (o:=2) (x:=x) (by simp[isL,hop]) own
 obtain⟨op,a,b',c',imm⟩:=x
 dsimp only[Ins.v] at*
 subst hop
 have hMR:=h.m.rd (W0:=W0)
 have hAR:=h.a
 unfold alB at hn
 cases hadl:b.ad with
 |nil=>
  have hl0:¬(0:Int)<(b.ad.length:Nat):=by rw[hadl];simp
  repeat'((try(conv=>whnf));first|(refine fI ?_)|(refine fE ?_)|(refine fD ?_)|(refine fK ?_)|((with_reducible show qf _ _ _ _ _ _);first|((refine qg (hln _) ?_)))|(refine fA ?_)|(refine fL ?_)|(refine fQ ?_)|(refine fN ?_)|(refine fM ?_)|(refine qc (fun bk hbk=> ?_)))
  all_goals exact⟨rfl,qnI⟩
 |cons a0 r=>
  have hx:b.ad[0]? =some a0:=by rw[hadl];rfl
  have hl0:(0:Int)<(b.ad.length:Nat):=by rw[hadl];simp
  have ha1:=had a0 (by rw[hadl];exact List.mem_cons_self)
  rw[hadl] at hn
  dsimp only at hn
  by_cases ha0:a0<0
  ·have ha0':¬0≤a0:=by omega
   repeat'((try(conv=>whnf));first|(refine fH ?_)|(refine fI ?_)|(refine fE ?_)|(refine fD ?_)|(refine fG ?_)|(refine fJ ?_)|((with_reducible show Ld _ _ _ _);first|(refine q1M hAR hx rfl ?_))|((with_reducible show IxS _ _ _ _ _);first|((refine ixE hAR hx ?_ ?_;(first|rfl|omega))))|((with_reducible show qf _ _ _ _ _ _);first|((refine qg (hln _) ?_)))|(refine fA ?_)|(refine fL ?_)|(refine fQ ?_)|(refine fN ?_)|(refine fM ?_)|(refine qc (fun bk hbk=> ?_)))
   all_goals exact⟨rfl,qnI⟩
  ·have hfi:=fun own=>qn6 W0 own c a0
   have hcl:=fun own=>qmS W0 own c (q0a c a0)
   have hfb:=q8G c a0
   by_cases hk0:q0a c a0<0
   ·generalize q0a c a0=k at*
    repeat'((try(conv=>whnf));first|(refine fH ?_)|(refine fI ?_)|(refine fE ?_)|(refine fD ?_)|(refine fF ?_)|(refine fJ ?_)|(refine fC ?_)|((with_reducible show Ld _ _ _ _);first|(refine q1M hAR hx rfl ?_))|((with_reducible show IxS _ _ _ _ _);first|((refine ixE hAR hx ?_ ?_;(first|rfl|omega))))|((with_reducible show qf _ _ _ _ _ _);first|((refine qg (hln _) ?_)))|((with_reducible show q0b _ _ _ _ _ _);first|((refine qq (fun ex=>hfi _) ?_ ?_ ?_;(exact rfl);(exact rfl))))|(refine fA ?_)|(refine fL ?_)|(refine fQ ?_)|(refine fN ?_)|(refine fM ?_)|(refine qc (fun bk hbk=> ?_)))
    all_goals exact⟨rfl,qnI⟩
   ·obtain⟨kn,hkn⟩:=Int.eq_ofNat_of_zero_le (show 0≤q0a c a0 by omega)
    rw[hkn] at hfi hcl hfb hk0 hn
    obtain⟨y,hy⟩:∃y,b.tk[kn]? =some y:=⟨_,List.getElem?_eq_getElem (by omega)⟩
    by_cases hc1:q3K c (kn:Int)≠imm
    ·generalize q3K c (kn:Int)=cm at*
     repeat'((try(conv=>whnf));first|(refine fH ?_)|(refine fI ?_)|(refine fE ?_)|(refine fD ?_)|(refine fF ?_)|(refine fJ ?_)|(refine fC ?_)|((with_reducible show Ld _ _ _ _);first|(refine q1M hAR hx rfl ?_))|((with_reducible show IxS _ _ _ _ _);first|((refine ixE hAR hx ?_ ?_;(first|rfl|omega))))|((with_reducible show qf _ _ _ _ _ _);first|((refine qg (hln _) ?_)))|((with_reducible show q0b _ _ _ _ _ _);first|((refine qq (fun ex=>hfi _) ?_ ?_ ?_;(exact rfl);(exact rfl)))|((refine qq (fun ex=>hcl _) ?_ ?_ ?_;(exact rfl);(exact rfl))))|(refine fA ?_)|(refine fL ?_)|(refine fQ ?_)|(refine fN ?_)|(refine fM ?_)|(refine qc (fun bk hbk=> ?_)))
     all_goals exact⟨rfl,qnI⟩
    ·have hyt:y=true:=by
      by_cases hy1:y=true
      ·exact hy1
      ·have hyf:y=false:=by simpa using hy1
       rw[if_neg] at hn
       ·cases hn
       ·rw[Int.toNat_natCast,List.getD_eq_getElem?_getD,hy,hyf]
        simp
        omega
     subst hyt
     generalize q3K c (kn:Int)=cm at*
     repeat'((try(conv=>whnf));first|(refine fH ?_)|(refine fE ?_)|(refine fD ?_)|(refine fF ?_)|(refine fJ ?_)|(refine fK ?_)|(refine fC ?_)|((with_reducible show Ld _ _ _ _);first|(refine q1M hAR hx rfl ?_)|(refine q1M hMR hy rfl ?_))|((with_reducible show IxS _ _ _ _ _);first|((refine ixE hAR hx ?_ ?_;(first|rfl|omega)))|((refine ixE hMR hy ?_ ?_;(first|rfl|omega))))|((with_reducible show qf _ _ _ _ _ _);first|((refine qg (hln _) ?_)))|((with_reducible show q0b _ _ _ _ _ _);first|((refine qq (fun ex=>hfi _) ?_ ?_ ?_;(exact rfl);(exact rfl)))|((refine qq (fun ex=>hcl _) ?_ ?_ ?_;(exact rfl);(exact rfl))))|(refine fA ?_)|(refine fL ?_)|(refine fQ ?_)|(refine fN ?_)|(refine fM ?_)|(refine qc (fun bk hbk=> ?_)))
     all_goals exact⟨rfl,qnI⟩
end
open Go
section
variable{W0:World}{K:Own}{g:BG}{dp:DP}{c:Cfg}{np:Nat}{s:GS}{b:BM}
theorem qqA{e a b:Nat×(Obj→Prop)}{A Z:Own}:Ent W0 (a::(b::((e::A)++Z))) ([b]++((e::A)++Z)):=qo [a]
theorem qqB{e a b:Nat×(Obj→Prop)}{A Z:Own}:Ent W0 (a::([b]++((e::A)++Z))) ((e::A)++Z):=qo [a,b]
theorem qr3{x:Ins}(h:g.ok W0 K b)(hx:qv x=0)(hop:x.op=14)(hc:qL c=0)(hdl:(b.d.length:Int)=c.words)(hpc:b.t.pc≤64)(hw:b.w.length≤900000)(ho:b.o.length≤900000)(htk:b.tk.length=(qy c).toNat)(had:∀a∈b.ad,a≤9223372036854775807){z k:Nat}(hn:alB c b.tk b.ad x.imm=some (z,k))(q:Own) [ek:qt q K]:
  q0E Tryz.prog W0 106 [.pointer (some ⟨dp.rb,0,none⟩), .pointer (some ⟨g.xb,0,none⟩),x.v] (g.O b false++(dp.O c np s++q)) fun v own'=>∃g1:BG,
   (v= .int .i64 0∧g1.ok W0 K ((wrL {b with ad:=b.ad.tail,tk:=b.tk.set k true} z (2 ^ x.imm.toNat)).put x.a 2 z)∧g1.xb=g.xb)∧Ent W0 own' (g1.O ((wrL {b with ad:=b.ad.tail,tk:=b.tk.set k true} z (2 ^ x.imm.toNat)).put x.a 2 z) false++(dp.O c np s++q)):=by
 refine qa qj q6 (by simp[q4]) ?_
 obtain⟨ha, -⟩:=qo2 hx
 have ha':x.a.toNat<8:=by omega
 have hwd:=(q1R hc).1
 unfold okW at hwd
 have hi:=(q2l hx).2.2.2.2.2 hop
 have hln:=fun own=>q9 (W0:=W0) (b:=g.xb) (o:=2) (x:=x) (by simp[isL,hop]) own
 obtain⟨op,a,b',c',imm⟩:=x
 dsimp only[Ins.v] at*
 subst hop
 obtain⟨ad',hadl,hkb,hfi0,hcl0,htk0,hroom⟩:=qiN hn
 have hM0:=h.m
 have hMR:=hM0.rd (W0:=W0)
 have hAR:=h.a
 have hx0:b.ad[0]? =some (z:Int):=by rw[hadl];rfl
 have hal:=h.al
 have hlen:b.ad.length=ad'.length+1:=by rw[hadl];rfl
 have hl0:(0:Int)<(b.ad.length:Nat):=by omega
 have hz1:=had z (by rw[hadl];exact List.mem_cons_self)
 have hlf:q0a c (z:Int)=k:=by
  unfold alB at hn
  rw[hadl] at hn
  dsimp only at hn
  split at hn
  ·cases hn
  ·have:=Option.some.inj hn
   simp only[Prod.mk.injEq] at this
   omega
 have hfi:=fun own=>qn6 W0 own c z
 have hcl:=fun own=>qmS W0 own c k
 have hft:=fun own=>sp_rfirst W0 own c k
 rw[hlf] at hfi
 rw[hcl0] at hcl
 rw[hfi0] at hft
 obtain⟨y,hy⟩:∃y,b.tk[k]? =some y:=⟨_,List.getElem?_eq_getElem (by omega)⟩
 have hyf:y=false:=by
  rw[List.getD_eq_getElem?_getD,hy] at htk0
  exact htk0
 subst hyf
 have hk0:¬((k:Nat):Int)<0:=by omega
 have hii:¬imm≠imm:=fun h=>h rfl
 have hM8:(2:Nat) ^ imm.toNat≤8:=by
  have:imm.toNat=0∨imm.toNat=1∨imm.toNat=2∨imm.toNat=3:=by omega
  rcases this with h|h|h|h <;>rw[h] <;>decide
 repeat'((try(conv=>whnf));first|((with_reducible show qf _ _ _ _ _ _);first|((refine qg (hln _) ?_;(apply Stop.h))))|(refine fL ?_)|(refine fQ ?_)|(refine fM ?_)|(refine qc (fun bk hbk=> ?_)))
 rename_i b5 h5
 refine Stop.mk ?_
 repeat'((try(conv=>whnf));first|(refine fH ?_)|(refine fE ?_)|(refine fD ?_)|(refine fJ ?_)|(refine fK ?_)|(refine fC ?_)|(refine qfF hlen ?_)|(apply q5Q (enc:=qmx) (T:=4) (j:=k) (k:=0) true hM0 hy;(omega);(omega);(exact rfl);(exact rfl);intro D1 hb1)|((with_reducible show Ld _ _ _ _);first|(refine q1M hAR hx0 rfl ?_)|(refine q1M hMR hy rfl ?_))|((with_reducible show IxS _ _ _ _ _);first|((refine ixE hAR hx0 ?_ ?_;(first|rfl|omega)))|((refine ixE hMR hy ?_ ?_;(first|rfl|omega))))|((with_reducible show qf _ _ _ _ _ _);first|((refine qh (hft _) ?_ ?_ ?_;(exact rfl);exact rfl)))|((with_reducible show q0b _ _ _ _ _ _);first|((refine qq (fun ex=>hfi _) ?_ ?_ ?_;(exact rfl);(exact rfl)))|((refine qq (fun ex=>hcl _) ?_ ?_ ?_;(exact rfl);(exact rfl))))|(refine fA ?_)|(refine fL ?_)|(refine fN ?_))
 have hM:(1:Int)*2 ^ imm.toNat=((2 ^ imm.toNat:Nat):Int):=by simp
 generalize hMM:2 ^ imm.toNat=M at hM8 hM hroom ⊢
 have hok1:({g with kD:=D1,aa:=slA g.aa g.ac 1 1,ac:=g.ac-1}:BG).ok W0 K {b with ad:=b.ad.tail,tk:=b.tk.set k true}:=by
  refine⟨h.d,hb1,?_,?_,h.r,h.w,h.o⟩
  ·have:=hAR.sl (c:=1) (r:=b.ad.length) (m:=g.ac) (Nat.le_refl _) h.al
   have e:(b.ad.drop 1).take (b.ad.length-1)=b.ad.tail:=by rw[hadl];simp
   rw[e] at this
   exact this
  ·show b.ad.tail.length≤g.ac-1
   rw[hadl] at hal ⊢
   simp at hal ⊢
   omega
 obtain⟨b1,hb1e⟩:∃b1:BM,b1={b with ad:=b.ad.tail,tk:=b.tk.set k true}:=⟨_,rfl⟩
 rw[←hb1e] at hok1 ⊢
 have hwl:=qfZ b1 z
 have hb1w:b1.w=b.w∧b1.d=b.d∧b1.o=b.o∧b1.t=b.t:=by rw[hb1e];exact⟨rfl,rfl,rfl,rfl⟩
 refine q0Z (σ:=Nat×BG) (fun y=> [(13, .int .i64 y.1)]) (fun y=> [(b5,fun o=>o=Obj.cells #[.int .i64 14, .int .i64 a, .int .i64 b', .int .i64 c', .int .i64 imm] 69 (0,0))]++(y.2.O (wrL b1 z y.1) false++(dp.O c np s++q))) (fun y=>y.1≤M∧y.2.ok W0 K (wrL b1 z y.1)∧y.2.xb=g.xb) (fun y=>M-y.1) (0,{g with kD:=D1,aa:=slA g.aa g.ac 1 1,ac:=g.ac-1}) ⟨Nat.zero_le _,hok1,rfl⟩ (eF) ?_ rfl ?_
 ·subst hb1e
  have e1:(b.tk.set k true).length=b.tk.length:=List.length_set ..
  have e2:b.ad.tail.length=ad'.length:=by rw[hadl];rfl
  dsimp only[wrL,BG.O,BG.pre,BG.post]
  rw[e1,e2]
  exact qqA
 ·rintro⟨n,g'⟩ junk ⟨hn',hok,hxb⟩
  dsimp only at hn' hok hxb ⊢
  obtain⟨w1,w2,w3,w4,w5,w6,w7⟩:=hwl n
  rw[hb1w.1] at w1
  by_cases hlt:n<M
  ·have hlt':(n:Int)<M:=by omega
   have hwr:=qnN (bad:=false) (a:=z+n) hok (by rw[w2,hb1w.2.1];omega) (by omega) 0
   rw[Int.natCast_add,hxb] at hwr
   have hwk:=qG (E:= [(b5,fun o=>o=Obj.cells #[.int .i64 14, .int .i64 a, .int .i64 b', .int .i64 c', .int .i64 imm] 69 (0,0))]) (q:=dp.O c np s++q) hwr
   repeat'((try(conv=>whnf));first|(refine fF ?_)|(refine qkV ?_ hM ?_ ?_;omega;omega)|((with_reducible show qf _ _ _ _ _ _);first|((refine qm hwk ?_ ?_ ?_ (fun y v hv=> ?_);(exact Ent.refl);(exact rfl);(exact rfl))))|(refine fB ?_)|(refine fA ?_))
   exact⟨(n+1,y),⟨by dsimp only;omega,hv.1,hv.2⟩,by dsimp only;omega,(eF),Ent.refl⟩
  ·have hnM:n=M:=by omega
   subst hnM
   have hlt':¬(n:Int)<n:=by omega
   have hO9:=hok.o
   have hol:(wrL b1 z n).o.length≤900000:=by rw[w3,hb1w.2.2.1];exact ho
   have hte:(wrL b1 z n).t=b.t:=by rw[w5,hb1w.2.2.2]
   rw[←hxb]
   have hpc9:(wrL b1 z n).t.pc≤64:=by rw[hte];exact hpc
   generalize wrL b1 z n=B at*
   repeat'((try(conv=>whnf));first|(refine fG ?_)|(refine qkV ?_ hM ?_ ?_;omega;omega)|(refine fC ?_)|(refine qa1 (t:=B.t) (pre:=g'.pre B) (post:=g'.post B false) ha' ?_ ?_;(simp;omega))|(refine qlz (v:= .int .i64 B.t.pc) ?_ ?_;(exact rfl))|(apply q69 (enc:=ObM.enc) (T:=127) ⟨B.t.pc,2,z⟩ hO9;(exact rfl);(exact rfl);(omega);(exact rfl);(exact rfl);(omega);intro a9 c9 D9 hb9)|(refine fB ?_)|(refine fP ?_)|(refine fA ?_)|(refine fN ?_)|(refine qc (fun bk hbk=> ?_)))
   refine⟨{g' with oa:=a9,oc:=c9,oD:=D9},⟨rfl,⟨hok.d,hok.m,hok.a,hok.al,hok.r,hok.w,hb9⟩,rfl⟩,?_⟩
   dsimp only[BG.O,BG.pre,BG.post,BM.put]
   simp only[List.length_append,List.length_cons,List.length_nil,Nat.zero_add]
   exact qqB
end
open Go
section
variable{W0:World}{K:Own}{g:BG}{dp:DP}{c:Cfg}{np:Nat}{s:GS}{b:BM}
abbrev InP(W0:World)(K:Own)(g:BG)(dp:DP)(c:Cfg)(np:Nat)(s:GS)(b:BM)(z:BM×Int)(q:Own)(v:Value)(own':Own):Prop:=
 ((v= .int .i64 0∧z.2= -1)∧Ent W0 own' (g.O b true++(dp.O c np s++q)))∨
 ∃y:BG×BM,(v= .int .i64 z.2∧z.2≠ -1∧y.1.ok W0 K y.2∧y.1.xb=g.xb∧(z.2=0→y.2=z.1)∧(z.2≠0→y.2=b))∧Ent W0 own' (y.1.O y.2 false++(dp.O c np s++q))
theorem qqS{x:Ins}{q:Own}{z:BM×Int}(h:g.ok W0 K b)(h0:z.2≠0)(h1:z.2≠ -1)(hp:qD Tryz.prog W0 106 [.pointer (some ⟨dp.rb,0,none⟩), .pointer (some ⟨g.xb,0,none⟩),x.v] (g.O b false++(dp.O c np s++q)) (.int .i64 z.2)):
  q0E Tryz.prog W0 106 [.pointer (some ⟨dp.rb,0,none⟩), .pointer (some ⟨g.xb,0,none⟩),x.v] (g.O b false++(dp.O c np s++q)) (InP W0 K g dp c np s b z q):=fun w hw=>
 (hp w hw).mono fun _ _ ⟨he,hs⟩=>⟨_,_,he,hs, .inr ⟨(g,b),⟨rfl,h1,h,rfl,fun e=>absurd e h0,fun _=>rfl⟩,Ent.refl⟩⟩
theorem qqT{x:Ins}{q:Own}{z:BM×Int}{b':BM}(hz:z=(b',0))(hs:q0E Tryz.prog W0 106 [.pointer (some ⟨dp.rb,0,none⟩), .pointer (some ⟨g.xb,0,none⟩),x.v] (g.O b false++(dp.O c np s++q)) fun v own'=>∃g1:BG,(v= .int .i64 0∧g1.ok W0 K b'∧g1.xb=g.xb)∧Ent W0 own' (g1.O b' false++(dp.O c np s++q))):
  q0E Tryz.prog W0 106 [.pointer (some ⟨dp.rb,0,none⟩), .pointer (some ⟨g.xb,0,none⟩),x.v] (g.O b false++(dp.O c np s++q)) (InP W0 K g dp c np s b z q):=fun w hw=>by
 subst hz
 exact(hs w hw).mono fun _ _ ⟨v,o,a,d,g1,⟨h1,h2,h3⟩,hE⟩=>⟨v,o,a,d, .inr ⟨(g1,b'),⟨h1,(by simp),h2,h3,fun _=>rfl,fun e=>absurd rfl e⟩,hE⟩⟩
theorem qp0{x:Ins}(h:g.ok W0 K b)(hx:qv x=0)(hop:isL x=true∨x.op=8∨x.op=9∨x.op=10∨x.op=11∨x.op=14∨x.op=15)(hc:qL c=0)(hB:BI c b)(hpc:b.t.pc≤64)(q:Own) [ek:qt q K]:
  q0E Tryz.prog W0 106 [.pointer (some ⟨dp.rb,0,none⟩), .pointer (some ⟨g.xb,0,none⟩),x.v] (g.O b false++(dp.O c np s++q)) (InP W0 K g dp c np s b (q18 c b x) q):=by
 have hrl:=hB.rl
 have hwl:=hB.wl
 have hol:=hB.ol
 have hz0:=(q9l (r:=b.t.rg) (b:=x.a) (imm:=x.imm)).1
 have hy0:=(q9l (r:=b.t.rg) (b:=x.b) (imm:=x.imm)).1
 obtain⟨z,hz⟩:=Int.eq_ofNat_of_zero_le hz0
 obtain⟨y,hy⟩:=Int.eq_ofNat_of_zero_le hy0
 rcases hop with hl|h8|h9|h10|h11|h14|h15
 ·have hn:¬x.op=10∧¬x.op=11∧¬x.op=14∧¬x.op=15∧¬x.op=8∧¬x.op=9:=by simp only[isL,decide_eq_true_eq] at hl;omega
  refine qqT ?_ (qrl h hx hl hB.rg hpc q)
  unfold q18
  rw[if_neg hn.1,if_neg hn.2.1,if_neg hn.2.2.1,if_neg hn.2.2.2.1,if_neg hn.2.2.2.2.1,if_neg hn.2.2.2.2.2]
 ·have e:q18 c b x=(b.go,1):=by unfold q18;simp[h8]
  rw[e]
  exact qqS h (by simp) (by simp) (by have:=qpP (W0:=W0) (g:=g) (dp:=dp) (c:=c) (np:=np) (s:=s) (b:=b) (.inl h8) q;rwa[if_pos h8] at this)
 ·have e:q18 c b x=(b.go,2):=by unfold q18;simp[h9]
  rw[e]
  exact qqS h (by simp) (by simp) (by have:=qpP (W0:=W0) (g:=g) (dp:=dp) (c:=c) (np:=np) (s:=s) (b:=b) (.inr h9) q;rwa[if_neg (by omega)] at this)
 ·have e:q18 c b x=if c.words≤(y:Int) then(b.go,7) else((rdM b y).put x.a 1 (b.d.getD y 0),0):=by unfold q18;rw[if_pos h10,hy];simp
  by_cases hw:c.words≤(y:Int)
  ·rw[e,if_pos hw]
   exact qqS h (by simp) (by simp) (qq8 hx h10 hc hy hw q)
  ·exact qqT (by rw[e,if_neg hw]) (qr1 h hx h10 hc hpc hB.dl (by omega) (by omega) (by omega) hy (by omega) q)
 ·have e:q18 c b x=if c.words≤(z:Int) then(b.go,7) else((wrM b z (b.t.rg.get x.b.toNat)).go,0):=by unfold q18;rw[if_neg (by omega),if_pos h11,hz];simp
  by_cases hw:c.words≤(z:Int)
  ·rw[e,if_pos hw]
   exact qqS h (by simp) (by simp) (qq9 hx h11 hc hz hw q)
  ·exact qqT (by rw[e,if_neg hw]) (qr2 h hx h11 hc hpc hB.dl (by omega) hz (by omega) q)
 ·cases ha:alB c b.tk b.ad x.imm with
  |none=>
   have e:q18 c b x=(b, -1):=by unfold q18;rw[if_neg (by omega),if_neg (by omega),if_pos h14,ha]
   rw[e]
   exact fun w hw=>(qqa h h14 hB.tl hB.ad ha q w hw).mono fun _ _ ⟨v,o,a,d,h1,hE⟩=>⟨v,o,a,d, .inl ⟨⟨h1,rfl⟩,hE⟩⟩
  |some r=>
   obtain⟨r1,r2⟩:=r
   exact qqT (by unfold q18;rw[if_neg (by omega),if_neg (by omega),if_pos h14,ha]) (qr3 h hx h14 hc hB.dl hpc (by omega) (by omega) hB.tl hB.ad ha q)
 ·have e:q18 c b x=if q0a c (b.t.rg.get x.a.toNat)<0∨b.tk.getD (q0a c (b.t.rg.get x.a.toNat)).toNat false=false then(b.go,8) else({b with tk:=b.tk.set (q0a c (b.t.rg.get x.a.toNat)).toNat false}.go,0):=by
   unfold q18;rw[if_neg (by omega),if_neg (by omega),if_neg (by omega),if_pos h15]
  by_cases hk:q0a c (b.t.rg.get x.a.toNat)<0∨b.tk.getD (q0a c (b.t.rg.get x.a.toNat)).toNat false=false
  ·rw[e,if_pos hk]
   exact qqS h (by simp) (by simp) (qqb h hx h15 hB.tl hk q)
  ·obtain⟨kn,hkn⟩:=Int.eq_ofNat_of_zero_le (show 0≤q0a c (b.t.rg.get x.a.toNat) by omega)
   have hlf:=q8G c (b.t.rg.get x.a.toNat)
   have htl:=hB.tl
   rw[hkn,Int.toNat_natCast] at hk
   rw[hkn] at hlf
   obtain⟨t0,ht0⟩:∃t0,b.tk[kn]? =some t0:=⟨_,List.getElem?_eq_getElem (by omega)⟩
   have htt:t0=true:=by
    cases t0 with
    |true=>rfl
    |false=>exact absurd (.inr (by rw[List.getD_eq_getElem?_getD,ht0];rfl)) hk
   subst htt
   exact qqT (by rw[e,hkn,Int.toNat_natCast,if_neg hk]) (qr4 h hx h15 hc hpc hkn ht0 q)
end
open Go
section
variable{W0:World}{own:Own}
theorem qoJ{a:Nat×(Obj→Prop)}{A Z:Own}:Ent W0 (a::(A++Z)) (A++Z):=qo [a]
theorem qpa{α:Type}{l:List α}{i:Nat}{x:α}(hx:l[i]? =some x):l.take i++ [x]=l.take (i+1):=by
 rw[List.take_add_one,hx];rfl
theorem qmn{a:Option Addr}{l:List Int}{cap:Nat}(hR:RdE q7j 1 W0 own a l)(hl:l.length≤1000000):
  q0E Tryz.prog W0 50 [.slice a l.length cap] own fun v own'=>∃s:Option Addr×Nat×Own,(v= .slice s.1 l.length s.2.1∧qr q7j 58 1 s.1 s.2.1 l s.2.2)∧Ent W0 own' (s.2.2++own):=by
 refine qa qj qmV (by simp[qlU]) ?_
 refine q0Z (σ:=Nat×Option Addr×Nat×Own) (fun y=> [(3, .slice y.2.1 (l.take y.1).length y.2.2.1),(4, .int .i64 y.1)]) (fun y=>y.2.2.2++own)
  (fun y=>y.1≤l.length∧qr q7j 58 1 y.2.1 y.2.2.1 (l.take y.1) y.2.2.2) (fun y=>l.length-y.1) (0,none,0,[]) ⟨Nat.zero_le _,qr.nil⟩ (eF) Ent.refl rfl ?_
 rintro⟨i,a1,c1,D1⟩ junk ⟨hi,hB⟩
 dsimp only at hi hB ⊢
 have htl:(l.take i).length=i:=by rw[List.length_take];omega
 by_cases hil:i<l.length
 ·obtain⟨x,hx⟩:∃x,l[i]? =some x:=⟨_,List.getElem?_eq_getElem hil⟩
  have htk:=qpa hx
  have hln:(l.take i).length+1=(l.take (i+1)).length:=by rw[←htk];simp
  repeat'((try(conv=>whnf));first|(refine fF ?_)|(apply q69 (enc:=q7j) (T:=58) x hB;(exact rfl);(exact rfl);(omega);(exact rfl);(exact rfl);(omega);intro a2 c2 D2 hb2)|((with_reducible show Ld _ _ _ _);first|(refine q1M hR hx rfl ?_))|((with_reducible show IxS _ _ _ _ _);first|((refine ixE hR hx ?_ ?_;(first|rfl|omega))))|(refine fB ?_)|(refine qc (fun bk hbk=> ?_)))
  rw[htk] at hb2
  rw[hln]
  exact⟨(i+1,a2,c2,D2),⟨hil,hb2⟩,(by show l.length-(i+1)<l.length-i;omega),(eF),qoJ⟩
 ·have hiN:i=l.length:=by omega
  subst hiN
  repeat'((try(conv=>whnf));first|(refine fG ?_))
  rw[List.take_length] at hB
  exact⟨(a1,c1,D1),⟨by rw[htl];rfl,hB⟩,Ent.refl⟩
theorem qmM{a:Option Addr}{l:List Int}{cap:Nat}(hR:RdE qM 1 W0 own a l)(hl:l.length≤1000000):
  q0E Tryz.prog W0 51 [.slice a l.length cap] own fun v own'=>∃s:Option Addr×Nat×Own,(v= .slice s.1 l.length s.2.1∧qr qM 3 1 s.1 s.2.1 l s.2.2)∧Ent W0 own' (s.2.2++own):=by
 refine qa qj qmY (by simp[qlY]) ?_
 refine q0Z (σ:=Nat×Option Addr×Nat×Own) (fun y=> [(3, .slice y.2.1 (l.take y.1).length y.2.2.1),(4, .int .i64 y.1)]) (fun y=>y.2.2.2++own)
  (fun y=>y.1≤l.length∧qr qM 3 1 y.2.1 y.2.2.1 (l.take y.1) y.2.2.2) (fun y=>l.length-y.1) (0,none,0,[]) ⟨Nat.zero_le _,qr.nil⟩ (eF) Ent.refl rfl ?_
 rintro⟨i,a1,c1,D1⟩ junk ⟨hi,hB⟩
 dsimp only at hi hB ⊢
 have htl:(l.take i).length=i:=by rw[List.length_take];omega
 by_cases hil:i<l.length
 ·obtain⟨x,hx⟩:∃x,l[i]? =some x:=⟨_,List.getElem?_eq_getElem hil⟩
  have htk:=qpa hx
  have hln:(l.take i).length+1=(l.take (i+1)).length:=by rw[←htk];simp
  repeat'((try(conv=>whnf));first|(refine fF ?_)|(apply q69 (enc:=qM) (T:=3) x hB;(exact rfl);(exact rfl);(omega);(exact rfl);(exact rfl);(omega);intro a2 c2 D2 hb2)|((with_reducible show Ld _ _ _ _);first|(refine q1M hR hx rfl ?_))|((with_reducible show IxS _ _ _ _ _);first|((refine ixE hR hx ?_ ?_;(first|rfl|omega))))|(refine fB ?_)|(refine qc (fun bk hbk=> ?_)))
  rw[htk] at hb2
  rw[hln]
  exact⟨(i+1,a2,c2,D2),⟨hil,hb2⟩,(by show l.length-(i+1)<l.length-i;omega),(eF),qoJ⟩
 ·have hiN:i=l.length:=by omega
  subst hiN
  repeat'((try(conv=>whnf));first|(refine fG ?_))
  rw[List.take_length] at hB
  exact⟨(a1,c1,D1),⟨by rw[htl];rfl,hB⟩,Ent.refl⟩
theorem qnt{a:Option Addr}{l:List Ins}{cap:Nat}(hR:RdE Ins.enc 5 W0 own a l)(hl:l.length≤1000000):
  q0E Tryz.prog W0 52 [.slice a l.length cap] own fun v own'=>∃s:Option Addr×Nat×Own,(v= .slice s.1 l.length s.2.1∧qr Ins.enc 69 5 s.1 s.2.1 l s.2.2)∧Ent W0 own' (s.2.2++own):=by
 refine qa qj qmJ (by simp[qlO]) ?_
 refine q0Z (σ:=Nat×Option Addr×Nat×Own) (fun y=> [(3, .slice y.2.1 (l.take y.1).length y.2.2.1),(4, .int .i64 y.1)]) (fun y=>y.2.2.2++own)
  (fun y=>y.1≤l.length∧qr Ins.enc 69 5 y.2.1 y.2.2.1 (l.take y.1) y.2.2.2) (fun y=>l.length-y.1) (0,none,0,[]) ⟨Nat.zero_le _,qr.nil⟩ (eF) Ent.refl rfl ?_
 rintro⟨i,a1,c1,D1⟩ junk ⟨hi,hB⟩
 dsimp only at hi hB ⊢
 have htl:(l.take i).length=i:=by rw[List.length_take];omega
 by_cases hil:i<l.length
 ·obtain⟨x,hx⟩:∃x,l[i]? =some x:=⟨_,List.getElem?_eq_getElem hil⟩
  have htk:=qpa hx
  obtain⟨op,ia,ib,ic,imm⟩:=x
  have hln:(l.take i).length+1=(l.take (i+1)).length:=by rw[←htk];simp
  repeat'((try(conv=>whnf));first|(refine fF ?_)|(apply q69 (enc:=Ins.enc) (T:=69) ⟨op,ia,ib,ic,imm⟩ hB;(exact rfl);(exact rfl);(omega);(exact rfl);(exact rfl);(omega);intro a2 c2 D2 hb2)|((with_reducible show IxS _ _ _ _ _);first|((refine ixE hR hx ?_ ?_;(first|rfl|omega))))|((with_reducible show LdN _ _ _ _ _);first|(refine q2e hR hx rfl ?_))|(refine fB ?_)|(refine qc (fun bk hbk=> ?_)))
  rw[htk] at hb2
  rw[hln]
  exact⟨(i+1,a2,c2,D2),⟨hil,hb2⟩,(by show l.length-(i+1)<l.length-i;omega),(eF),qoJ⟩
 ·have hiN:i=l.length:=by omega
  subst hiN
  repeat'((try(conv=>whnf));first|(refine fG ?_))
  rw[List.take_length] at hB
  exact⟨(a1,c1,D1),⟨by rw[htl];rfl,hB⟩,Ent.refl⟩
end
end Go.Proofs.YtkieffpjjfebjaaGreatDoor
