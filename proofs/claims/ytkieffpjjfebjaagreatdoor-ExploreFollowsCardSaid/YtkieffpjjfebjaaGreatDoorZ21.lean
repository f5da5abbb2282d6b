/- What the laws share, part 21. No condition. -/
import Derived.Test.YtkieffpjjfebjaaGreatDoorZ20
set_option maxHeartbeats 8000000
set_option maxRecDepth 10000
namespace Go.Proofs.YtkieffpjjfebjaaGreatDoor
open Go
section
variable{W0:World}{own own':Own}
theorem qfG{l:List Thr}{a:Option Addr}{j:Nat}{t:Thr}(hR:RdE Thr.enc 11 W0 own' a l)(hj:l[j]? =some t) [qt own own']{x:Ins}(hx:qv x=0)(hop:x.op=10∨x.op=11∨x.op=12∨x.op=13):
  qD Tryz.prog W0 125 [.pointer (some ⟨ab a,ao a+j*11,none⟩),x.v] own (.int .u64 (adr t.rg (if x.op=12∨x.op=10 then x.b else x.a) x.imm)):=by
 refine qe (qa qj q49 (by simp[q19]) ?_)
 obtain⟨h0,hA,hB, -⟩:=q2l hx
 clear hx
 obtain⟨op,a0,b',c,imm⟩:=x
 dsimp only[Ins.v] at*
 have ha:=hA (by rcases hop with rfl|rfl|rfl|rfl <;>rfl)
 have hb:=hB (by rcases hop with rfl|rfl|rfl|rfl <;>rfl)
 have ha':a0.toNat<8:=by omega
 have hb':b'.toNat<8:=by omega
 clear hA hB
 have hR':=RdE.up (own:=own) hR
 have ga:=Thr.enc_get (t:=t) ha'
 have gb:=Thr.enc_get (t:=t) hb'
 rcases hop with rfl|rfl|rfl|rfl
 all_goals
  repeat'((try(conv=>whnf));first|(refine fH ?_)|(refine fI ?_)|(refine fE ?_)|(refine fD ?_)|(refine ldE (k:=1+a0.toNat) (RdE.up hR') hj ?_ ga ?_;omega)|(refine ldE (k:=1+b'.toNat) (RdE.up hR') hj ?_ gb ?_;omega)|(refine arw (k:= .u64) ?_)|(refine fP ?_)|(refine fA ?_)|(refine qc (fun bk hbk=> ?_)))
  exact⟨rfl,(eC)⟩
end
theorem GP.ev.of{W0:World}{Y:Own}{g g':GP}(h:g.ev W0 Y)(h1:g'.L=g.L)(h2:g'.X=g.X):g'.ev W0 Y:=by
 unfold GP.ev at*
 rw[h1,h2];exact h
abbrev chV(t f:Int)(a:Option Addr)(n cap:Nat):Value:= .agg #[.int .i64 t, .int .i64 f, .slice a n cap]
section
variable{W0:World}{Kp Y:Own}{g:GP}{c:Cfg}{ps:List PH}{s:GS}
structure qk7(c:Cfg)(ps:List PH)(s:GS)(t:Nat)(th:Thr)(ph:PH):Prop where
 hth:s.T[t]? =some th
 hph:ps[t]? =some ph
 c0:qL c=0
 rg:th.rg.ok
 dl:(s.d.length:Int)=c.words
 dr:∀x∈s.d,okU x
 tl:s.O.length=s.T.length
 ob:∀l∈s.O,l.length≤500000
 el:s.E.length≤500000
theorem q3H{t:Nat}{th:Thr}{ph:PH}(hT:qk7 c ps s t th ph)(h:g.ok W0 Kp ps s)(hv:g.ev W0 Y){x:Ins}(hx:qv x=0)(hop:x.op=12∨x.op=13)(hpc:th.pc<ph.p.length∧ph.p.length≤64)(f:Int)(aa:Option Addr)(al ac:Nat)(q:Own) [ek:qt q Kp]:
  q0E Tryz.prog W0 94 [.pointer (some ⟨g.gb,0,none⟩),chV t f aa al ac,x.v] (g.O c ps.length s++q) fun v own'=>
   ((v= .bool false∧sgM c ph.p s th t f x=none)∧Ent W0 own' (g.O c ps.length s++q))∨
   ∃s':GS×GP,(v= .bool true∧sgM c ph.p s th t f x=some s'.1∧s'.2.ok W0 Kp ps s'.1∧s'.2.ev W0 Y∧s'.2.gb=g.gb)∧Ent W0 own' (s'.2.O c ps.length s'.1++q):=by
 refine qa qj q4f (by simp[q0y]) ?_
 have hT0:=h.t
 have hTR:=hT0.rd (W0:=W0)
 have hth:=hT.hth
 have had:=fun(own':Own) [qt own' g.tD]=>qfG (own:=own') hTR hth hx (by omega)
 have hwd:=(q1R hT.c0).1
 unfold okW at hwd
 obtain⟨h0,hA,hB, -⟩:=q2l hx
 clear hx
 have hao:=q9l (r:=th.rg) (b:=if x.op=12∨x.op=10 then x.b else x.a) (imm:=x.imm)
 obtain⟨op,a,b',c',imm⟩:=x
 dsimp only[Ins.v] at*
 have ha:=hA (by rcases hop with rfl|rfl <;>rfl)
 have hb:=hB (by rcases hop with rfl|rfl <;>rfl)
 have ha':a.toNat<8:=by omega
 have hb':b'.toNat<8:=by omega
 clear hA hB
 have hDR:=h.d.rd (W0:=W0)
 have hsg:sgM c ph.p s th t f ⟨op,a,b',c',imm⟩=(match adr th.rg (if op=12 then b' else a) imm with
  |z=>if f≠0 then(if f=6∧c.strong=true∧op=13∧z<c.words then some (s.fin t (th.nxt ph.p.length th.rg) [⟨th.pc,7,6⟩]) else none)
   else if c.words≤z then some (s.fin t (th.nxt ph.p.length (if op=12 then th.rg.set a.toNat 0 else th.rg)) [⟨th.pc,7,7⟩])
   else if op=12 then some ((s.ev (plE c s.n t 1 z)).fin t (th.nxt ph.p.length (th.rg.set a.toNat (s.d.getD z.toNat 0))) [⟨th.pc,4,s.d.getD z.toNat 0⟩])
   else some (((s.mem (s.d.set z.toNat (th.rg.get b'.toNat)) s.tk).ev (plE c s.n t 2 z)).fin t (th.nxt ph.p.length th.rg) [⟨th.pc,5,th.rg.get b'.toNat⟩])):=by
  unfold sgM;rw[if_pos hop]
 rw[hsg]
 clear hsg
 have hif:(if op=12∨op=10 then b' else a)=if op=12 then b' else a:=by
  rcases hop with rfl|rfl <;>rfl
 rw[hif] at had hao
 dsimp only
 generalize adr th.rg (if op=12 then b' else a) imm=z at*
 repeat'((try(conv=>whnf));first|(refine qc (fun b4 h4=> ?_);(apply Stop.h)))
 refine Stop.mk ?_
 repeat'((try(conv=>whnf));first|(refine qc (fun b5 h5=> ?_);(apply Stop.h)))
 refine Stop.mk ?_
 by_cases hA2:f≠0∧¬(f=6∧c.strong=true∧op=13∧z<c.words)
 ·obtain⟨hf,hn⟩:=hA2
  rw[if_pos hf,if_neg hn]
  have hq:f≠6∨(f=6∧(!c.strong)=true)∨(f=6∧(!c.strong)=false∧op=12)∨(f=6∧(!c.strong)=false∧op=13∧c.words≤z):=by
   cases hs:c.strong <;>simp[hs] at hn ⊢ <;>omega
  by_cases hz:c.words≤z
  all_goals
   rcases hq with h6|⟨h6,hns⟩|⟨h6,hns,h12⟩|⟨h6,hns,h13,hz2⟩
   all_goals first|(exfalso;omega)|skip
   all_goals(try subst h12)
   all_goals(try subst h13)
   all_goals
    repeat'((try(conv=>whnf));first|(refine fH ?_)|(refine fI ?_)|(refine fE ?_)|(refine fF ?_)|(refine fG ?_)|(refine fJ ?_)|(refine fK ?_)|(refine q1P hns ?_)|(refine qes hns ?_)|((with_reducible show IxS _ _ _ _ _);first|((refine ixE hTR hth ?_ ?_;(first|rfl|omega))))|((with_reducible show qf _ _ _ _ _ _);first|((refine qh (had _) ?_ ?_ ?_;(exact rfl);exact rfl)))|(refine fC ?_)|(refine fA ?_)|(refine fL ?_))
    all_goals exact .inl ⟨⟨rfl,rfl⟩,(eC)⟩
 ·have hcs:(f=6∧(!c.strong)=false∧op=13∧z<c.words)∨(f=0∧c.words≤z∧op=12)∨(f=0∧c.words≤z∧op=13)∨(f=0∧z<c.words∧op=12)∨(f=0∧z<c.words∧op=13):=by
   cases hs:c.strong <;>simp[hs] at hA2 ⊢ <;>omega
  have he1:((th.pc+1:Nat):Int)=(th.pc:Int)+1:=by omega
  have htS:t<g.S.length:=by
   have h1:=congrArg List.length h.ol
   rw[List.length_map] at h1
   have:=(List.getElem?_eq_some_iff.1 hth).1
   have:=hT.tl
   omega
  have hob9:∀l∈s.O,l.length≤1000000:=fun l hl=>by have:=hT.ob l hl;omega
  clear hA2
  rcases hcs with ⟨rfl,hns,rfl,hz⟩|⟨rfl,hz,rfl⟩|⟨rfl,hz,rfl⟩|⟨rfl,hz,rfl⟩|⟨rfl,hz,rfl⟩
  ·have hst:c.strong=true:=by simpa using hns
   rw[if_pos (by decide),if_pos ⟨rfl,hst,rfl,hz⟩]
   obtain⟨X,hX⟩:∃X,X=s.fin t (th.nxt ph.p.length th.rg) [⟨th.pc,7,6⟩]:=⟨_,rfl⟩
   rw[←hX]
   have hob:=qG (E:= [(b5,fun o=>o=Obj.cells #[.int .i64 13, .int .i64 a, .int .i64 b', .int .i64 c', .int .i64 imm] 69 (0,0)),(b4,fun o=>o=Obj.cells #[.int .i64 t, .int .i64 6, .slice aa al ac] 79 (0,0))]) (q:=q) (q1O (c:=c) h htS hob9 th.pc 7 6)
   repeat'((try(conv=>whnf));first|(refine fH ?_)|(refine fE ?_)|(refine fD ?_)|(refine fG ?_)|(refine q1P hns ?_)|((with_reducible show IxS _ _ _ _ _);first|((refine ixE hTR hth ?_ ?_;(first|rfl|omega))))|((with_reducible show qf _ _ _ _ _ _);first|((refine qh (had _) ?_ ?_ ?_;(exact rfl);exact rfl)))|(refine fC ?_)|(refine fA ?_)|(refine fL ?_))
   all_goals refine q4H (σ:=GS×GP×Rg) 1461501637330902918203684832716283019655932542720 (fun _=> []) (fun y=> [(b5,fun o=>o=Obj.cells #[.int .i64 13, .int .i64 a, .int .i64 b', .int .i64 c', .int .i64 imm] 69 (0,0)),(b4,fun o=>o=Obj.cells #[.int .i64 t, .int .i64 6, .slice aa al ac] 79 (0,0))]++(y.2.1.O c ps.length y.1++q)) (fun y=>y.2.1.ok W0 Kp ps y.1∧y.2.1.ev W0 Y∧y.2.1.gb=g.gb∧y.2.1.ta=g.ta∧y.1.T[t]? =some {th with rg:=y.2.2}∧X={y.1 with T:=y.1.T.set t (th.nxt ph.p.length y.2.2)}) rfl ?_ ?_
   ·repeat'((try(conv=>whnf));first|(refine fE ?_)|(refine fD ?_)|(refine fC ?_)|((with_reducible show Ld _ _ _ _);first|(refine q1M hTR hth rfl ?_))|((with_reducible show qf _ _ _ _ _ _);first|((refine qm hob ?_ ?_ ?_ (fun g1 v hg1=> ?_);(exact(eC));(exact rfl);(exact rfl);(obtain⟨hg1,hg2,hg3⟩:=hg1))))|(refine fA ?_))
    all_goals exact⟨(_,g1,th.rg),⟨hg1,GP.ev.of hv (by rw[hg2]) (by rw[hg2]),by rw[hg2],by rw[hg2],hth,hX⟩,trivial,(eC)⟩
   ·rintro⟨s1,g1,r⟩ junk ⟨hk1,hv1,hgb1,hta1,hth1,hX1⟩
    dsimp only at hk1 hv1 hgb1 hta1 hth1 hX1 ⊢
    have hR1:RdE Thr.enc 11 W0 g1.tD g.ta s1.T:=hta1 ▸ (hk1.t.rd (W0:=W0))
    have hto:=qaB (c:=c) hk1 hth1 hT.hph (th.pc+1) q
    rw[hgb1,he1] at hto
    repeat'((try(conv=>whnf));first|(refine ldE (k:=0) (v:= .int .i64 (th.pc:Int)) (RdE.up hR1) hth1 ?_ rfl ?_;omega)|((with_reducible show qf _ _ _ _ _ _);first|((refine qm hto ?_ ?_ ?_ (fun g2 v hg2=> ?_);(exact(eC));(exact rfl);(exact rfl))))|(refine fB ?_)|(refine fA ?_))
    all_goals exact .inr ⟨({s1 with T:=s1.T.set t (th.nxt ph.p.length r)},g2),⟨rfl,by rw[hX1],hg2.1,GP.ev.of hv1 (by rw[hg2.2]) (by rw[hg2.2]),by rw[hg2.2]⟩,Ent.refl⟩
  ·rw[if_neg (by decide),if_pos hz,if_pos rfl]
   obtain⟨X,hX⟩:∃X,X=s.fin t (th.nxt ph.p.length (th.rg.set a.toNat 0)) [⟨th.pc,7,7⟩]:=⟨_,rfl⟩
   rw[←hX]
   have hth2:(s.T.set t {th with rg:=th.rg.set a.toNat 0})[t]? =some {th with rg:=th.rg.set a.toNat 0}:=List.getElem?_set_self (List.getElem?_eq_some_iff.1 hth).1
   have hob:=fun(D1:Own) (hb1:qr Thr.enc 61 11 g.ta g.tc (s.T.set t {th with rg:=th.rg.set a.toNat 0}) D1)=>qG (E:= [(b5,fun o=>o=Obj.cells #[.int .i64 12, .int .i64 a, .int .i64 b', .int .i64 c', .int .i64 imm] 69 (0,0)),(b4,fun o=>o=Obj.cells #[.int .i64 t, .int .i64 0, .slice aa al ac] 79 (0,0))]) (q:=q) (q1O (c:=c) (g:={g with tD:=D1}) (s:={s with T:=s.T.set t {th with rg:=th.rg.set a.toNat 0}}) ⟨h.d,h.m,h.k,h.kp,hb1,h.e,h.em,h.o,h.os,h.ol⟩ htS hob9 th.pc 7 7)
   repeat'((try(conv=>whnf));first|(refine fD ?_)|(refine fF ?_)|((with_reducible show IxS _ _ _ _ _);first|((refine ixE hTR hth ?_ ?_;(first|rfl|omega))))|((with_reducible show qf _ _ _ _ _ _);first|((refine qh (had _) ?_ ?_ ?_;(exact rfl);exact rfl)))|(refine fC ?_)|(refine fA ?_)|(refine fL ?_))
   all_goals refine q4H (σ:=GS×GP×Rg) 1461501637330902918203684832716283019655932542720 (fun _=> []) (fun y=> [(b5,fun o=>o=Obj.cells #[.int .i64 12, .int .i64 a, .int .i64 b', .int .i64 c', .int .i64 imm] 69 (0,0)),(b4,fun o=>o=Obj.cells #[.int .i64 t, .int .i64 0, .slice aa al ac] 79 (0,0))]++(y.2.1.O c ps.length y.1++q)) (fun y=>y.2.1.ok W0 Kp ps y.1∧y.2.1.ev W0 Y∧y.2.1.gb=g.gb∧y.2.1.ta=g.ta∧y.1.T[t]? =some {th with rg:=y.2.2}∧X={y.1 with T:=y.1.T.set t (th.nxt ph.p.length y.2.2)}) rfl ?_ ?_
   ·repeat'((try(conv=>whnf));first|(refine fE ?_)|(refine fC ?_)|(apply q5Q (enc:=Thr.enc) (T:=61) (j:=t) (k:=1+a.toNat) {th with rg:=th.rg.set a.toNat 0} hT0 hth;(omega);(omega);(exact(Thr.enc_set ha').symm);(exact rfl);intro D1 hb1)|(refine ldE (k:=0) (RdE.up (hb1.rd (W0:=W0))) hth2 ?_ rfl ?_;omega)|((with_reducible show qf _ _ _ _ _ _);first|((refine qm (hob D1 hb1) ?_ ?_ ?_ (fun g1 v hg1=> ?_);(dsimp only[GP.O,GP.cells];rw[List.length_set];exact(eC));(exact rfl);(exact rfl);(obtain⟨hg1,hg2,hg3⟩:=hg1))))|(refine fP ?_)|(refine fA ?_))
    all_goals exact⟨(_,g1,th.rg.set a.toNat 0),⟨hg1,GP.ev.of hv (by rw[hg2]) (by rw[hg2]),by rw[hg2],by rw[hg2],hth2,by rw[hX];simp[GS.fin,Thr.nxt]⟩,trivial,(eC)⟩
   ·rintro⟨s1,g1,r⟩ junk ⟨hk1,hv1,hgb1,hta1,hth1,hX1⟩
    dsimp only at hk1 hv1 hgb1 hta1 hth1 hX1 ⊢
    have hR1:RdE Thr.enc 11 W0 g1.tD g.ta s1.T:=hta1 ▸ (hk1.t.rd (W0:=W0))
    have hto:=qaB (c:=c) hk1 hth1 hT.hph (th.pc+1) q
    rw[hgb1,he1] at hto
    repeat'((try(conv=>whnf));first|(refine ldE (k:=0) (v:= .int .i64 (th.pc:Int)) (RdE.up hR1) hth1 ?_ rfl ?_;omega)|((with_reducible show qf _ _ _ _ _ _);first|((refine qm hto ?_ ?_ ?_ (fun g2 v hg2=> ?_);(exact(eC));(exact rfl);(exact rfl))))|(refine fB ?_)|(refine fA ?_))
    all_goals exact .inr ⟨({s1 with T:=s1.T.set t (th.nxt ph.p.length r)},g2),⟨rfl,by rw[hX1],hg2.1,GP.ev.of hv1 (by rw[hg2.2]) (by rw[hg2.2]),by rw[hg2.2]⟩,Ent.refl⟩
  ·rw[if_neg (by decide),if_pos hz,if_neg (by decide)]
   obtain⟨X,hX⟩:∃X,X=s.fin t (th.nxt ph.p.length th.rg) [⟨th.pc,7,7⟩]:=⟨_,rfl⟩
   rw[←hX]
   have hob:=qG (E:= [(b5,fun o=>o=Obj.cells #[.int .i64 13, .int .i64 a, .int .i64 b', .int .i64 c', .int .i64 imm] 69 (0,0)),(b4,fun o=>o=Obj.cells #[.int .i64 t, .int .i64 0, .slice aa al ac] 79 (0,0))]) (q:=q) (q1O (c:=c) h htS hob9 th.pc 7 7)
   repeat'((try(conv=>whnf));first|(refine fD ?_)|(refine fF ?_)|((with_reducible show IxS _ _ _ _ _);first|((refine ixE hTR hth ?_ ?_;(first|rfl|omega))))|((with_reducible show qf _ _ _ _ _ _);first|((refine qh (had _) ?_ ?_ ?_;(exact rfl);exact rfl)))|(refine fC ?_)|(refine fA ?_)|(refine fL ?_))
   all_goals refine q4H (σ:=GS×GP×Rg) 1461501637330902918203684832716283019655932542720 (fun _=> []) (fun y=> [(b5,fun o=>o=Obj.cells #[.int .i64 13, .int .i64 a, .int .i64 b', .int .i64 c', .int .i64 imm] 69 (0,0)),(b4,fun o=>o=Obj.cells #[.int .i64 t, .int .i64 0, .slice aa al ac] 79 (0,0))]++(y.2.1.O c ps.length y.1++q)) (fun y=>y.2.1.ok W0 Kp ps y.1∧y.2.1.ev W0 Y∧y.2.1.gb=g.gb∧y.2.1.ta=g.ta∧y.1.T[t]? =some {th with rg:=y.2.2}∧X={y.1 with T:=y.1.T.set t (th.nxt ph.p.length y.2.2)}) rfl ?_ ?_
   ·repeat'((try(conv=>whnf));first|(refine fE ?_)|(refine fD ?_)|(refine fC ?_)|((with_reducible show Ld _ _ _ _);first|(refine q1M hTR hth rfl ?_))|((with_reducible show qf _ _ _ _ _ _);first|((refine qm hob ?_ ?_ ?_ (fun g1 v hg1=> ?_);(exact(eC));(exact rfl);(exact rfl);(obtain⟨hg1,hg2,hg3⟩:=hg1))))|(refine fA ?_))
    all_goals exact⟨(_,g1,th.rg),⟨hg1,GP.ev.of hv (by rw[hg2]) (by rw[hg2]),by rw[hg2],by rw[hg2],hth,hX⟩,trivial,(eC)⟩
   ·rintro⟨s1,g1,r⟩ junk ⟨hk1,hv1,hgb1,hta1,hth1,hX1⟩
    dsimp only at hk1 hv1 hgb1 hta1 hth1 hX1 ⊢
    have hR1:RdE Thr.enc 11 W0 g1.tD g.ta s1.T:=hta1 ▸ (hk1.t.rd (W0:=W0))
    have hto:=qaB (c:=c) hk1 hth1 hT.hph (th.pc+1) q
    rw[hgb1,he1] at hto
    repeat'((try(conv=>whnf));first|(refine ldE (k:=0) (v:= .int .i64 (th.pc:Int)) (RdE.up hR1) hth1 ?_ rfl ?_;omega)|((with_reducible show qf _ _ _ _ _ _);first|((refine qm hto ?_ ?_ ?_ (fun g2 v hg2=> ?_);(exact(eC));(exact rfl);(exact rfl))))|(refine fB ?_)|(refine fA ?_))
    all_goals exact .inr ⟨({s1 with T:=s1.T.set t (th.nxt ph.p.length r)},g2),⟨rfl,by rw[hX1],hg2.1,GP.ev.of hv1 (by rw[hg2.2]) (by rw[hg2.2]),by rw[hg2.2]⟩,Ent.refl⟩
  ·obtain⟨j,rfl⟩:=Int.eq_ofNat_of_zero_le hao.1
   have hj:j<s.d.length:=by have:=hT.dl;omega
   obtain⟨y,hy⟩:∃y,s.d[j]? =some y:=⟨_,List.getElem?_eq_getElem hj⟩
   have hgd:s.d.getD j 0=y:=by simp[List.getD,hy]
   have hel:=hT.el
   rw[if_neg (by decide),if_neg (by omega),if_pos rfl,Int.toNat_natCast,hgd]
   obtain⟨X,hX⟩:∃X,X=(s.ev (plE c s.n t 1 j)).fin t (th.nxt ph.p.length (th.rg.set a.toNat y)) [⟨th.pc,4,y⟩]:=⟨_,rfl⟩
   rw[←hX]
   have hth2:(s.T.set t {th with rg:=th.rg.set a.toNat y})[t]? =some {th with rg:=th.rg.set a.toNat y}:=List.getElem?_set_self (List.getElem?_eq_some_iff.1 hth).1
   have hac:=qG (E:= [(b5,fun o=>o=Obj.cells #[.int .i64 12, .int .i64 a, .int .i64 b', .int .i64 c', .int .i64 imm] 69 (0,0)),(b4,fun o=>o=Obj.cells #[.int .i64 t, .int .i64 0, .slice aa al ac] 79 (0,0))]) (q:=q) (q8d (c:=c) h hv (by omega) t j (.inl rfl))
   have hob:=fun(g1:GP) (D1:Own) (hS:t<g1.S.length) (h:g1.ok W0 Kp ps (s.ev (plE c s.n t 1 j))) (hb1:qr Thr.enc 61 11 g1.ta g1.tc (s.T.set t {th with rg:=th.rg.set a.toNat y}) D1)=>qG (E:= [(b5,fun o=>o=Obj.cells #[.int .i64 12, .int .i64 a, .int .i64 b', .int .i64 c', .int .i64 imm] 69 (0,0)),(b4,fun o=>o=Obj.cells #[.int .i64 t, .int .i64 0, .slice aa al ac] 79 (0,0))]) (q:=q) (q1O (c:=c) (g:={g1 with tD:=D1}) (s:={(s.ev (plE c s.n t 1 j)) with T:=s.T.set t {th with rg:=th.rg.set a.toNat y}}) ⟨h.d,h.m,h.k,h.kp,hb1,h.e,h.em,h.o,h.os,h.ol⟩ hS hob9 th.pc 4 y)
   repeat'((try(conv=>whnf));first|(refine fD ?_)|(refine fG ?_)|((with_reducible show IxS _ _ _ _ _);first|((refine ixE hTR hth ?_ ?_;(first|rfl|omega))))|((with_reducible show qf _ _ _ _ _ _);first|((refine qh (had _) ?_ ?_ ?_;(exact rfl);exact rfl)))|(refine fC ?_)|(refine fA ?_)|(refine fL ?_))
   all_goals refine q4H (σ:=GS×GP×Rg) 1461501637330902918203684832716283019655932542720 (fun _=> []) (fun y=> [(b5,fun o=>o=Obj.cells #[.int .i64 12, .int .i64 a, .int .i64 b', .int .i64 c', .int .i64 imm] 69 (0,0)),(b4,fun o=>o=Obj.cells #[.int .i64 t, .int .i64 0, .slice aa al ac] 79 (0,0))]++(y.2.1.O c ps.length y.1++q)) (fun y=>y.2.1.ok W0 Kp ps y.1∧y.2.1.ev W0 Y∧y.2.1.gb=g.gb∧y.2.1.ta=g.ta∧y.1.T[t]? =some {th with rg:=y.2.2}∧X={y.1 with T:=y.1.T.set t (th.nxt ph.p.length y.2.2)}) rfl ?_ ?_
   ·repeat'((try(conv=>whnf));first|(refine fE ?_)|(refine fD ?_)|(refine fB ?_)|(refine ixE (hk1.d.rd (W0:=W0)) hy rfl ?_)|(refine ldE (k:=0) (RdE.up (hk1.d.rd (W0:=W0))) hy ?_ rfl ?_;omega)|(apply q5Q (enc:=Thr.enc) (T:=61) (j:=t) (k:=1+a.toNat) {th with rg:=th.rg.set a.toNat y} hk1.t hth;(omega);(omega);(exact(Thr.enc_set ha').symm);(exact rfl);intro D1 hb1)|(refine ldE (k:=0) (RdE.up (hb1.rd (W0:=W0))) hth2 ?_ rfl ?_;omega)|((with_reducible show qf _ _ _ _ _ _);first|((refine qm hac ?_ ?_ ?_ (fun g1 v hg1=> ?_);(exact(eC));(exact rfl);(exact rfl);(obtain⟨hk1,hv1,hg1⟩:=hg1);(have hgb1:g1.gb=g.gb:=by rw[hg1]);(have hta1:g1.ta=g.ta:=by rw[hg1]);(have hS1:g1.S=g.S:=by rw[hg1]);(rw[←hgb1,←hta1])))|((refine qm (hob g1 D1 (by rw[hS1];exact htS) hk1 hb1) ?_ ?_ ?_ (fun g2 v hg2=> ?_);(dsimp only[GP.O,GP.cells,GS.ev];rw[List.length_set];exact(eC));(exact rfl);(exact rfl);(obtain⟨hg2,hg3,hg4⟩:=hg2))))|(refine fP ?_)|(refine fA ?_))
    all_goals exact⟨(_,g2,th.rg.set a.toNat y),⟨hg2,GP.ev.of hv1 (by rw[hg3]) (by rw[hg3]),by rw[hg3],by rw[hg3],hth2,by rw[hX];simp[GS.fin,GS.ev,Thr.nxt]⟩,trivial,(eC)⟩
   ·rintro⟨s1,g1,r⟩ junk ⟨hk1,hv1,hgb1,hta1,hth1,hX1⟩
    dsimp only at hk1 hv1 hgb1 hta1 hth1 hX1 ⊢
    have hR1:RdE Thr.enc 11 W0 g1.tD g.ta s1.T:=hta1 ▸ (hk1.t.rd (W0:=W0))
    have hto:=qaB (c:=c) hk1 hth1 hT.hph (th.pc+1) q
    rw[hgb1,he1] at hto
    repeat'((try(conv=>whnf));first|(refine ldE (k:=0) (v:= .int .i64 (th.pc:Int)) (RdE.up hR1) hth1 ?_ rfl ?_;omega)|((with_reducible show qf _ _ _ _ _ _);first|((refine qm hto ?_ ?_ ?_ (fun g2 v hg2=> ?_);(exact(eC));(exact rfl);(exact rfl))))|(refine fB ?_)|(refine fA ?_))
    all_goals exact .inr ⟨({s1 with T:=s1.T.set t (th.nxt ph.p.length r)},g2),⟨rfl,by rw[hX1],hg2.1,GP.ev.of hv1 (by rw[hg2.2]) (by rw[hg2.2]),by rw[hg2.2]⟩,Ent.refl⟩
  ·obtain⟨j,rfl⟩:=Int.eq_ofNat_of_zero_le hao.1
   have hj:j<s.d.length:=by have:=hT.dl;omega
   obtain⟨y,hy⟩:∃y,s.d[j]? =some y:=⟨_,List.getElem?_eq_getElem hj⟩
   have hel:=hT.el
   rw[if_neg (by decide),if_neg (by omega),if_neg (by decide),Int.toNat_natCast]
   obtain⟨w,hw⟩:∃w,th.rg.get b'.toNat=w:=⟨_,rfl⟩
   have hgw:=Thr.enc_get (t:=th) hb'
   rw[hw] at hgw ⊢
   obtain⟨X,hX⟩:∃X,X=((s.mem (s.d.set j w) s.tk).ev (plE c s.n t 2 j)).fin t (th.nxt ph.p.length th.rg) [⟨th.pc,5,w⟩]:=⟨_,rfl⟩
   rw[←hX]
   have hy2:(s.d.set j w)[j]? =some w:=List.getElem?_set_self hj
   have hdl:s.d.length=(s.d.set j w).length:=(List.length_set ..).symm
   have hac:=qG (E:= [(b5,fun o=>o=Obj.cells #[.int .i64 13, .int .i64 a, .int .i64 b', .int .i64 c', .int .i64 imm] 69 (0,0)),(b4,fun o=>o=Obj.cells #[.int .i64 t, .int .i64 0, .slice aa al ac] 79 (0,0))]) (q:=q) (q8d (c:=c) h hv (by omega) t j (.inr rfl))
   have hob:=fun(g1:GP) (D1:Own) (hS:t<g1.S.length) (h:g1.ok W0 Kp ps (s.ev (plE c s.n t 2 j))) (hb1:qr q7j 58 1 g1.da g1.dc (s.d.set j w) D1)=>qG (E:= [(b5,fun o=>o=Obj.cells #[.int .i64 13, .int .i64 a, .int .i64 b', .int .i64 c', .int .i64 imm] 69 (0,0)),(b4,fun o=>o=Obj.cells #[.int .i64 t, .int .i64 0, .slice aa al ac] 79 (0,0))]) (q:=q) (q1O (c:=c) (g:={g1 with dD:=D1}) (s:={(s.ev (plE c s.n t 2 j)) with d:=s.d.set j w}) ⟨hb1,h.m,h.k,h.kp,h.t,h.e,h.em,h.o,h.os,h.ol⟩ hS hob9 th.pc 5 w)
   repeat'((try(conv=>whnf));first|(refine fD ?_)|(refine fG ?_)|((with_reducible show IxS _ _ _ _ _);first|((refine ixE hTR hth ?_ ?_;(first|rfl|omega))))|((with_reducible show qf _ _ _ _ _ _);first|((refine qh (had _) ?_ ?_ ?_;(exact rfl);exact rfl)))|(refine fC ?_)|(refine fA ?_)|(refine fL ?_))
   all_goals refine q4H (σ:=GS×GP×Rg) 1461501637330902918203684832716283019655932542720 (fun _=> []) (fun y=> [(b5,fun o=>o=Obj.cells #[.int .i64 13, .int .i64 a, .int .i64 b', .int .i64 c', .int .i64 imm] 69 (0,0)),(b4,fun o=>o=Obj.cells #[.int .i64 t, .int .i64 0, .slice aa al ac] 79 (0,0))]++(y.2.1.O c ps.length y.1++q)) (fun y=>y.2.1.ok W0 Kp ps y.1∧y.2.1.ev W0 Y∧y.2.1.gb=g.gb∧y.2.1.ta=g.ta∧y.1.T[t]? =some {th with rg:=y.2.2}∧X={y.1 with T:=y.1.T.set t (th.nxt ph.p.length y.2.2)}) rfl ?_ ?_
   ·repeat'((try(conv=>whnf));first|(refine fD ?_)|(refine fB ?_)|(refine ldE (k:=0) (RdE.up (hb1.rd (W0:=W0))) hy2 ?_ rfl ?_;omega)|(refine ixE (hk1.d.rd (W0:=W0)) hy rfl ?_)|(refine ldE (k:=1+b'.toNat) (RdE.up (hk1.t.rd (W0:=W0))) hth ?_ hgw ?_;omega)|(apply q5Q (enc:=q7j) (T:=58) (j:=j) (k:=0) w hk1.d hy;(omega);(omega);(exact rfl);(exact rfl);intro D1 hb1)|(refine ldE (k:=0) (RdE.up (hk1.t.rd (W0:=W0))) hth ?_ rfl ?_;omega)|((with_reducible show qf _ _ _ _ _ _);first|((refine qm hac ?_ ?_ ?_ (fun g1 v hg1=> ?_);(exact(eC));(exact rfl);(exact rfl);(obtain⟨hk1,hv1,hg1⟩:=hg1);(have hgb1:g1.gb=g.gb:=by rw[hg1]);(have hta1:g1.ta=g.ta:=by rw[hg1]);(have hS1:g1.S=g.S:=by rw[hg1]);(rw[←hgb1,←hta1])))|((refine qm (hob g1 D1 (by rw[hS1];exact htS) hk1 hb1) ?_ ?_ ?_ (fun g2 v hg2=> ?_);(dsimp only[GP.O,GP.cells,GS.ev];rw[List.length_set];exact(eC));(exact rfl);(exact rfl);(obtain⟨hg2,hg3,hg4⟩:=hg2))))|(refine fP ?_)|(refine fA ?_))
    all_goals exact⟨(_,g2,th.rg),⟨hg2,GP.ev.of hv1 (by rw[hg3]) (by rw[hg3]),by rw[hg3],by rw[hg3],hth,by rw[hX];simp[GS.fin,GS.ev,GS.mem,Thr.nxt]⟩,trivial,(eC)⟩
   ·rintro⟨s1,g1,r⟩ junk ⟨hk1,hv1,hgb1,hta1,hth1,hX1⟩
    dsimp only at hk1 hv1 hgb1 hta1 hth1 hX1 ⊢
    have hR1:RdE Thr.enc 11 W0 g1.tD g.ta s1.T:=hta1 ▸ (hk1.t.rd (W0:=W0))
    have hto:=qaB (c:=c) hk1 hth1 hT.hph (th.pc+1) q
    rw[hgb1,he1] at hto
    repeat'((try(conv=>whnf));first|(refine ldE (k:=0) (v:= .int .i64 (th.pc:Int)) (RdE.up hR1) hth1 ?_ rfl ?_;omega)|((with_reducible show qf _ _ _ _ _ _);first|((refine qm hto ?_ ?_ ?_ (fun g2 v hg2=> ?_);(exact(eC));(exact rfl);(exact rfl))))|(refine fB ?_)|(refine fA ?_))
    all_goals exact .inr ⟨({s1 with T:=s1.T.set t (th.nxt ph.p.length r)},g2),⟨rfl,by rw[hX1],hg2.1,GP.ev.of hv1 (by rw[hg2.2]) (by rw[hg2.2]),by rw[hg2.2]⟩,Ent.refl⟩
end
open Go
theorem qcW{T:TypeId}{a:Option Addr}{cap:Nat}{l:List Thr}{D:Own}(h:qr Thr.enc T 11 a cap l D){j:Nat}{t:Thr}(hj:l[j]? =some t):∃b pre post,a=some ⟨b,0,none⟩∧D= [thB b T pre post t]∧List.length pre=j*11∧∀t':Thr,qr Thr.enc T 11 a cap (l.set j t') [thB b T pre post t']:=by
 have hjl:=(List.getElem?_eq_some_iff.1 hj).1
 rcases h.how with ⟨rfl,_,_⟩|⟨b,rest,ha,hD,hl,hle⟩
 ·simp at hj
 ·have hsp:∀y:Thr,l.set j y=l.take j++(y::l.drop (j+1)):=fun y=>by rw[List.set_eq_take_append_cons_drop,if_pos hjl]
  have hse:l.set j t=l:=by
   obtain⟨_,he⟩:=List.getElem?_eq_some_iff.1 hj
   rw[←he];exact List.set_getElem_self hjl
  have hfl:∀y:Thr,((l.set j y).map Thr.enc).flatten++rest=((l.take j).map Thr.enc).flatten++(y.enc++(((l.drop (j+1)).map Thr.enc).flatten++rest)):=fun y=>by
   rw[hsp y]
   simp only[List.map_append,List.map_cons,List.flatten_append,List.flatten_cons,List.append_assoc]
  refine⟨b,((l.take j).map Thr.enc).flatten,((l.drop (j+1)).map Thr.enc).flatten++rest,ha,?_,?_,fun t'=>⟨fun _ _=>rfl, .inr ⟨b,rest,ha,?_,?_,?_⟩⟩⟩
  ·have e:=hfl t
   rw[hse] at e
   rw[hD,e]
  ·rw[q03 (sz:=11) _ (fun _ _=>rfl),List.length_take,Nat.min_eq_left (by omega)]
  ·rw[hfl t']
  ·rw[List.length_set];exact hl
  ·rw[List.length_set];exact hle
theorem qj1{W0:World}{D own r:Own} [m:q1r D own r]:Ent W0 (D++r) own:=Ent.of_perm m.h.symm
theorem qik{P:Program}{W0:World}{σ:Type}{own D r:Own}{k:FuncId}{args:List Value}{R:σ→Value→Prop}{O:σ→Own} [m:q1r D own r](h:q0E P W0 k args (D++r) fun v own'=>∃s,R s v∧Ent W0 own' (O s++r)):q0E P W0 k args own fun v own'=>∃s,R s v∧Ent W0 own' (O s++r):=
 fun w hw=>h w (Ent.of_perm m.h w hw)
section
variable{W0:World}{Kp Y:Own}{g:GP}{c:Cfg}{ps:List PH}{s:GS}
theorem qe9{t:Nat}{th:Thr}(h:g.ok W0 Kp ps s)(hth:s.T[t]? =some th){x:Ins}(hx:qv x=0)(hrg:th.rg.ok)(hpc:th.pc≤64)(q:Own):
  q0E Tryz.prog W0 95 [.pointer (some ⟨ab g.ta,ao g.ta+t*11,none⟩),x.v] (g.O c ps.length s++q) fun v own'=>∃g':GP,
   (v= .int .i64 (q60 th x)∧g'.ok W0 Kp ps {s with T:=s.T.set t {th with rg:=q85 th x}}∧g'={g with tD:=g'.tD})∧Ent W0 own' (g'.O c ps.length {s with T:=s.T.set t {th with rg:=q85 th x}}++q):=by
 obtain⟨tb,pre,post,hta,htD,hpl,hset⟩:=qcW h.t hth
 obtain⟨gb,mb,ml,da,dc,dD,ka,kc,ta,tc,tD,ea,ec,eD,L,X,oa,oc,oD,S⟩:=g
 dsimp only at hta htD hset
 subst hta;subst htD
 have hl:=qik (own:=(GP.mk gb mb ml da dc dD ka kc (some ⟨tb,0,none⟩) tc [thB tb 61 pre post th] ea ec eD L X oa oc oD S).O c ps.length s++q) (qbF (W0:=W0) (b:=tb) (T:=61) (pre:=pre) (post:=post) (t:=th) (o:=0+t*11) hx hrg hpc (by omega) _)
 intro w hw
 refine(hl w hw).mono fun _ _ ⟨v,o,a,b,_,hv,hE⟩=>⟨v,o,a,b,⟨gb,mb,ml,da,dc,dD,ka,kc,some ⟨tb,0,none⟩,tc,[thB tb 61 pre post {th with rg:=q85 th x}],ea,ec,eD,L,X,oa,oc,oD,S⟩,⟨hv,⟨h.d,h.m,h.k,h.kp,hset _,h.e,h.em,h.o,h.os,h.ol⟩,rfl⟩,hE.trans ?_⟩
 dsimp only[GP.O,GP.cells]
 rw[List.length_set]
 exact qj1
theorem qfD{α:Type}{l:List (List α)}{t:Nat}(ht:t<l.length):l.set t (l.getD t []++ [])=l:=by
 rw[List.append_nil]
 simp[List.getD,ht]
theorem qef{t:Nat}{th:Thr}{ph:PH}(hT:qk7 c ps s t th ph)(h:g.ok W0 Kp ps s)(hv:g.ev W0 Y){x:Ins}(hx:qv x=0)(hpc:th.pc<ph.p.length∧ph.p.length≤64)(f:Int)(aa:Option Addr)(al ac:Nat)(q:Own) [ek:qt q Kp]:
  q0E Tryz.prog W0 66 [.pointer (some ⟨g.gb,0,none⟩),chV t f aa al ac,x.v] (g.O c ps.length s++q) fun v own'=>
   ((v= .bool false∧sgM c ph.p s th t f x=none)∧Ent W0 own' (g.O c ps.length s++q))∨
   ∃s':GS×GP,(v= .bool true∧sgM c ph.p s th t f x=some s'.1∧s'.2.ok W0 Kp ps s'.1∧s'.2.ev W0 Y∧s'.2.gb=g.gb)∧Ent W0 own' (s'.2.O c ps.length s'.1++q):=by
 refine qa qj q48 (by simp[q0s]) ?_
 by_cases hop:x.op=12∨x.op=13
 ·have hpl:=q3H (c:=c) hT h hv hx hop hpc f aa al ac q
  obtain⟨op,a,b',c',imm⟩:=x
  dsimp only[Ins.v] at*
  clear hx
  rcases hop with rfl|rfl
  all_goals
   repeat'((try(conv=>whnf));first|(refine fH ?_)|(refine fI ?_)|(refine fE ?_)|((with_reducible show qf _ _ _ _ _ _);first|((refine q3r hpl ?_ ?_ ?_ (fun v hv=> ?_) (fun s' v hv=> ?_);(exact(eC));(exact rfl);(exact rfl);(obtain⟨rfl,hv⟩:=hv);rotate_left;(obtain⟨rfl,hv⟩:=hv))))|(refine fA ?_)|(refine fL ?_)|(refine qc (fun bk hbk=> ?_)))
   ·exact .inr ⟨s',⟨rfl,hv⟩,Ent.refl⟩
   ·exact .inl ⟨⟨rfl,hv⟩,Ent.refl⟩
 have hsg:sgM c ph.p s th t f x=if f≠0 then none else some (s.fin t {q6a th x with dn:=decide ((q6a th x).pc=ph.p.length)} (if x.op=16 then [⟨th.pc,6,0⟩] else [])):=by
  unfold sgM;rw[if_neg hop]
 rw[hsg]
 clear hsg
 have hop1:x.op≠12:=fun e=>hop (.inl e)
 have hop2:x.op≠13:=fun e=>hop (.inr e)
 clear hop
 by_cases hf:f≠0
 ·rw[if_pos hf]
  obtain⟨op,a,b',c',imm⟩:=x
  dsimp only[Ins.v] at*
  repeat'((try(conv=>whnf));first|(refine fH ?_)|(refine fF ?_)|(refine fG ?_)|(refine fK ?_)|(refine fA ?_)|(refine qc (fun bk hbk=> ?_)))
  exact .inl ⟨⟨rfl,rfl⟩,(eC)⟩
 ·rw[if_neg hf]
  obtain rfl:f=0:=by omega
  have hth:=hT.hth
  have htl:=(List.getElem?_eq_some_iff.1 hth).1
  have htO:t<s.O.length:=by rw[hT.tl];exact htl
  have htS:t<g.S.length:=by
   have h1:=congrArg List.length h.ol
   rw[List.length_map] at h1
   omega
  have hob9:∀l∈s.O,l.length≤1000000:=fun l hl=>by have:=hT.ob l hl;omega
  have hTR:=h.t.rd (W0:=W0)
  have hth2:(s.T.set t {th with rg:=q85 th x})[t]? =some {th with rg:=q85 th x}:=List.getElem?_set_self htl
  have hlc0:=fun(g1:GP) (s1:GS) (h1:g1.ok W0 Kp ps s1) (hth:s1.T[t]? =some th)=>qe9 (c:=c) h1 hth hx hT.rg (by omega)
  have hto0:=fun(g1:GP) (s1:GS) (h1:g1.ok W0 Kp ps s1) (hs1:s1.T=s.T.set t {th with rg:=q85 th x})=>qaB (c:=c) h1 (hs1 ▸ hth2) hT.hph (q60 th x) q
  have hfin:∀l,({s with T:=(s.T.set t {th with rg:=q85 th x}).set t {th with rg:=q85 th x,pc:=q60 th x,dn:=decide (q60 th x=ph.p.length)},O:=s.O.set t (s.O.getD t []++l)}:GS)=s.fin t {q6a th x with dn:=decide ((q6a th x).pc=ph.p.length)} l:=fun l=>by
   rw[List.set_set];rfl
  have hfin0:({s with T:=(s.T.set t {th with rg:=q85 th x}).set t {th with rg:=q85 th x,pc:=q60 th x,dn:=decide (q60 th x=ph.p.length)}}:GS)=s.fin t {q6a th x with dn:=decide ((q6a th x).pc=ph.p.length)} []:=by
   rw[←hfin [],qfD htO]
  obtain⟨X,hX⟩:∃X,X=s.fin t {q6a th x with dn:=decide ((q6a th x).pc=ph.p.length)} (if x.op=16 then [⟨th.pc,6,0⟩] else []):=⟨_,rfl⟩
  rw[←hX]
  by_cases h16:x.op=16
  ·rw[if_pos h16,←hfin] at hX
   clear hfin hfin0
   generalize q85 th x=R at*
   generalize q60 th x=Pc at*
   obtain⟨op,a,b',c',imm⟩:=x
   dsimp only[Ins.v] at*
   subst h16
   clear hx
   repeat'((try(conv=>whnf));first|(refine qc (fun b4 h4=> ?_);(apply Stop.h)))
   refine Stop.mk ?_
   repeat'((try(conv=>whnf));first|(refine qc (fun b5 h5=> ?_);(apply Stop.h)))
   refine Stop.mk ?_
   have hob:=qG (E:= [(b5,fun o=>o=Obj.cells #[.int .i64 16, .int .i64 a, .int .i64 b', .int .i64 c', .int .i64 imm] 69 (0,0)),(b4,fun o=>o=Obj.cells #[.int .i64 t, .int .i64 0, .slice aa al ac] 79 (0,0))]) (q:=q) (q1O (c:=c) h htS hob9 th.pc 6 0)
   have hlc:=fun(g1:GP) (s1:GS) (h1:g1.ok W0 Kp ps s1) (hth:s1.T[t]? =some th)=>qG (E:= [(b5,fun o=>o=Obj.cells #[.int .i64 16, .int .i64 a, .int .i64 b', .int .i64 c', .int .i64 imm] 69 (0,0)),(b4,fun o=>o=Obj.cells #[.int .i64 t, .int .i64 0, .slice aa al ac] 79 (0,0))]) (q:=q) (hlc0 g1 s1 h1 hth)
   repeat'((try(conv=>whnf));first|(refine fH ?_)|(refine fE ?_)|(refine fD ?_)|((with_reducible show Ld _ _ _ _);first|(refine q1M hTR hth rfl ?_))|((with_reducible show IxS _ _ _ _ _);first|((refine ixE hTR hth ?_ ?_;(first|rfl|omega))))|((with_reducible show qf _ _ _ _ _ _);first|((refine qm hob ?_ ?_ ?_ (fun g0 v hg0=> ?_);(exact(eC));(exact rfl);(exact rfl);(obtain⟨hk0,hg0,hl0⟩:=hg0);(have hgb0:g0.gb=g.gb:=by rw[hg0]);(have hta0:g0.ta=g.ta:=by rw[hg0]);(rw[←hgb0,←hta0])))|((refine qm (hlc g0 _ hk0 hth) ?_ ?_ ?_ (fun g1 v hg1=> ?_);(exact(eC));(exact rfl);(exact rfl);(obtain⟨rfl,hk1,hg1⟩:=hg1);(have hgb1:g1.gb=g0.gb:=by rw[hg1]);(rw[←hgb1])))|((refine qm (hto0 g1 _ hk1 rfl) ?_ ?_ ?_ (fun g2 v hg2=> ?_);(exact(eC));(exact rfl);(exact rfl))))|(refine fA ?_)|(refine fL ?_)|(refine q4T.mk ?_ ?_))
   all_goals exact .inr ⟨(_,g2),⟨rfl,by rw[hX],hg2.1,GP.ev.of hv (by rw[hg2.2,hg1,hg0]) (by rw[hg2.2,hg1,hg0]),by rw[hg2.2]⟩,Ent.refl⟩
  ·rw[if_neg h16,←hfin0] at hX
   clear hfin hfin0
   generalize q85 th x=R at*
   generalize q60 th x=Pc at*
   obtain⟨op,a,b',c',imm⟩:=x
   dsimp only[Ins.v] at*
   clear hx
   repeat'((try(conv=>whnf));first|(refine qc (fun b4 h4=> ?_);(apply Stop.h)))
   refine Stop.mk ?_
   repeat'((try(conv=>whnf));first|(refine qc (fun b5 h5=> ?_);(apply Stop.h)))
   refine Stop.mk ?_
   have hlc:=fun(g1:GP) (s1:GS) (h1:g1.ok W0 Kp ps s1) (hth:s1.T[t]? =some th)=>qG (E:= [(b5,fun o=>o=Obj.cells #[.int .i64 op, .int .i64 a, .int .i64 b', .int .i64 c', .int .i64 imm] 69 (0,0)),(b4,fun o=>o=Obj.cells #[.int .i64 t, .int .i64 0, .slice aa al ac] 79 (0,0))]) (q:=q) (hlc0 g1 s1 h1 hth)
   repeat'((try(conv=>whnf));first|(refine fH ?_)|(refine fD ?_)|(refine fG ?_)|(refine fK ?_)|((with_reducible show IxS _ _ _ _ _);first|((refine ixE hTR hth ?_ ?_;(first|rfl|omega))))|((with_reducible show qf _ _ _ _ _ _);first|((refine qm (hlc g s h hth) ?_ ?_ ?_ (fun g1 v hg1=> ?_);(exact(eC));(exact rfl);(exact rfl);(obtain⟨rfl,hk1,hg1⟩:=hg1);(have hgb1:g1.gb=g.gb:=by rw[hg1]);(rw[←hgb1])))|((refine qm (hto0 g1 _ hk1 rfl) ?_ ?_ ?_ (fun g2 v hg2=> ?_);(exact(eC));(exact rfl);(exact rfl))))|(refine fA ?_)|(refine fL ?_)|(refine q4T.mk ?_ ?_))
   all_goals exact .inr ⟨(_,g2),⟨rfl,by rw[hX],hg2.1,GP.ev.of hv (by rw[hg2.2,hg1]) (by rw[hg2.2,hg1]),by rw[hg2.2]⟩,Ent.refl⟩
end
open Go
noncomputable def qkF:DecidableEq (Nat×(Obj→Prop)):=fun _ _=>Classical.propDecidable _
noncomputable def cnt(a:Nat×(Obj→Prop))(l:Own):Nat:= @List.count _ (@instBEqOfDecidableEq _ qkF) a l
noncomputable def onE(a b:Nat×(Obj→Prop)):Nat:=cnt a [b]
theorem q2k{a:Nat×(Obj→Prop)}{l m:Own}:cnt a (l++m)=cnt a l+cnt a m:=by
 letI:=qkF
 exact List.count_append
theorem q6C{a:Nat×(Obj→Prop)}:cnt a []=0:=rfl
theorem q51{a b:Nat×(Obj→Prop)}{l:Own}:cnt a (b::l)=onE a b+cnt a l:=by
 have:=q2k (a:=a) (l:= [b]) (m:=l)
 exact this
theorem qfr{l m:Own}(h:∀a,cnt a l=cnt a m):l.Perm m:=by
 letI:=qkF
 exact List.perm_iff_count.2 h
theorem qo{W0:World}{own own':Own}(d:Own)(h:∀a,cnt a own=cnt a own'+cnt a d:=by intro a;simp only[q2k,q51,q6C];omega):Ent W0 own own':=
 (Ent.of_perm (qfr (m:=own'++d) fun a=>by rw[q2k];exact h a)).trans Ent.left
section
variable{W0:World}{own:Own}
theorem q66{da:Option Addr}{dc mb:Nat}{d:List Int}{ml:Mp}(hD:RdE q7j 1 W0 own da d)(hd:d.length≤1000000) [m:q3X mb (q70 (mpV ml)) own]:
  q0E Tryz.prog W0 62 [.agg #[.slice da d.length dc, .map (some mb)]] own fun v own'=>∃s:(Option Addr×Nat×Own)×Nat,
   (v= .agg #[.slice s.1.1 d.length s.1.2.1, .map (some s.2)]∧qr q7j 58 1 s.1.1 s.1.2.1 d s.1.2.2)∧Ent W0 own' (s.1.2.2++((s.2,q70 (mpV ml))::own)):=by
 refine qa qj q4x (by simp[q0K]) ?_
 have hcl:=fun(own':Own) [qt own' own]=>q2N (cap:=dc) (RdE.up (own:=own') hD) (by omega)
 have hml:=fun(own':Own) [q3X mb (q70 (mpV ml)) own']=>qea (W0:=W0) (own:=own') (b:=mb) (l:=mpV ml)
 repeat'((try(conv=>whnf));first|(refine qc (fun b1 h1=> ?_);(apply Stop.h)))
 refine Stop.mk ?_
 repeat'((try(conv=>whnf));first|(refine qc (fun b2 h2=> ?_);(apply Stop.h)))
 refine Stop.mk ?_
 repeat'((try(conv=>whnf));first|((with_reducible show qf _ _ _ _ _ _);first|((refine qZ (hcl _) ?_ ?_ (fun y v hv=> ?_);(exact rfl);(exact rfl);(obtain⟨a1,c1,D1⟩:=y;obtain⟨rfl,hB⟩:=hv;dsimp only at hB)))|((refine qZ (hml _) ?_ ?_ (fun b' v hv=> ?_);(exact rfl);(exact rfl);(subst hv))))|(refine fA ?_)|(refine fL ?_)|(refine fM ?_)|(refine q4T.mk ?_ ?_))
 all_goals exact⟨((a1,c1,D1),b'),⟨rfl,hB⟩,(Ent.of_perm List.perm_middle.symm).trans (Ent.of_sub ((((List.sublist_cons_self _ _).cons _).cons_cons _).append_left D1))⟩
theorem qio{T:TypeId}{a:Option Addr}{cap j off n:Nat}{l:List Thr}{D:Own}{C:Own→Own}{t:Thr}{vs:List Value}{K:Own→Prop}(r:Rg)(hB:qr Thr.enc T 11 a cap l D)(hx:l[j]? =some t) [m:AtC D own C](hn:8=n)(ho:off=ao a+j*11+1)(hvs:vs=r.enc)
  (hk:∀D',qr Thr.enc T 11 a cap (l.set j {t with rg:=r}) D'→K (C D')):vs.length=n∧StN W0 own ⟨ab a,off,none⟩ vs K:=by
 obtain⟨b,pre,post,rfl,rfl,hpl,hset⟩:=qcW hB hx
 subst hvs
 have hat:=m.h
 have ho':off=pre.length+1:=by rw[ho,hpl];simp[ao]
 subst ho'
 haveI:UpC b (fun o=>o=Obj.cells (pre++(t.enc++post)).toArray T (0,0)) own (fun q=>C [(b,q)]):=⟨fun q=>hat.up q⟩
 have key:((pre++(t.enc++post)).toArray.toList.take (pre.length+1)++r.enc++(pre++(t.enc++post)).toArray.toList.drop (pre.length+1+8))=pre++(({t with rg:=r}:Thr).enc++post):=by
  rw[List.toList_toArray,List.take_append,List.take_of_length_le (by omega),Nat.add_sub_cancel_left,List.drop_append,List.drop_of_length_le (by omega),show pre.length+1+8-pre.length=9 by omega]
  simp
 have hS:=qfT (W0:=W0) (own:=own) (b:=b) (off:=pre.length+1) (n:=8) (cs:=(pre++(t.enc++post)).toArray) (T:=T) (vs:=r.enc) (K:=K) (C:=fun q=>C [(b,q)]) rfl (by simp;omega) rfl (by rw[key];exact hk _ (hset _))
 subst hn
 exact hS
end
theorem qhc{W0:World}{e0 e1 e2 m1 m2:Nat×(Obj→Prop)}{A R W O dG T E L S1 S2 S3 X q:Own}:Ent W0 (e0::((e1::(A++(m1::(R++(W++O)))))++((e2::(dG++(m2::(T++(E++(L++((S1++(S2++S3))++X)))))))++q))) ([e0,e1]++((e2::(A++(m1::(T++(E++(L++((S1++(S2++S3))++(R++(W++X)))))))))++q)):=
 qo (O++(dG++ [m2]))
section
variable{W0:World}{Kp K Y:Own}{g:GP}{c:Cfg}{ps:List PH}{s:GS}{x:TxG}{b:BM}
theorem qcl{t:Nat}{th:Thr}(h:g.ok W0 Kp ps s)(hv:g.ev W0 Y)(hth:s.T[t]? =some th)(hO:t<s.O.length)(hob:∀l∈s.O,l.length≤500000)(hE:s.E.length≤500000)(hx:x.ok W0 K b)(hxo:b.o.length≤500000)(q:Own):
  q0E Tryz.prog W0 90 [.pointer (some ⟨g.gb,0,none⟩), .int .i64 t, .pointer (some ⟨x.xb,0,none⟩)] (x.O c b 1++(g.O c ps.length s++q)) fun _ own'=>∃g':GP,
   (g'.ok W0 Kp ps ((({s with d:=b.d,tk:=b.tk,T:=s.T.set t {th with rg:=b.t.rg},O:=s.O.set t (s.O.getD t []++b.o)}:GS).ev [⟨s.n,t,3,0,[],[]⟩]).ev [⟨s.n,t,4,0,b.r,b.w⟩])∧g'.ev W0 Y∧g'.gb=g.gb∧g'.ta=g.ta)∧
   Ent W0 own' ([thB x.xb 158 (x.pre c b) (x.post b 1) b.t]++(g'.O c ps.length ((({s with d:=b.d,tk:=b.tk,T:=s.T.set t {th with rg:=b.t.rg},O:=s.O.set t (s.O.getD t []++b.o)}:GS).ev [⟨s.n,t,3,0,[],[]⟩]).ev [⟨s.n,t,4,0,b.r,b.w⟩])++q)):=by
 have htS:t<g.S.length:=by
  have h1:=congrArg List.length h.ol
  rw[List.length_map] at h1
  omega
 obtain⟨xo,hxo1⟩:∃xo,g.S[t]? =some xo:=⟨_,List.getElem?_eq_getElem htS⟩
 have hxm:=List.mem_of_getElem? hxo1
 have hB:=h.os xo hxm
 have hxl:xo.l.length≤500000:=hob xo.l (by rw[←h.ol];exact List.mem_map_of_mem hxm)
 have hOO:=h.o
 have hOR:=hOO.rd (W0:=W0)
 have hTR:=h.t.rd (W0:=W0)
 have hoR:=hx.o.rd (W0:=W0)
 refine qa qj q2g (by simp[qQ]) ?_
 have hok1:∀(a2:Option Addr) (c2:Nat) (D1 D2 D3:Own),qr Thr.enc 61 11 g.ta g.tc (s.T.set t {th with rg:=b.t.rg}) D1→qr ObM.enc 127 3 a2 c2 (xo.l++b.o) D2→qr ObS.enc 124 1 g.oa g.oc (g.S.set t ⟨a2,c2,xo.l++b.o,D2⟩) D3→
   ({g with mb:=x.mb,ml:=x.ml,da:=x.da,dc:=x.dc,dD:=x.dD,tD:=D1,oD:=D3,S:=g.S.set t ⟨a2,c2,xo.l++b.o,D2⟩,X:=x.rD++(x.wD++g.X)}:GP).ok W0 Kp ps ({s with d:=b.d,tk:=b.tk,T:=s.T.set t {th with rg:=b.t.rg},O:=s.O.set t (s.O.getD t []++b.o)}:GS)∧({g with mb:=x.mb,ml:=x.ml,da:=x.da,dc:=x.dc,dD:=x.dD,tD:=D1,oD:=D3,S:=g.S.set t ⟨a2,c2,xo.l++b.o,D2⟩,X:=x.rD++(x.wD++g.X)}:GP).ev W0 Y:=fun a2 c2 D1 D2 D3 hb1 hb2 hb3=>by
  have ho:=h.obs hxo1 hb2 hb3
  exact⟨⟨hx.d,hx.m,h.k,h.kp,hb1,h.e,h.em,ho.o,ho.os,ho.ol⟩,⟨fun e he=>⟨(hv.1 e he).1.up,(hv.1 e he).2.up⟩,by obtain⟨Z,hZ⟩:=hv.2;exact⟨x.rD++(x.wD++Z),by show x.rD++(x.wD++g.X)=_;rw[hZ];simp only[List.append_assoc]⟩⟩⟩
 have hev1:=fun(be:Nat) (a2:Option Addr) (c2:Nat) (D1 D2 D3:Own) hb1 hb2 hb3=>qG (E:= [(be,fun o=>o=Obj.cells #[.int .i64 0, .int .i64 t, .int .i64 4, .int .i64 0, .slice x.ra b.r.length x.rc, .slice x.wa b.w.length x.wc] 116 (0,0)),thB x.xb 158 (x.pre c b) (x.post b 1) b.t]) (q:=q) (q2H (c:=c) (g:=({g with mb:=x.mb,ml:=x.ml,da:=x.da,dc:=x.dc,dD:=x.dD,tD:=D1,oD:=D3,S:=g.S.set t ⟨a2,c2,xo.l++b.o,D2⟩,X:=x.rD++(x.wD++g.X)}:GP)) (s:=({s with d:=b.d,tk:=b.tk,T:=s.T.set t {th with rg:=b.t.rg},O:=s.O.set t (s.O.getD t []++b.o)}:GS)) (hok1 a2 c2 D1 D2 D3 hb1 hb2 hb3).1 (hok1 a2 c2 D1 D2 D3 hb1 hb2 hb3).2 (e:=⟨0,t,3,0,none,[],0,none,[],0⟩) RdE.nil RdE.nil (by show s.E.length≤_;omega))
 have hev2:=fun(g1:GP) (h1:g1.ok W0 Kp ps (({s with d:=b.d,tk:=b.tk,T:=s.T.set t {th with rg:=b.t.rg},O:=s.O.set t (s.O.getD t []++b.o)}:GS).ev [⟨s.n,t,3,0,[],[]⟩])) (h2:g1.ev W0 Y) (hX:g1.X=x.rD++(x.wD++g.X))=>qG (E:= [thB x.xb 158 (x.pre c b) (x.post b 1) b.t]) (q:=q) (q2H (c:=c) h1 h2 (e:=⟨0,t,4,0,x.ra,b.r,x.rc,x.wa,b.w,x.wc⟩) (hX ▸ (hx.r.rd (W0:=W0)).up) (hX ▸ (hx.w.rd (W0:=W0)).up) (by simp[GS.ev];omega))
 dsimp only[GP.O]
 rw[q3k hxo1]
 repeat'((try(conv=>whnf));first|(refine qc (fun be hbe=> ?_);(apply Stop.h))|(refine fA ?_))
 refine Stop.mk ?_
 repeat'((try(conv=>whnf));first|(refine fE ?_)|(refine qio b.t.rg h.t hth ?_ ?_ ?_ ?_;(exact rfl);omega;(exact rfl);intro D1 hb1)|(refine qiO hB hoR rfl rfl (by omega) (fun _ _=>rfl) (fun _=>by omega) (fun a2 c2 D2 hb2=> ?_))|(apply q5Q (enc:=ObS.enc) (T:=124) (j:=t) (k:=0) ⟨a2,c2,xo.l++b.o,D2⟩ hOO hxo1;(exact rfl);(omega);(simp only[ObS.enc,List.length_append];exact rfl);(exact rfl);intro D3 hb3)|((with_reducible show Ld _ _ _ _);first|(refine q1M hOR hxo1 rfl ?_))|((with_reducible show IxS _ _ _ _ _);first|((refine ixE hOR hxo1 ?_ ?_;(first|rfl|omega)))|((refine ixE hTR hth ?_ ?_;(first|rfl|omega))))|((with_reducible show qf _ _ _ _ _ _);first|((refine qm (hev1 be a2 c2 D1 D2 D3 hb1 hb2 hb3) ?_ ?_ ?_ (fun g1 v hg1=> ?_);(dsimp only[GP.O,GP.cells];rw[qbr hxo1,List.length_set,List.length_set];exact qhc);(exact rfl);(exact rfl);(obtain⟨hk1,hv1,hg1⟩:=hg1);(have hgb1:g1.gb=g.gb:=by rw[hg1]);(have hta1:g1.ta=g.ta:=by rw[hg1]);(rw[←hgb1])))|((refine qm (hev2 g1 hk1 hv1 (by rw[hg1])) ?_ ?_ ?_ (fun g2 v hg2=> ?_);(exact(eC));(exact rfl);(exact rfl))))|(refine fA ?_)|(refine fL ?_)|(refine fQ ?_)|(refine fN ?_)|(refine fM ?_)|(refine q4T.mk ?_ ?_))
 all_goals exact⟨g2,⟨hg2.1,hg2.2.1,by rw[hg2.2.2],by rw[hg2.2.2,hg1]⟩,Ent.refl⟩
theorem qh4{e0 e1 e2 m1 m2:Nat×(Obj→Prop)}{A R W O dG T E L S X q:Own}:Ent W0 (e0::((e1::(A++(m1::(R++(W++O)))))++((e2::(dG++(m2::(T++(E++(L++(S++X)))))))++q))) ([e0,e1]++((e2::(dG++(m2::(T++(E++(L++(S++(R++X))))))))++q)):=
 qo (A++(W++(O++ [m1])))
theorem qe2{t:Nat}{out:Int}(h:g.ok W0 Kp ps s)(hv:g.ev W0 Y)(hE:s.E.length≤500000)(hx:x.ok W0 K b)(ho:out≠1)(q:Own):
  q0E Tryz.prog W0 90 [.pointer (some ⟨g.gb,0,none⟩), .int .i64 t, .pointer (some ⟨x.xb,0,none⟩)] (x.O c b out++(g.O c ps.length s++q)) fun _ own'=>∃g':GP,
   (g'.ok W0 Kp ps ((s.ev [⟨s.n,t,3,0,[],[]⟩]).ev [⟨s.n,t,4,0,b.r,[]⟩])∧g'.ev W0 Y∧g'.gb=g.gb∧g'.ta=g.ta)∧
   Ent W0 own' ([thB x.xb 158 (x.pre c b) (x.post b out) b.t]++(g'.O c ps.length ((s.ev [⟨s.n,t,3,0,[],[]⟩]).ev [⟨s.n,t,4,0,b.r,[]⟩])++q)):=by
 refine qa qj q2g (by simp[qQ]) ?_
 have hev1:=fun(be:Nat)=>qG (E:= [(be,fun o=>o=Obj.cells #[.int .i64 0, .int .i64 t, .int .i64 4, .int .i64 0, .slice x.ra b.r.length x.rc, .slice none 0 0] 116 (0,0)),thB x.xb 158 (x.pre c b) (x.post b out) b.t]) (q:=q) (q2H (c:=c) (g:=({g with X:=x.rD++g.X}:GP)) (s:=s) h.x (GP.ev.x hv) (e:=⟨0,t,3,0,none,[],0,none,[],0⟩) RdE.nil RdE.nil (by omega))
 have hev2:=fun(g1:GP) (h1:g1.ok W0 Kp ps (s.ev [⟨s.n,t,3,0,[],[]⟩])) (h2:g1.ev W0 Y) (hX:g1.X=x.rD++g.X)=>qG (E:= [thB x.xb 158 (x.pre c b) (x.post b out) b.t]) (q:=q) (q2H (c:=c) h1 h2 (e:=⟨0,t,4,0,x.ra,b.r,x.rc,none,[],0⟩) (hX ▸ (hx.r.rd (W0:=W0)).up) RdE.nil (by simp[GS.ev];omega))
 repeat'((try(conv=>whnf));first|(refine qc (fun be hbe=> ?_);(apply Stop.h))|(refine fA ?_))
 refine Stop.mk ?_
 repeat'((try(conv=>whnf));first|(refine fG ?_)|((with_reducible show qf _ _ _ _ _ _);first|((refine qm (hev1 be) ?_ ?_ ?_ (fun g1 v hg1=> ?_);(exact qh4);(exact rfl);(exact rfl);(obtain⟨hk1,hv1,hg1⟩:=hg1);(have hgb1:g1.gb=g.gb:=by rw[hg1]);(have hta1:g1.ta=g.ta:=by rw[hg1]);(rw[←hgb1])))|((refine qm (hev2 g1 hk1 hv1 (by rw[hg1])) ?_ ?_ ?_ (fun g2 v hg2=> ?_);(exact(eC));(exact rfl);(exact rfl))))|(refine fA ?_)|(refine fL ?_)|(refine fM ?_))
 all_goals exact⟨g2,⟨hg2.1,hg2.2.1,by rw[hg2.2.2],by rw[hg2.2.2,hg1]⟩,Ent.refl⟩
end
end Go.Proofs.YtkieffpjjfebjaaGreatDoor
