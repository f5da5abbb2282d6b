/- What the laws share, part 5. No condition. -/
import Derived.Test.YtkieffpjjfebjaaGreatDoorF4
set_option maxHeartbeats 16000000
set_option maxRecDepth 10000
namespace Go.Proofs.YtkieffpjjfebjaaGreatDoor
open Go
theorem qmX{k:IntKind}{e z:Int}{K:Int→Prop}(h:k.wrap e=z)(hk:K z):q6t k e K:=arw (by rw[h];exact hk)
section
variable{W0:World}{Kp:Own}{g:DP}{c:Cfg}{ps:List PH}{s:GS}
theorem qpb{t:Nat}{th:Thr}{ph:PH}(hT:qk7 c ps s t th ph)(h:g.ok W0 Kp ps s){x:Ins}(hx:qv x=0)(hop:x.op=13)(hpc:th.pc<ph.p.length∧ph.p.length≤64){z:Nat}(hz:adr th.rg x.a x.imm=z)(hzo:c.words≤z)(aa:Option Addr)(al ac:Nat)(q:Own):
  q0E Tryz.prog W0 75 [.pointer (some ⟨g.rb,0,none⟩),chV t 0 aa al ac,x.v] (g.O c ps.length s++q) fun v own'=>∃g1:DP,
   (v= .bool true∧g1.ok W0 Kp ps {s with T:=s.T.set t {th with pc:=th.pc+1},O:=s.O.set t (s.O.getD t []++ [⟨th.pc,7,7⟩])}∧g1.rb=g.rb)∧Ent W0 own' (g1.O c ps.length {s with T:=s.T.set t {th with pc:=th.pc+1},O:=s.O.set t (s.O.getD t []++ [⟨th.pc,7,7⟩])}++q):=by
 refine qa qj qW (by simp[qs]) ?_
 have hT0:=h.t
 have hTR:=hT0.rd (W0:=W0)
 have hD0:=h.d
 have hDR:=hD0.rd (W0:=W0)
 have hth:=hT.hth
 have htl:=(List.getElem?_eq_some_iff.1 hth).1
 obtain⟨ha,hb⟩:=qoa hx
 have ha':x.a.toNat<8:=by omega
 have hb':x.b.toNat<8:=by omega
 have ga:th.enc[1+x.a.toNat]? =some (.int .u64 (th.rg.get x.a.toNat)):=Thr.enc_get ha'
 have gb:th.enc[1+x.b.toNat]? =some (.int .u64 (th.rg.get x.b.toNat)):=Thr.enc_get hb'
 have hwd:=(q1R hT.c0).1
 unfold okW at hwd
 have hdl:=hT.dl
 have htS:t<g.S.length:=by
  have h1:=congrArg List.length h.ol
  rw[List.length_map] at h1
  have:=hT.tl
  omega
 have hob9:∀l∈s.O,l.length≤1000000:=fun l hl=>by have:=hT.ob l hl;omega
 have hel:=hT.el
 have hln:=fun own=>qlM (W0:=W0) (b:=ab g.ta) (o:=ao g.ta+t*11) (x:=x) (by simp[isL,hop]) own
 obtain⟨op,a,b',c',imm⟩:=x
 dsimp only[Ins.v] at*
 subst hop
 have hzw:IntKind.u64.wrap (th.rg.get a.toNat+IntKind.u64.wrap imm)=(z:Int):=hz
 have hse:=fun(b4 bk:Nat)=>qmO (c:=c) h htS hob9 th.pc 7 7 ([(bk,fun o=>o=Obj.cells #[.int .i64 13, .int .i64 a, .int .i64 b', .int .i64 c', .int .i64 imm] 69 (0,0)),(b4,fun o=>o=Obj.cells #[.int .i64 t, .int .i64 0, .slice aa al ac] 79 (0,0))]++q)
 repeat'((try(conv=>whnf));first|(refine fE ?_)|(refine fD ?_)|(apply qcU;(exact rfl);omega)|(refine ldE (k:=1+b'.toNat) (RdE.up hTR) hth ?_ gb ?_;omega)|(refine ldE (k:=1+a.toNat) (RdE.up hTR) hth ?_ ga ?_;omega)|(refine qmX hzw ?_)|(refine fC ?_)|(refine arw (k:= .u64) ?_)|((with_reducible show Ld _ _ _ _);first|(refine q1M hTR hth rfl ?_))|((with_reducible show IxS _ _ _ _ _);first|((refine ixE hTR hth ?_ ?_;(first|rfl|omega))))|((with_reducible show qf _ _ _ _ _ _);first|((refine qh (hln _) ?_ ?_ ?_;(exact rfl);exact rfl))|(((apply Stop.h))))|(refine fP ?_)|(refine fA ?_)|(refine fL ?_)|(refine qc (fun bk hbk=> ?_)))
 rename_i b4 h4
 refine Stop.mk ?_
 repeat'((try(conv=>whnf));first|((with_reducible show qf _ _ _ _ _ _);first|((refine qm (hse b4 bk) qni ?_ ?_ (fun g1 v hv=> ?_);(exact rfl);(exact rfl);(apply Stop.h)))))
 obtain⟨hk1,hg1, -⟩:=hv
 have hta1:g1.ta=g.ta:=by rw[hg1]
 have hT1:=hk1.t
 have hR1:=hT1.rd (W0:=W0)
 rw[←hta1]
 refine Stop.mk ?_
 repeat'((try(conv=>whnf));first|(refine fD ?_)|(refine ldE (k:=0) (v:= .int .i64 th.pc) (RdE.up hR1) hth ?_ rfl ?_;omega)|(apply q5Q (enc:=Thr.enc) (T:=61) (j:=t) (k:=0) {th with pc:=th.pc+1} hT1 hth;(omega);(omega);(exact rfl);(exact rfl);intro D9 hb9)|(refine fB ?_)|(refine fA ?_))
 refine⟨{g1 with tD:=D9},⟨rfl,⟨hk1.d,hk1.m,hk1.k,hk1.kp,hb9,hk1.e,hk1.em,hk1.ev,hk1.o,hk1.os,hk1.ol⟩,by show g1.rb=g.rb;rw[hg1]⟩,?_⟩
 dsimp only[DP.O,DP.cells,GS.ev]
 rw[List.length_set]
 exact qnj
theorem qoG{t:Nat}{th:Thr}{ph:PH}(hT:qk7 c ps s t th ph)(h:g.ok W0 Kp ps s){x:Ins}(hx:qv x=0)(hop:x.op=13)(hpc:th.pc<ph.p.length∧ph.p.length≤64){z:Nat}(hz:adr th.rg x.a x.imm=z)(hzi:(z:Int)<c.words)(hst:c.strong=true)(aa:Option Addr)(al ac:Nat)(q:Own):
  q0E Tryz.prog W0 75 [.pointer (some ⟨g.rb,0,none⟩),chV t 6 aa al ac,x.v] (g.O c ps.length s++q) fun v own'=>∃g1:DP,
   (v= .bool true∧g1.ok W0 Kp ps {s with T:=s.T.set t {th with pc:=th.pc+1},O:=s.O.set t (s.O.getD t []++ [⟨th.pc,7,6⟩])}∧g1.rb=g.rb)∧Ent W0 own' (g1.O c ps.length {s with T:=s.T.set t {th with pc:=th.pc+1},O:=s.O.set t (s.O.getD t []++ [⟨th.pc,7,6⟩])}++q):=by
 refine qa qj qW (by simp[qs]) ?_
 have hT0:=h.t
 have hTR:=hT0.rd (W0:=W0)
 have hD0:=h.d
 have hDR:=hD0.rd (W0:=W0)
 have hth:=hT.hth
 have htl:=(List.getElem?_eq_some_iff.1 hth).1
 obtain⟨ha,hb⟩:=qoa hx
 have ha':x.a.toNat<8:=by omega
 have hb':x.b.toNat<8:=by omega
 have ga:th.enc[1+x.a.toNat]? =some (.int .u64 (th.rg.get x.a.toNat)):=Thr.enc_get ha'
 have gb:th.enc[1+x.b.toNat]? =some (.int .u64 (th.rg.get x.b.toNat)):=Thr.enc_get hb'
 have hwd:=(q1R hT.c0).1
 unfold okW at hwd
 have hdl:=hT.dl
 have htS:t<g.S.length:=by
  have h1:=congrArg List.length h.ol
  rw[List.length_map] at h1
  have:=hT.tl
  omega
 have hob9:∀l∈s.O,l.length≤1000000:=fun l hl=>by have:=hT.ob l hl;omega
 have hel:=hT.el
 have hln:=fun own=>qlM (W0:=W0) (b:=ab g.ta) (o:=ao g.ta+t*11) (x:=x) (by simp[isL,hop]) own
 obtain⟨op,a,b',c',imm⟩:=x
 dsimp only[Ins.v] at*
 subst hop
 have hzw:IntKind.u64.wrap (th.rg.get a.toNat+IntKind.u64.wrap imm)=(z:Int):=hz
 have hse:=fun(b4 bk:Nat)=>qmO (c:=c) h htS hob9 th.pc 7 6 ([(bk,fun o=>o=Obj.cells #[.int .i64 13, .int .i64 a, .int .i64 b', .int .i64 c', .int .i64 imm] 69 (0,0)),(b4,fun o=>o=Obj.cells #[.int .i64 t, .int .i64 6, .slice aa al ac] 79 (0,0))]++q)
 have hns:(!c.strong)=false:=by rw[hst];rfl
 repeat'((try(conv=>whnf));first|(refine fH ?_)|(refine fE ?_)|(apply qcV;(exact rfl);omega)|(refine q1P hns ?_)|(refine ldE (k:=1+b'.toNat) (RdE.up hTR) hth ?_ gb ?_;omega)|(refine ldE (k:=1+a.toNat) (RdE.up hTR) hth ?_ ga ?_;omega)|(refine qmX hzw ?_)|(refine fC ?_)|(refine arw (k:= .u64) ?_)|((with_reducible show Ld _ _ _ _);first|(refine q1M hTR hth rfl ?_))|((with_reducible show IxS _ _ _ _ _);first|((refine ixE hTR hth ?_ ?_;(first|rfl|omega))))|((with_reducible show qf _ _ _ _ _ _);first|(((apply Stop.h))))|(refine fP ?_)|(refine fA ?_)|(refine qc (fun bk hbk=> ?_)))
 rename_i b4 h4
 refine Stop.mk ?_
 repeat'((try(conv=>whnf));first|((with_reducible show qf _ _ _ _ _ _);first|((refine qm (hse b4 bk) qni ?_ ?_ (fun g1 v hv=> ?_);(exact rfl);(exact rfl);(apply Stop.h)))))
 obtain⟨hk1,hg1, -⟩:=hv
 have hta1:g1.ta=g.ta:=by rw[hg1]
 have hT1:=hk1.t
 have hR1:=hT1.rd (W0:=W0)
 rw[←hta1]
 refine Stop.mk ?_
 repeat'((try(conv=>whnf));first|(refine ldE (k:=0) (v:= .int .i64 th.pc) (RdE.up hR1) hth ?_ rfl ?_;omega)|(apply q5Q (enc:=Thr.enc) (T:=61) (j:=t) (k:=0) {th with pc:=th.pc+1} hT1 hth;(omega);(omega);(exact rfl);(exact rfl);intro D9 hb9)|(refine fB ?_))
 refine⟨{g1 with tD:=D9},⟨rfl,⟨hk1.d,hk1.m,hk1.k,hk1.kp,hb9,hk1.e,hk1.em,hk1.ev,hk1.o,hk1.os,hk1.ol⟩,by show g1.rb=g.rb;rw[hg1]⟩,?_⟩
 dsimp only[DP.O,DP.cells,GS.ev]
 rw[List.length_set]
 exact qnj
theorem qpa{t:Nat}{th:Thr}{ph:PH}(hT:qk7 c ps s t th ph)(h:g.ok W0 Kp ps s){x:Ins}(hx:qv x=0)(hop:x.op=12)(hpc:th.pc<ph.p.length∧ph.p.length≤64){z:Nat}(hz:adr th.rg x.b x.imm=z)(hzo:c.words≤z)(aa:Option Addr)(al ac:Nat)(q:Own):
  q0E Tryz.prog W0 75 [.pointer (some ⟨g.rb,0,none⟩),chV t 0 aa al ac,x.v] (g.O c ps.length s++q) fun v own'=>∃g1:DP,
   (v= .bool true∧g1.ok W0 Kp ps {s with T:=s.T.set t {th with rg:=th.rg.set x.a.toNat 0,pc:=th.pc+1},O:=s.O.set t (s.O.getD t []++ [⟨th.pc,7,7⟩])}∧g1.rb=g.rb)∧Ent W0 own' (g1.O c ps.length {s with T:=s.T.set t {th with rg:=th.rg.set x.a.toNat 0,pc:=th.pc+1},O:=s.O.set t (s.O.getD t []++ [⟨th.pc,7,7⟩])}++q):=by
 refine qa qj qW (by simp[qs]) ?_
 have hT0:=h.t
 have hTR:=hT0.rd (W0:=W0)
 have hD0:=h.d
 have hDR:=hD0.rd (W0:=W0)
 have hth:=hT.hth
 have htl:=(List.getElem?_eq_some_iff.1 hth).1
 obtain⟨ha,hb⟩:=qoa hx
 have ha':x.a.toNat<8:=by omega
 have hb':x.b.toNat<8:=by omega
 have ga:th.enc[1+x.a.toNat]? =some (.int .u64 (th.rg.get x.a.toNat)):=Thr.enc_get ha'
 have gb:th.enc[1+x.b.toNat]? =some (.int .u64 (th.rg.get x.b.toNat)):=Thr.enc_get hb'
 have hwd:=(q1R hT.c0).1
 unfold okW at hwd
 have hdl:=hT.dl
 have htS:t<g.S.length:=by
  have h1:=congrArg List.length h.ol
  rw[List.length_map] at h1
  have:=hT.tl
  omega
 have hob9:∀l∈s.O,l.length≤1000000:=fun l hl=>by have:=hT.ob l hl;omega
 have hel:=hT.el
 have hln:=fun own=>qlM (W0:=W0) (b:=ab g.ta) (o:=ao g.ta+t*11) (x:=x) (by simp[isL,hop]) own
 obtain⟨op,a,b',c',imm⟩:=x
 dsimp only[Ins.v] at*
 subst hop
 have hzw:IntKind.u64.wrap (th.rg.get b'.toNat+IntKind.u64.wrap imm)=(z:Int):=hz
 have hth2:(s.T.set t {th with rg:=th.rg.set a.toNat 0})[t]? =some {th with rg:=th.rg.set a.toNat 0}:=List.getElem?_set_self htl
 have hse:=fun(b4 bk:Nat)=>qmO (c:=c) h htS hob9 th.pc 7 7 ([(bk,fun o=>o=Obj.cells #[.int .i64 12, .int .i64 a, .int .i64 b', .int .i64 c', .int .i64 imm] 69 (0,0)),(b4,fun o=>o=Obj.cells #[.int .i64 t, .int .i64 0, .slice aa al ac] 79 (0,0))]++q)
 repeat'((try(conv=>whnf));first|(refine fD ?_)|(apply qcU;(exact rfl);omega)|(refine ldE (k:=1+b'.toNat) (RdE.up hTR) hth ?_ gb ?_;omega)|(refine qmX hzw ?_)|(refine fC ?_)|(refine arw (k:= .u64) ?_)|((with_reducible show Ld _ _ _ _);first|(refine q1M hTR hth rfl ?_))|((with_reducible show IxS _ _ _ _ _);first|((refine ixE hTR hth ?_ ?_;(first|rfl|omega))))|((with_reducible show qf _ _ _ _ _ _);first|((refine qh (hln _) ?_ ?_ ?_;(exact rfl);exact rfl))|(((apply Stop.h))))|(refine fP ?_)|(refine fA ?_)|(refine fL ?_)|(refine qc (fun bk hbk=> ?_)))
 rename_i b4 h4
 refine Stop.mk ?_
 repeat'((try(conv=>whnf));first|((with_reducible show qf _ _ _ _ _ _);first|((refine qm (hse b4 bk) qni ?_ ?_ (fun g1 v hv=> ?_);(exact rfl);(exact rfl);(apply Stop.h)))))
 obtain⟨hk1,hg1, -⟩:=hv
 have hta1:g1.ta=g.ta:=by rw[hg1]
 have hT1:=hk1.t
 have hR1:=hT1.rd (W0:=W0)
 rw[←hta1]
 refine Stop.mk ?_
 repeat'((try(conv=>whnf));first|(refine fE ?_)|(refine ldE (k:=0) (v:= .int .i64 th.pc) (RdE.up (hb8.rd (W0:=W0))) hth2 ?_ rfl ?_;omega)|(apply q5Q (enc:=Thr.enc) (T:=61) (j:=t) (k:=0) {th with rg:=th.rg.set a.toNat 0,pc:=th.pc+1} hb8 hth2;(omega);(omega);(exact rfl);(exact rfl);intro D9 hb9)|(apply q5Q (enc:=Thr.enc) (T:=61) (j:=t) (k:=1+a.toNat) {th with rg:=th.rg.set a.toNat 0} hT1 hth;(omega);(omega);(exact(Thr.enc_set ha').symm);(exact rfl);intro D8 hb8)|(refine fB ?_)|(refine fP ?_)|(refine fA ?_))
 rw[List.set_set] at hb9
 refine⟨{g1 with tD:=D9},⟨rfl,⟨hk1.d,hk1.m,hk1.k,hk1.kp,hb9,hk1.e,hk1.em,hk1.ev,hk1.o,hk1.os,hk1.ol⟩,by show g1.rb=g.rb;rw[hg1]⟩,?_⟩
 dsimp only[DP.O,DP.cells]
 rw[List.length_set]
 exact qnj
theorem qpE{t:Nat}{th:Thr}{ph:PH}(hT:qk7 c ps s t th ph)(h:g.ok W0 Kp ps s){x:Ins}(hx:qv x=0)(hop:x.op=12)(hpc:th.pc<ph.p.length∧ph.p.length≤64){z:Nat}(hz:adr th.rg x.b x.imm=z)(hzi:(z:Int)<c.words)(aa:Option Addr)(al ac:Nat)(q:Own):
  q0E Tryz.prog W0 75 [.pointer (some ⟨g.rb,0,none⟩),chV t 0 aa al ac,x.v] (g.O c ps.length s++q) fun v own'=>∃g1:DP,
   (v= .bool true∧g1.ok W0 Kp ps {s with T:=s.T.set t {th with rg:=th.rg.set x.a.toNat (s.d.getD z 0),pc:=th.pc+1},O:=s.O.set t (s.O.getD t []++ [⟨th.pc,4,s.d.getD z 0⟩]),E:=s.E++plE c s.n t 1 z}∧g1.rb=g.rb)∧Ent W0 own' (g1.O c ps.length {s with T:=s.T.set t {th with rg:=th.rg.set x.a.toNat (s.d.getD z 0),pc:=th.pc+1},O:=s.O.set t (s.O.getD t []++ [⟨th.pc,4,s.d.getD z 0⟩]),E:=s.E++plE c s.n t 1 z}++q):=by
 refine qa qj qW (by simp[qs]) ?_
 have hT0:=h.t
 have hTR:=hT0.rd (W0:=W0)
 have hD0:=h.d
 have hDR:=hD0.rd (W0:=W0)
 have hth:=hT.hth
 have htl:=(List.getElem?_eq_some_iff.1 hth).1
 obtain⟨ha,hb⟩:=qoa hx
 have ha':x.a.toNat<8:=by omega
 have hb':x.b.toNat<8:=by omega
 have ga:th.enc[1+x.a.toNat]? =some (.int .u64 (th.rg.get x.a.toNat)):=Thr.enc_get ha'
 have gb:th.enc[1+x.b.toNat]? =some (.int .u64 (th.rg.get x.b.toNat)):=Thr.enc_get hb'
 have hwd:=(q1R hT.c0).1
 unfold okW at hwd
 have hdl:=hT.dl
 have htS:t<g.S.length:=by
  have h1:=congrArg List.length h.ol
  rw[List.length_map] at h1
  have:=hT.tl
  omega
 have hob9:∀l∈s.O,l.length≤1000000:=fun l hl=>by have:=hT.ob l hl;omega
 have hel:=hT.el
 have hln:=fun own=>qlM (W0:=W0) (b:=ab g.ta) (o:=ao g.ta+t*11) (x:=x) (by simp[isL,hop]) own
 obtain⟨op,a,b',c',imm⟩:=x
 dsimp only[Ins.v] at*
 subst hop
 have hzw:IntKind.u64.wrap (th.rg.get b'.toNat+IntKind.u64.wrap imm)=(z:Int):=hz
 obtain⟨dz,hdz⟩:∃dz,s.d[z]? =some dz:=⟨_,List.getElem?_eq_getElem (by omega)⟩
 have hdd:s.d.getD z 0=dz:=by rw[List.getD_eq_getElem?_getD,hdz];rfl
 rw[hdd]
 have hth2:(s.T.set t {th with rg:=th.rg.set a.toNat dz})[t]? =some {th with rg:=th.rg.set a.toNat dz}:=List.getElem?_set_self htl
 have hse:=fun(D8:Own) (hb8:qr Thr.enc 61 11 g.ta g.tc (s.T.set t {th with rg:=th.rg.set a.toNat dz}) D8) (b4 bk:Nat)=>qmO (c:=c) (g:={g with tD:=D8}) (s:={s with T:=s.T.set t {th with rg:=th.rg.set a.toNat dz}}) ⟨h.d,h.m,h.k,h.kp,hb8,h.e,h.em,h.ev,h.o,h.os,h.ol⟩ htS hob9 th.pc 4 dz ([(bk,fun o=>o=Obj.cells #[.int .i64 12, .int .i64 a, .int .i64 b', .int .i64 c', .int .i64 imm] 69 (0,0)),(b4,fun o=>o=Obj.cells #[.int .i64 t, .int .i64 0, .slice aa al ac] 79 (0,0))]++q)
 repeat'((try(conv=>whnf));first|(refine fE ?_)|(refine fD ?_)|(apply qcV;(exact rfl);omega)|(refine ldE (k:=1+b'.toNat) (RdE.up hTR) hth ?_ gb ?_;omega)|(refine qmX hzw ?_)|(refine fC ?_)|(refine arw (k:= .u64) ?_)|(apply q5Q (enc:=Thr.enc) (T:=61) (j:=t) (k:=1+a.toNat) {th with rg:=th.rg.set a.toNat dz} hT0 hth;(omega);(omega);(exact(Thr.enc_set ha').symm);(exact rfl);intro D8 hb8)|(refine ldE (k:=0) (v:= .int .i64 th.pc) (RdE.up (hb8.rd (W0:=W0))) hth2 ?_ rfl ?_;omega)|((with_reducible show Ld _ _ _ _);first|(refine q1M hDR hdz rfl ?_))|((with_reducible show IxS _ _ _ _ _);first|((refine ixE hDR hdz ?_ ?_;(first|rfl|omega)))|((refine ixE hTR hth ?_ ?_;(first|rfl|omega))))|((with_reducible show qf _ _ _ _ _ _);first|((refine qh (hln _) ?_ ?_ ?_;(exact rfl);exact rfl))|(((apply Stop.h))))|(refine fP ?_)|(refine fA ?_)|(refine fL ?_)|(refine qc (fun bk hbk=> ?_)))
 rename_i b4 h4
 refine Stop.mk ?_
 repeat'((try(conv=>whnf));first|((with_reducible show qf _ _ _ _ _ _);first|((refine qm (hse D8 hb8 b4 bk) ?_ ?_ ?_ (fun g1 v hv=> ?_);(dsimp only[DP.O,DP.cells];rw[List.length_set];exact qni);(exact rfl);(exact rfl);(apply Stop.h)))))
 obtain⟨hk1,hg1, -⟩:=hv
 have hrb1:g1.rb=g.rb:=by rw[hg1]
 have hpl:=fun(b4 bk:Nat)=>qo3 (c:=c) hk1 (by show s.E.length≤_;omega) t z (k:=1) (.inl rfl) ([(bk,fun o=>o=Obj.cells #[.int .i64 12, .int .i64 a, .int .i64 b', .int .i64 c', .int .i64 imm] 69 (0,0)),(b4,fun o=>o=Obj.cells #[.int .i64 t, .int .i64 0, .slice aa al ac] 79 (0,0))]++q)
 rw[←hrb1]
 refine Stop.mk ?_
 repeat'((try(conv=>whnf));first|((with_reducible show qf _ _ _ _ _ _);first|((refine qm (hpl b4 bk) Ent.refl ?_ ?_ (fun g2 v hv=> ?_);(exact rfl);(exact rfl);(apply Stop.h))))|(refine fB ?_)|(refine fA ?_))
 obtain⟨hk2,hg2⟩:=hv
 have hta2:g2.ta=g.ta:=by rw[hg2,hg1]
 have hT2:=hk2.t
 have hR2:=hT2.rd (W0:=W0)
 rw[←hta2]
 refine Stop.mk ?_
 repeat'((try(conv=>whnf));first|(refine ldE (k:=0) (v:= .int .i64 th.pc) (RdE.up hR2) hth2 ?_ rfl ?_;omega)|(apply q5Q (enc:=Thr.enc) (T:=61) (j:=t) (k:=0) {th with rg:=th.rg.set a.toNat dz,pc:=th.pc+1} hT2 hth2;(omega);(omega);(exact rfl);(exact rfl);intro D9 hb9)|(refine fB ?_))
 dsimp only[GS.ev] at hb9
 rw[List.set_set] at hb9
 refine⟨{g2 with tD:=D9},⟨rfl,⟨hk2.d,hk2.m,hk2.k,hk2.kp,hb9,hk2.e,hk2.em,hk2.ev,hk2.o,hk2.os,hk2.ol⟩,by show g2.rb=g1.rb;rw[hg2]⟩,?_⟩
 dsimp only[DP.O,DP.cells,GS.ev]
 simp only[List.length_set]
 exact qnj
theorem qpF{t:Nat}{th:Thr}{ph:PH}(hT:qk7 c ps s t th ph)(h:g.ok W0 Kp ps s){x:Ins}(hx:qv x=0)(hop:x.op=13)(hpc:th.pc<ph.p.length∧ph.p.length≤64){z:Nat}(hz:adr th.rg x.a x.imm=z)(hzi:(z:Int)<c.words)(aa:Option Addr)(al ac:Nat)(q:Own):
  q0E Tryz.prog W0 75 [.pointer (some ⟨g.rb,0,none⟩),chV t 0 aa al ac,x.v] (g.O c ps.length s++q) fun v own'=>∃g1:DP,
   (v= .bool true∧g1.ok W0 Kp ps {s with d:=s.d.set z (th.rg.get x.b.toNat),T:=s.T.set t {th with pc:=th.pc+1},O:=s.O.set t (s.O.getD t []++ [⟨th.pc,5,th.rg.get x.b.toNat⟩]),E:=s.E++plE c s.n t 2 z}∧g1.rb=g.rb)∧Ent W0 own' (g1.O c ps.length {s with d:=s.d.set z (th.rg.get x.b.toNat),T:=s.T.set t {th with pc:=th.pc+1},O:=s.O.set t (s.O.getD t []++ [⟨th.pc,5,th.rg.get x.b.toNat⟩]),E:=s.E++plE c s.n t 2 z}++q):=by
 refine qa qj qW (by simp[qs]) ?_
 have hT0:=h.t
 have hTR:=hT0.rd (W0:=W0)
 have hD0:=h.d
 have hDR:=hD0.rd (W0:=W0)
 have hth:=hT.hth
 have htl:=(List.getElem?_eq_some_iff.1 hth).1
 obtain⟨ha,hb⟩:=qoa hx
 have ha':x.a.toNat<8:=by omega
 have hb':x.b.toNat<8:=by omega
 have ga:th.enc[1+x.a.toNat]? =some (.int .u64 (th.rg.get x.a.toNat)):=Thr.enc_get ha'
 have gb:th.enc[1+x.b.toNat]? =some (.int .u64 (th.rg.get x.b.toNat)):=Thr.enc_get hb'
 have hwd:=(q1R hT.c0).1
 unfold okW at hwd
 have hdl:=hT.dl
 have htS:t<g.S.length:=by
  have h1:=congrArg List.length h.ol
  rw[List.length_map] at h1
  have:=hT.tl
  omega
 have hob9:∀l∈s.O,l.length≤1000000:=fun l hl=>by have:=hT.ob l hl;omega
 have hel:=hT.el
 have hln:=fun own=>qlM (W0:=W0) (b:=ab g.ta) (o:=ao g.ta+t*11) (x:=x) (by simp[isL,hop]) own
 obtain⟨op,a,b',c',imm⟩:=x
 dsimp only[Ins.v] at*
 subst hop
 have hzw:IntKind.u64.wrap (th.rg.get a.toNat+IntKind.u64.wrap imm)=(z:Int):=hz
 obtain⟨dz,hdz⟩:∃dz,s.d[z]? =some dz:=⟨_,List.getElem?_eq_getElem (by omega)⟩
 have hse:=fun(D7:Own) (hb7:qr q7j 58 1 g.da g.dc (s.d.set z (th.rg.get b'.toNat)) D7) (b4 bk:Nat)=>qmO (c:=c) (g:={g with dD:=D7}) (s:={s with d:=s.d.set z (th.rg.get b'.toNat)}) ⟨hb7,h.m,h.k,h.kp,h.t,h.e,h.em,h.ev,h.o,h.os,h.ol⟩ htS hob9 th.pc 5 (th.rg.get b'.toNat) ([(bk,fun o=>o=Obj.cells #[.int .i64 13, .int .i64 a, .int .i64 b', .int .i64 c', .int .i64 imm] 69 (0,0)),(b4,fun o=>o=Obj.cells #[.int .i64 t, .int .i64 0, .slice aa al ac] 79 (0,0))]++q)
 repeat'((try(conv=>whnf));first|(refine fE ?_)|(refine fD ?_)|(apply qcV;(exact rfl);omega)|(refine ldE (k:=1+b'.toNat) (RdE.up hTR) hth ?_ gb ?_;omega)|(refine ldE (k:=1+a.toNat) (RdE.up hTR) hth ?_ ga ?_;omega)|(refine qmX hzw ?_)|(refine fC ?_)|(refine arw (k:= .u64) ?_)|(apply q5Q (enc:=q7j) (T:=58) (j:=z) (k:=0) (th.rg.get b'.toNat) hD0 hdz;(omega);(omega);(exact rfl);(exact rfl);intro D7 hb7)|((with_reducible show Ld _ _ _ _);first|(refine q1M hTR hth rfl ?_))|((with_reducible show IxS _ _ _ _ _);first|((refine ixE hDR hdz ?_ ?_;(first|rfl|omega)))|((refine ixE hTR hth ?_ ?_;(first|rfl|omega))))|((with_reducible show qf _ _ _ _ _ _);first|((refine qh (hln _) ?_ ?_ ?_;(exact rfl);exact rfl))|(((apply Stop.h))))|(refine fP ?_)|(refine fA ?_)|(refine fL ?_)|(refine qc (fun bk hbk=> ?_)))
 rename_i b4 h4
 refine Stop.mk ?_
 repeat'((try(conv=>whnf));first|((with_reducible show qf _ _ _ _ _ _);first|((refine qm (hse D7 hb7 b4 bk) ?_ ?_ ?_ (fun g1 v hv=> ?_);(dsimp only[DP.O,DP.cells];rw[List.length_set];exact qni);(exact rfl);(exact rfl);(apply Stop.h)))))
 obtain⟨hk1,hg1, -⟩:=hv
 have hrb1:g1.rb=g.rb:=by rw[hg1]
 have hpl:=fun(b4 bk:Nat)=>qo3 (c:=c) hk1 (by show s.E.length≤_;omega) t z (k:=2) (.inr rfl) ([(bk,fun o=>o=Obj.cells #[.int .i64 13, .int .i64 a, .int .i64 b', .int .i64 c', .int .i64 imm] 69 (0,0)),(b4,fun o=>o=Obj.cells #[.int .i64 t, .int .i64 0, .slice aa al ac] 79 (0,0))]++q)
 rw[←hrb1]
 refine Stop.mk ?_
 repeat'((try(conv=>whnf));first|((with_reducible show qf _ _ _ _ _ _);first|((refine qm (hpl b4 bk) Ent.refl ?_ ?_ (fun g2 v hv=> ?_);(exact rfl);(exact rfl);(apply Stop.h))))|(refine fB ?_)|(refine fA ?_))
 obtain⟨hk2,hg2⟩:=hv
 have hta2:g2.ta=g.ta:=by rw[hg2,hg1]
 have hT2:=hk2.t
 have hR2:=hT2.rd (W0:=W0)
 rw[←hta2]
 refine Stop.mk ?_
 repeat'((try(conv=>whnf));first|(refine ldE (k:=0) (v:= .int .i64 th.pc) (RdE.up hR2) hth ?_ rfl ?_;omega)|(apply q5Q (enc:=Thr.enc) (T:=61) (j:=t) (k:=0) {th with pc:=th.pc+1} hT2 hth;(omega);(omega);(exact rfl);(exact rfl);intro D9 hb9)|(refine fB ?_))
 dsimp only[GS.ev] at hb9
 refine⟨{g2 with tD:=D9},⟨rfl,⟨hk2.d,hk2.m,hk2.k,hk2.kp,hb9,hk2.e,hk2.em,hk2.ev,hk2.o,hk2.os,hk2.ol⟩,by show g2.rb=g1.rb;rw[hg2]⟩,?_⟩
 dsimp only[DP.O,DP.cells,GS.ev]
 simp only[List.length_set]
 exact qnj
end
open Go
section
variable{W0:World}{Kp:Own}{g:DP}{c:Cfg}{ps:List PH}{s:GS}
theorem qqW{t:Nat}{th:Thr}{ph:PH}(hT:qk7 c ps s t th ph)(h:g.ok W0 Kp ps s){x:Ins}(hx:qv x=0){f:Int}(hf:f≠0)(hno:¬(f=6∧c.strong=true∧x.op=13∧adr th.rg x.a x.imm<c.words))(aa:Option Addr)(al ac:Nat)(q:Own):
  qD Tryz.prog W0 75 [.pointer (some ⟨g.rb,0,none⟩),chV t f aa al ac,x.v] (g.O c ps.length s++q) (.bool false):=by
 refine qe (qa qj qW (by simp[qs]) ?_)
 have hT0:=h.t
 have hTR:=hT0.rd (W0:=W0)
 have hth:=hT.hth
 obtain⟨ha,hb⟩:=qoa hx
 have ha':x.a.toNat<8:=by omega
 have hb':x.b.toNat<8:=by omega
 have ga:th.enc[1+x.a.toNat]? =some (.int .u64 (th.rg.get x.a.toNat)):=Thr.enc_get ha'
 have gb:th.enc[1+x.b.toNat]? =some (.int .u64 (th.rg.get x.b.toNat)):=Thr.enc_get hb'
 have hwd:=(q1R hT.c0).1
 unfold okW at hwd
 have hz0:=(q9l (r:=th.rg) (b:=x.a) (imm:=x.imm)).1
 obtain⟨z,hz⟩:=Int.eq_ofNat_of_zero_le hz0
 rw[hz] at hno
 obtain⟨op,a,b',c',imm⟩:=x
 dsimp only[Ins.v] at*
 have hzw:IntKind.u64.wrap (th.rg.get a.toNat+IntKind.u64.wrap imm)=(z:Int):=hz
 by_cases h13:op=13
 ·subst h13
  have e13:¬(13:Int)≠13:=fun h=>h rfl
  by_cases h6:f=6
  ·subst h6
   have e6:¬(6:Int)≠6:=fun h=>h rfl
   cases hs:c.strong with
   |false=>
    have hns:(!c.strong)=true:=by rw[hs];rfl
    repeat'((try(conv=>whnf));first|(refine fH ?_)|(refine fI ?_)|(refine fE ?_)|(refine qes hns ?_)|(refine ldE (k:=1+b'.toNat) (RdE.up hTR) hth ?_ gb ?_;omega)|(refine ldE (k:=1+a.toNat) (RdE.up hTR) hth ?_ ga ?_;omega)|(refine qmX hzw ?_)|(refine fC ?_)|(refine arw (k:= .u64) ?_)|((with_reducible show IxS _ _ _ _ _);first|((refine ixE hTR hth ?_ ?_;(first|rfl|omega))))|(refine fP ?_)|(refine fA ?_)|(refine qc (fun bk hbk=> ?_)))
    all_goals exact⟨rfl,(eC)⟩
   |true=>
    have hns:(!c.strong)=false:=by rw[hs];rfl
    have hzo:¬(z:Int)<c.words:=fun h=>hno ⟨rfl,hs,rfl,h⟩
    repeat'((try(conv=>whnf));first|(refine fH ?_)|(refine fE ?_)|(apply qcU;(exact rfl);omega)|(refine q1P hns ?_)|(refine ldE (k:=1+b'.toNat) (RdE.up hTR) hth ?_ gb ?_;omega)|(refine ldE (k:=1+a.toNat) (RdE.up hTR) hth ?_ ga ?_;omega)|(refine qmX hzw ?_)|(refine fC ?_)|(refine arw (k:= .u64) ?_)|((with_reducible show IxS _ _ _ _ _);first|((refine ixE hTR hth ?_ ?_;(first|rfl|omega))))|(refine fP ?_)|(refine fA ?_)|(refine qc (fun bk hbk=> ?_)))
    all_goals exact⟨rfl,(eC)⟩
  ·repeat'((try(conv=>whnf));first|(refine fI ?_)|(refine fE ?_)|(refine fF ?_)|(refine fJ ?_)|(refine ldE (k:=1+b'.toNat) (RdE.up hTR) hth ?_ gb ?_;omega)|(refine ldE (k:=1+a.toNat) (RdE.up hTR) hth ?_ ga ?_;omega)|(refine qmX hzw ?_)|(refine fC ?_)|(refine arw (k:= .u64) ?_)|((with_reducible show IxS _ _ _ _ _);first|((refine ixE hTR hth ?_ ?_;(first|rfl|omega))))|(refine fP ?_)|(refine fA ?_)|(refine qc (fun bk hbk=> ?_)))
   all_goals exact⟨rfl,(eC)⟩
 ·by_cases h6:f=6
  ·subst h6
   have e6:¬(6:Int)≠6:=fun h=>h rfl
   repeat'((try(conv=>whnf));first|(refine fH ?_)|(refine fI ?_)|(refine fE ?_)|(refine fG ?_)|(refine fJ ?_)|(refine ldE (k:=1+b'.toNat) (RdE.up hTR) hth ?_ gb ?_;omega)|(refine fC ?_)|(refine arw (k:= .u64) ?_)|((with_reducible show IxS _ _ _ _ _);first|((refine ixE hTR hth ?_ ?_;(first|rfl|omega))))|(refine fP ?_)|(refine fA ?_)|(refine qc (fun bk hbk=> ?_)))
   all_goals exact⟨rfl,(eC)⟩
  ·repeat'((try(conv=>whnf));first|(refine fI ?_)|(refine fE ?_)|(refine fF ?_)|(refine fG ?_)|(refine fJ ?_)|(refine ldE (k:=1+b'.toNat) (RdE.up hTR) hth ?_ gb ?_;omega)|(refine fC ?_)|(refine arw (k:= .u64) ?_)|((with_reducible show IxS _ _ _ _ _);first|((refine ixE hTR hth ?_ ?_;(first|rfl|omega))))|(refine fP ?_)|(refine fA ?_)|(refine qc (fun bk hbk=> ?_)))
   all_goals exact⟨rfl,(eC)⟩
theorem qqe{t:Nat}{th:Thr}{ph:PH}(hT:qk7 c ps s t th ph)(h:g.ok W0 Kp ps s){x:Ins}(hx:qv x=0)(hl:isL x=true)(hpc:th.pc<ph.p.length∧ph.p.length≤64)(aa:Option Addr)(al ac:Nat)(q:Own):
  q0E Tryz.prog W0 75 [.pointer (some ⟨g.rb,0,none⟩),chV t 0 aa al ac,x.v] (g.O c ps.length s++q) fun v own'=>∃g1:DP,
   (v= .bool true∧g1.ok W0 Kp ps {s with T:=s.T.set t (q6a th x)}∧g1.rb=g.rb)∧Ent W0 own' (g1.O c ps.length {s with T:=s.T.set t (q6a th x)}++q):=by
 refine qa qj qW (by simp[qs]) ?_
 have hT0:=h.t
 have hTR:=hT0.rd (W0:=W0)
 have hth:=hT.hth
 obtain⟨ha,hb⟩:=qoa hx
 have hb':x.b.toNat<8:=by omega
 have gb:th.enc[1+x.b.toNat]? =some (.int .u64 (th.rg.get x.b.toNat)):=Thr.enc_get hb'
 have hwd:=(q1R hT.c0).1
 unfold okW at hwd
 have h13:x.op≠13:=fun e=>by simp[isL,e] at hl
 have hls:=fun E=>qoH (c:=c) h hth hx hl hT.rg (by omega) (E++q)
 obtain⟨op,a,b',c',imm⟩:=x
 dsimp only[Ins.v] at*
 repeat'((try(conv=>whnf));first|(refine fD ?_)|(refine fG ?_)|(refine ldE (k:=1+b'.toNat) (RdE.up hTR) hth ?_ gb ?_;omega)|(refine fC ?_)|(refine arw (k:= .u64) ?_)|((with_reducible show IxS _ _ _ _ _);first|((refine ixE hTR hth ?_ ?_;(first|rfl|omega))))|((with_reducible show qf _ _ _ _ _ _);first|(((apply Stop.h))))|(refine fP ?_)|(refine fA ?_)|(refine fL ?_)|(refine qc (fun bk hbk=> ?_)))
 rename_i b4 h4
 have hls2:=hls [(bk,fun o=>o=Obj.cells #[.int .i64 op, .int .i64 a, .int .i64 b', .int .i64 c', .int .i64 imm] 69 (0,0)),(b4,fun o=>o=Obj.cells #[.int .i64 t, .int .i64 0, .slice aa al ac] 79 (0,0))]
 refine Stop.mk ?_
 repeat'((try(conv=>whnf));first|(refine fE ?_)|((with_reducible show qf _ _ _ _ _ _);first|((refine qm hls2 qni ?_ ?_ (fun g1 v hv=> ?_);(exact rfl);(exact rfl);(obtain⟨rfl,hk1,hg1⟩:=hv)))))
 exact⟨g1,⟨rfl,hk1,by rw[hg1]⟩,qnj⟩
theorem qoI{t:Nat}{th:Thr}{ph:PH}(hT:qk7 c ps s t th ph)(h:g.ok W0 Kp ps s){x:Ins}(hx:qv x=0)(hop:(0≤x.op∧x.op≤6)∨x.op=12∨x.op=13∨x.op=16∨x.op=17)(hpc:th.pc<ph.p.length∧ph.p.length≤64)(f:Int)(aa:Option Addr)(al ac:Nat)(q:Own):
  q0E Tryz.prog W0 75 [.pointer (some ⟨g.rb,0,none⟩),chV t f aa al ac,x.v] (g.O c ps.length s++q) fun v own'=>
   ((v= .bool false∧sgM c ph.p s th t f x=none)∧Ent W0 own' (g.O c ps.length s++q))∨
   ∃y:GS×DP×Thr,(v= .bool true∧y.1.T[t]? =some y.2.2∧sgM c ph.p s th t f x=some (exS y.1 t ph.p.length y.2.2)∧y.1.n=s.n∧y.2.1.ok W0 Kp ps y.1∧y.2.1.rb=g.rb)∧Ent W0 own' (y.2.1.O c ps.length y.1++q):=by
 have htl:=(List.getElem?_eq_some_iff.1 hT.hth).1
 have mk:∀(s1:GS) (th1:Thr),s1.T[t]? =some th1→s1.n=s.n→sgM c ph.p s th t f x=some (exS s1 t ph.p.length th1)→(q0E Tryz.prog W0 75 [.pointer (some ⟨g.rb,0,none⟩),chV t f aa al ac,x.v] (g.O c ps.length s++q) fun v own'=>∃g1:DP,(v= .bool true∧g1.ok W0 Kp ps s1∧g1.rb=g.rb)∧Ent W0 own' (g1.O c ps.length s1++q))→
   q0E Tryz.prog W0 75 [.pointer (some ⟨g.rb,0,none⟩),chV t f aa al ac,x.v] (g.O c ps.length s++q) fun v own'=>
   ((v= .bool false∧sgM c ph.p s th t f x=none)∧Ent W0 own' (g.O c ps.length s++q))∨
   ∃y:GS×DP×Thr,(v= .bool true∧y.1.T[t]? =some y.2.2∧sgM c ph.p s th t f x=some (exS y.1 t ph.p.length y.2.2)∧y.1.n=s.n∧y.2.1.ok W0 Kp ps y.1∧y.2.1.rb=g.rb)∧Ent W0 own' (y.2.1.O c ps.length y.1++q):=fun s1 th1 h1 hn h2 hs w hw=>
  (hs w hw).mono fun _ _ ⟨v,o,a,b,g1,⟨h3,h4,h5⟩,h6⟩=>⟨v,o,a,b, .inr ⟨(s1,g1,th1),⟨h3,h1,h2,hn,h4,h5⟩,h6⟩⟩
 have hz0:=(q9l (r:=th.rg) (b:=x.a) (imm:=x.imm)).1
 have hy0:=(q9l (r:=th.rg) (b:=x.b) (imm:=x.imm)).1
 obtain⟨z,hz⟩:=Int.eq_ofNat_of_zero_le hz0
 obtain⟨y,hy⟩:=Int.eq_ofNat_of_zero_le hy0
 have hgs:∀l:List Thr,∀a b:Thr,(l.set t a).set t b=l.set t b:=fun l a b=>List.set_set ..
 by_cases hf:f=0
 ·subst hf
  by_cases h12:x.op=12
  ·have hsg:sgM c ph.p s th t 0 x=if c.words≤(y:Int) then some (s.fin t (th.nxt ph.p.length (th.rg.set x.a.toNat 0)) [⟨th.pc,7,7⟩]) else some ((s.ev (plE c s.n t 1 y)).fin t (th.nxt ph.p.length (th.rg.set x.a.toNat (s.d.getD y 0))) [⟨th.pc,4,s.d.getD y 0⟩]):=by
    unfold sgM
    rw[if_pos (.inl h12),if_pos h12,hy]
    simp[h12]
   by_cases hw:c.words≤(y:Int)
   ·refine mk _ {th with rg:=th.rg.set x.a.toNat 0,pc:=th.pc+1} ?_ ?_ ?_ (qpa (ps:=ps) hT h hx h12 hpc hy hw aa al ac q)
    ·exact List.getElem?_set_self htl
    ·rfl
    ·rw[hsg,if_pos hw];simp only[exS,GS.fin,Thr.nxt,hgs]
   ·refine mk _ {th with rg:=th.rg.set x.a.toNat (s.d.getD y 0),pc:=th.pc+1} ?_ ?_ ?_ (qpE (ps:=ps) hT h hx h12 hpc hy (by omega) aa al ac q)
    ·exact List.getElem?_set_self htl
    ·rfl
    ·rw[hsg,if_neg hw];simp only[exS,GS.fin,GS.ev,Thr.nxt,hgs]
  ·by_cases h13:x.op=13
   ·have hsg:sgM c ph.p s th t 0 x=if c.words≤(z:Int) then some (s.fin t (th.nxt ph.p.length th.rg) [⟨th.pc,7,7⟩]) else some (((s.mem (s.d.set z (th.rg.get x.b.toNat)) s.tk).ev (plE c s.n t 2 z)).fin t (th.nxt ph.p.length th.rg) [⟨th.pc,5,th.rg.get x.b.toNat⟩]):=by
     unfold sgM
     rw[if_pos (.inr h13),if_neg h12,hz]
     simp[h13]
    by_cases hw:c.words≤(z:Int)
    ·refine mk _ {th with pc:=th.pc+1} ?_ ?_ ?_ (qpb (ps:=ps) hT h hx h13 hpc hz hw aa al ac q)
     ·exact List.getElem?_set_self htl
     ·rfl
     ·rw[hsg,if_pos hw];simp only[exS,GS.fin,Thr.nxt,hgs]
    ·refine mk _ {th with pc:=th.pc+1} ?_ ?_ ?_ (qpF (ps:=ps) hT h hx h13 hpc hz (by omega) aa al ac q)
     ·exact List.getElem?_set_self htl
     ·rfl
     ·rw[hsg,if_neg hw];simp only[exS,GS.fin,GS.ev,GS.mem,Thr.nxt,hgs]
   ·have hsg:sgM c ph.p s th t 0 x=some (s.fin t {q6a th x with dn:=decide ((q6a th x).pc=ph.p.length)} (if x.op=16 then [⟨th.pc,6,0⟩] else [])):=by
     unfold sgM
     rw[if_neg (by omega),if_neg (by simp)]
    by_cases h16:x.op=16
    ·have hlo:q6a th x={th with pc:=th.pc+1}:=by simp[q6a,q85,q60,h16]
     refine mk _ {th with pc:=th.pc+1} ?_ ?_ ?_ (qp9 (ps:=ps) hT h hx h16 hpc aa al ac q)
     ·exact List.getElem?_set_self htl
     ·rfl
     ·rw[hsg,if_pos h16,hlo];simp only[exS,GS.fin,hgs]
    ·have hl:isL x=true:=by simp only[isL,decide_eq_true_eq];omega
     refine mk _ (q6a th x) ?_ ?_ ?_ (qqe (ps:=ps) hT h hx hl hpc aa al ac q)
     ·exact List.getElem?_set_self htl
     ·rfl
     ·rw[hsg,if_neg h16];simp only[exS,GS.fin,hgs];rw[qfD (by rw[hT.tl];exact htl)]
 ·by_cases hp:f=6∧c.strong=true∧x.op=13∧adr th.rg x.a x.imm<c.words
  ·obtain⟨rfl,hs,h13,hw⟩:=hp
   rw[hz] at hw
   refine mk _ {th with pc:=th.pc+1} ?_ ?_ ?_ (qoG (ps:=ps) hT h hx h13 hpc hz hw hs aa al ac q)
   ·exact List.getElem?_set_self htl
   ·rfl
   ·unfold sgM
    have e12:¬x.op=12:=by omega
    rw[if_pos (.inr h13),if_neg e12,hz]
    simp only[exS,GS.fin,Thr.nxt,hgs,ne_eq,Int.reduceEq,not_false_eq_true,if_true,hs,h13,hw,true_and]
  ·have hsg:sgM c ph.p s th t f x=none:=by
    unfold sgM
    by_cases h1:x.op=12∨x.op=13
    ·rw[if_pos h1]
     by_cases h12:x.op=12
     ·rw[if_pos h12]
      dsimp only
      rw[if_pos hf,if_neg (by omega)]
     ·rw[if_neg h12]
      dsimp only
      rw[if_pos hf,if_neg hp]
    ·rw[if_neg h1,if_pos hf]
   rw[hsg]
   have hno:=qqW (ps:=ps) hT h hx hf hp aa al ac q
   intro w hw
   exact(hno w hw).mono fun e w' ⟨he,hs⟩=>⟨_,_,he,hs, .inl ⟨⟨rfl,rfl⟩,Ent.refl⟩⟩
end
open Go
structure BG where
 xb:Nat
 da:Option Addr
 dc:Nat
 dD:Own
 ka:Option Addr
 kc:Nat
 kD:Own
 ra:Option Addr
 rc:Nat
 rD:Own
 wa:Option Addr
 wc:Nat
 wD:Own
 oa:Option Addr
 oc:Nat
 oD:Own
 aa:Option Addr
 ac:Nat
abbrev BG.pre(g:BG)(b:BM):List Value:= [.slice g.da b.d.length g.dc, .slice g.ka b.tk.length g.kc]
abbrev BG.post(g:BG)(b:BM)(bad:Bool):List Value:= [.slice g.ra b.r.length g.rc, .slice g.wa b.w.length g.wc, .slice g.oa b.o.length g.oc, .slice g.aa b.ad.length g.ac, .bool bad]
abbrev BG.O(g:BG)(b:BM)(bad:Bool):Own:=thB g.xb 174 (g.pre b) (g.post b bad) b.t::(g.dD++(g.kD++(g.rD++(g.wD++g.oD))))
structure BG.ok(g:BG)(W0:World)(K:Own)(b:BM):Prop where
 d:qr q7j 58 1 g.da g.dc b.d g.dD
 m:qr qmI 4 1 g.ka g.kc b.tk g.kD
 a:RdE qM 1 W0 K g.aa b.ad
 al:b.ad.length≤g.ac
 r:qr qM 3 1 g.ra g.rc b.r g.rD
 w:qr qM 3 1 g.wa g.wc b.w g.wD
 o:qr ObM.enc 127 3 g.oa g.oc b.o g.oD
section
variable{W0:World}{K:Own}{g:BG}{c:Cfg}{b:BM}{bad:Bool}
theorem qnX(h:g.ok W0 K b){a:Nat}(ha:a<b.d.length)(hl:b.w.length≤1000000)(v:Int)(q:Own):
  q0E Tryz.prog W0 133 [.pointer (some ⟨g.xb,0,none⟩), .int .i64 a, .int .u64 v] (g.O b bad++q) fun _ own'=>∃g':BG,
   (g'.ok W0 K (wrM b a v)∧g'.xb=g.xb)∧Ent W0 own' (g'.O (wrM b a v) bad++q):=by
 refine qa qj qmT (by simp[qlV]) ?_
 have hD:=h.d
 have hDR:=hD.rd (W0:=W0)
 have hW:=h.w
 obtain⟨x,hx⟩:∃x,b.d[a]? =some x:=⟨_,List.getElem?_eq_getElem ha⟩
 have hc:=fun(own':Own) [qt own' g.wD]=>qnY (own:=own') (cap:=g.wc) ((hW.rd (W0:=W0)).up) (by omega) a
 by_cases hm:(a:Int)∈b.w
 ·repeat'((try(conv=>whnf));first|(apply qcV;(exact rfl);omega)|(apply q5Q (enc:=q7j) (T:=58) (j:=a) (k:=0) v hD hx;(exact rfl);(omega);(exact rfl);(exact rfl);intro D1 hb1)|((with_reducible show IxS _ _ _ _ _);first|((refine ixE hDR hx ?_ ?_;(first|rfl|omega))))|((with_reducible show qf _ _ _ _ _ _);first|((refine qh (hc _) ?_ ?_ ?_;(exact rfl);exact rfl)))|(refine fA ?_))
  refine⟨{g with dD:=D1},⟨⟨hb1,h.m,h.a,h.al,h.r,?_,h.o⟩,rfl⟩,?_⟩
  ·show qr _ _ _ _ _ (qbU b.w a) _
   rw[qbU,if_pos hm];exact hW
  ·dsimp only[BG.O,BG.pre,BG.post,wrM]
   rw[qbU,if_pos hm,List.length_set]
   exact(eC)
 ·repeat'((try(conv=>whnf));first|(apply qcU;(exact rfl);omega)|(apply q5Q (enc:=q7j) (T:=58) (j:=a) (k:=0) v hD hx;(exact rfl);(omega);(exact rfl);(exact rfl);intro D1 hb1)|(apply q69 (enc:=qM) (T:=3) (a:Int) hW;(exact rfl);(exact rfl);(omega);(exact rfl);(exact rfl);(omega);intro a2 c2 D2 hb2)|((with_reducible show IxS _ _ _ _ _);first|((refine ixE hDR hx ?_ ?_;(first|rfl|omega))))|((with_reducible show qf _ _ _ _ _ _);first|((refine qh (hc _) ?_ ?_ ?_;(exact rfl);exact rfl)))|(refine fA ?_)|(refine fN ?_)|(refine qc (fun bk hbk=> ?_)))
  refine⟨{g with dD:=D1,wa:=a2,wc:=c2,wD:=D2},⟨⟨hb1,h.m,h.a,h.al,h.r,?_,h.o⟩,rfl⟩,?_⟩
  ·show qr _ _ _ _ _ (qbU b.w a) _
   rw[qbU,if_neg hm];exact hb2
  ·dsimp only[BG.O,BG.pre,BG.post,wrM]
   rw[qbU,if_neg hm,List.length_set]
   simp only[List.length_append,List.length_cons,List.length_nil,Nat.zero_add]
   exact(eC)
end
open Go
section
variable{W0:World}{own:Own}{b:Nat}{T:TypeId}{pre post:List Value}{t:Thr}
theorem qqY{off:Nat}{v:Value}{K:Own→Prop}{C:(Obj→Prop)→Own} [m:UpC b (fun o=>o=Obj.cells (pre++(t.enc++post)).toArray T (0,0)) own C](post':List Value)(hs:(pre++(t.enc++post)).set off v=pre++(t.enc++post'))(h1:q4A v=true)(ho:off<(pre++(t.enc++post)).length)
  (h:K (C fun o=>o=Obj.cells (pre++(t.enc++post')).toArray T (0,0))):StT W0 own ⟨b,off,none⟩ v K:=by
 refine qjY (by simp at ho ⊢;omega) h1 ?_
 rw[List.toList_toArray,hs]
 exact h
end
section
variable{W0:World}{K Kp:Own}{g:BG}{dp:DP}{c:Cfg}{np:Nat}{s:GS}{b:BM}
theorem qpP{x:Ins}(hop:x.op=8∨x.op=9)(q:Own):qD Tryz.prog W0 106 [.pointer (some ⟨dp.rb,0,none⟩), .pointer (some ⟨g.xb,0,none⟩),x.v] (g.O b false++(dp.O c np s++q)) (.int .i64 (if x.op=8 then 1 else 2)):=by
 refine qe (qa qj qR (by simp[qb]) ?_)
 have hln:=fun own=>qlM (W0:=W0) (b:=g.xb) (o:=2) (x:=x) (by rcases hop with h|h <;>simp[isL,h]) own
 obtain⟨op,a,b',c',imm⟩:=x
 dsimp only[Ins.v] at*
 rcases hop with rfl|rfl
 all_goals
  repeat'((try(conv=>whnf));first|(refine fE ?_)|(refine fD ?_)|((with_reducible show qf _ _ _ _ _ _);first|((refine qg (hln _) ?_)))|(refine fA ?_)|(refine fL ?_)|(refine fQ ?_)|(refine fM ?_)|(refine qc (fun bk hbk=> ?_)))
  all_goals exact⟨rfl,(eC)⟩
theorem qq9{x:Ins}(hx:qv x=0)(hop:x.op=10)(hc:qL c=0){z:Nat}(hz:adr b.t.rg x.b x.imm=z)(hzo:c.words≤z)(q:Own):
  qD Tryz.prog W0 106 [.pointer (some ⟨dp.rb,0,none⟩), .pointer (some ⟨g.xb,0,none⟩),x.v] (g.O b false++(dp.O c np s++q)) (.int .i64 7):=by
 refine qe (qa qj qR (by simp[qb]) ?_)
 obtain⟨ha,hb⟩:=qoa hx
 have ha':x.a.toNat<8:=by omega
 have hb':x.b.toNat<8:=by omega
 have hwd:=(q1R hc).1
 unfold okW at hwd
 have hln:=fun own=>qlM (W0:=W0) (b:=g.xb) (o:=2) (x:=x) (by simp[isL,hop]) own
 obtain⟨op,a,b',c',imm⟩:=x
 dsimp only[Ins.v] at*
 subst hop
 have hzw:IntKind.u64.wrap (b.t.rg.get b'.toNat+IntKind.u64.wrap imm)=(z:Int):=hz
 repeat'((try(conv=>whnf));first|(refine fE ?_)|(refine fD ?_)|(refine fF ?_)|(refine q4D (t:=b.t) (pre:=g.pre b) (post:=g.post b false) hb' ?_ ?_;(simp;omega))|(refine qmX hzw ?_)|(refine fC ?_)|(refine arw (k:= .u64) ?_)|((with_reducible show qf _ _ _ _ _ _);first|((refine qg (hln _) ?_)))|(refine fP ?_)|(refine fA ?_)|(refine fL ?_)|(refine fQ ?_)|(refine fM ?_)|(refine qc (fun bk hbk=> ?_)))
 all_goals exact⟨rfl,(eC)⟩
theorem qqa{x:Ins}(hx:qv x=0)(hop:x.op=11)(hc:qL c=0){z:Nat}(hz:adr b.t.rg x.a x.imm=z)(hzo:c.words≤z)(q:Own):
  qD Tryz.prog W0 106 [.pointer (some ⟨dp.rb,0,none⟩), .pointer (some ⟨g.xb,0,none⟩),x.v] (g.O b false++(dp.O c np s++q)) (.int .i64 7):=by
 refine qe (qa qj qR (by simp[qb]) ?_)
 obtain⟨ha,hb⟩:=qoa hx
 have ha':x.a.toNat<8:=by omega
 have hb':x.b.toNat<8:=by omega
 have hwd:=(q1R hc).1
 unfold okW at hwd
 have hln:=fun own=>qlM (W0:=W0) (b:=g.xb) (o:=2) (x:=x) (by simp[isL,hop]) own
 obtain⟨op,a,b',c',imm⟩:=x
 dsimp only[Ins.v] at*
 subst hop
 have hzw:IntKind.u64.wrap (b.t.rg.get a.toNat+IntKind.u64.wrap imm)=(z:Int):=hz
 repeat'((try(conv=>whnf));first|(refine fE ?_)|(refine fD ?_)|(refine fF ?_)|(refine q4D (t:=b.t) (pre:=g.pre b) (post:=g.post b false) ha' ?_ ?_;(simp;omega))|(refine qmX hzw ?_)|(refine fC ?_)|(refine arw (k:= .u64) ?_)|((with_reducible show qf _ _ _ _ _ _);first|((refine qg (hln _) ?_)))|(refine fP ?_)|(refine fA ?_)|(refine fL ?_)|(refine fQ ?_)|(refine fM ?_)|(refine qc (fun bk hbk=> ?_)))
 all_goals exact⟨rfl,(eC)⟩
end
open Go
section
variable{W0:World}{K Kp:Own}{g:BG}{dp:DP}{c:Cfg}{np:Nat}{s:GS}{b:BM}
theorem qoO{e a b d:Nat×(Obj→Prop)}{A Z:Own}:Ent W0 (d::(a::(b::((e::A)++Z)))) ((e::A)++Z):=qo [d,a,b]
theorem qoP{e a b d f:Nat×(Obj→Prop)}{A Z:Own}:Ent W0 (d::(f::(a::(b::((e::A)++Z))))) ((e::A)++Z):=qo [d,f,a,b]
theorem qqx{e a b:Nat×(Obj→Prop)}{A Z:Own}:Ent W0 (a::(b::((e::A)++Z))) ((e::A)++Z):=qo [a,b]
theorem qqw{e a b:Nat×(Obj→Prop)}{A Z:Own}:Ent W0 (e::(A++(a::(b::Z)))) ((e::A)++Z):=qo [a,b]
theorem qqR{x:Ins}(h:g.ok W0 K b)(hx:qv x=0)(hop:x.op=11)(hc:qL c=0)(hpc:b.t.pc≤64)(hdl:(b.d.length:Int)=c.words)(hw:b.w.length≤900000){z:Nat}(hz:adr b.t.rg x.a x.imm=z)(hzi:(z:Int)<c.words)(q:Own):
  q0E Tryz.prog W0 106 [.pointer (some ⟨dp.rb,0,none⟩), .pointer (some ⟨g.xb,0,none⟩),x.v] (g.O b false++(dp.O c np s++q)) fun v own'=>∃g1:BG,(v= .int .i64 0∧g1.ok W0 K (wrM b z (b.t.rg.get x.b.toNat)).go∧g1.xb=g.xb)∧Ent W0 own' (g1.O (wrM b z (b.t.rg.get x.b.toNat)).go false++(dp.O c np s++q)):=by
 refine qa qj qR (by simp[qb]) ?_
 obtain⟨ha,hb⟩:=qoa hx
 have ha':x.a.toNat<8:=by omega
 have hb':x.b.toNat<8:=by omega
 have hwd:=(q1R hc).1
 unfold okW at hwd
 have hln:=fun own=>qlM (W0:=W0) (b:=g.xb) (o:=2) (x:=x) (by simp[isL,hop]) own
 obtain⟨op,a,b',c',imm⟩:=x
 dsimp only[Ins.v] at*
 subst hop
 have hzw:IntKind.u64.wrap (b.t.rg.get a.toNat+IntKind.u64.wrap imm)=(z:Int):=hz
 have hwr:=fun q=>qnX (bad:=false) h (a:=z) (by omega) (by omega) (b.t.rg.get b'.toNat) q
 repeat'((try(conv=>whnf));first|(refine fE ?_)|(refine fD ?_)|(refine fG ?_)|(refine q4D (t:=b.t) (pre:=g.pre b) (post:=g.post b false) ha' ?_ ?_;(simp;omega))|(refine q4D (t:=b.t) (pre:=g.pre b) (post:=g.post b false) hb' ?_ ?_;(simp;omega))|(refine qmX hzw ?_)|(refine fC ?_)|(refine arw (k:= .u64) ?_)|((with_reducible show qf _ _ _ _ _ _);first|((refine qg (hln _) ?_))|((refine qgV (hwr _) ?_ ?_ (fun g1 v hv=> ?_);(exact rfl);(exact rfl);(apply Stop.h))))|(refine fB ?_)|(refine fP ?_)|(refine fA ?_)|(refine fL ?_)|(refine fQ ?_)|(refine fM ?_)|(refine qc (fun bk hbk=> ?_)))
 obtain⟨hk1,hxb⟩:=hv
 rw[←hxb]
 refine Stop.mk ?_
 repeat'((try(conv=>whnf));first|(refine q8F (t:=b.t) (pre:=g1.pre (wrM b z (b.t.rg.get b'.toNat))) (post:=g1.post (wrM b z (b.t.rg.get b'.toNat)) false) (k:=0) (v:= .int .i64 b.t.pc) rfl ?_ ?_;(exact rfl))|(refine qmQ (t:=b.t) (pre:=g1.pre (wrM b z (b.t.rg.get b'.toNat))) (post:=g1.post (wrM b z (b.t.rg.get b'.toNat)) false) (n:=b.t.pc+1) ?_ ?_ ?_;(omega);(exact rfl))|(refine fB ?_))
 exact⟨g1,⟨rfl,⟨hk1.d,hk1.m,hk1.a,hk1.al,hk1.r,hk1.w,hk1.o⟩,rfl⟩,qqw⟩
theorem qqQ{x:Ins}(h:g.ok W0 K b)(hx:qv x=0)(hop:x.op=10)(hc:qL c=0)(hpc:b.t.pc≤64)(hdl:(b.d.length:Int)=c.words)(hw:b.w.length≤900000)(hr:b.r.length≤900000)(ho:b.o.length≤900000){z:Nat}(hz:adr b.t.rg x.b x.imm=z)(hzi:(z:Int)<c.words)(q:Own):
  q0E Tryz.prog W0 106 [.pointer (some ⟨dp.rb,0,none⟩), .pointer (some ⟨g.xb,0,none⟩),x.v] (g.O b false++(dp.O c np s++q)) fun v own'=>∃g1:BG,(v= .int .i64 0∧g1.ok W0 K ((rdM b z).put x.a 1 (b.d.getD z 0))∧g1.xb=g.xb)∧Ent W0 own' (g1.O ((rdM b z).put x.a 1 (b.d.getD z 0)) false++(dp.O c np s++q)):=by
 refine qa qj qR (by simp[qb]) ?_
 obtain⟨ha,hb⟩:=qoa hx
 have ha':x.a.toNat<8:=by omega
 have hb':x.b.toNat<8:=by omega
 have hwd:=(q1R hc).1
 unfold okW at hwd
 have hln:=fun own=>qlM (W0:=W0) (b:=g.xb) (o:=2) (x:=x) (by simp[isL,hop]) own
 obtain⟨op,a,b',c',imm⟩:=x
 dsimp only[Ins.v] at*
 subst hop
 have hzw:IntKind.u64.wrap (b.t.rg.get b'.toNat+IntKind.u64.wrap imm)=(z:Int):=hz
 obtain⟨dz,hdz⟩:∃dz,b.d[z]? =some dz:=⟨_,List.getElem?_eq_getElem (by omega)⟩
 have hdd:b.d.getD z 0=dz:=by rw[List.getD_eq_getElem?_getD,hdz];rfl
 rw[hdd]
 have hDR:=h.d.rd (W0:=W0)
 have hR0:=h.r
 have hO0:=h.o
 have hiw:=fun(own':Own) [qt own' g.wD]=>qnY (own:=own') (cap:=g.wc) ((h.w.rd (W0:=W0)).up) (by omega) z
 have hir:=fun(own':Own) [qt own' g.rD]=>qnY (own:=own') (cap:=g.rc) ((h.r.rd (W0:=W0)).up) (by omega) z
 by_cases hmw:(z:Int)∈b.w
 ·have hrm:rdM b z=b:=by unfold rdM;rw[if_pos (.inl hmw)]
  rw[hrm]
  repeat'((try(conv=>whnf));first|(refine fE ?_)|(refine fD ?_)|(refine fG ?_)|(refine q4D (t:=b.t) (pre:=g.pre b) (post:=g.post b false) hb' ?_ ?_;(simp;omega))|(refine qmX hzw ?_)|(refine fC ?_)|(refine arw (k:= .u64) ?_)|((with_reducible show qf _ _ _ _ _ _);first|((refine qg (hln _) ?_))|(((apply Stop.h))))|(refine fB ?_)|(refine fP ?_)|(refine fA ?_)|(refine fL ?_)|(refine fQ ?_)|(refine fM ?_)|(refine qc (fun bk hbk=> ?_)))
  refine Stop.mk ?_
  repeat'((try(conv=>whnf));first|(refine fI ?_)|(refine fD ?_)|(apply qet;(exact rfl);omega)|(refine qa1 (t:=b.t) (pre:=g.pre b) (post:=g.post b false) ha' ?_ ?_;(simp;omega))|(refine qlz (v:= .int .i64 b.t.pc) ?_ ?_;(exact rfl))|(apply q69 (enc:=ObM.enc) (T:=127) ⟨b.t.pc,1,dz⟩ hO0;(exact rfl);(exact rfl);(omega);(exact rfl);(exact rfl);(omega);intro a1 c1 D1 hb1)|((with_reducible show Ld _ _ _ _);first|(refine q1M hDR hdz rfl ?_))|((with_reducible show IxS _ _ _ _ _);first|((refine ixE hDR hdz ?_ ?_;(first|rfl|omega))))|((with_reducible show qf _ _ _ _ _ _);first|((refine qh (hiw _) ?_ ?_ ?_;(exact rfl);exact rfl)))|(refine fB ?_)|(refine fP ?_)|(refine fA ?_)|(refine fN ?_)|(refine qc (fun bk hbk=> ?_)))
  all_goals
   refine⟨{g with oa:=a1,oc:=c1,oD:=D1},⟨rfl,⟨h.d,h.m,h.a,h.al,h.r,h.w,hb1⟩,rfl⟩,?_⟩
   dsimp only[BG.O,BG.pre,BG.post,BM.put]
   simp only[List.length_append,List.length_cons,List.length_nil,Nat.zero_add]
   first|exact qoO|exact qoP
 ·by_cases hmr:(z:Int)∈b.r
  ·have hrm:rdM b z=b:=by unfold rdM;rw[if_pos (.inr hmr)]
   rw[hrm]
   repeat'((try(conv=>whnf));first|(refine fE ?_)|(refine fD ?_)|(refine fG ?_)|(refine q4D (t:=b.t) (pre:=g.pre b) (post:=g.post b false) hb' ?_ ?_;(simp;omega))|(refine qmX hzw ?_)|(refine fC ?_)|(refine arw (k:= .u64) ?_)|((with_reducible show qf _ _ _ _ _ _);first|((refine qg (hln _) ?_))|(((apply Stop.h))))|(refine fB ?_)|(refine fP ?_)|(refine fA ?_)|(refine fL ?_)|(refine fQ ?_)|(refine fM ?_)|(refine qc (fun bk hbk=> ?_)))
   refine Stop.mk ?_
   repeat'((try(conv=>whnf));first|(refine fH ?_)|(apply qcV;(exact rfl);omega)|(apply qa4;(exact rfl);omega)|(refine qa1 (t:=b.t) (pre:=g.pre b) (post:=g.post b false) ha' ?_ ?_;(simp;omega))|(refine qlz (v:= .int .i64 b.t.pc) ?_ ?_;(exact rfl))|(apply q69 (enc:=ObM.enc) (T:=127) ⟨b.t.pc,1,dz⟩ hO0;(exact rfl);(exact rfl);(omega);(exact rfl);(exact rfl);(omega);intro a1 c1 D1 hb1)|((with_reducible show Ld _ _ _ _);first|(refine q1M hDR hdz rfl ?_))|((with_reducible show IxS _ _ _ _ _);first|((refine ixE hDR hdz ?_ ?_;(first|rfl|omega))))|((with_reducible show qf _ _ _ _ _ _);first|((refine qh (hiw _) ?_ ?_ ?_;(exact rfl);exact rfl))|((refine qh (hir _) ?_ ?_ ?_;(exact rfl);exact rfl)))|(refine fB ?_)|(refine fP ?_)|(refine fA ?_)|(refine fN ?_)|(refine qc (fun bk hbk=> ?_)))
   all_goals
    refine⟨{g with oa:=a1,oc:=c1,oD:=D1},⟨rfl,⟨h.d,h.m,h.a,h.al,h.r,h.w,hb1⟩,rfl⟩,?_⟩
    dsimp only[BG.O,BG.pre,BG.post,BM.put]
    simp only[List.length_append,List.length_cons,List.length_nil,Nat.zero_add]
    first|exact qoO|exact qoP
  ·have hrm:rdM b z={b with r:=b.r++ [(z:Int)]}:=by unfold rdM;rw[if_neg (fun h=>h.elim hmw hmr)]
   rw[hrm]
   repeat'((try(conv=>whnf));first|(refine fE ?_)|(refine fD ?_)|(refine fG ?_)|(refine q4D (t:=b.t) (pre:=g.pre b) (post:=g.post b false) hb' ?_ ?_;(simp;omega))|(refine qmX hzw ?_)|(refine fC ?_)|(refine arw (k:= .u64) ?_)|((with_reducible show qf _ _ _ _ _ _);first|((refine qg (hln _) ?_))|(((apply Stop.h))))|(refine fB ?_)|(refine fP ?_)|(refine fA ?_)|(refine fL ?_)|(refine fQ ?_)|(refine fM ?_)|(refine qc (fun bk hbk=> ?_)))
   refine Stop.mk ?_
   repeat'((try(conv=>whnf));first|(refine fH ?_)|(apply qcU;(exact rfl);omega)|(apply qa4;(exact rfl);omega)|(apply q69 (enc:=qM) (T:=3) (z:Int) hR0;(exact rfl);(exact rfl);(omega);(exact rfl);(exact rfl);(omega);intro aR cR DR hbR)|(refine qqY (t:=b.t) (pre:=g.pre b) (post:=g.post b false) [.slice aR (b.r.length+1) cR, .slice g.wa b.w.length g.wc, .slice g.oa b.o.length g.oc, .slice g.aa b.ad.length g.ac, .bool false] ?_ ?_ ?_ ?_;(exact rfl);(exact rfl);(exact(by decide:13<18)))|(refine qa1 (t:=b.t) (pre:=g.pre b) (post:= [.slice aR (b.r.length+1) cR, .slice g.wa b.w.length g.wc, .slice g.oa b.o.length g.oc, .slice g.aa b.ad.length g.ac, .bool false]) ha' ?_ ?_;(simp;omega))|(refine qlz (v:= .int .i64 b.t.pc) ?_ ?_;(exact rfl))|(apply q69 (enc:=ObM.enc) (T:=127) ⟨b.t.pc,1,dz⟩ hO0;(exact rfl);(exact rfl);(omega);(exact rfl);(exact rfl);(omega);intro a1 c1 D1 hb1)|((with_reducible show Ld _ _ _ _);first|(refine q1M hDR hdz rfl ?_))|((with_reducible show IxS _ _ _ _ _);first|((refine ixE hDR hdz ?_ ?_;(first|rfl|omega))))|((with_reducible show qf _ _ _ _ _ _);first|((refine qh (hiw _) ?_ ?_ ?_;(exact rfl);exact rfl))|((refine qh (hir _) ?_ ?_ ?_;(exact rfl);exact rfl)))|(refine fB ?_)|(refine fP ?_)|(refine fA ?_)|(refine fN ?_)|(refine qc (fun bk hbk=> ?_)))
   all_goals
    refine⟨{g with ra:=aR,rc:=cR,rD:=DR,oa:=a1,oc:=c1,oD:=D1},⟨rfl,⟨h.d,h.m,h.a,h.al,hbR,h.w,hb1⟩,rfl⟩,?_⟩
    dsimp only[BG.O,BG.pre,BG.post,BM.put]
    simp only[List.length_append,List.length_cons,List.length_nil,Nat.zero_add]
    first|exact qoO|exact qoP
theorem qqT{x:Ins}(h:g.ok W0 K b)(hx:qv x=0)(hop:x.op=15)(hc:qL c=0)(hpc:b.t.pc≤64){k:Nat}(hk:q0a c (b.t.rg.get x.a.toNat)=k)(hkt:b.tk[k]? =some true)(q:Own):
  q0E Tryz.prog W0 106 [.pointer (some ⟨dp.rb,0,none⟩), .pointer (some ⟨g.xb,0,none⟩),x.v] (g.O b false++(dp.O c np s++q)) fun v own'=>∃g1:BG,(v= .int .i64 0∧g1.ok W0 K {b with tk:=b.tk.set k false}.go∧g1.xb=g.xb)∧Ent W0 own' (g1.O {b with tk:=b.tk.set k false}.go false++(dp.O c np s++q)):=by
 refine qa qj qR (by simp[qb]) ?_
 obtain⟨ha,hb⟩:=qoa hx
 have ha':x.a.toNat<8:=by omega
 have hb':x.b.toNat<8:=by omega
 have hwd:=(q1R hc).1
 unfold okW at hwd
 have hln:=fun own=>qlM (W0:=W0) (b:=g.xb) (o:=2) (x:=x) (by simp[isL,hop]) own
 obtain⟨op,a,b',c',imm⟩:=x
 dsimp only[Ins.v] at*
 subst hop
 have hfi:=fun own=>qnf W0 own c (b.t.rg.get a.toNat)
 rw[hk] at hfi
 have hM0:=h.m
 have hMR:=hM0.rd (W0:=W0)
 have hk0:¬((k:Nat):Int)<0:=by omega
 repeat'((try(conv=>whnf));first|(refine fE ?_)|(refine fD ?_)|(refine q4D (t:=b.t) (pre:=g.pre b) (post:=g.post b false) ha' ?_ ?_;(simp;omega))|((with_reducible show qf _ _ _ _ _ _);first|((refine qg (hln _) ?_)))|((with_reducible show q0b _ _ _ _ _ _);first|((refine qq (fun ex=>hfi _) ?_ ?_ ?_;(exact rfl);(exact rfl);(apply Stop.h))))|(refine fP ?_)|(refine fA ?_)|(refine fL ?_)|(refine fQ ?_)|(refine fM ?_)|(refine qc (fun bk hbk=> ?_)))
 refine Stop.mk ?_
 repeat'((try(conv=>whnf));first|(refine fH ?_)|(refine fD ?_)|(apply q5Q (enc:=qmI) (T:=4) (j:=k) (k:=0) false hM0 hkt;(omega);(omega);(exact rfl);(exact rfl);intro D1 hb1)|(refine q8F (t:=b.t) (pre:=g.pre (b)) (post:=g.post b false) (k:=0) (v:= .int .i64 b.t.pc) rfl ?_ ?_;(exact rfl))|(refine qmQ (t:=b.t) (pre:=g.pre (b)) (post:=g.post b false) (n:=b.t.pc+1) ?_ ?_ ?_;(omega);(exact rfl))|((with_reducible show Ld _ _ _ _);first|(refine q1M hMR hkt rfl ?_))|((with_reducible show IxS _ _ _ _ _);first|((refine ixE hMR hkt ?_ ?_;(first|rfl|omega))))|(refine fB ?_)|(refine fA ?_))
 refine⟨{g with kD:=D1},⟨rfl,⟨h.d,hb1,h.a,h.al,h.r,h.w,h.o⟩,rfl⟩,?_⟩
 dsimp only[BG.O,BG.pre,BG.post,BM.go]
 rw[List.length_set]
 exact qqx
end
open Go
section
variable{W0:World}{K:Own}{g:BG}{dp:DP}{c:Cfg}{np:Nat}{s:GS}{b:BM}
theorem qqy{e a b:Nat×(Obj→Prop)}{A Z:Own}:Ent W0 ([e]++(a::(b::(A++Z)))) ((e::A)++Z):=qo [a,b]
theorem qra{x:Ins}(h:g.ok W0 K b)(hx:qv x=0)(hl:isL x=true)(hrg:b.t.rg.ok)(hpc:b.t.pc≤64)(q:Own):
  q0E Tryz.prog W0 106 [.pointer (some ⟨dp.rb,0,none⟩), .pointer (some ⟨g.xb,0,none⟩),x.v] (g.O b false++(dp.O c np s++q)) fun v own'=>∃g1:BG,
   (v= .int .i64 0∧g1.ok W0 K {b with t:=q6a b.t x}∧g1.xb=g.xb)∧Ent W0 own' (g1.O {b with t:=q6a b.t x} false++(dp.O c np s++q)):=by
 refine qa qj qR (by simp[qb]) ?_
 have hly:=fun r=>qnu (W0:=W0) (b:=g.xb) (T:=174) (pre:=g.pre b) (post:=g.post b false) (t:=b.t) (o:=2) hx hl hrg hpc rfl r
 obtain⟨op,a,b',c',imm⟩:=x
 dsimp only[Ins.v] at*
 repeat'((try(conv=>whnf));first|(refine fE ?_)|((with_reducible show qf _ _ _ _ _ _);first|((refine qgV (hly _) ?_ ?_ (fun _ v hv=> ?_);(exact rfl);(exact rfl);(subst hv))))|(refine fL ?_)|(refine fQ ?_)|(refine fM ?_)|(refine qc (fun bk hbk=> ?_)))
 exact⟨g,⟨rfl,⟨h.d,h.m,h.a,h.al,h.r,h.w,h.o⟩,rfl⟩,qqy⟩
theorem qqc{x:Ins}(h:g.ok W0 K b)(hx:qv x=0)(hop:x.op=15)(htk:b.tk.length=(qy c).toNat)(hk:q0a c (b.t.rg.get x.a.toNat)<0∨b.tk.getD (q0a c (b.t.rg.get x.a.toNat)).toNat false=false)(q:Own):
  qD Tryz.prog W0 106 [.pointer (some ⟨dp.rb,0,none⟩), .pointer (some ⟨g.xb,0,none⟩),x.v] (g.O b false++(dp.O c np s++q)) (.int .i64 8):=by
 refine qe (qa qj qR (by simp[qb]) ?_)
 obtain⟨ha, -⟩:=qoa hx
 have ha':x.a.toNat<8:=by omega
 have hln:=fun own=>qlM (W0:=W0) (b:=g.xb) (o:=2) (x:=x) (by simp[isL,hop]) own
 obtain⟨op,a,b',c',imm⟩:=x
 dsimp only[Ins.v] at*
 subst hop
 have hfi:=fun own=>qnf W0 own c (b.t.rg.get a.toNat)
 have hMR:=h.m.rd (W0:=W0)
 have hfb:=q8G c (b.t.rg.get a.toNat)
 generalize q0a c (b.t.rg.get a.toNat)=k at*
 repeat'((try(conv=>whnf));first|(refine fE ?_)|(refine fD ?_)|(refine q4D (t:=b.t) (pre:=g.pre b) (post:=g.post b false) ha' ?_ ?_;(simp;omega))|((with_reducible show qf _ _ _ _ _ _);first|((refine qg (hln _) ?_)))|((with_reducible show q0b _ _ _ _ _ _);first|((refine qq (fun ex=>hfi _) ?_ ?_ ?_;(exact rfl);(exact rfl);(apply Stop.h))))|(refine fP ?_)|(refine fA ?_)|(refine fL ?_)|(refine fQ ?_)|(refine fM ?_)|(refine qc (fun bk hbk=> ?_)))
 refine Stop.mk ?_
 by_cases hk0:k<0
 ·repeat'((try(conv=>whnf));first|(refine fI ?_)|(refine fE ?_)|(refine fJ ?_))
  all_goals exact⟨rfl,(eC)⟩
 ·obtain⟨kn,rfl⟩:=Int.eq_ofNat_of_zero_le (show 0≤k by omega)
  rcases hk with hk|hk
  ·exact absurd hk hk0
  ·rw[Int.toNat_natCast] at hk
   obtain⟨y,hy⟩:∃y,b.tk[kn]? =some y:=⟨_,List.getElem?_eq_getElem (by omega)⟩
   have hyf:y=false:=by
    rw[List.getD_eq_getElem?_getD,hy] at hk
    exact hk
   subst hyf
   repeat'((try(conv=>whnf));first|(refine fH ?_)|(refine fE ?_)|((with_reducible show Ld _ _ _ _);first|(refine q1M hMR hy rfl ?_))|((with_reducible show IxS _ _ _ _ _);first|((refine ixE hMR hy ?_ ?_;(first|rfl|omega))))|(refine fA ?_))
   all_goals exact⟨rfl,(eC)⟩
end
open Go
section
variable{W0:World}{K:Own}{g:BG}{dp:DP}{c:Cfg}{np:Nat}{s:GS}{b:BM}
theorem qnT{e a b:Nat×(Obj→Prop)}{A Z:Own}:Ent W0 (a::(b::((e::A)++Z))) ((e::A)++Z):=qo [a,b]
theorem qqb{x:Ins}(h:g.ok W0 K b)(hop:x.op=14)(htk:b.tk.length=(qy c).toNat)(had:∀a∈b.ad,a≤9223372036854775807)(hn:alB c b.tk b.ad x.imm=none)(q:Own) [ek:qt q K]:
  q0E Tryz.prog W0 106 [.pointer (some ⟨dp.rb,0,none⟩), .pointer (some ⟨g.xb,0,none⟩),x.v] (g.O b false++(dp.O c np s++q)) fun v own'=>v= .int .i64 0∧Ent W0 own' (g.O b true++(dp.O c np s++q)):=by
 refine qa qj qR (by simp[qb]) ?_
 have hln:=fun own=>qlM (W0:=W0) (b:=g.xb) (o:=2) (x:=x) (by simp[isL,hop]) own
 obtain⟨op,a,b',c',imm⟩:=x
 dsimp only[Ins.v] at*
 subst hop
 have hMR:=h.m.rd (W0:=W0)
 have hAR:=h.a
 unfold alB at hn
 cases hadl:b.ad with
 |nil=>
  have hl0:¬(0:Int)<(b.ad.length:Nat):=by rw[hadl];simp
  repeat'((try(conv=>whnf));first|(refine fI ?_)|(refine fE ?_)|(refine fD ?_)|(refine fK ?_)|((with_reducible show qf _ _ _ _ _ _);first|((refine qg (hln _) ?_)))|(refine fA ?_)|(refine fL ?_)|(refine fQ ?_)|(refine fN ?_)|(refine fM ?_)|(refine qc (fun bk hbk=> ?_)))
  all_goals exact⟨rfl,qnT⟩
 |cons a0 r=>
  have hx:b.ad[0]? =some a0:=by rw[hadl];rfl
  have hl0:(0:Int)<(b.ad.length:Nat):=by rw[hadl];simp
  have ha1:=had a0 (by rw[hadl];exact List.mem_cons_self)
  rw[hadl] at hn
  dsimp only at hn
  by_cases ha0:a0<0
  ·have ha0':¬0≤a0:=by omega
   repeat'((try(conv=>whnf));first|(refine fH ?_)|(refine fI ?_)|(refine fE ?_)|(refine fD ?_)|(refine fG ?_)|(refine fJ ?_)|((with_reducible show Ld _ _ _ _);first|(refine q1M hAR hx rfl ?_))|((with_reducible show IxS _ _ _ _ _);first|((refine ixE hAR hx ?_ ?_;(first|rfl|omega))))|((with_reducible show qf _ _ _ _ _ _);first|((refine qg (hln _) ?_)))|(refine fA ?_)|(refine fL ?_)|(refine fQ ?_)|(refine fN ?_)|(refine fM ?_)|(refine qc (fun bk hbk=> ?_)))
   all_goals exact⟨rfl,qnT⟩
  ·have hfi:=fun own=>qnf W0 own c a0
   have hcl:=fun own=>qn3 W0 own c (q0a c a0)
   have hfb:=q8G c a0
   by_cases hk0:q0a c a0<0
   ·generalize q0a c a0=k at*
    repeat'((try(conv=>whnf));first|(refine fH ?_)|(refine fI ?_)|(refine fE ?_)|(refine fD ?_)|(refine fF ?_)|(refine fJ ?_)|(refine fC ?_)|((with_reducible show Ld _ _ _ _);first|(refine q1M hAR hx rfl ?_))|((with_reducible show IxS _ _ _ _ _);first|((refine ixE hAR hx ?_ ?_;(first|rfl|omega))))|((with_reducible show qf _ _ _ _ _ _);first|((refine qg (hln _) ?_)))|((with_reducible show q0b _ _ _ _ _ _);first|((refine qq (fun ex=>hfi _) ?_ ?_ ?_;(exact rfl);(exact rfl))))|(refine fA ?_)|(refine fL ?_)|(refine fQ ?_)|(refine fN ?_)|(refine fM ?_)|(refine qc (fun bk hbk=> ?_)))
    all_goals exact⟨rfl,qnT⟩
   ·obtain⟨kn,hkn⟩:=Int.eq_ofNat_of_zero_le (show 0≤q0a c a0 by omega)
    rw[hkn] at hfi hcl hfb hk0 hn
    obtain⟨y,hy⟩:∃y,b.tk[kn]? =some y:=⟨_,List.getElem?_eq_getElem (by omega)⟩
    by_cases hc1:q3K c (kn:Int)≠imm
    ·generalize q3K c (kn:Int)=cm at*
     repeat'((try(conv=>whnf));first|(refine fH ?_)|(refine fI ?_)|(refine fE ?_)|(refine fD ?_)|(refine fF ?_)|(refine fJ ?_)|(refine fC ?_)|((with_reducible show Ld _ _ _ _);first|(refine q1M hAR hx rfl ?_))|((with_reducible show IxS _ _ _ _ _);first|((refine ixE hAR hx ?_ ?_;(first|rfl|omega))))|((with_reducible show qf _ _ _ _ _ _);first|((refine qg (hln _) ?_)))|((with_reducible show q0b _ _ _ _ _ _);first|((refine qq (fun ex=>hfi _) ?_ ?_ ?_;(exact rfl);(exact rfl)))|((refine qq (fun ex=>hcl _) ?_ ?_ ?_;(exact rfl);(exact rfl))))|(refine fA ?_)|(refine fL ?_)|(refine fQ ?_)|(refine fN ?_)|(refine fM ?_)|(refine qc (fun bk hbk=> ?_)))
     all_goals exact⟨rfl,qnT⟩
    ·have hyt:y=true:=by
      by_cases hy1:y=true
      ·exact hy1
      ·have hyf:y=false:=by simpa using hy1
       rw[if_neg] at hn
       ·cases hn
       ·rw[Int.toNat_natCast,List.getD_eq_getElem?_getD,hy,hyf]
        simp
        omega
     subst hyt
     generalize q3K c (kn:Int)=cm at*
     repeat'((try(conv=>whnf));first|(refine fH ?_)|(refine fE ?_)|(refine fD ?_)|(refine fF ?_)|(refine fJ ?_)|(refine fK ?_)|(refine fC ?_)|((with_reducible show Ld _ _ _ _);first|(refine q1M hAR hx rfl ?_)|(refine q1M hMR hy rfl ?_))|((with_reducible show IxS _ _ _ _ _);first|((refine ixE hAR hx ?_ ?_;(first|rfl|omega)))|((refine ixE hMR hy ?_ ?_;(first|rfl|omega))))|((with_reducible show qf _ _ _ _ _ _);first|((refine qg (hln _) ?_)))|((with_reducible show q0b _ _ _ _ _ _);first|((refine qq (fun ex=>hfi _) ?_ ?_ ?_;(exact rfl);(exact rfl)))|((refine qq (fun ex=>hcl _) ?_ ?_ ?_;(exact rfl);(exact rfl))))|(refine fA ?_)|(refine fL ?_)|(refine fQ ?_)|(refine fN ?_)|(refine fM ?_)|(refine qc (fun bk hbk=> ?_)))
     all_goals exact⟨rfl,qnT⟩
end
open Go
section
variable{W0:World}{K:Own}{g:BG}{dp:DP}{c:Cfg}{np:Nat}{s:GS}{b:BM}
theorem qqz{e a b:Nat×(Obj→Prop)}{A Z:Own}:Ent W0 (a::(b::((e::A)++Z))) ([b]++((e::A)++Z)):=qo [a]
theorem qqA{e a b:Nat×(Obj→Prop)}{A Z:Own}:Ent W0 (a::([b]++((e::A)++Z))) ((e::A)++Z):=qo [a,b]
theorem qqS{x:Ins}(h:g.ok W0 K b)(hx:qv x=0)(hop:x.op=14)(hc:qL c=0)(hdl:(b.d.length:Int)=c.words)(hpc:b.t.pc≤64)(hw:b.w.length≤900000)(ho:b.o.length≤900000)(htk:b.tk.length=(qy c).toNat)(had:∀a∈b.ad,a≤9223372036854775807){z k:Nat}(hn:alB c b.tk b.ad x.imm=some (z,k))(q:Own) [ek:qt q K]:
  q0E Tryz.prog W0 106 [.pointer (some ⟨dp.rb,0,none⟩), .pointer (some ⟨g.xb,0,none⟩),x.v] (g.O b false++(dp.O c np s++q)) fun v own'=>∃g1:BG,
   (v= .int .i64 0∧g1.ok W0 K ((wrL {b with ad:=b.ad.tail,tk:=b.tk.set k true} z (2 ^ x.imm.toNat)).put x.a 2 z)∧g1.xb=g.xb)∧Ent W0 own' (g1.O ((wrL {b with ad:=b.ad.tail,tk:=b.tk.set k true} z (2 ^ x.imm.toNat)).put x.a 2 z) false++(dp.O c np s++q)):=by
 refine qa qj qR (by simp[qb]) ?_
 obtain⟨ha, -⟩:=qoa hx
 have ha':x.a.toNat<8:=by omega
 have hwd:=(q1R hc).1
 unfold okW at hwd
 have hi:=(q2l hx).2.2.2.2.2 hop
 have hln:=fun own=>qlM (W0:=W0) (b:=g.xb) (o:=2) (x:=x) (by simp[isL,hop]) own
 obtain⟨op,a,b',c',imm⟩:=x
 dsimp only[Ins.v] at*
 subst hop
 obtain⟨ad',hadl,hkb,hfi0,hcl0,htk0,hroom⟩:=qiN hn
 have hM0:=h.m
 have hMR:=hM0.rd (W0:=W0)
 have hAR:=h.a
 have hx0:b.ad[0]? =some (z:Int):=by rw[hadl];rfl
 have hal:=h.al
 have hlen:b.ad.length=ad'.length+1:=by rw[hadl];rfl
 have hl0:(0:Int)<(b.ad.length:Nat):=by omega
 have hz1:=had z (by rw[hadl];exact List.mem_cons_self)
 have hlf:q0a c (z:Int)=k:=by
  unfold alB at hn
  rw[hadl] at hn
  dsimp only at hn
  split at hn
  ·cases hn
  ·have:=Option.some.inj hn
   simp only[Prod.mk.injEq] at this
   omega
 have hfi:=fun own=>qnf W0 own c z
 have hcl:=fun own=>qn3 W0 own c k
 have hft:=fun own=>sp_rfirst W0 own c k
 rw[hlf] at hfi
 rw[hcl0] at hcl
 rw[hfi0] at hft
 obtain⟨y,hy⟩:∃y,b.tk[k]? =some y:=⟨_,List.getElem?_eq_getElem (by omega)⟩
 have hyf:y=false:=by
  rw[List.getD_eq_getElem?_getD,hy] at htk0
  exact htk0
 subst hyf
 have hk0:¬((k:Nat):Int)<0:=by omega
 have hii:¬imm≠imm:=fun h=>h rfl
 have hM8:(2:Nat) ^ imm.toNat≤8:=by
  have:imm.toNat=0∨imm.toNat=1∨imm.toNat=2∨imm.toNat=3:=by omega
  rcases this with h|h|h|h <;>rw[h] <;>decide
 repeat'((try(conv=>whnf));first|((with_reducible show qf _ _ _ _ _ _);first|((refine qg (hln _) ?_;(apply Stop.h))))|(refine fL ?_)|(refine fQ ?_)|(refine fM ?_)|(refine qc (fun bk hbk=> ?_)))
 rename_i b5 h5
 refine Stop.mk ?_
 repeat'((try(conv=>whnf));first|(refine fH ?_)|(refine fE ?_)|(refine fD ?_)|(refine fJ ?_)|(refine fK ?_)|(refine fC ?_)|(refine qfF hlen ?_)|(apply q5Q (enc:=qmI) (T:=4) (j:=k) (k:=0) true hM0 hy;(omega);(omega);(exact rfl);(exact rfl);intro D1 hb1)|((with_reducible show Ld _ _ _ _);first|(refine q1M hAR hx0 rfl ?_)|(refine q1M hMR hy rfl ?_))|((with_reducible show IxS _ _ _ _ _);first|((refine ixE hAR hx0 ?_ ?_;(first|rfl|omega)))|((refine ixE hMR hy ?_ ?_;(first|rfl|omega))))|((with_reducible show qf _ _ _ _ _ _);first|((refine qh (hft _) ?_ ?_ ?_;(exact rfl);exact rfl)))|((with_reducible show q0b _ _ _ _ _ _);first|((refine qq (fun ex=>hfi _) ?_ ?_ ?_;(exact rfl);(exact rfl)))|((refine qq (fun ex=>hcl _) ?_ ?_ ?_;(exact rfl);(exact rfl))))|(refine fA ?_)|(refine fL ?_)|(refine fN ?_))
 have hM:(1:Int)*2 ^ imm.toNat=((2 ^ imm.toNat:Nat):Int):=by simp
 generalize hMM:2 ^ imm.toNat=M at hM8 hM hroom ⊢
 have hok1:({g with kD:=D1,aa:=slA g.aa g.ac 1 1,ac:=g.ac-1}:BG).ok W0 K {b with ad:=b.ad.tail,tk:=b.tk.set k true}:=by
  refine⟨h.d,hb1,?_,?_,h.r,h.w,h.o⟩
  ·have:=hAR.sl (c:=1) (r:=b.ad.length) (m:=g.ac) (Nat.le_refl _) h.al
   have e:(b.ad.drop 1).take (b.ad.length-1)=b.ad.tail:=by rw[hadl];simp
   rw[e] at this
   exact this
  ·show b.ad.tail.length≤g.ac-1
   rw[hadl] at hal ⊢
   simp at hal ⊢
   omega
 obtain⟨b1,hb1e⟩:∃b1:BM,b1={b with ad:=b.ad.tail,tk:=b.tk.set k true}:=⟨_,rfl⟩
 rw[←hb1e] at hok1 ⊢
 have hwl:=qfZ b1 z
 have hb1w:b1.w=b.w∧b1.d=b.d∧b1.o=b.o∧b1.t=b.t:=by rw[hb1e];exact⟨rfl,rfl,rfl,rfl⟩
 refine q0Z (σ:=Nat×BG) (fun y=> [(13, .int .i64 y.1)]) (fun y=> [(b5,fun o=>o=Obj.cells #[.int .i64 14, .int .i64 a, .int .i64 b', .int .i64 c', .int .i64 imm] 69 (0,0))]++(y.2.O (wrL b1 z y.1) false++(dp.O c np s++q))) (fun y=>y.1≤M∧y.2.ok W0 K (wrL b1 z y.1)∧y.2.xb=g.xb) (fun y=>M-y.1) (0,{g with kD:=D1,aa:=slA g.aa g.ac 1 1,ac:=g.ac-1}) ⟨Nat.zero_le _,hok1,rfl⟩ (eF) ?_ rfl ?_
 ·subst hb1e
  have e1:(b.tk.set k true).length=b.tk.length:=List.length_set ..
  have e2:b.ad.tail.length=ad'.length:=by rw[hadl];rfl
  dsimp only[wrL,BG.O,BG.pre,BG.post]
  rw[e1,e2]
  exact qqz
 ·rintro⟨n,g'⟩ junk ⟨hn',hok,hxb⟩
  dsimp only at hn' hok hxb ⊢
  obtain⟨w1,w2,w3,w4,w5,w6,w7⟩:=hwl n
  rw[hb1w.1] at w1
  by_cases hlt:n<M
  ·have hlt':(n:Int)<M:=by omega
   have hwr:=qnX (bad:=false) (a:=z+n) hok (by rw[w2,hb1w.2.1];omega) (by omega) 0
   rw[Int.natCast_add,hxb] at hwr
   have hwk:=qG (E:= [(b5,fun o=>o=Obj.cells #[.int .i64 14, .int .i64 a, .int .i64 b', .int .i64 c', .int .i64 imm] 69 (0,0))]) (q:=dp.O c np s++q) hwr
   repeat'((try(conv=>whnf));first|(refine fF ?_)|(refine qkV ?_ hM ?_ ?_;omega;omega)|((with_reducible show qf _ _ _ _ _ _);first|((refine qm hwk ?_ ?_ ?_ (fun y v hv=> ?_);(exact Ent.refl);(exact rfl);(exact rfl))))|(refine fB ?_)|(refine fA ?_))
   exact⟨(n+1,y),⟨by dsimp only;omega,hv.1,hv.2⟩,by dsimp only;omega,(eF),Ent.refl⟩
  ·have hnM:n=M:=by omega
   subst hnM
   have hlt':¬(n:Int)<n:=by omega
   have hO9:=hok.o
   have hol:(wrL b1 z n).o.length≤900000:=by rw[w3,hb1w.2.2.1];exact ho
   have hte:(wrL b1 z n).t=b.t:=by rw[w5,hb1w.2.2.2]
   rw[←hxb]
   have hpc9:(wrL b1 z n).t.pc≤64:=by rw[hte];exact hpc
   generalize wrL b1 z n=B at*
   repeat'((try(conv=>whnf));first|(refine fG ?_)|(refine qkV ?_ hM ?_ ?_;omega;omega)|(refine fC ?_)|(refine qa1 (t:=B.t) (pre:=g'.pre B) (post:=g'.post B false) ha' ?_ ?_;(simp;omega))|(refine qlz (v:= .int .i64 B.t.pc) ?_ ?_;(exact rfl))|(apply q69 (enc:=ObM.enc) (T:=127) ⟨B.t.pc,2,z⟩ hO9;(exact rfl);(exact rfl);(omega);(exact rfl);(exact rfl);(omega);intro a9 c9 D9 hb9)|(refine fB ?_)|(refine fP ?_)|(refine fA ?_)|(refine fN ?_)|(refine qc (fun bk hbk=> ?_)))
   refine⟨{g' with oa:=a9,oc:=c9,oD:=D9},⟨rfl,⟨hok.d,hok.m,hok.a,hok.al,hok.r,hok.w,hb9⟩,rfl⟩,?_⟩
   dsimp only[BG.O,BG.pre,BG.post,BM.put]
   simp only[List.length_append,List.length_cons,List.length_nil,Nat.zero_add]
   exact qqA
end
open Go
section
variable{W0:World}{K:Own}{g:BG}{dp:DP}{c:Cfg}{np:Nat}{s:GS}{b:BM}
abbrev InP(W0:World)(K:Own)(g:BG)(dp:DP)(c:Cfg)(np:Nat)(s:GS)(b:BM)(z:BM×Int)(q:Own)(v:Value)(own':Own):Prop:=
 ((v= .int .i64 0∧z.2= -1)∧Ent W0 own' (g.O b true++(dp.O c np s++q)))∨
 ∃y:BG×BM,(v= .int .i64 z.2∧z.2≠ -1∧y.1.ok W0 K y.2∧y.1.xb=g.xb∧(z.2=0→y.2=z.1)∧(z.2≠0→y.2=b))∧Ent W0 own' (y.1.O y.2 false++(dp.O c np s++q))
theorem qqK{x:Ins}{q:Own}{z:BM×Int}(h:g.ok W0 K b)(h0:z.2≠0)(h1:z.2≠ -1)(hp:qD Tryz.prog W0 106 [.pointer (some ⟨dp.rb,0,none⟩), .pointer (some ⟨g.xb,0,none⟩),x.v] (g.O b false++(dp.O c np s++q)) (.int .i64 z.2)):
  q0E Tryz.prog W0 106 [.pointer (some ⟨dp.rb,0,none⟩), .pointer (some ⟨g.xb,0,none⟩),x.v] (g.O b false++(dp.O c np s++q)) (InP W0 K g dp c np s b z q):=fun w hw=>
 (hp w hw).mono fun _ _ ⟨he,hs⟩=>⟨_,_,he,hs, .inr ⟨(g,b),⟨rfl,h1,h,rfl,fun e=>absurd e h0,fun _=>rfl⟩,Ent.refl⟩⟩
theorem qqL{x:Ins}{q:Own}{z:BM×Int}{b':BM}(hz:z=(b',0))(hs:q0E Tryz.prog W0 106 [.pointer (some ⟨dp.rb,0,none⟩), .pointer (some ⟨g.xb,0,none⟩),x.v] (g.O b false++(dp.O c np s++q)) fun v own'=>∃g1:BG,(v= .int .i64 0∧g1.ok W0 K b'∧g1.xb=g.xb)∧Ent W0 own' (g1.O b' false++(dp.O c np s++q))):
  q0E Tryz.prog W0 106 [.pointer (some ⟨dp.rb,0,none⟩), .pointer (some ⟨g.xb,0,none⟩),x.v] (g.O b false++(dp.O c np s++q)) (InP W0 K g dp c np s b z q):=fun w hw=>by
 subst hz
 exact(hs w hw).mono fun _ _ ⟨v,o,a,d,g1,⟨h1,h2,h3⟩,hE⟩=>⟨v,o,a,d, .inr ⟨(g1,b'),⟨h1,(by simp),h2,h3,fun _=>rfl,fun e=>absurd rfl e⟩,hE⟩⟩
theorem qp6{x:Ins}(h:g.ok W0 K b)(hx:qv x=0)(hop:isL x=true∨x.op=8∨x.op=9∨x.op=10∨x.op=11∨x.op=14∨x.op=15)(hc:qL c=0)(hB:BI c b)(hpc:b.t.pc≤64)(q:Own) [ek:qt q K]:
  q0E Tryz.prog W0 106 [.pointer (some ⟨dp.rb,0,none⟩), .pointer (some ⟨g.xb,0,none⟩),x.v] (g.O b false++(dp.O c np s++q)) (InP W0 K g dp c np s b (q18 c b x) q):=by
 have hrl:=hB.rl
 have hwl:=hB.wl
 have hol:=hB.ol
 have hz0:=(q9l (r:=b.t.rg) (b:=x.a) (imm:=x.imm)).1
 have hy0:=(q9l (r:=b.t.rg) (b:=x.b) (imm:=x.imm)).1
 obtain⟨z,hz⟩:=Int.eq_ofNat_of_zero_le hz0
 obtain⟨y,hy⟩:=Int.eq_ofNat_of_zero_le hy0
 rcases hop with hl|h8|h9|h10|h11|h14|h15
 ·have hn:¬x.op=10∧¬x.op=11∧¬x.op=14∧¬x.op=15∧¬x.op=8∧¬x.op=9:=by simp only[isL,decide_eq_true_eq] at hl;omega
  refine qqL ?_ (qra h hx hl hB.rg hpc q)
  unfold q18
  rw[if_neg hn.1,if_neg hn.2.1,if_neg hn.2.2.1,if_neg hn.2.2.2.1,if_neg hn.2.2.2.2.1,if_neg hn.2.2.2.2.2]
 ·have e:q18 c b x=(b.go,1):=by unfold q18;simp[h8]
  rw[e]
  exact qqK h (by simp) (by simp) (by have:=qpP (W0:=W0) (g:=g) (dp:=dp) (c:=c) (np:=np) (s:=s) (b:=b) (.inl h8) q;rwa[if_pos h8] at this)
 ·have e:q18 c b x=(b.go,2):=by unfold q18;simp[h9]
  rw[e]
  exact qqK h (by simp) (by simp) (by have:=qpP (W0:=W0) (g:=g) (dp:=dp) (c:=c) (np:=np) (s:=s) (b:=b) (.inr h9) q;rwa[if_neg (by omega)] at this)
 ·have e:q18 c b x=if c.words≤(y:Int) then(b.go,7) else((rdM b y).put x.a 1 (b.d.getD y 0),0):=by unfold q18;rw[if_pos h10,hy];simp
  by_cases hw:c.words≤(y:Int)
  ·rw[e,if_pos hw]
   exact qqK h (by simp) (by simp) (qq9 hx h10 hc hy hw q)
  ·exact qqL (by rw[e,if_neg hw]) (qqQ h hx h10 hc hpc hB.dl (by omega) (by omega) (by omega) hy (by omega) q)
 ·have e:q18 c b x=if c.words≤(z:Int) then(b.go,7) else((wrM b z (b.t.rg.get x.b.toNat)).go,0):=by unfold q18;rw[if_neg (by omega),if_pos h11,hz];simp
  by_cases hw:c.words≤(z:Int)
  ·rw[e,if_pos hw]
   exact qqK h (by simp) (by simp) (qqa hx h11 hc hz hw q)
  ·exact qqL (by rw[e,if_neg hw]) (qqR h hx h11 hc hpc hB.dl (by omega) hz (by omega) q)
 ·cases ha:alB c b.tk b.ad x.imm with
  |none=>
   have e:q18 c b x=(b, -1):=by unfold q18;rw[if_neg (by omega),if_neg (by omega),if_pos h14,ha]
   rw[e]
   exact fun w hw=>(qqb h h14 hB.tl hB.ad ha q w hw).mono fun _ _ ⟨v,o,a,d,h1,hE⟩=>⟨v,o,a,d, .inl ⟨⟨h1,rfl⟩,hE⟩⟩
  |some r=>
   obtain⟨r1,r2⟩:=r
   exact qqL (by unfold q18;rw[if_neg (by omega),if_neg (by omega),if_pos h14,ha]) (qqS h hx h14 hc hB.dl hpc (by omega) (by omega) hB.tl hB.ad ha q)
 ·have e:q18 c b x=if q0a c (b.t.rg.get x.a.toNat)<0∨b.tk.getD (q0a c (b.t.rg.get x.a.toNat)).toNat false=false then(b.go,8) else({b with tk:=b.tk.set (q0a c (b.t.rg.get x.a.toNat)).toNat false}.go,0):=by
   unfold q18;rw[if_neg (by omega),if_neg (by omega),if_neg (by omega),if_pos h15]
  by_cases hk:q0a c (b.t.rg.get x.a.toNat)<0∨b.tk.getD (q0a c (b.t.rg.get x.a.toNat)).toNat false=false
  ·rw[e,if_pos hk]
   exact qqK h (by simp) (by simp) (qqc h hx h15 hB.tl hk q)
  ·obtain⟨kn,hkn⟩:=Int.eq_ofNat_of_zero_le (show 0≤q0a c (b.t.rg.get x.a.toNat) by omega)
   have hlf:=q8G c (b.t.rg.get x.a.toNat)
   have htl:=hB.tl
   rw[hkn,Int.toNat_natCast] at hk
   rw[hkn] at hlf
   obtain⟨t0,ht0⟩:∃t0,b.tk[kn]? =some t0:=⟨_,List.getElem?_eq_getElem (by omega)⟩
   have htt:t0=true:=by
    cases t0 with
    |true=>rfl
    |false=>exact absurd (.inr (by rw[List.getD_eq_getElem?_getD,ht0];rfl)) hk
   subst htt
   exact qqL (by rw[e,hkn,Int.toNat_natCast,if_neg hk]) (qqT h hx h15 hc hpc hkn ht0 q)
end
open Go
section
variable{W0:World}{own:Own}
theorem qoQ{a:Nat×(Obj→Prop)}{A Z:Own}:Ent W0 (a::(A++Z)) (A++Z):=qo [a]
theorem qpf{α:Type}{l:List α}{i:Nat}{x:α}(hx:l[i]? =some x):l.take i++ [x]=l.take (i+1):=by
 rw[List.take_add_one,hx];rfl
theorem qmP{a:Option Addr}{l:List Int}{cap:Nat}(hR:RdE q7j 1 W0 own a l)(hl:l.length≤1000000):
  q0E Tryz.prog W0 50 [.slice a l.length cap] own fun v own'=>∃s:Option Addr×Nat×Own,(v= .slice s.1 l.length s.2.1∧qr q7j 58 1 s.1 s.2.1 l s.2.2)∧Ent W0 own' (s.2.2++own):=by
 refine qa qj qn5 (by simp[qm3]) ?_
 refine q0Z (σ:=Nat×Option Addr×Nat×Own) (fun y=> [(3, .slice y.2.1 (l.take y.1).length y.2.2.1),(4, .int .i64 y.1)]) (fun y=>y.2.2.2++own)
  (fun y=>y.1≤l.length∧qr q7j 58 1 y.2.1 y.2.2.1 (l.take y.1) y.2.2.2) (fun y=>l.length-y.1) (0,none,0,[]) ⟨Nat.zero_le _,qr.nil⟩ (eF) Ent.refl rfl ?_
 rintro⟨i,a1,c1,D1⟩ junk ⟨hi,hB⟩
 dsimp only at hi hB ⊢
 have htl:(l.take i).length=i:=by rw[List.length_take];omega
 by_cases hil:i<l.length
 ·obtain⟨x,hx⟩:∃x,l[i]? =some x:=⟨_,List.getElem?_eq_getElem hil⟩
  have htk:=qpf hx
  have hln:(l.take i).length+1=(l.take (i+1)).length:=by rw[←htk];simp
  repeat'((try(conv=>whnf));first|(refine fF ?_)|(apply q69 (enc:=q7j) (T:=58) x hB;(exact rfl);(exact rfl);(omega);(exact rfl);(exact rfl);(omega);intro a2 c2 D2 hb2)|((with_reducible show Ld _ _ _ _);first|(refine q1M hR hx rfl ?_))|((with_reducible show IxS _ _ _ _ _);first|((refine ixE hR hx ?_ ?_;(first|rfl|omega))))|(refine fB ?_)|(refine qc (fun bk hbk=> ?_)))
  rw[htk] at hb2
  rw[hln]
  exact⟨(i+1,a2,c2,D2),⟨hil,hb2⟩,(by show l.length-(i+1)<l.length-i;omega),(eF),qoQ⟩
 ·have hiN:i=l.length:=by omega
  subst hiN
  repeat'((try(conv=>whnf));first|(refine fG ?_))
  rw[List.take_length] at hB
  exact⟨(a1,c1,D1),⟨by rw[htl];rfl,hB⟩,Ent.refl⟩
theorem qoo{a:Option Addr}{l:List Int}{cap:Nat}(hR:RdE qM 1 W0 own a l)(hl:l.length≤1000000):
  q0E Tryz.prog W0 51 [.slice a l.length cap] own fun v own'=>∃s:Option Addr×Nat×Own,(v= .slice s.1 l.length s.2.1∧qr qM 3 1 s.1 s.2.1 l s.2.2)∧Ent W0 own' (s.2.2++own):=by
 refine qa qj qn9 (by simp[qm8]) ?_
 refine q0Z (σ:=Nat×Option Addr×Nat×Own) (fun y=> [(3, .slice y.2.1 (l.take y.1).length y.2.2.1),(4, .int .i64 y.1)]) (fun y=>y.2.2.2++own)
  (fun y=>y.1≤l.length∧qr qM 3 1 y.2.1 y.2.2.1 (l.take y.1) y.2.2.2) (fun y=>l.length-y.1) (0,none,0,[]) ⟨Nat.zero_le _,qr.nil⟩ (eF) Ent.refl rfl ?_
 rintro⟨i,a1,c1,D1⟩ junk ⟨hi,hB⟩
 dsimp only at hi hB ⊢
 have htl:(l.take i).length=i:=by rw[List.length_take];omega
 by_cases hil:i<l.length
 ·obtain⟨x,hx⟩:∃x,l[i]? =some x:=⟨_,List.getElem?_eq_getElem hil⟩
  have htk:=qpf hx
  have hln:(l.take i).length+1=(l.take (i+1)).length:=by rw[←htk];simp
  repeat'((try(conv=>whnf));first|(refine fF ?_)|(apply q69 (enc:=qM) (T:=3) x hB;(exact rfl);(exact rfl);(omega);(exact rfl);(exact rfl);(omega);intro a2 c2 D2 hb2)|((with_reducible show Ld _ _ _ _);first|(refine q1M hR hx rfl ?_))|((with_reducible show IxS _ _ _ _ _);first|((refine ixE hR hx ?_ ?_;(first|rfl|omega))))|(refine fB ?_)|(refine qc (fun bk hbk=> ?_)))
  rw[htk] at hb2
  rw[hln]
  exact⟨(i+1,a2,c2,D2),⟨hil,hb2⟩,(by show l.length-(i+1)<l.length-i;omega),(eF),qoQ⟩
 ·have hiN:i=l.length:=by omega
  subst hiN
  repeat'((try(conv=>whnf));first|(refine fG ?_))
  rw[List.take_length] at hB
  exact⟨(a1,c1,D1),⟨by rw[htl];rfl,hB⟩,Ent.refl⟩
theorem qnE{a:Option Addr}{l:List Ins}{cap:Nat}(hR:RdE Ins.enc 5 W0 own a l)(hl:l.length≤1000000):
  q0E Tryz.prog W0 52 [.slice a l.length cap] own fun v own'=>∃s:Option Addr×Nat×Own,(v= .slice s.1 l.length s.2.1∧qr Ins.enc 69 5 s.1 s.2.1 l s.2.2)∧Ent W0 own' (s.2.2++own):=by
 refine qa qj qmU (by simp[qlX]) ?_
 refine q0Z (σ:=Nat×Option Addr×Nat×Own) (fun y=> [(3, .slice y.2.1 (l.take y.1).length y.2.2.1),(4, .int .i64 y.1)]) (fun y=>y.2.2.2++own)
  (fun y=>y.1≤l.length∧qr Ins.enc 69 5 y.2.1 y.2.2.1 (l.take y.1) y.2.2.2) (fun y=>l.length-y.1) (0,none,0,[]) ⟨Nat.zero_le _,qr.nil⟩ (eF) Ent.refl rfl ?_
 rintro⟨i,a1,c1,D1⟩ junk ⟨hi,hB⟩
 dsimp only at hi hB ⊢
 have htl:(l.take i).length=i:=by rw[List.length_take];omega
 by_cases hil:i<l.length
 ·obtain⟨x,hx⟩:∃x,l[i]? =some x:=⟨_,List.getElem?_eq_getElem hil⟩
  have htk:=qpf hx
  obtain⟨op,ia,ib,ic,imm⟩:=x
  have hln:(l.take i).length+1=(l.take (i+1)).length:=by rw[←htk];simp
  repeat'((try(conv=>whnf));first|(refine fF ?_)|(apply q69 (enc:=Ins.enc) (T:=69) ⟨op,ia,ib,ic,imm⟩ hB;(exact rfl);(exact rfl);(omega);(exact rfl);(exact rfl);(omega);intro a2 c2 D2 hb2)|((with_reducible show IxS _ _ _ _ _);first|((refine ixE hR hx ?_ ?_;(first|rfl|omega))))|((with_reducible show LdN _ _ _ _ _);first|(refine q2e hR hx rfl ?_))|(refine fB ?_)|(refine qc (fun bk hbk=> ?_)))
  rw[htk] at hb2
  rw[hln]
  exact⟨(i+1,a2,c2,D2),⟨hil,hb2⟩,(by show l.length-(i+1)<l.length-i;omega),(eF),qoQ⟩
 ·have hiN:i=l.length:=by omega
  subst hiN
  repeat'((try(conv=>whnf));first|(refine fG ?_))
  rw[List.take_length] at hB
  exact⟨(a1,c1,D1),⟨by rw[htl];rfl,hB⟩,Ent.refl⟩
end
open Go
theorem qo5(len t:Nat):∀(l:List Ins) (j:Nat) (b:Nat),b≤t→t<j→t<len→len=j+l.length→q1I len t l j b=((b:Int),(q2P l j:Int))
 | [],j,b,hb,hj,hl,he=>by
  simp only[List.length_nil,Nat.add_zero] at he
  unfold q1I q2P
  rw[if_pos (by omega),he]
 |x::l,j,b,hb,hj,hl,he=>by
  simp only[List.length_cons] at he
  rw[q1I,show q2P (x::l) j=(if x.op=8 then j else q2P l (j+1)) from rfl,if_neg (by omega)]
  by_cases h8:x.op=8
  ·rw[if_pos ⟨by omega,h8⟩,if_pos (by omega),if_pos h8]
  ·rw[if_neg (by omega),if_neg h8]
   exact qo5 len t l (j+1) b hb (by omega) hl (by omega)
theorem qpe{p:List Ins}(h:qx p=(0,0)){k:Nat}{x:Ins}(hx:p[k]? =some x)(h7:x.op=7)(hb:stB p k<0):qei p k=((k:Int),(q40 p k:Int)):=by
 have hk:=(List.getElem?_eq_some_iff.1 hx).1
 have hi:=qgb h (by omega:k≤p.length)
 rw[hi.sp k (Nat.le_refl _),q0R hx,q1I,if_pos ⟨hb,h7⟩,qo5 p.length k (p.drop (k+1)) (k+1) k (Nat.le_refl _) (Nat.lt_succ_self _) hk (by rw[List.length_drop];omega)]
 rfl
abbrev ChB(b3:Nat)(t f:Int)(aa:Option Addr)(al ac:Nat):Nat×(Obj→Prop):=(b3,fun o=>o=Obj.cells #[.int .i64 t, .int .i64 f, .slice aa al ac] 79 (0,0))
section
variable{W0:World}{Kp K:Own}{g:DP}{c:Cfg}{ps:List PH}{s:GS}
abbrev TxP(W0:World)(Kp:Own)(g:DP)(c:Cfg)(ps:List PH)(s:GS)(t:Nat)(th:Thr)(ph:PH)(f:Int)(ad:List Int)(q:Own)(v:Value)(own':Own):Prop:=
 ((v= .bool false∧txM c ph.p s th t f ad=none)∧Ent W0 own' (g.O c ps.length s++q))∨
 ∃y:GS×DP×Thr,(v= .bool true∧y.1.T[t]? =some y.2.2∧txM c ph.p s th t f ad=some (exS y.1 t ph.p.length y.2.2)∧y.1.n=s.n∧y.2.1.ok W0 Kp ps y.1∧y.2.1.rb=g.rb)∧Ent W0 own' (y.2.1.O c ps.length y.1++q)
theorem qqh{t:Nat}{th:Thr}{ph:PH}(hT:qk7 c ps s t th ph)(h:g.ok W0 Kp ps s)(hp:qx ph.p=(0,0)){x0:Ins}(hx0:ph.p[th.pc]? =some x0)(h7:x0.op=7)(hst:stB ph.p th.pc<0){f:Int}(hf:f≠0){aa:Option Addr}{ad:List Int}{ac:Nat}(q:Own) [ek:qt q Kp]:
  q0E Tryz.prog W0 74 [.pointer (some ⟨g.rb,0,none⟩),chV t f aa ad.length ac] (g.O c ps.length s++q) (TxP W0 Kp g c ps s t th ph f ad q):=by
 have hth:=hT.hth
 have htl:=(List.getElem?_eq_some_iff.1 hth).1
 have htO:t<s.O.length:=by rw[hT.tl];exact htl
 have hT0:=h.t
 have hTR:=hT0.rd (W0:=W0)
 have hpl:=q6A hp
 have hsp0:=qpe hp hx0 h7 hst
 obtain⟨e',he',hke,hel, -⟩:=q3G hp hx0 h7
 have hmem:=List.mem_of_getElem? hT.hph
 have hph:=hT.hph
 have hKK:=h.k
 have hsp:=fun(own':Own) [qt own' Kp]=>qic (own:=own') (cap:=ph.cap) (RdE.up (h.kp ph hmem)) (by omega) th.pc
 rw[hsp0,he'] at hsp
 dsimp only at hsp
 have htS:t<g.S.length:=by
  have h1:=congrArg List.length h.ol
  rw[List.length_map] at h1
  omega
 have htx:txM c ph.p s th t f ad=if(3≤f∧f≤6)∧ad= [] then some (s.fin t ⟨e'+1,th.rg,f,decide (e'+1=ph.p.length)⟩ [⟨th.pc,3,f⟩]) else none:=by
  unfold txM;rw[if_pos hf,he']
 refine qa qj qlW (by simp[qlL]) ?_
 delta TxP
 rw[htx]
 clear htx
 by_cases hff:3≤f∧f≤6
 ·by_cases hal0:ad= []
  ·rw[if_pos ⟨hff,hal0⟩]
   have hl0:¬(0:Int)<ad.length:=by rw[hal0];simp
   have hq:f=3∨f=4∨f=5∨f=6:=by omega
   have hth1:(s.T.set t {th with oc:=f})[t]? =some {th with oc:=f}:=List.getElem?_set_self htl
   have hob9:∀l∈s.O,l.length≤1000000:=fun l hl=>by have:=hT.ob l hl;omega
   have hse:=fun(b3:Nat) (D2:Own) (hb2:qr Thr.enc 61 11 g.ta g.tc ((s.T.set t {th with oc:=f}).set t {th with oc:=f,pc:=e'+1}) D2)=>
    qG (E:= [ChB b3 t f aa ad.length ac]) (q:=q) (qmO (c:=c) (g:={g with tD:=D2}) (s:={s with T:=(s.T.set t {th with oc:=f}).set t {th with oc:=f,pc:=e'+1}}) (ps:=ps) (W0:=W0) (Kp:=Kp) ⟨h.d,h.m,h.k,h.kp,hb2,h.e,h.em,h.ev,h.o,h.os,h.ol⟩ htS hob9 th.pc 3 f)
   repeat'((try(conv=>whnf));first|(refine qc (fun b3 h3=> ?_);(apply Stop.h)))
   refine Stop.mk ?_
   repeat'((try(conv=>whnf));first|(refine fH ?_)|(refine fI ?_)|(refine fF ?_)|(refine fG ?_)|(refine fK ?_)|(apply q5Q (enc:=Thr.enc) (T:=61) (j:=t) (k:=9) {th with oc:=f} hT0 hth;(exact rfl);(omega);(exact rfl);(exact rfl);intro D1 hb1)|(apply q5Q (enc:=Thr.enc) (T:=61) (j:=t) (k:=0) {th with oc:=f,pc:=e'+1} hb1 hth1;(exact rfl);(omega);(exact rfl);(exact rfl);intro D2 hb2)|((with_reducible show Ld _ _ _ _);first|(refine q1M hTR hth rfl ?_)|(refine q1M hKK hph rfl ?_))|((with_reducible show IxS _ _ _ _ _);first|((refine ixE hTR hth ?_ ?_;(first|rfl|omega)))|((refine ixE hKK hph ?_ ?_;(first|rfl|omega))))|((with_reducible show qf _ _ _ _ _ _);first|((refine qh (hsp _) ?_ ?_ ?_;(exact rfl);exact rfl))|((refine qm (hse b3 D2 hb2) ?_ ?_ ?_ (fun g2 v hg2=> ?_);(dsimp only[DP.O,DP.cells];rw[List.length_set,List.length_set];exact(eC));(exact rfl);(exact rfl);(obtain⟨hk2,hg2, -⟩:=hg2))))|(refine fB ?_)|(refine fC ?_)|(refine fO ?_)|(refine fA ?_)|(apply q0e;(exact rfl);(exact rfl);all_goals intro hc))
   all_goals first|(exfalso;omega)|skip
   all_goals
    refine .inr ⟨({s with T:=(s.T.set t {th with oc:=f}).set t {th with oc:=f,pc:=e'+1},O:=s.O.set t (s.O.getD t []++ [⟨th.pc,3,f⟩])},g2,{th with oc:=f,pc:=e'+1}),⟨rfl,?_,?_,rfl,hk2,by rw[hg2]⟩,(eC)⟩
    ·show((s.T.set t {th with oc:=f}).set t {th with oc:=f,pc:=e'+1})[t]? =_
     rw[List.getElem?_set_self (by rw[List.length_set];exact htl)]
    ·simp only[exS,GS.fin,List.set_set]
  ·rw[if_neg (fun h=>hal0 h.2)]
   have hl0:(0:Int)<ad.length:=by
    have:ad.length≠0:=fun h=>hal0 (List.eq_nil_of_length_eq_zero h)
    omega
   have hq:f=3∨f=4∨f=5∨f=6:=by omega
   repeat'((try(conv=>whnf));first|(refine fH ?_)|(refine fI ?_)|(refine fF ?_)|(refine fK ?_)|((with_reducible show Ld _ _ _ _);first|(refine q1M hTR hth rfl ?_)|(refine q1M hKK hph rfl ?_))|((with_reducible show IxS _ _ _ _ _);first|((refine ixE hTR hth ?_ ?_;(first|rfl|omega)))|((refine ixE hKK hph ?_ ?_;(first|rfl|omega))))|((with_reducible show qf _ _ _ _ _ _);first|((refine qh (hsp _) ?_ ?_ ?_;(exact rfl);exact rfl)))|(refine fO ?_)|(refine fA ?_)|(refine qc (fun bk hbk=> ?_))|(apply q0e;(exact rfl);(exact rfl);all_goals intro hc))
   all_goals first|(exfalso;omega)|exact .inl ⟨⟨rfl,rfl⟩,(eC)⟩
 ·rw[if_neg (fun h=>hff h.1)]
  repeat'((try(conv=>whnf));first|(refine fH ?_)|(refine fI ?_)|(refine fE ?_)|(refine fF ?_)|(refine fJ ?_)|((with_reducible show Ld _ _ _ _);first|(refine q1M hTR hth rfl ?_)|(refine q1M hKK hph rfl ?_))|((with_reducible show IxS _ _ _ _ _);first|((refine ixE hTR hth ?_ ?_;(first|rfl|omega)))|((refine ixE hKK hph ?_ ?_;(first|rfl|omega))))|((with_reducible show qf _ _ _ _ _ _);first|((refine qh (hsp _) ?_ ?_ ?_;(exact rfl);exact rfl)))|(refine fO ?_)|(refine fA ?_)|(refine qc (fun bk hbk=> ?_)))
  all_goals first|(exfalso;omega)|exact .inl ⟨⟨rfl,rfl⟩,(eC)⟩
end
open Go
section
variable{α:Type}{enc:α→List Value}{sz:Nat}{W0:World}{own own':Own}{a:Option Addr}
theorem qr1{T:TypeId}{bytes cap m:Nat}{zs:List Value}{D:Own}{C:Own→Own}{a2:Option Addr}{l2:List α}{K:Value→Own→Prop}(hB:qr enc T sz a cap [] D)(hx:RdE enc sz W0 own' a2 l2) [mm:AtC D own C] [me:qt own own'](hm:m=l2.length)
  (hz:zs.length=sz) (hs:0<sz) (h1:∀x∈l2,(enc x).all q4A=true) (hb:l2.length*bytes≤140737488355328)
  (hk:∀a' cap' D',qr enc T sz a' cap' l2 D'→K (.slice a' l2.length cap') (C D')):qcz W0 own T sz bytes zs a 0 cap a2 m K:=
 qiO hB hx hm hz hs h1 (fun _=>by simpa using hb) fun a' cap' D' h=>by
  have e:([]:List α).length+l2.length=l2.length:=Nat.zero_add _
  rw[e]
  exact hk a' cap' D' h
theorem qrb{b:Nat}{T:TypeId}{pre post:List Value}{t:Thr}{off:Nat}{v:Value}{K:Own→Prop}{C:(Obj→Prop)→Own} [m:UpC b (fun o=>o=Obj.cells (pre++(t.enc++post)).toArray T (0,0)) own C](pre':List Value)(hs:(pre++(t.enc++post)).set off v=pre'++(t.enc++post))(h1:q4A v=true)(ho:off<(pre++(t.enc++post)).length)
  (h:K (C fun o=>o=Obj.cells (pre'++(t.enc++post)).toArray T (0,0))):StT W0 own ⟨b,off,none⟩ v K:=by
 refine qjY (by simp at ho ⊢;omega) h1 ?_
 rw[List.toList_toArray,hs]
 exact h
theorem qpn{W0:World}{e b:Nat×(Obj→Prop)}{D Z:Own}:Ent W0 (e::(D++(b::Z))) ([b]++((e::(D++([]++([]++([]++ [])))))++Z)):=qo []
theorem qpo{W0:World}{e b:Nat×(Obj→Prop)}{D D2 R W N G q:Own}:Ent W0 ([b]++((e::(D++(D2++(R++(W++N)))))++(G++q))) ((e::(D++(D2++(R++(W++N)))))++(G++(b::q))):=qo []
theorem qou{W0:World}{b:Nat×(Obj→Prop)}{X G q:Own}:Ent W0 (X++(G++(b::q))) (G++q):=qo (b::X)
theorem qpp{W0:World}{m e b:Nat×(Obj→Prop)}{Dd Dk A B T E O S1 S2 S3 X R W N q:Own}:Ent W0 ((m::(A++(B++(T++(E++(O++((S1++(S2++S3))++X)))))))++((e::(Dd++(Dk++(R++(W++N)))))++(b::q)))
  (e::((m::(Dd++(Dk++(T++(E++(O++((S1++(S2++S3))++(R++(W++X)))))))))++(b::q))):=qo (A++(B++N))
theorem qpq{W0:World}{m e b:Nat×(Obj→Prop)}{Dd Dk A B T E O S X R W N q:Own}:Ent W0 ((m::(A++(B++(T++(E++(O++(S++X)))))))++((e::(Dd++(Dk++(R++(W++N)))))++(b::q)))
  (e::((m::(A++(B++(T++(E++(O++(S++(R++X))))))))++(b::q))):=qo (Dd++(Dk++(W++N)))
theorem qps{W0:World}{e:Nat×(Obj→Prop)}{G q:Own}:Ent W0 (e::(G++q)) (G++([e]++q)):=qo []
theorem qpr{W0:World}{e b:Nat×(Obj→Prop)}{G q:Own}:Ent W0 (G++([e]++(b::q))) (G++q):=qo [e,b]
end
section
variable{W0:World}{Kp K:Own}{g:DP}{c:Cfg}{ps:List PH}{s:GS}
structure TxE(W0:World)(Kp:Own)(g:DP)(c:Cfg)(ps:List PH)(s:GS)(t:Nat)(th:Thr)(ph:PH)(ad:List Int)(e':Nat)(out:Int)(xb:Nat)(y:GS×DP×BG×BM×Thr):Prop where
 ok:y.2.1.ok W0 Kp ps y.1
 rb:y.2.1.rb=g.rb
 ta:y.2.1.ta=g.ta
 hxb:y.2.2.1.xb=xb
 hth:y.1.T[t]? =some y.2.2.2.2
 tO:t<y.1.O.length
 ob:∀l∈y.1.O,l.length≤1000000
 el:y.1.E.length≤600000
 n:y.1.n=s.n
 r:RdE qM 1 W0 y.2.1.X y.2.2.1.ra y.2.2.2.1.r
 w:RdE qM 1 W0 y.2.1.X y.2.2.1.wa y.2.2.2.1.w
 tx:txM c ph.p s th t 0 ad=some (exS {(y.1.ev [⟨y.1.n,t,4,0,y.2.2.2.1.r,y.2.2.2.1.w⟩]) with T:=(y.1.T.set t {y.2.2.2.2 with oc:=out}).set t {y.2.2.2.2 with oc:=out,pc:=e'+1},O:=y.1.O.set t (y.1.O.getD t []++ [⟨th.pc,3,out⟩])} t ph.p.length {y.2.2.2.2 with oc:=out,pc:=e'+1})
theorem qqg{t:Nat}{th:Thr}{ph:PH}(hT:qk7 c ps s t th ph)(h:g.ok W0 Kp ps s)(hp:qx ph.p=(0,0)){x0:Ins}(hx0:ph.p[th.pc]? =some x0)(h7:x0.op=7)(hst:stB ph.p th.pc<0)(htk:s.tk.length=(qy c).toNat){aa:Option Addr}{ad:List Int}{ac:Nat}(hA:RdE qM 1 W0 K aa ad)(hal:ad.length≤ac)(had:∀a∈ad,a≤9223372036854775807)(q:Own) [ek:qt q Kp] [ek2:qt q K]:
  q0E Tryz.prog W0 74 [.pointer (some ⟨g.rb,0,none⟩),chV t 0 aa ad.length ac] (g.O c ps.length s++q) (TxP W0 Kp g c ps s t th ph 0 ad q):=by
 have hth:=hT.hth
 have htl:=(List.getElem?_eq_some_iff.1 hth).1
 have htO:t<s.O.length:=by rw[hT.tl];exact htl
 have hT0:=h.t
 have hTR:=hT0.rd (W0:=W0)
 have hMR:=h.m.rd (W0:=W0)
 have hpl:=q6A hp
 have hsp0:=qpe hp hx0 h7 hst
 obtain⟨e',he',hke,hel, -⟩:=q3G hp hx0 h7
 have hmem:=List.mem_of_getElem? hT.hph
 have hph:=hT.hph
 have hKK:=h.k
 have hPR:=h.kp ph hmem
 have hwd:=(q1R hT.c0).1
 unfold okW at hwd
 have hdl:=hT.dl
 have hkb:=(q6w c)
 have hsp:=fun(own':Own) [qt own' Kp]=>qic (own:=own') (cap:=ph.cap) (RdE.up hPR) (by omega) th.pc
 rw[hsp0,he'] at hsp
 dsimp only at hsp
 have htS:t<g.S.length:=by
  have h1:=congrArg List.length h.ol
  rw[List.length_map] at h1
  omega
 have hBI:BI c ⟨s.d,s.tk,{th with pc:=th.pc+1},[],[],[],ad⟩:=⟨hT.dl,hT.dr,htk,hT.rg,Nat.zero_le _,Nat.zero_le _,Nat.zero_le _,fun _ h=>(by cases h),fun _ h=>(by cases h),had⟩
 have htx:txM c ph.p s th t 0 ad=match q5e c ph.p ph.p.length ⟨s.d,s.tk,{th with pc:=th.pc+1},[],[],[],ad⟩ with
  |(b,o)=>if o= -1∨b.ad≠ [] then none
   else if o=1 then some (((s.mem b.d b.tk).ev [⟨s.n,t,3,0,[],[]⟩,⟨s.n,t,4,0,b.r,b.w⟩]).fin t ⟨e'+1,b.t.rg,1,decide (e'+1=ph.p.length)⟩ (b.o++ [⟨th.pc,3,1⟩]))
   else some ((s.ev [⟨s.n,t,3,0,[],[]⟩,⟨s.n,t,4,0,b.r,[]⟩]).fin t ⟨e'+1,th.rg,o,decide (e'+1=ph.p.length)⟩ [⟨th.pc,3,o⟩]):=by
  unfold txM;rw[if_neg (by simp),he']
 refine qa qj qlW (by simp[qlL]) ?_
 delta TxP
 have htw:=fun(own':Own) [qt own' g.dD]=>qmP (cap:=g.dc) (RdE.up (own:=own') (h.d.rd (W0:=W0))) (by omega)
 repeat'((try(conv=>whnf));first|(refine qc (fun b3 h3=> ?_);(apply Stop.h)))
 refine Stop.mk ?_
 repeat'((try(conv=>whnf));first|(refine fD ?_)|((with_reducible show Ld _ _ _ _);first|(refine q1M hTR hth rfl ?_)|(refine q1M hKK hph rfl ?_))|((with_reducible show IxS _ _ _ _ _);first|((refine ixE hTR hth ?_ ?_;(first|rfl|omega)))|((refine ixE hKK hph ?_ ?_;(first|rfl|omega))))|((with_reducible show qf _ _ _ _ _ _);first|((refine qh (hsp _) ?_ ?_ ?_;(exact rfl);exact rfl)))|(refine fO ?_)|(refine fA ?_))
 refine q4H (σ:=BG) (2 ^ 95-2 ^ 83+2 ^ 10) (fun x=> [(10, .pointer (some ⟨x.xb,0,none⟩))]) (fun x=> [ChB b3 t 0 aa ad.length ac]++(x.O (⟨s.d,[],th,[],[],[],ad⟩:BM) false++(g.O c ps.length s++q))) (fun x=>x.ok W0 K (⟨s.d,[],th,[],[],[],ad⟩:BM)) rfl ?_ ?_
 ·repeat'((try(conv=>whnf));first|(refine qc (fun bk hbk=> ?_))|((with_reducible show LdN _ _ _ _ _);first|(refine q2e hTR hth rfl ?_))|((with_reducible show qf _ _ _ _ _ _);first|((refine qZ (htw _) ?_ ?_ (fun y v hv=> ?_);(exact rfl);(exact rfl);(obtain⟨a1,c1,D1⟩:=y;obtain⟨rfl,hB⟩:=hv;dsimp only at hB))))|(refine fA ?_)|(refine q4T.mk ?_ ?_))
  all_goals exact⟨⟨bk,a1,c1,D1,none,0,[],none,0,[],none,0,[],none,0,[],aa,ac⟩,⟨hB,qr.nil,hA,hal,qr.nil,qr.nil,qr.nil⟩,(eF),qpn⟩
 rintro x junk hxok
 dsimp only at hxok ⊢
 have hxm:=hxok.m
 dsimp only at hxm
 --VSHOW
 repeat'((try(conv=>whnf));first|(refine qr1 hxm hMR rfl rfl (by omega) (fun _ _=>rfl) (by omega) (fun a2 c2 D2 hb2=> ?_);(apply Stop.h))|(refine fA ?_))
 refine Stop.mk ?_
 obtain⟨x1,hx1⟩:∃x1:BG,x1={x with ka:=a2,kc:=c2,kD:=D2}:=⟨_,rfl⟩
 repeat'((try(conv=>whnf));first|(refine qrb (t:=th) (pre:=x.pre (⟨s.d,[],th,[],[],[],ad⟩:BM)) (post:=x.post (⟨s.d,[],th,[],[],[],ad⟩:BM) false) (({x with ka:=a2,kc:=c2,kD:=D2}:BG).pre (⟨s.d,s.tk,th,[],[],[],ad⟩:BM)) rfl rfl ?_ ?_;(simp))|(refine q8F (t:=th) (pre:=({x with ka:=a2,kc:=c2,kD:=D2}:BG).pre (⟨s.d,s.tk,th,[],[],[],ad⟩:BM)) (post:=x.post (⟨s.d,[],th,[],[],[],ad⟩:BM) false) (k:=0) (v:= .int .i64 th.pc) rfl ?_ ?_;(exact rfl))|(refine qmQ (t:=th) (pre:=({x with ka:=a2,kc:=c2,kD:=D2}:BG).pre (⟨s.d,s.tk,th,[],[],[],ad⟩:BM)) (post:=x.post (⟨s.d,[],th,[],[],[],ad⟩:BM) false) (n:=th.pc+1) ?_ ?_ ?_;(omega);(exact rfl))|(refine fB ?_))
 generalize hz:q5e c ph.p ph.p.length ⟨s.d,s.tk,{th with pc:=th.pc+1},[],[],[],ad⟩=z at htx
 obtain⟨zb,zo⟩:=z
 dsimp only at htx
 refine q0Z (σ:=Nat×BM×BG×Int×Bool) (fun y=> [(11, .int .i64 y.2.2.2.1)]) (fun y=>y.2.2.1.O y.2.1 y.2.2.2.2++(g.O c ps.length s++(ChB b3 t 0 aa ad.length ac::q)))
  (fun y=>y.2.2.1.xb=x.xb∧((y.2.2.2.2=false∧y.2.2.1.ok W0 K y.2.1∧BI c y.2.1∧y.2.1.t.pc≤e'∧((y.2.2.2.1=0∧q5e c ph.p y.1 y.2.1=(zb,zo)∧th.pc<y.2.1.t.pc∧e'<y.1+y.2.1.t.pc)∨(0<y.2.2.2.1∧y.2.2.2.1≤8∧(y.2.1.go,y.2.2.2.1)=(zb,zo))))∨(y.2.2.2.2=true∧y.2.2.2.1=0∧zo= -1)))
  (fun y=>if y.2.2.2.1=0∧y.2.2.2.2=false then y.1+1 else 0) (ph.p.length,⟨s.d,s.tk,{th with pc:=th.pc+1},[],[],[],ad⟩,{x with ka:=a2,kc:=c2,kD:=D2},0,false)
  ⟨rfl, .inl ⟨rfl,⟨hxok.d,hb2,hxok.a,hxok.al,hxok.r,hxok.w,hxok.o⟩,hBI,(by show th.pc+1≤e';omega), .inl ⟨rfl,hz,Nat.lt_succ_self _,by show e'<ph.p.length+(th.pc+1);omega⟩⟩⟩ (eF) qpo rfl ?_
 rintro⟨n,b1,x1,out,bad⟩ junk ⟨hxb,hI⟩
 dsimp only at hxb hI ⊢
 rw[←hxb]
 rcases hI with ⟨rfl,hok,hbi,hk2,⟨rfl,hrun,hk1,hk3⟩|⟨ho1,ho2,hrun⟩⟩|⟨rfl,rfl,hzn⟩
 ·obtain⟨xi,hxi,hi, -,n7,n12,n13,n16,n17⟩:=qiu hp hx0 h7 hk1 (by rw[he'];exact hk2)
  obtain⟨m,rfl⟩:∃m,n=m+1:=⟨n-1,by omega⟩
  have hst1:=qaC hp hx0 h7 hk1 (by rw[he'];exact hk2) hxi (c:=c) (b:=b1) rfl
  have hso:=qeo (c:=c) (b:=b1) hi hbi
  have hse:=qip (c:=c) (b:=b1) (x:=xi)
  rw[q5e,hxi] at hrun
  simp only at hrun
  have h18:=(q2l hi).1
  have hop:isL xi=true∨xi.op=8∨xi.op=9∨xi.op=10∨xi.op=11∨xi.op=14∨xi.op=15:=by simp only[isL,decide_eq_true_eq];omega
  have hin:=qp6 (dp:=g) (np:=ps.length) (s:=s) hok hi hop hT.c0 hbi (by omega) (ChB b3 t 0 aa ad.length ac::q)
  generalize q18 c b1 xi=y at*
  repeat'((try(conv=>whnf));first|(refine fH ?_)|(refine fE ?_)|(refine q8F (t:=b1.t) (pre:=x1.pre b1) (post:=x1.post b1 false) (k:=0) (v:= .int .i64 b1.t.pc) rfl ?_ ?_;(exact rfl))|((with_reducible show IxS _ _ _ _ _);first|((refine ixE hPR hxi ?_ ?_;(first|rfl|omega))))|((with_reducible show LdN _ _ _ _ _);first|(refine q2e hPR hxi rfl ?_))|((with_reducible show qf _ _ _ _ _ _);first|((refine q3r hin ?_ ?_ ?_ (fun v hv=> ?_) (fun y2 v hv=> ?_);(exact Ent.refl);(exact rfl);(exact rfl);all_goals(apply Stop.h))))|(refine fA ?_))
  ·obtain⟨rfl,hz1⟩:=hv
   refine Stop.mk ?_
   refine⟨(m,b1,x1,0,true),⟨rfl, .inr ⟨rfl,rfl,?_⟩⟩,by simp,(eF),Ent.refl⟩
   rw[if_neg (by omega)] at hrun
   rw[hrun] at hz1
   exact hz1
  ·obtain⟨rfl,hz1,hok2,hxb2,h20,h2n⟩:=hv
   refine Stop.mk ?_
   by_cases h0:y.2=0
   ·have:=hst1 h0
    have hy2:=h20 h0
    rw[if_pos h0] at hrun
    refine⟨(m,y2.2,y2.1,y.2,false),⟨hxb2, .inl ⟨rfl,hok2,by rw[hy2];exact hso hz1,?_, .inl ⟨h0,by rw[hy2];exact hrun,?_,?_⟩⟩⟩,?_,(eF),Ent.refl⟩
    ·show y2.2.t.pc≤e';rw[hy2];omega
    ·show th.pc<y2.2.t.pc;rw[hy2];omega
    ·show e'<m+y2.2.t.pc;rw[hy2];omega
    ·dsimp only;split <;>simp
   ·have hy2:=h2n h0
    rw[if_neg h0] at hrun
    obtain⟨he1,he2,he3⟩:=hse h0 hz1
    refine⟨(m,y2.2,y2.1,y.2,false),⟨hxb2, .inl ⟨rfl,hok2,by rw[hy2];exact hbi,by rw[hy2];exact hk2, .inr ⟨he2,he3,?_⟩⟩⟩,?_,(eF),Ent.refl⟩
    ·rw[hy2]
     dsimp only
     rw[←he1]
     exact hrun
    ·simp[h0]
 ·obtain⟨rfl,rfl⟩:=Prod.mk.inj hrun
  have ho9:¬out=0:=by omega
  have hadg:b1.go.ad=b1.ad:=rfl
  by_cases had0:b1.ad= []
  ·have hl:¬(0:Int)<b1.ad.length:=by rw[had0];simp
   rw[if_neg (fun h=>h.elim (fun h=>by omega) (fun h=>h had0))] at htx
   have hev:=qmA (c:=c) (W0:=W0) h t 3 0 (ra:=none) (wa:=none) (rl:= []) (wl:= []) (rc:=0) (wc:=0) RdE.nil RdE.nil (by have:=hT.el;omega) (x1.O b1 false++(ChB b3 t 0 aa ad.length ac::q))
   repeat'((try(conv=>whnf));first|(refine fH ?_)|(refine fI ?_)|(refine fD ?_)|(refine fG ?_)|(refine fK ?_)|((with_reducible show qf _ _ _ _ _ _);first|((refine qm hev ?_ ?_ ?_ (fun g1 v hg1=> ?_);(exact Ent.of_perm (List.perm_append_comm_assoc _ _ _));(exact rfl);(exact rfl);(apply Stop.h))))|(refine fA ?_))
   obtain⟨hk1,hg1⟩:=hg1
   have hrb1:g1.rb=g.rb:=by rw[hg1]
   have hta1:g1.ta=g.ta:=by rw[hg1]
   rw[←hrb1,←hta1]
   refine Stop.mk ?_
   refine q4H (σ:=GS×DP×BG×BM×Thr) (2 ^ 199-2 ^ 152) (fun _=> []) (fun y=>thB y.2.2.1.xb 174 (y.2.2.1.pre y.2.2.2.1) (y.2.2.1.post y.2.2.2.1 false) y.2.2.2.1.t::(y.2.1.O c ps.length y.1++(ChB b3 t 0 aa ad.length ac::q))) (TxE W0 Kp g1 c ps s t th ph ad e' out x1.xb) rfl ?_ ?_
   ·by_cases ho:out=1
    ·subst ho
     rw[if_pos rfl] at htx
     have htS1:t<g1.S.length:=by
      have h1:=congrArg List.length hk1.ol
      rw[List.length_map] at h1
      have h2:(s.ev [⟨s.n,t,3,0,[],[]⟩]).O.length=s.O.length:=rfl
      omega
     obtain⟨xo,hxo1⟩:∃xo,g1.S[t]? =some xo:=⟨_,List.getElem?_eq_getElem htS1⟩
     have hxm1:=List.mem_of_getElem? hxo1
     have hB:=hk1.os xo hxm1
     have hxl:xo.l.length≤500000:=hT.ob xo.l (by have:=List.mem_map_of_mem (f:=ObS.l) hxm1;rw[hk1.ol] at this;exact this)
     have hOO:=hk1.o
     have hOR:=hOO.rd (W0:=W0)
     have hTR1:=hk1.t.rd (W0:=W0)
     have hoR:=hok.o.rd (W0:=W0)
     have hbo:=hbi.ol
     have hb64:b1.t.pc≤100:=by omega
     dsimp only[DP.O]
     rw[q3k hxo1]
     repeat'((try(conv=>whnf));first|(refine fE ?_)|(refine qio b1.t.rg hk1.t hth ?_ ?_ ?_ ?_;(exact rfl);omega;(exact rfl);intro D1 hb1)|(refine qiO hB hoR rfl rfl (by omega) (fun _ _=>rfl) (fun _=>by omega) (fun a5 c5 D5 hb5=> ?_))|(apply q5Q (enc:=ObS.enc) (T:=124) (j:=t) (k:=0) ⟨a5,c5,xo.l++b1.o,D5⟩ hOO hxo1;(exact rfl);(omega);(simp only[ObS.enc,List.length_append];exact rfl);(exact rfl);intro D6 hb6)|((with_reducible show Ld _ _ _ _);first|(refine q1M hOR hxo1 rfl ?_))|((with_reducible show IxS _ _ _ _ _);first|((refine ixE hOR hxo1 ?_ ?_;(first|rfl|omega))))|(refine fA ?_)|(refine fQ ?_)|(refine fN ?_)|(refine q4T.mk ?_ ?_))
     all_goals
      have ho:=hk1.obs hxo1 hb5 hb6
      refine⟨({(s.ev [⟨s.n,t,3,0,[],[]⟩]) with d:=b1.d,tk:=b1.tk,T:=s.T.set t {th with rg:=b1.t.rg},O:=s.O.set t (s.O.getD t []++b1.o)},{g1 with da:=x1.da,dc:=x1.dc,dD:=x1.dD,ka:=x1.ka,kc:=x1.kc,kD:=x1.kD,tD:=D1,oD:=D6,S:=g1.S.set t ⟨a5,c5,xo.l++b1.o,D5⟩,X:=x1.rD++(x1.wD++g1.X)},x1,b1,{th with rg:=b1.t.rg}),
       ⟨⟨hok.d,hok.m,hk1.k,hk1.kp,hb1,hk1.e,hk1.em,fun e he=>⟨(hk1.ev e he).1.up,(hk1.ev e he).2.up⟩,ho.o,ho.os,ho.ol⟩,rfl,rfl,rfl,List.getElem?_set_self htl,by simpa using htO,fun l hl=>qjA hT.ob (a:=b1.o) (by omega) l hl,by have:=hT.el;simp only[GS.ev,List.length_append,List.length_cons,List.length_nil];omega,rfl,(hok.r.rd (W0:=W0)).up,(hok.w.rd (W0:=W0)).up,?_⟩,trivial,?_⟩
      ·rw[htx]
       dsimp only[BM.go]
       simp only[exS,GS.fin,GS.ev,GS.mem,List.set_set,qi2 htO,List.append_assoc,List.cons_append,List.nil_append]
      ·dsimp only[DP.O,DP.cells,GS.ev]
       rw[qbr hxo1]
       simp only[List.length_set]
       exact qpp
    ·rw[if_neg ho] at htx
     repeat'((try(conv=>whnf));first|(refine fG ?_)|(refine qqY (t:=b1.t) (pre:=x1.pre b1) (post:=x1.post b1 false) (({x1 with wa:=none,wc:=0}:BG).post ({b1 with w:= []}:BM) false) rfl rfl ?_ ?_;(simp)))
     all_goals
      refine⟨(s.ev [⟨s.n,t,3,0,[],[]⟩],{g1 with X:=x1.rD++g1.X},{x1 with wa:=none,wc:=0},{b1 with w:= []},th),
       ⟨⟨hk1.d,hk1.m,hk1.k,hk1.kp,hk1.t,hk1.e,hk1.em,fun e he=>⟨(hk1.ev e he).1.up,(hk1.ev e he).2.up⟩,hk1.o,hk1.os,hk1.ol⟩,rfl,rfl,rfl,hth,htO,fun l hl=>by have:=hT.ob l hl;omega,by have:=hT.el;simp only[GS.ev,List.length_append,List.length_cons,List.length_nil];omega,rfl,(hok.r.rd (W0:=W0)).up,RdE.nil,?_⟩,trivial,qpq⟩
      rw[htx]
      dsimp only[BM.go]
      simp only[exS,GS.fin,GS.ev,List.set_set,List.append_assoc,List.cons_append,List.nil_append]
   ·rintro⟨s2,g2,x2,b2,th2⟩ junk ⟨hk2,hrb2,hta2,hxb2,hth2,htO2,hob2,hel2,hn2,hr2,hw2,htx2⟩
    dsimp only at hk2 hrb2 hta2 hxb2 hth2 htO2 hob2 hel2 hn2 hr2 hw2 htx2 ⊢
    rw[←hrb2,←hta2,←hxb2]
    have htl2:=(List.getElem?_eq_some_iff.1 hth2).1
    have hev2:=qmA (c:=c) hk2 t 4 0 (rc:=x2.rc) (wc:=x2.wc) hr2 hw2 (by omega) ([thB x2.xb 174 (x2.pre b2) (x2.post b2 false) b2.t]++(ChB b3 t 0 aa ad.length ac::q))
    repeat'((try(conv=>whnf));first|((with_reducible show qf _ _ _ _ _ _);first|((refine qm hev2 ?_ ?_ ?_ (fun g3 v hg3=> ?_);(exact qps);(exact rfl);(exact rfl);(apply Stop.h))))|(refine fA ?_))
    obtain⟨hk3,hg3⟩:=hg3
    have hrb3:g3.rb=g2.rb:=by rw[hg3]
    have hta3:g3.ta=g2.ta:=by rw[hg3]
    rw[←hrb3,←hta3]
    have hT3:=hk3.t
    have hth4:(s2.T.set t {th2 with oc:=out})[t]? =some {th2 with oc:=out}:=List.getElem?_set_self htl2
    have htS3:t<g3.S.length:=by
     have h1:=congrArg List.length hk3.ol
     rw[List.length_map] at h1
     have h2:(s2.ev [⟨s2.n,t,4,0,b2.r,b2.w⟩]).O.length=s2.O.length:=rfl
     omega
    have hse:=fun(D2:Own) (hb2:qr Thr.enc 61 11 g3.ta g3.tc ((s2.T.set t {th2 with oc:=out}).set t {th2 with oc:=out,pc:=e'+1}) D2)=>
     qmO (c:=c) (g:={g3 with tD:=D2}) (s:={(s2.ev [⟨s2.n,t,4,0,b2.r,b2.w⟩]) with T:=(s2.T.set t {th2 with oc:=out}).set t {th2 with oc:=out,pc:=e'+1}}) (ps:=ps) (W0:=W0) (Kp:=Kp) ⟨hk3.d,hk3.m,hk3.k,hk3.kp,hb2,hk3.e,hk3.em,hk3.ev,hk3.o,hk3.os,hk3.ol⟩ htS3 hob2 th.pc 3 out ([thB x2.xb 174 (x2.pre b2) (x2.post b2 false) b2.t]++(ChB b3 t 0 aa ad.length ac::q))
    refine Stop.mk ?_
    repeat'((try(conv=>whnf));first|(apply q5Q (enc:=Thr.enc) (T:=61) (j:=t) (k:=9) {th2 with oc:=out} hT3 hth2;(exact rfl);(omega);(exact rfl);(exact rfl);intro D1 hb1)|(apply q5Q (enc:=Thr.enc) (T:=61) (j:=t) (k:=0) {th2 with oc:=out,pc:=e'+1} hb1 hth4;(exact rfl);(omega);(exact rfl);(exact rfl);intro D2 hb2)|((with_reducible show qf _ _ _ _ _ _);first|((refine qm (hse D2 hb2) ?_ ?_ ?_ (fun g4 v hg4=> ?_);(dsimp only[DP.O,DP.cells,GS.ev];rw[List.length_set,List.length_set];exact(eC));(exact rfl);(exact rfl);(obtain⟨hk4,hg4, -⟩:=hg4))))|(refine fB ?_)|(refine fC ?_)|(refine fA ?_))
    refine .inr ⟨({(s2.ev [⟨s2.n,t,4,0,b2.r,b2.w⟩]) with T:=(s2.T.set t {th2 with oc:=out}).set t {th2 with oc:=out,pc:=e'+1},O:=s2.O.set t (s2.O.getD t []++ [⟨th.pc,3,out⟩])},g4,{th2 with oc:=out,pc:=e'+1}),⟨rfl,?_,htx2,hn2,hk4,by rw[hg4]⟩,qpr⟩
    show((s2.T.set t {th2 with oc:=out}).set t {th2 with oc:=out,pc:=e'+1})[t]? =_
    rw[List.getElem?_set_self (by rw[List.length_set];exact htl2)]
  ·have hl:(0:Int)<b1.ad.length:=by
    have:b1.ad.length≠0:=fun h=>had0 (List.eq_nil_of_length_eq_zero h)
    omega
   rw[if_pos (.inr had0)] at htx
   repeat'((try(conv=>whnf));first|(refine fH ?_)|(refine fI ?_)|(refine fD ?_)|(refine fF ?_)|(refine fK ?_)|(refine fA ?_))
   exact .inl ⟨⟨rfl,htx⟩,qou⟩
 ·subst hzn
  rw[if_pos (.inl rfl)] at htx
  repeat'((try(conv=>whnf));first|(refine fH ?_)|(refine fI ?_)|(refine fE ?_)|(refine fD ?_)|(refine fA ?_))
  exact .inl ⟨⟨rfl,htx⟩,qou⟩
end
end Go.Proofs.YtkieffpjjfebjaaGreatDoor
