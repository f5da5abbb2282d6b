/- What the laws share, part 8. No condition. -/
import Derived.Test.YtkieffpjjfebjaaGreatDoorW7
set_option maxHeartbeats 16000000
set_option maxRecDepth 10000
namespace Go.Proofs.YtkieffpjjfebjaaGreatDoor
open Go
theorem qmJ{k:IntKind}{e z:Int}{K:Int→Prop}(h:k.wrap e=z)(hk:K z):q6t k e K:=arw (by rw[h];exact hk)
section
variable{W0:World}{Kp:Own}{g:DP}{c:Cfg}{ps:List PH}{s:GS}
theorem qoH{t:Nat}{th:Thr}{ph:PH}(hT:qk7 c ps s t th ph)(h:g.ok W0 Kp ps s){x:Ins}(hx:qv x=0)(hop:x.op=13)(hpc:th.pc<ph.p.length∧ph.p.length≤64){z:Nat}(hz:adr th.rg x.a x.imm=z)(hzo:c.words≤z)(aa:Option Addr)(al ac:Nat)(q:Own):
  q0E Tryz.prog W0 75 [.pointer (some ⟨g.rb,0,none⟩),chV t 0 aa al ac,x.v] (g.O c ps.length s++q) fun v own'=>∃g1:DP,
   (v= .bool true∧g1.ok W0 Kp ps {s with T:=s.T.set t {th with pc:=th.pc+1},O:=s.O.set t (s.O.getD t []++ [⟨th.pc,7,7⟩])}∧g1.rb=g.rb)∧Ent W0 own' (g1.O c ps.length {s with T:=s.T.set t {th with pc:=th.pc+1},O:=s.O.set t (s.O.getD t []++ [⟨th.pc,7,7⟩])}++q):=by
 refine qa qj q6 (by simp[q4]) ?_
 have hT0:=h.t
 have hTR:=hT0.rd (W0:=W0)
 have hD0:=h.d
 have hDR:=hD0.rd (W0:=W0)
 have hth:=hT.hth
 have htl:=(List.getElem?_eq_some_iff.1 hth).1
 obtain⟨ha,hb⟩:=qnO hx
 have ha':x.a.toNat<8:=by omega
 have hb':x.b.toNat<8:=by omega
 have ga:th.enc[1+x.a.toNat]? =some (.int .u64 (th.rg.get x.a.toNat)):=Thr.enc_get ha'
 have gb:th.enc[1+x.b.toNat]? =some (.int .u64 (th.rg.get x.b.toNat)):=Thr.enc_get hb'
 have hwd:=(q1R hT.c0).1
 unfold okW at hwd
 have hdl:=hT.dl
 have htS:t<g.S.length:=by
  have h1:=congrArg List.length h.ol
  rw[List.length_map] at h1
  have:=hT.tl
  omega
 have hob9:∀l∈s.O,l.length≤1000000:=fun l hl=>by have:=hT.ob l hl;omega
 have hel:=hT.el
 have hln:=fun own=>q8 (W0:=W0) (b:=ab g.ta) (o:=ao g.ta+t*11) (x:=x) (by simp[isL,hop]) own
 obtain⟨op,a,b',c',imm⟩:=x
 dsimp only[Ins.v] at*
 subst hop
 have hzw:IntKind.u64.wrap (th.rg.get a.toNat+IntKind.u64.wrap imm)=(z:Int):=hz
 have hse:=fun(b4 bk:Nat)=>qmz (c:=c) h htS hob9 th.pc 7 7 ([(bk,fun o=>o=Obj.cells #[.int .i64 13, .int .i64 a, .int .i64 b', .int .i64 c', .int .i64 imm] 69 (0,0)),(b4,fun o=>o=Obj.cells #[.int .i64 t, .int .i64 0, .slice aa al ac] 79 (0,0))]++q)
 repeat'((try(conv=>whnf));first|(refine fE ?_)|(refine fD ?_)|(apply qcU;(exact rfl);omega)|(refine ldE (k:=1+b'.toNat) (RdE.up hTR) hth ?_ gb ?_;omega)|(refine ldE (k:=1+a.toNat) (RdE.up hTR) hth ?_ ga ?_;omega)|(refine qmJ hzw ?_)|(refine fC ?_)|(refine arw (k:= .u64) ?_)|((with_reducible show Ld _ _ _ _);first|(refine q1M hTR hth rfl ?_))|((with_reducible show IxS _ _ _ _ _);first|((refine ixE hTR hth ?_ ?_;(first|rfl|omega))))|((with_reducible show qf _ _ _ _ _ _);first|((refine qh (hln _) ?_ ?_ ?_;(exact rfl);exact rfl))|(((apply Stop.h))))|(refine fP ?_)|(refine fA ?_)|(refine fL ?_)|(refine qc (fun bk hbk=> ?_)))
 rename_i b4 h4
 refine Stop.mk ?_
 repeat'((try(conv=>whnf));first|((with_reducible show qf _ _ _ _ _ _);first|((refine qm (hse b4 bk) qn2 ?_ ?_ (fun g1 v hv=> ?_);(exact rfl);(exact rfl);(apply Stop.h)))))
 obtain⟨hk1,hg1, -⟩:=hv
 have hta1:g1.ta=g.ta:=by rw[hg1]
 have hT1:=hk1.t
 have hR1:=hT1.rd (W0:=W0)
 rw[←hta1]
 refine Stop.mk ?_
 repeat'((try(conv=>whnf));first|(refine fD ?_)|(refine ldE (k:=0) (v:= .int .i64 th.pc) (RdE.up hR1) hth ?_ rfl ?_;omega)|(apply q5Q (enc:=Thr.enc) (T:=61) (j:=t) (k:=0) {th with pc:=th.pc+1} hT1 hth;(omega);(omega);(exact rfl);(exact rfl);intro D9 hb9)|(refine fB ?_)|(refine fA ?_))
 refine⟨{g1 with tD:=D9},⟨rfl,⟨hk1.d,hk1.m,hk1.k,hk1.kp,hb9,hk1.e,hk1.em,hk1.ev,hk1.o,hk1.os,hk1.ol⟩,by show g1.rb=g.rb;rw[hg1]⟩,?_⟩
 dsimp only[DP.O,DP.cells,GS.ev]
 rw[List.length_set]
 exact qn3
theorem qod{t:Nat}{th:Thr}{ph:PH}(hT:qk7 c ps s t th ph)(h:g.ok W0 Kp ps s){x:Ins}(hx:qv x=0)(hop:x.op=13)(hpc:th.pc<ph.p.length∧ph.p.length≤64){z:Nat}(hz:adr th.rg x.a x.imm=z)(hzi:(z:Int)<c.words)(hst:c.strong=true)(aa:Option Addr)(al ac:Nat)(q:Own):
  q0E Tryz.prog W0 75 [.pointer (some ⟨g.rb,0,none⟩),chV t 6 aa al ac,x.v] (g.O c ps.length s++q) fun v own'=>∃g1:DP,
   (v= .bool true∧g1.ok W0 Kp ps {s with T:=s.T.set t {th with pc:=th.pc+1},O:=s.O.set t (s.O.getD t []++ [⟨th.pc,7,6⟩])}∧g1.rb=g.rb)∧Ent W0 own' (g1.O c ps.length {s with T:=s.T.set t {th with pc:=th.pc+1},O:=s.O.set t (s.O.getD t []++ [⟨th.pc,7,6⟩])}++q):=by
 refine qa qj q6 (by simp[q4]) ?_
 have hT0:=h.t
 have hTR:=hT0.rd (W0:=W0)
 have hD0:=h.d
 have hDR:=hD0.rd (W0:=W0)
 have hth:=hT.hth
 have htl:=(List.getElem?_eq_some_iff.1 hth).1
 obtain⟨ha,hb⟩:=qnO hx
 have ha':x.a.toNat<8:=by omega
 have hb':x.b.toNat<8:=by omega
 have ga:th.enc[1+x.a.toNat]? =some (.int .u64 (th.rg.get x.a.toNat)):=Thr.enc_get ha'
 have gb:th.enc[1+x.b.toNat]? =some (.int .u64 (th.rg.get x.b.toNat)):=Thr.enc_get hb'
 have hwd:=(q1R hT.c0).1
 unfold okW at hwd
 have hdl:=hT.dl
 have htS:t<g.S.length:=by
  have h1:=congrArg List.length h.ol
  rw[List.length_map] at h1
  have:=hT.tl
  omega
 have hob9:∀l∈s.O,l.length≤1000000:=fun l hl=>by have:=hT.ob l hl;omega
 have hel:=hT.el
 have hln:=fun own=>q8 (W0:=W0) (b:=ab g.ta) (o:=ao g.ta+t*11) (x:=x) (by simp[isL,hop]) own
 obtain⟨op,a,b',c',imm⟩:=x
 dsimp only[Ins.v] at*
 subst hop
 have hzw:IntKind.u64.wrap (th.rg.get a.toNat+IntKind.u64.wrap imm)=(z:Int):=hz
 have hse:=fun(b4 bk:Nat)=>qmz (c:=c) h htS hob9 th.pc 7 6 ([(bk,fun o=>o=Obj.cells #[.int .i64 13, .int .i64 a, .int .i64 b', .int .i64 c', .int .i64 imm] 69 (0,0)),(b4,fun o=>o=Obj.cells #[.int .i64 t, .int .i64 6, .slice aa al ac] 79 (0,0))]++q)
 have hns:(!c.strong)=false:=by rw[hst];rfl
 repeat'((try(conv=>whnf));first|(refine fH ?_)|(refine fE ?_)|(apply qcV;(exact rfl);omega)|(refine q1P hns ?_)|(refine ldE (k:=1+b'.toNat) (RdE.up hTR) hth ?_ gb ?_;omega)|(refine ldE (k:=1+a.toNat) (RdE.up hTR) hth ?_ ga ?_;omega)|(refine qmJ hzw ?_)|(refine fC ?_)|(refine arw (k:= .u64) ?_)|((with_reducible show Ld _ _ _ _);first|(refine q1M hTR hth rfl ?_))|((with_reducible show IxS _ _ _ _ _);first|((refine ixE hTR hth ?_ ?_;(first|rfl|omega))))|((with_reducible show qf _ _ _ _ _ _);first|(((apply Stop.h))))|(refine fP ?_)|(refine fA ?_)|(refine qc (fun bk hbk=> ?_)))
 rename_i b4 h4
 refine Stop.mk ?_
 repeat'((try(conv=>whnf));first|((with_reducible show qf _ _ _ _ _ _);first|((refine qm (hse b4 bk) qn2 ?_ ?_ (fun g1 v hv=> ?_);(exact rfl);(exact rfl);(apply Stop.h)))))
 obtain⟨hk1,hg1, -⟩:=hv
 have hta1:g1.ta=g.ta:=by rw[hg1]
 have hT1:=hk1.t
 have hR1:=hT1.rd (W0:=W0)
 rw[←hta1]
 refine Stop.mk ?_
 repeat'((try(conv=>whnf));first|(refine ldE (k:=0) (v:= .int .i64 th.pc) (RdE.up hR1) hth ?_ rfl ?_;omega)|(apply q5Q (enc:=Thr.enc) (T:=61) (j:=t) (k:=0) {th with pc:=th.pc+1} hT1 hth;(omega);(omega);(exact rfl);(exact rfl);intro D9 hb9)|(refine fB ?_))
 refine⟨{g1 with tD:=D9},⟨rfl,⟨hk1.d,hk1.m,hk1.k,hk1.kp,hb9,hk1.e,hk1.em,hk1.ev,hk1.o,hk1.os,hk1.ol⟩,by show g1.rb=g.rb;rw[hg1]⟩,?_⟩
 dsimp only[DP.O,DP.cells,GS.ev]
 rw[List.length_set]
 exact qn3
theorem qoG{t:Nat}{th:Thr}{ph:PH}(hT:qk7 c ps s t th ph)(h:g.ok W0 Kp ps s){x:Ins}(hx:qv x=0)(hop:x.op=12)(hpc:th.pc<ph.p.length∧ph.p.length≤64){z:Nat}(hz:adr th.rg x.b x.imm=z)(hzo:c.words≤z)(aa:Option Addr)(al ac:Nat)(q:Own):
  q0E Tryz.prog W0 75 [.pointer (some ⟨g.rb,0,none⟩),chV t 0 aa al ac,x.v] (g.O c ps.length s++q) fun v own'=>∃g1:DP,
   (v= .bool true∧g1.ok W0 Kp ps {s with T:=s.T.set t {th with rg:=th.rg.set x.a.toNat 0,pc:=th.pc+1},O:=s.O.set t (s.O.getD t []++ [⟨th.pc,7,7⟩])}∧g1.rb=g.rb)∧Ent W0 own' (g1.O c ps.length {s with T:=s.T.set t {th with rg:=th.rg.set x.a.toNat 0,pc:=th.pc+1},O:=s.O.set t (s.O.getD t []++ [⟨th.pc,7,7⟩])}++q):=by
 refine qa qj q6 (by simp[q4]) ?_
 have hT0:=h.t
 have hTR:=hT0.rd (W0:=W0)
 have hD0:=h.d
 have hDR:=hD0.rd (W0:=W0)
 have hth:=hT.hth
 have htl:=(List.getElem?_eq_some_iff.1 hth).1
 obtain⟨ha,hb⟩:=qnO hx
 have ha':x.a.toNat<8:=by omega
 have hb':x.b.toNat<8:=by omega
 have ga:th.enc[1+x.a.toNat]? =some (.int .u64 (th.rg.get x.a.toNat)):=Thr.enc_get ha'
 have gb:th.enc[1+x.b.toNat]? =some (.int .u64 (th.rg.get x.b.toNat)):=Thr.enc_get hb'
 have hwd:=(q1R hT.c0).1
 unfold okW at hwd
 have hdl:=hT.dl
 have htS:t<g.S.length:=by
  have h1:=congrArg List.length h.ol
  rw[List.length_map] at h1
  have:=hT.tl
  omega
 have hob9:∀l∈s.O,l.length≤1000000:=fun l hl=>by have:=hT.ob l hl;omega
 have hel:=hT.el
 have hln:=fun own=>q8 (W0:=W0) (b:=ab g.ta) (o:=ao g.ta+t*11) (x:=x) (by simp[isL,hop]) own
 obtain⟨op,a,b',c',imm⟩:=x
 dsimp only[Ins.v] at*
 subst hop
 have hzw:IntKind.u64.wrap (th.rg.get b'.toNat+IntKind.u64.wrap imm)=(z:Int):=hz
 have hth2:(s.T.set t {th with rg:=th.rg.set a.toNat 0})[t]? =some {th with rg:=th.rg.set a.toNat 0}:=List.getElem?_set_self htl
 have hse:=fun(b4 bk:Nat)=>qmz (c:=c) h htS hob9 th.pc 7 7 ([(bk,fun o=>o=Obj.cells #[.int .i64 12, .int .i64 a, .int .i64 b', .int .i64 c', .int .i64 imm] 69 (0,0)),(b4,fun o=>o=Obj.cells #[.int .i64 t, .int .i64 0, .slice aa al ac] 79 (0,0))]++q)
 repeat'((try(conv=>whnf));first|(refine fD ?_)|(apply qcU;(exact rfl);omega)|(refine ldE (k:=1+b'.toNat) (RdE.up hTR) hth ?_ gb ?_;omega)|(refine qmJ hzw ?_)|(refine fC ?_)|(refine arw (k:= .u64) ?_)|((with_reducible show Ld _ _ _ _);first|(refine q1M hTR hth rfl ?_))|((with_reducible show IxS _ _ _ _ _);first|((refine ixE hTR hth ?_ ?_;(first|rfl|omega))))|((with_reducible show qf _ _ _ _ _ _);first|((refine qh (hln _) ?_ ?_ ?_;(exact rfl);exact rfl))|(((apply Stop.h))))|(refine fP ?_)|(refine fA ?_)|(refine fL ?_)|(refine qc (fun bk hbk=> ?_)))
 rename_i b4 h4
 refine Stop.mk ?_
 repeat'((try(conv=>whnf));first|((with_reducible show qf _ _ _ _ _ _);first|((refine qm (hse b4 bk) qn2 ?_ ?_ (fun g1 v hv=> ?_);(exact rfl);(exact rfl);(apply Stop.h)))))
 obtain⟨hk1,hg1, -⟩:=hv
 have hta1:g1.ta=g.ta:=by rw[hg1]
 have hT1:=hk1.t
 have hR1:=hT1.rd (W0:=W0)
 rw[←hta1]
 refine Stop.mk ?_
 repeat'((try(conv=>whnf));first|(refine fE ?_)|(refine ldE (k:=0) (v:= .int .i64 th.pc) (RdE.up (hb8.rd (W0:=W0))) hth2 ?_ rfl ?_;omega)|(apply q5Q (enc:=Thr.enc) (T:=61) (j:=t) (k:=0) {th with rg:=th.rg.set a.toNat 0,pc:=th.pc+1} hb8 hth2;(omega);(omega);(exact rfl);(exact rfl);intro D9 hb9)|(apply q5Q (enc:=Thr.enc) (T:=61) (j:=t) (k:=1+a.toNat) {th with rg:=th.rg.set a.toNat 0} hT1 hth;(omega);(omega);(exact(Thr.enc_set ha').symm);(exact rfl);intro D8 hb8)|(refine fB ?_)|(refine fP ?_)|(refine fA ?_))
 rw[List.set_set] at hb9
 refine⟨{g1 with tD:=D9},⟨rfl,⟨hk1.d,hk1.m,hk1.k,hk1.kp,hb9,hk1.e,hk1.em,hk1.ev,hk1.o,hk1.os,hk1.ol⟩,by show g1.rb=g.rb;rw[hg1]⟩,?_⟩
 dsimp only[DP.O,DP.cells]
 rw[List.length_set]
 exact qn3
theorem qpa{t:Nat}{th:Thr}{ph:PH}(hT:qk7 c ps s t th ph)(h:g.ok W0 Kp ps s){x:Ins}(hx:qv x=0)(hop:x.op=12)(hpc:th.pc<ph.p.length∧ph.p.length≤64){z:Nat}(hz:adr th.rg x.b x.imm=z)(hzi:(z:Int)<c.words)(aa:Option Addr)(al ac:Nat)(q:Own):
  q0E Tryz.prog W0 75 [.pointer (some ⟨g.rb,0,none⟩),chV t 0 aa al ac,x.v] (g.O c ps.length s++q) fun v own'=>∃g1:DP,
   (v= .bool true∧g1.ok W0 Kp ps {s with T:=s.T.set t {th with rg:=th.rg.set x.a.toNat (s.d.getD z 0),pc:=th.pc+1},O:=s.O.set t (s.O.getD t []++ [⟨th.pc,4,s.d.getD z 0⟩]),E:=s.E++plE c s.n t 1 z}∧g1.rb=g.rb)∧Ent W0 own' (g1.O c ps.length {s with T:=s.T.set t {th with rg:=th.rg.set x.a.toNat (s.d.getD z 0),pc:=th.pc+1},O:=s.O.set t (s.O.getD t []++ [⟨th.pc,4,s.d.getD z 0⟩]),E:=s.E++plE c s.n t 1 z}++q):=by
 refine qa qj q6 (by simp[q4]) ?_
 have hT0:=h.t
 have hTR:=hT0.rd (W0:=W0)
 have hD0:=h.d
 have hDR:=hD0.rd (W0:=W0)
 have hth:=hT.hth
 have htl:=(List.getElem?_eq_some_iff.1 hth).1
 obtain⟨ha,hb⟩:=qnO hx
 have ha':x.a.toNat<8:=by omega
 have hb':x.b.toNat<8:=by omega
 have ga:th.enc[1+x.a.toNat]? =some (.int .u64 (th.rg.get x.a.toNat)):=Thr.enc_get ha'
 have gb:th.enc[1+x.b.toNat]? =some (.int .u64 (th.rg.get x.b.toNat)):=Thr.enc_get hb'
 have hwd:=(q1R hT.c0).1
 unfold okW at hwd
 have hdl:=hT.dl
 have htS:t<g.S.length:=by
  have h1:=congrArg List.length h.ol
  rw[List.length_map] at h1
  have:=hT.tl
  omega
 have hob9:∀l∈s.O,l.length≤1000000:=fun l hl=>by have:=hT.ob l hl;omega
 have hel:=hT.el
 have hln:=fun own=>q8 (W0:=W0) (b:=ab g.ta) (o:=ao g.ta+t*11) (x:=x) (by simp[isL,hop]) own
 obtain⟨op,a,b',c',imm⟩:=x
 dsimp only[Ins.v] at*
 subst hop
 have hzw:IntKind.u64.wrap (th.rg.get b'.toNat+IntKind.u64.wrap imm)=(z:Int):=hz
 obtain⟨dz,hdz⟩:∃dz,s.d[z]? =some dz:=⟨_,List.getElem?_eq_getElem (by omega)⟩
 have hdd:s.d.getD z 0=dz:=by rw[List.getD_eq_getElem?_getD,hdz];rfl
 rw[hdd]
 have hth2:(s.T.set t {th with rg:=th.rg.set a.toNat dz})[t]? =some {th with rg:=th.rg.set a.toNat dz}:=List.getElem?_set_self htl
 have hse:=fun(D8:Own) (hb8:qr Thr.enc 61 11 g.ta g.tc (s.T.set t {th with rg:=th.rg.set a.toNat dz}) D8) (b4 bk:Nat)=>qmz (c:=c) (g:={g with tD:=D8}) (s:={s with T:=s.T.set t {th with rg:=th.rg.set a.toNat dz}}) ⟨h.d,h.m,h.k,h.kp,hb8,h.e,h.em,h.ev,h.o,h.os,h.ol⟩ htS hob9 th.pc 4 dz ([(bk,fun o=>o=Obj.cells #[.int .i64 12, .int .i64 a, .int .i64 b', .int .i64 c', .int .i64 imm] 69 (0,0)),(b4,fun o=>o=Obj.cells #[.int .i64 t, .int .i64 0, .slice aa al ac] 79 (0,0))]++q)
 repeat'((try(conv=>whnf));first|(refine fE ?_)|(refine fD ?_)|(apply qcV;(exact rfl);omega)|(refine ldE (k:=1+b'.toNat) (RdE.up hTR) hth ?_ gb ?_;omega)|(refine qmJ hzw ?_)|(refine fC ?_)|(refine arw (k:= .u64) ?_)|(apply q5Q (enc:=Thr.enc) (T:=61) (j:=t) (k:=1+a.toNat) {th with rg:=th.rg.set a.toNat dz} hT0 hth;(omega);(omega);(exact(Thr.enc_set ha').symm);(exact rfl);intro D8 hb8)|(refine ldE (k:=0) (v:= .int .i64 th.pc) (RdE.up (hb8.rd (W0:=W0))) hth2 ?_ rfl ?_;omega)|((with_reducible show Ld _ _ _ _);first|(refine q1M hDR hdz rfl ?_))|((with_reducible show IxS _ _ _ _ _);first|((refine ixE hDR hdz ?_ ?_;(first|rfl|omega)))|((refine ixE hTR hth ?_ ?_;(first|rfl|omega))))|((with_reducible show qf _ _ _ _ _ _);first|((refine qh (hln _) ?_ ?_ ?_;(exact rfl);exact rfl))|(((apply Stop.h))))|(refine fP ?_)|(refine fA ?_)|(refine fL ?_)|(refine qc (fun bk hbk=> ?_)))
 rename_i b4 h4
 refine Stop.mk ?_
 repeat'((try(conv=>whnf));first|((with_reducible show qf _ _ _ _ _ _);first|((refine qm (hse D8 hb8 b4 bk) ?_ ?_ ?_ (fun g1 v hv=> ?_);(dsimp only[DP.O,DP.cells];rw[List.length_set];exact qn2);(exact rfl);(exact rfl);(apply Stop.h)))))
 obtain⟨hk1,hg1, -⟩:=hv
 have hrb1:g1.rb=g.rb:=by rw[hg1]
 have hpl:=fun(b4 bk:Nat)=>qnH (c:=c) hk1 (by show s.E.length≤_;omega) t z (k:=1) (.inl rfl) ([(bk,fun o=>o=Obj.cells #[.int .i64 12, .int .i64 a, .int .i64 b', .int .i64 c', .int .i64 imm] 69 (0,0)),(b4,fun o=>o=Obj.cells #[.int .i64 t, .int .i64 0, .slice aa al ac] 79 (0,0))]++q)
 rw[←hrb1]
 refine Stop.mk ?_
 repeat'((try(conv=>whnf));first|((with_reducible show qf _ _ _ _ _ _);first|((refine qm (hpl b4 bk) Ent.refl ?_ ?_ (fun g2 v hv=> ?_);(exact rfl);(exact rfl);(apply Stop.h))))|(refine fB ?_)|(refine fA ?_))
 obtain⟨hk2,hg2⟩:=hv
 have hta2:g2.ta=g.ta:=by rw[hg2,hg1]
 have hT2:=hk2.t
 have hR2:=hT2.rd (W0:=W0)
 rw[←hta2]
 refine Stop.mk ?_
 repeat'((try(conv=>whnf));first|(refine ldE (k:=0) (v:= .int .i64 th.pc) (RdE.up hR2) hth2 ?_ rfl ?_;omega)|(apply q5Q (enc:=Thr.enc) (T:=61) (j:=t) (k:=0) {th with rg:=th.rg.set a.toNat dz,pc:=th.pc+1} hT2 hth2;(omega);(omega);(exact rfl);(exact rfl);intro D9 hb9)|(refine fB ?_))
 dsimp only[GS.ev] at hb9
 rw[List.set_set] at hb9
 refine⟨{g2 with tD:=D9},⟨rfl,⟨hk2.d,hk2.m,hk2.k,hk2.kp,hb9,hk2.e,hk2.em,hk2.ev,hk2.o,hk2.os,hk2.ol⟩,by show g2.rb=g1.rb;rw[hg2]⟩,?_⟩
 dsimp only[DP.O,DP.cells,GS.ev]
 simp only[List.length_set]
 exact qn3
theorem qpb{t:Nat}{th:Thr}{ph:PH}(hT:qk7 c ps s t th ph)(h:g.ok W0 Kp ps s){x:Ins}(hx:qv x=0)(hop:x.op=13)(hpc:th.pc<ph.p.length∧ph.p.length≤64){z:Nat}(hz:adr th.rg x.a x.imm=z)(hzi:(z:Int)<c.words)(aa:Option Addr)(al ac:Nat)(q:Own):
  q0E Tryz.prog W0 75 [.pointer (some ⟨g.rb,0,none⟩),chV t 0 aa al ac,x.v] (g.O c ps.length s++q) fun v own'=>∃g1:DP,
   (v= .bool true∧g1.ok W0 Kp ps {s with d:=s.d.set z (th.rg.get x.b.toNat),T:=s.T.set t {th with pc:=th.pc+1},O:=s.O.set t (s.O.getD t []++ [⟨th.pc,5,th.rg.get x.b.toNat⟩]),E:=s.E++plE c s.n t 2 z}∧g1.rb=g.rb)∧Ent W0 own' (g1.O c ps.length {s with d:=s.d.set z (th.rg.get x.b.toNat),T:=s.T.set t {th with pc:=th.pc+1},O:=s.O.set t (s.O.getD t []++ [⟨th.pc,5,th.rg.get x.b.toNat⟩]),E:=s.E++plE c s.n t 2 z}++q):=by
 refine qa qj q6 (by simp[q4]) ?_
 have hT0:=h.t
 have hTR:=hT0.rd (W0:=W0)
 have hD0:=h.d
 have hDR:=hD0.rd (W0:=W0)
 have hth:=hT.hth
 have htl:=(List.getElem?_eq_some_iff.1 hth).1
 obtain⟨ha,hb⟩:=qnO hx
 have ha':x.a.toNat<8:=by omega
 have hb':x.b.toNat<8:=by omega
 have ga:th.enc[1+x.a.toNat]? =some (.int .u64 (th.rg.get x.a.toNat)):=Thr.enc_get ha'
 have gb:th.enc[1+x.b.toNat]? =some (.int .u64 (th.rg.get x.b.toNat)):=Thr.enc_get hb'
 have hwd:=(q1R hT.c0).1
 unfold okW at hwd
 have hdl:=hT.dl
 have htS:t<g.S.length:=by
  have h1:=congrArg List.length h.ol
  rw[List.length_map] at h1
  have:=hT.tl
  omega
 have hob9:∀l∈s.O,l.length≤1000000:=fun l hl=>by have:=hT.ob l hl;omega
 have hel:=hT.el
 have hln:=fun own=>q8 (W0:=W0) (b:=ab g.ta) (o:=ao g.ta+t*11) (x:=x) (by simp[isL,hop]) own
 obtain⟨op,a,b',c',imm⟩:=x
 dsimp only[Ins.v] at*
 subst hop
 have hzw:IntKind.u64.wrap (th.rg.get a.toNat+IntKind.u64.wrap imm)=(z:Int):=hz
 obtain⟨dz,hdz⟩:∃dz,s.d[z]? =some dz:=⟨_,List.getElem?_eq_getElem (by omega)⟩
 have hse:=fun(D7:Own) (hb7:qr q7j 58 1 g.da g.dc (s.d.set z (th.rg.get b'.toNat)) D7) (b4 bk:Nat)=>qmz (c:=c) (g:={g with dD:=D7}) (s:={s with d:=s.d.set z (th.rg.get b'.toNat)}) ⟨hb7,h.m,h.k,h.kp,h.t,h.e,h.em,h.ev,h.o,h.os,h.ol⟩ htS hob9 th.pc 5 (th.rg.get b'.toNat) ([(bk,fun o=>o=Obj.cells #[.int .i64 13, .int .i64 a, .int .i64 b', .int .i64 c', .int .i64 imm] 69 (0,0)),(b4,fun o=>o=Obj.cells #[.int .i64 t, .int .i64 0, .slice aa al ac] 79 (0,0))]++q)
 repeat'((try(conv=>whnf));first|(refine fE ?_)|(refine fD ?_)|(apply qcV;(exact rfl);omega)|(refine ldE (k:=1+b'.toNat) (RdE.up hTR) hth ?_ gb ?_;omega)|(refine ldE (k:=1+a.toNat) (RdE.up hTR) hth ?_ ga ?_;omega)|(refine qmJ hzw ?_)|(refine fC ?_)|(refine arw (k:= .u64) ?_)|(apply q5Q (enc:=q7j) (T:=58) (j:=z) (k:=0) (th.rg.get b'.toNat) hD0 hdz;(omega);(omega);(exact rfl);(exact rfl);intro D7 hb7)|((with_reducible show Ld _ _ _ _);first|(refine q1M hTR hth rfl ?_))|((with_reducible show IxS _ _ _ _ _);first|((refine ixE hDR hdz ?_ ?_;(first|rfl|omega)))|((refine ixE hTR hth ?_ ?_;(first|rfl|omega))))|((with_reducible show qf _ _ _ _ _ _);first|((refine qh (hln _) ?_ ?_ ?_;(exact rfl);exact rfl))|(((apply Stop.h))))|(refine fP ?_)|(refine fA ?_)|(refine fL ?_)|(refine qc (fun bk hbk=> ?_)))
 rename_i b4 h4
 refine Stop.mk ?_
 repeat'((try(conv=>whnf));first|((with_reducible show qf _ _ _ _ _ _);first|((refine qm (hse D7 hb7 b4 bk) ?_ ?_ ?_ (fun g1 v hv=> ?_);(dsimp only[DP.O,DP.cells];rw[List.length_set];exact qn2);(exact rfl);(exact rfl);(apply Stop.h)))))
 obtain⟨hk1,hg1, -⟩:=hv
 have hrb1:g1.rb=g.rb:=by rw[hg1]
 have hpl:=fun(b4 bk:Nat)=>qnH (c:=c) hk1 (by show s.E.length≤_;omega) t z (k:=2) (.inr rfl) ([(bk,fun o=>o=Obj.cells #[.int .i64 13, .int .i64 a, .int .i64 b', .int .i64 c', .int .i64 imm] 69 (0,0)),(b4,fun o=>o=Obj.cells #[.int .i64 t, .int .i64 0, .slice aa al ac] 79 (0,0))]++q)
 rw[←hrb1]
 refine Stop.mk ?_
 repeat'((try(conv=>whnf));first|((with_reducible show qf _ _ _ _ _ _);first|((refine qm (hpl b4 bk) Ent.refl ?_ ?_ (fun g2 v hv=> ?_);(exact rfl);(exact rfl);(apply Stop.h))))|(refine fB ?_)|(refine fA ?_))
 obtain⟨hk2,hg2⟩:=hv
 have hta2:g2.ta=g.ta:=by rw[hg2,hg1]
 have hT2:=hk2.t
 have hR2:=hT2.rd (W0:=W0)
 rw[←hta2]
 refine Stop.mk ?_
 repeat'((try(conv=>whnf));first|(refine ldE (k:=0) (v:= .int .i64 th.pc) (RdE.up hR2) hth ?_ rfl ?_;omega)|(apply q5Q (enc:=Thr.enc) (T:=61) (j:=t) (k:=0) {th with pc:=th.pc+1} hT2 hth;(omega);(omega);(exact rfl);(exact rfl);intro D9 hb9)|(refine fB ?_))
 dsimp only[GS.ev] at hb9
 refine⟨{g2 with tD:=D9},⟨rfl,⟨hk2.d,hk2.m,hk2.k,hk2.kp,hb9,hk2.e,hk2.em,hk2.ev,hk2.o,hk2.os,hk2.ol⟩,by show g2.rb=g1.rb;rw[hg2]⟩,?_⟩
 dsimp only[DP.O,DP.cells,GS.ev]
 simp only[List.length_set]
 exact qn3
end
open Go
section
variable{W0:World}{Kp:Own}{g:DP}{c:Cfg}{ps:List PH}{s:GS}
theorem qql{t:Nat}{th:Thr}{ph:PH}(hT:qk7 c ps s t th ph)(h:g.ok W0 Kp ps s){x:Ins}(hx:qv x=0){f:Int}(hf:f≠0)(hno:¬(f=6∧c.strong=true∧x.op=13∧adr th.rg x.a x.imm<c.words))(aa:Option Addr)(al ac:Nat)(q:Own):
  qD Tryz.prog W0 75 [.pointer (some ⟨g.rb,0,none⟩),chV t f aa al ac,x.v] (g.O c ps.length s++q) (.bool false):=by
 refine qe (qa qj q6 (by simp[q4]) ?_)
 have hT0:=h.t
 have hTR:=hT0.rd (W0:=W0)
 have hth:=hT.hth
 obtain⟨ha,hb⟩:=qnO hx
 have ha':x.a.toNat<8:=by omega
 have hb':x.b.toNat<8:=by omega
 have ga:th.enc[1+x.a.toNat]? =some (.int .u64 (th.rg.get x.a.toNat)):=Thr.enc_get ha'
 have gb:th.enc[1+x.b.toNat]? =some (.int .u64 (th.rg.get x.b.toNat)):=Thr.enc_get hb'
 have hwd:=(q1R hT.c0).1
 unfold okW at hwd
 have hz0:=(q9l (r:=th.rg) (b:=x.a) (imm:=x.imm)).1
 obtain⟨z,hz⟩:=Int.eq_ofNat_of_zero_le hz0
 rw[hz] at hno
 obtain⟨op,a,b',c',imm⟩:=x
 dsimp only[Ins.v] at*
 have hzw:IntKind.u64.wrap (th.rg.get a.toNat+IntKind.u64.wrap imm)=(z:Int):=hz
 by_cases h13:op=13
 ·subst h13
  have e13:¬(13:Int)≠13:=fun h=>h rfl
  by_cases h6:f=6
  ·subst h6
   have e6:¬(6:Int)≠6:=fun h=>h rfl
   cases hs:c.strong with
   |false=>
    have hns:(!c.strong)=true:=by rw[hs];rfl
    repeat'((try(conv=>whnf));first|(refine fH ?_)|(refine fI ?_)|(refine fE ?_)|(refine qes hns ?_)|(refine ldE (k:=1+b'.toNat) (RdE.up hTR) hth ?_ gb ?_;omega)|(refine ldE (k:=1+a.toNat) (RdE.up hTR) hth ?_ ga ?_;omega)|(refine qmJ hzw ?_)|(refine fC ?_)|(refine arw (k:= .u64) ?_)|((with_reducible show IxS _ _ _ _ _);first|((refine ixE hTR hth ?_ ?_;(first|rfl|omega))))|(refine fP ?_)|(refine fA ?_)|(refine qc (fun bk hbk=> ?_)))
    all_goals exact⟨rfl,(eC)⟩
   |true=>
    have hns:(!c.strong)=false:=by rw[hs];rfl
    have hzo:¬(z:Int)<c.words:=fun h=>hno ⟨rfl,hs,rfl,h⟩
    repeat'((try(conv=>whnf));first|(refine fH ?_)|(refine fE ?_)|(apply qcU;(exact rfl);omega)|(refine q1P hns ?_)|(refine ldE (k:=1+b'.toNat) (RdE.up hTR) hth ?_ gb ?_;omega)|(refine ldE (k:=1+a.toNat) (RdE.up hTR) hth ?_ ga ?_;omega)|(refine qmJ hzw ?_)|(refine fC ?_)|(refine arw (k:= .u64) ?_)|((with_reducible show IxS _ _ _ _ _);first|((refine ixE hTR hth ?_ ?_;(first|rfl|omega))))|(refine fP ?_)|(refine fA ?_)|(refine qc (fun bk hbk=> ?_)))
    all_goals exact⟨rfl,(eC)⟩
  ·repeat'((try(conv=>whnf));first|(refine fI ?_)|(refine fE ?_)|(refine fF ?_)|(refine fJ ?_)|(refine ldE (k:=1+b'.toNat) (RdE.up hTR) hth ?_ gb ?_;omega)|(refine ldE (k:=1+a.toNat) (RdE.up hTR) hth ?_ ga ?_;omega)|(refine qmJ hzw ?_)|(refine fC ?_)|(refine arw (k:= .u64) ?_)|((with_reducible show IxS _ _ _ _ _);first|((refine ixE hTR hth ?_ ?_;(first|rfl|omega))))|(refine fP ?_)|(refine fA ?_)|(refine qc (fun bk hbk=> ?_)))
   all_goals exact⟨rfl,(eC)⟩
 ·by_cases h6:f=6
  ·subst h6
   have e6:¬(6:Int)≠6:=fun h=>h rfl
   repeat'((try(conv=>whnf));first|(refine fH ?_)|(refine fI ?_)|(refine fE ?_)|(refine fG ?_)|(refine fJ ?_)|(refine ldE (k:=1+b'.toNat) (RdE.up hTR) hth ?_ gb ?_;omega)|(refine fC ?_)|(refine arw (k:= .u64) ?_)|((with_reducible show IxS _ _ _ _ _);first|((refine ixE hTR hth ?_ ?_;(first|rfl|omega))))|(refine fP ?_)|(refine fA ?_)|(refine qc (fun bk hbk=> ?_)))
   all_goals exact⟨rfl,(eC)⟩
  ·repeat'((try(conv=>whnf));first|(refine fI ?_)|(refine fE ?_)|(refine fF ?_)|(refine fG ?_)|(refine fJ ?_)|(refine ldE (k:=1+b'.toNat) (RdE.up hTR) hth ?_ gb ?_;omega)|(refine fC ?_)|(refine arw (k:= .u64) ?_)|((with_reducible show IxS _ _ _ _ _);first|((refine ixE hTR hth ?_ ?_;(first|rfl|omega))))|(refine fP ?_)|(refine fA ?_)|(refine qc (fun bk hbk=> ?_)))
   all_goals exact⟨rfl,(eC)⟩
theorem qpy{t:Nat}{th:Thr}{ph:PH}(hT:qk7 c ps s t th ph)(h:g.ok W0 Kp ps s){x:Ins}(hx:qv x=0)(hl:isL x=true)(hpc:th.pc<ph.p.length∧ph.p.length≤64)(aa:Option Addr)(al ac:Nat)(q:Own):
  q0E Tryz.prog W0 75 [.pointer (some ⟨g.rb,0,none⟩),chV t 0 aa al ac,x.v] (g.O c ps.length s++q) fun v own'=>∃g1:DP,
   (v= .bool true∧g1.ok W0 Kp ps {s with T:=s.T.set t (q6a th x)}∧g1.rb=g.rb)∧Ent W0 own' (g1.O c ps.length {s with T:=s.T.set t (q6a th x)}++q):=by
 refine qa qj q6 (by simp[q4]) ?_
 have hT0:=h.t
 have hTR:=hT0.rd (W0:=W0)
 have hth:=hT.hth
 obtain⟨ha,hb⟩:=qnO hx
 have hb':x.b.toNat<8:=by omega
 have gb:th.enc[1+x.b.toNat]? =some (.int .u64 (th.rg.get x.b.toNat)):=Thr.enc_get hb'
 have hwd:=(q1R hT.c0).1
 unfold okW at hwd
 have h13:x.op≠13:=fun e=>by simp[isL,e] at hl
 have hls:=fun E=>qoe (c:=c) h hth hx hl hT.rg (by omega) (E++q)
 obtain⟨op,a,b',c',imm⟩:=x
 dsimp only[Ins.v] at*
 repeat'((try(conv=>whnf));first|(refine fD ?_)|(refine fG ?_)|(refine ldE (k:=1+b'.toNat) (RdE.up hTR) hth ?_ gb ?_;omega)|(refine fC ?_)|(refine arw (k:= .u64) ?_)|((with_reducible show IxS _ _ _ _ _);first|((refine ixE hTR hth ?_ ?_;(first|rfl|omega))))|((with_reducible show qf _ _ _ _ _ _);first|(((apply Stop.h))))|(refine fP ?_)|(refine fA ?_)|(refine fL ?_)|(refine qc (fun bk hbk=> ?_)))
 rename_i b4 h4
 have hls2:=hls [(bk,fun o=>o=Obj.cells #[.int .i64 op, .int .i64 a, .int .i64 b', .int .i64 c', .int .i64 imm] 69 (0,0)),(b4,fun o=>o=Obj.cells #[.int .i64 t, .int .i64 0, .slice aa al ac] 79 (0,0))]
 refine Stop.mk ?_
 repeat'((try(conv=>whnf));first|(refine fE ?_)|((with_reducible show qf _ _ _ _ _ _);first|((refine qm hls2 qn2 ?_ ?_ (fun g1 v hv=> ?_);(exact rfl);(exact rfl);(obtain⟨rfl,hk1,hg1⟩:=hv)))))
 exact⟨g1,⟨rfl,hk1,by rw[hg1]⟩,qn3⟩
theorem qog{t:Nat}{th:Thr}{ph:PH}(hT:qk7 c ps s t th ph)(h:g.ok W0 Kp ps s){x:Ins}(hx:qv x=0)(hop:(0≤x.op∧x.op≤6)∨x.op=12∨x.op=13∨x.op=16∨x.op=17)(hpc:th.pc<ph.p.length∧ph.p.length≤64)(f:Int)(aa:Option Addr)(al ac:Nat)(q:Own):
  q0E Tryz.prog W0 75 [.pointer (some ⟨g.rb,0,none⟩),chV t f aa al ac,x.v] (g.O c ps.length s++q) fun v own'=>
   ((v= .bool false∧sgM c ph.p s th t f x=none)∧Ent W0 own' (g.O c ps.length s++q))∨
   ∃y:GS×DP×Thr,(v= .bool true∧y.1.T[t]? =some y.2.2∧sgM c ph.p s th t f x=some (exS y.1 t ph.p.length y.2.2)∧y.1.n=s.n∧y.2.1.ok W0 Kp ps y.1∧y.2.1.rb=g.rb)∧Ent W0 own' (y.2.1.O c ps.length y.1++q):=by
 have htl:=(List.getElem?_eq_some_iff.1 hT.hth).1
 have mk:∀(s1:GS) (th1:Thr),s1.T[t]? =some th1→s1.n=s.n→sgM c ph.p s th t f x=some (exS s1 t ph.p.length th1)→(q0E Tryz.prog W0 75 [.pointer (some ⟨g.rb,0,none⟩),chV t f aa al ac,x.v] (g.O c ps.length s++q) fun v own'=>∃g1:DP,(v= .bool true∧g1.ok W0 Kp ps s1∧g1.rb=g.rb)∧Ent W0 own' (g1.O c ps.length s1++q))→
   q0E Tryz.prog W0 75 [.pointer (some ⟨g.rb,0,none⟩),chV t f aa al ac,x.v] (g.O c ps.length s++q) fun v own'=>
   ((v= .bool false∧sgM c ph.p s th t f x=none)∧Ent W0 own' (g.O c ps.length s++q))∨
   ∃y:GS×DP×Thr,(v= .bool true∧y.1.T[t]? =some y.2.2∧sgM c ph.p s th t f x=some (exS y.1 t ph.p.length y.2.2)∧y.1.n=s.n∧y.2.1.ok W0 Kp ps y.1∧y.2.1.rb=g.rb)∧Ent W0 own' (y.2.1.O c ps.length y.1++q):=fun s1 th1 h1 hn h2 hs w hw=>
  (hs w hw).mono fun _ _ ⟨v,o,a,b,g1,⟨h3,h4,h5⟩,h6⟩=>⟨v,o,a,b, .inr ⟨(s1,g1,th1),⟨h3,h1,h2,hn,h4,h5⟩,h6⟩⟩
 have hz0:=(q9l (r:=th.rg) (b:=x.a) (imm:=x.imm)).1
 have hy0:=(q9l (r:=th.rg) (b:=x.b) (imm:=x.imm)).1
 obtain⟨z,hz⟩:=Int.eq_ofNat_of_zero_le hz0
 obtain⟨y,hy⟩:=Int.eq_ofNat_of_zero_le hy0
 have hgs:∀l:List Thr,∀a b:Thr,(l.set t a).set t b=l.set t b:=fun l a b=>List.set_set ..
 by_cases hf:f=0
 ·subst hf
  by_cases h12:x.op=12
  ·have hsg:sgM c ph.p s th t 0 x=if c.words≤(y:Int) then some (s.fin t (th.nxt ph.p.length (th.rg.set x.a.toNat 0)) [⟨th.pc,7,7⟩]) else some ((s.ev (plE c s.n t 1 y)).fin t (th.nxt ph.p.length (th.rg.set x.a.toNat (s.d.getD y 0))) [⟨th.pc,4,s.d.getD y 0⟩]):=by
    unfold sgM
    rw[if_pos (.inl h12),if_pos h12,hy]
    simp[h12]
   by_cases hw:c.words≤(y:Int)
   ·refine mk _ {th with rg:=th.rg.set x.a.toNat 0,pc:=th.pc+1} ?_ ?_ ?_ (qoG (ps:=ps) hT h hx h12 hpc hy hw aa al ac q)
    ·exact List.getElem?_set_self htl
    ·rfl
    ·rw[hsg,if_pos hw];simp only[exS,GS.fin,Thr.nxt,hgs]
   ·refine mk _ {th with rg:=th.rg.set x.a.toNat (s.d.getD y 0),pc:=th.pc+1} ?_ ?_ ?_ (qpa (ps:=ps) hT h hx h12 hpc hy (by omega) aa al ac q)
    ·exact List.getElem?_set_self htl
    ·rfl
    ·rw[hsg,if_neg hw];simp only[exS,GS.fin,GS.ev,Thr.nxt,hgs]
  ·by_cases h13:x.op=13
   ·have hsg:sgM c ph.p s th t 0 x=if c.words≤(z:Int) then some (s.fin t (th.nxt ph.p.length th.rg) [⟨th.pc,7,7⟩]) else some (((s.mem (s.d.set z (th.rg.get x.b.toNat)) s.tk).ev (plE c s.n t 2 z)).fin t (th.nxt ph.p.length th.rg) [⟨th.pc,5,th.rg.get x.b.toNat⟩]):=by
     unfold sgM
     rw[if_pos (.inr h13),if_neg h12,hz]
     simp[h13]
    by_cases hw:c.words≤(z:Int)
    ·refine mk _ {th with pc:=th.pc+1} ?_ ?_ ?_ (qoH (ps:=ps) hT h hx h13 hpc hz hw aa al ac q)
     ·exact List.getElem?_set_self htl
     ·rfl
     ·rw[hsg,if_pos hw];simp only[exS,GS.fin,Thr.nxt,hgs]
    ·refine mk _ {th with pc:=th.pc+1} ?_ ?_ ?_ (qpb (ps:=ps) hT h hx h13 hpc hz (by omega) aa al ac q)
     ·exact List.getElem?_set_self htl
     ·rfl
     ·rw[hsg,if_neg hw];simp only[exS,GS.fin,GS.ev,GS.mem,Thr.nxt,hgs]
   ·have hsg:sgM c ph.p s th t 0 x=some (s.fin t {q6a th x with dn:=decide ((q6a th x).pc=ph.p.length)} (if x.op=16 then [⟨th.pc,6,0⟩] else [])):=by
     unfold sgM
     rw[if_neg (by omega),if_neg (by simp)]
    by_cases h16:x.op=16
    ·have hlo:q6a th x={th with pc:=th.pc+1}:=by simp[q6a,q85,q60,h16]
     refine mk _ {th with pc:=th.pc+1} ?_ ?_ ?_ (qoF (ps:=ps) hT h hx h16 hpc aa al ac q)
     ·exact List.getElem?_set_self htl
     ·rfl
     ·rw[hsg,if_pos h16,hlo];simp only[exS,GS.fin,hgs]
    ·have hl:isL x=true:=by simp only[isL,decide_eq_true_eq];omega
     refine mk _ (q6a th x) ?_ ?_ ?_ (qpy (ps:=ps) hT h hx hl hpc aa al ac q)
     ·exact List.getElem?_set_self htl
     ·rfl
     ·rw[hsg,if_neg h16];simp only[exS,GS.fin,hgs];rw[qfD (by rw[hT.tl];exact htl)]
 ·by_cases hp:f=6∧c.strong=true∧x.op=13∧adr th.rg x.a x.imm<c.words
  ·obtain⟨rfl,hs,h13,hw⟩:=hp
   rw[hz] at hw
   refine mk _ {th with pc:=th.pc+1} ?_ ?_ ?_ (qod (ps:=ps) hT h hx h13 hpc hz hw hs aa al ac q)
   ·exact List.getElem?_set_self htl
   ·rfl
   ·unfold sgM
    have e12:¬x.op=12:=by omega
    rw[if_pos (.inr h13),if_neg e12,hz]
    simp only[exS,GS.fin,Thr.nxt,hgs,ne_eq,Int.reduceEq,not_false_eq_true,if_true,hs,h13,hw,true_and]
  ·have hsg:sgM c ph.p s th t f x=none:=by
    unfold sgM
    by_cases h1:x.op=12∨x.op=13
    ·rw[if_pos h1]
     by_cases h12:x.op=12
     ·rw[if_pos h12]
      dsimp only
      rw[if_pos hf,if_neg (by omega)]
     ·rw[if_neg h12]
      dsimp only
      rw[if_pos hf,if_neg hp]
    ·rw[if_neg h1,if_pos hf]
   rw[hsg]
   have hno:=qql (ps:=ps) hT h hx hf hp aa al ac q
   intro w hw
   exact(hno w hw).mono fun e w' ⟨he,hs⟩=>⟨_,_,he,hs, .inl ⟨⟨rfl,rfl⟩,Ent.refl⟩⟩
end
open Go
structure BG where
 xb:Nat
 da:Option Addr
 dc:Nat
 dD:Own
 ka:Option Addr
 kc:Nat
 kD:Own
 ra:Option Addr
 rc:Nat
 rD:Own
 wa:Option Addr
 wc:Nat
 wD:Own
 oa:Option Addr
 oc:Nat
 oD:Own
 aa:Option Addr
 ac:Nat
abbrev BG.pre(g:BG)(b:BM):List Value:= [.slice g.da b.d.length g.dc, .slice g.ka b.tk.length g.kc]
abbrev BG.post(g:BG)(b:BM)(bad:Bool):List Value:= [.slice g.ra b.r.length g.rc, .slice g.wa b.w.length g.wc, .slice g.oa b.o.length g.oc, .slice g.aa b.ad.length g.ac, .bool bad]
abbrev BG.O(g:BG)(b:BM)(bad:Bool):Own:=thB g.xb 174 (g.pre b) (g.post b bad) b.t::(g.dD++(g.kD++(g.rD++(g.wD++g.oD))))
structure BG.ok(g:BG)(W0:World)(K:Own)(b:BM):Prop where
 d:qr q7j 58 1 g.da g.dc b.d g.dD
 m:qr qmu 4 1 g.ka g.kc b.tk g.kD
 a:RdE qM 1 W0 K g.aa b.ad
 al:b.ad.length≤g.ac
 r:qr qM 3 1 g.ra g.rc b.r g.rD
 w:qr qM 3 1 g.wa g.wc b.w g.wD
 o:qr ObM.enc 127 3 g.oa g.oc b.o g.oD
section
variable{W0:World}{K:Own}{g:BG}{c:Cfg}{b:BM}{bad:Bool}
theorem qnC(h:g.ok W0 K b){a:Nat}(ha:a<b.d.length)(hl:b.w.length≤1000000)(v:Int)(q:Own):
  q0E Tryz.prog W0 133 [.pointer (some ⟨g.xb,0,none⟩), .int .i64 a, .int .u64 v] (g.O b bad++q) fun _ own'=>∃g':BG,
   (g'.ok W0 K (wrM b a v)∧g'.xb=g.xb)∧Ent W0 own' (g'.O (wrM b a v) bad++q):=by
 refine qa qj qmD (by simp[qlL]) ?_
 have hD:=h.d
 have hDR:=hD.rd (W0:=W0)
 have hW:=h.w
 obtain⟨x,hx⟩:∃x,b.d[a]? =some x:=⟨_,List.getElem?_eq_getElem ha⟩
 have hc:=fun(own':Own) [qt own' g.wD]=>qnD (own:=own') (cap:=g.wc) ((hW.rd (W0:=W0)).up) (by omega) a
 by_cases hm:(a:Int)∈b.w
 ·repeat'((try(conv=>whnf));first|(apply qcV;(exact rfl);omega)|(apply q5Q (enc:=q7j) (T:=58) (j:=a) (k:=0) v hD hx;(exact rfl);(omega);(exact rfl);(exact rfl);intro D1 hb1)|((with_reducible show IxS _ _ _ _ _);first|((refine ixE hDR hx ?_ ?_;(first|rfl|omega))))|((with_reducible show qf _ _ _ _ _ _);first|((refine qh (hc _) ?_ ?_ ?_;(exact rfl);exact rfl)))|(refine fA ?_))
  refine⟨{g with dD:=D1},⟨⟨hb1,h.m,h.a,h.al,h.r,?_,h.o⟩,rfl⟩,?_⟩
  ·show qr _ _ _ _ _ (qbU b.w a) _
   rw[qbU,if_pos hm];exact hW
  ·dsimp only[BG.O,BG.pre,BG.post,wrM]
   rw[qbU,if_pos hm,List.length_set]
   exact(eC)
 ·repeat'((try(conv=>whnf));first|(apply qcU;(exact rfl);omega)|(apply q5Q (enc:=q7j) (T:=58) (j:=a) (k:=0) v hD hx;(exact rfl);(omega);(exact rfl);(exact rfl);intro D1 hb1)|(apply q69 (enc:=qM) (T:=3) (a:Int) hW;(exact rfl);(exact rfl);(omega);(exact rfl);(exact rfl);(omega);intro a2 c2 D2 hb2)|((with_reducible show IxS _ _ _ _ _);first|((refine ixE hDR hx ?_ ?_;(first|rfl|omega))))|((with_reducible show qf _ _ _ _ _ _);first|((refine qh (hc _) ?_ ?_ ?_;(exact rfl);exact rfl)))|(refine fA ?_)|(refine fN ?_)|(refine qc (fun bk hbk=> ?_)))
  refine⟨{g with dD:=D1,wa:=a2,wc:=c2,wD:=D2},⟨⟨hb1,h.m,h.a,h.al,h.r,?_,h.o⟩,rfl⟩,?_⟩
  ·show qr _ _ _ _ _ (qbU b.w a) _
   rw[qbU,if_neg hm];exact hb2
  ·dsimp only[BG.O,BG.pre,BG.post,wrM]
   rw[qbU,if_neg hm,List.length_set]
   simp only[List.length_append,List.length_cons,List.length_nil,Nat.zero_add]
   exact(eC)
end
open Go
section
variable{W0:World}{own:Own}{b:Nat}{T:TypeId}{pre post:List Value}{t:Thr}
theorem qqn{off:Nat}{v:Value}{K:Own→Prop}{C:(Obj→Prop)→Own} [m:UpC b (fun o=>o=Obj.cells (pre++(t.enc++post)).toArray T (0,0)) own C](post':List Value)(hs:(pre++(t.enc++post)).set off v=pre++(t.enc++post'))(h1:q4A v=true)(ho:off<(pre++(t.enc++post)).length)
  (h:K (C fun o=>o=Obj.cells (pre++(t.enc++post')).toArray T (0,0))):StT W0 own ⟨b,off,none⟩ v K:=by
 refine qjY (by simp at ho ⊢;omega) h1 ?_
 rw[List.toList_toArray,hs]
 exact h
end
section
variable{W0:World}{K Kp:Own}{g:BG}{dp:DP}{c:Cfg}{np:Nat}{s:GS}{b:BM}
theorem qpf{x:Ins}(hop:x.op=8∨x.op=9)(q:Own):qD Tryz.prog W0 106 [.pointer (some ⟨dp.rb,0,none⟩), .pointer (some ⟨g.xb,0,none⟩),x.v] (g.O b false++(dp.O c np s++q)) (.int .i64 (if x.op=8 then 1 else 2)):=by
 refine qe (qa qj q5 (by simp[q3]) ?_)
 have hln:=fun own=>q8 (W0:=W0) (b:=g.xb) (o:=2) (x:=x) (by rcases hop with h|h <;>simp[isL,h]) own
 obtain⟨op,a,b',c',imm⟩:=x
 dsimp only[Ins.v] at*
 rcases hop with rfl|rfl
 all_goals
  repeat'((try(conv=>whnf));first|(refine fE ?_)|(refine fD ?_)|((with_reducible show qf _ _ _ _ _ _);first|((refine qg (hln _) ?_)))|(refine fA ?_)|(refine fL ?_)|(refine fQ ?_)|(refine fM ?_)|(refine qc (fun bk hbk=> ?_)))
  all_goals exact⟨rfl,(eC)⟩
theorem qpr{x:Ins}(hx:qv x=0)(hop:x.op=10)(hc:qL c=0){z:Nat}(hz:adr b.t.rg x.b x.imm=z)(hzo:c.words≤z)(q:Own):
  qD Tryz.prog W0 106 [.pointer (some ⟨dp.rb,0,none⟩), .pointer (some ⟨g.xb,0,none⟩),x.v] (g.O b false++(dp.O c np s++q)) (.int .i64 7):=by
 refine qe (qa qj q5 (by simp[q3]) ?_)
 obtain⟨ha,hb⟩:=qnO hx
 have ha':x.a.toNat<8:=by omega
 have hb':x.b.toNat<8:=by omega
 have hwd:=(q1R hc).1
 unfold okW at hwd
 have hln:=fun own=>q8 (W0:=W0) (b:=g.xb) (o:=2) (x:=x) (by simp[isL,hop]) own
 obtain⟨op,a,b',c',imm⟩:=x
 dsimp only[Ins.v] at*
 subst hop
 have hzw:IntKind.u64.wrap (b.t.rg.get b'.toNat+IntKind.u64.wrap imm)=(z:Int):=hz
 repeat'((try(conv=>whnf));first|(refine fE ?_)|(refine fD ?_)|(refine fF ?_)|(refine q4D (t:=b.t) (pre:=g.pre b) (post:=g.post b false) hb' ?_ ?_;(simp;omega))|(refine qmJ hzw ?_)|(refine fC ?_)|(refine arw (k:= .u64) ?_)|((with_reducible show qf _ _ _ _ _ _);first|((refine qg (hln _) ?_)))|(refine fP ?_)|(refine fA ?_)|(refine fL ?_)|(refine fQ ?_)|(refine fM ?_)|(refine qc (fun bk hbk=> ?_)))
 all_goals exact⟨rfl,(eC)⟩
theorem qps{x:Ins}(hx:qv x=0)(hop:x.op=11)(hc:qL c=0){z:Nat}(hz:adr b.t.rg x.a x.imm=z)(hzo:c.words≤z)(q:Own):
  qD Tryz.prog W0 106 [.pointer (some ⟨dp.rb,0,none⟩), .pointer (some ⟨g.xb,0,none⟩),x.v] (g.O b false++(dp.O c np s++q)) (.int .i64 7):=by
 refine qe (qa qj q5 (by simp[q3]) ?_)
 obtain⟨ha,hb⟩:=qnO hx
 have ha':x.a.toNat<8:=by omega
 have hb':x.b.toNat<8:=by omega
 have hwd:=(q1R hc).1
 unfold okW at hwd
 have hln:=fun own=>q8 (W0:=W0) (b:=g.xb) (o:=2) (x:=x) (by simp[isL,hop]) own
 obtain⟨op,a,b',c',imm⟩:=x
 dsimp only[Ins.v] at*
 subst hop
 have hzw:IntKind.u64.wrap (b.t.rg.get a.toNat+IntKind.u64.wrap imm)=(z:Int):=hz
 repeat'((try(conv=>whnf));first|(refine fE ?_)|(refine fD ?_)|(refine fF ?_)|(refine q4D (t:=b.t) (pre:=g.pre b) (post:=g.post b false) ha' ?_ ?_;(simp;omega))|(refine qmJ hzw ?_)|(refine fC ?_)|(refine arw (k:= .u64) ?_)|((with_reducible show qf _ _ _ _ _ _);first|((refine qg (hln _) ?_)))|(refine fP ?_)|(refine fA ?_)|(refine fL ?_)|(refine fQ ?_)|(refine fM ?_)|(refine qc (fun bk hbk=> ?_)))
 all_goals exact⟨rfl,(eC)⟩
end
end Go.Proofs.YtkieffpjjfebjaaGreatDoor
