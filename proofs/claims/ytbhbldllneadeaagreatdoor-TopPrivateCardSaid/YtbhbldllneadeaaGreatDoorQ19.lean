/- What the laws share, part 19. No condition. -/
import Derived.Test.YtbhbldllneadeaaGreatDoorQ18
set_option maxHeartbeats 8000000
set_option maxRecDepth 10000
namespace Go.Proofs.YtbhbldllneadeaaGreatDoor
open Go
section
variable{W0:World}{own Q E:Own}{c:Cfg}{t n:Nat}{p:List Ins}{h:TH}{x:GT}{k:Int}{b e:Nat}{a:AT}{ah:AH}{mh:MH}{m:MS}
theorem qfS{m':MS}{a':AT}{ac:AcM}{ph:Int}{i:Ins}{cD:Own}(hh:h.ok x)(hap:h.ap=ptr ah.b)(hok:ah.ok c a)(hM:mh.ok m.L)(hP:PhO W0 c t ah a E)(hA:okA c t m a)(hl:x.seen.length≤100000)(hC:RdE Ins.enc 5 W0 cD h.ca p)(hpc:x.th.pc≤1000000)(hii:(i.op=10∧0≤i.a∧i.a<8)∨(i.op≠10∧i.op≠14))(hst:a'.st≠2)(hi:p[x.th.pc]? =some i)(hz:qh c t m a=(m',a',ac,ph))(h3:ph≠3)(h16:ph≠16)(hb:a'.busy=false)(Q:Own) [eq:qv Q cD]:
  qt Tryz.prog W0 83 [ptr h.b,ptr mh.mb] ((h.b,thP c t n p h x)::ah.O c t a a.ph.no a.ph.en (E++(mh.O m++(h.sD++(h.oD++Q))))) fun v own'=>
  ∃s:TR,(v= .tuple #[stV ⟨0,ph,x.ct,ac⟩, .slice s.ea s.el.length s.ec]∧s.ok W0 c t h (x.ans p a' i) [])∧Ent W0 own' (s.O c t n p (x.ans p a' i) (mh.O m'++Q)):=by
 refine sH [3,5,7,9,11,13,15,17,19,21,23,25,28,0] ?_;have hs:=fun Q=>q2x hok hM hP hA Q
 unfold StQ AtQ at hs;rw[hz] at hs;dsimp only at hs;have hae:=fun(y:AH) (hap:h.ap=ptr y.b) (Q:Own)=>qfU (W0:=W0) (c:=c) (t:=t) (n:=n) (p:=p) (kd:=a'.ph.no) (i:=i) (a:=a') (ah:=y) hh hl hap hpc hii hst Q
 obtain⟨hb',ap,lb,ca,cc,sa,sc,sD,oa,oc,oD⟩:=h;obtain⟨hhs,hho⟩:=hh;dsimp only at hap hhs hho ⊢;subst hap;have hbz:=fun(y:AH) (own':Own) (m1:qy y.b (atP c t y a' a'.ph.no) own')=>q20 (W0:=W0) (own:=own') (a:=a') (ah:=y) (qk m1 rfl)
 rw[hb] at hbz;dsimp only at hC hae
 repeat'((try(conv=>whnf));first|(refine fI ?_)|(refine fE ?_)|(refine fD ?_)|(refine fG ?_)|(refine fK ?_)|((apply qJ);first|((refine ixE hC hi ?_ ?_;(first|rfl|omega))))|((apply q2H);first|(refine q1h hC hi rfl ?_))|((apply qe);first|((refine qd (hby _ Y9) ?_))|((refine qo (b:=ah.b) (D:=AH.R ah c t a a.ph.en (E++(mh.O m++ []))) hs (fun Q=>sbE) (fun y v hv=> ?_);(obtain⟨ah1,E1⟩:=y;obtain⟨rfl,hyb,hyo,hyp⟩:=hv;obtain⟨ah2,rfl⟩:=AH.b_eq hyb;have hby:=hbz {ah2 with b:=ah.b};have hay:=hae {ah2 with b:=ah.b})))|((refine qo (b:=hb') (D:=(ah.b,atP c t {ah2 with b:=ah.b} a' a'.ph.no)::(sD++(oD++ []))) (hay rfl) (fun Q=>by simp only[zl,zd,zi];exact sbE) (fun h1 v hv=> ?_);(obtain⟨rfl,hv1,hv2,hv3,hv5,hv4⟩:=hv))))|(refine fO ?_)|(refine fA ?_)|(refine fL ?_)|(refine fN ?_)|(refine fM ?_)|(refine qf (fun bk hbk=> ?_)))
 all_goals exact⟨⟨h1,AH.O {ah2 with b:=ah.b} c t a' a'.ph.no a'.ph.en E1,none,0,[],[]⟩,⟨rfl,⟨hv1,hv3,hv4,by unfold AtO;rw[qhp hst];exact⟨{ah2 with b:=ah.b},E1,hv2,hyo,hyp,rfl⟩,EvO.nil,rfl,hv5,fun _ _=>hv2⟩⟩,by unfold TR.O;dsimp only;simp only[zd,zl,zi];exact sbE⟩
theorem q7i(x:AT):x.rest.busy=true:=by unfold AT.rest;split <;>rfl
theorem q7K{c:Cfg}{t:Int}{m:MS}{x:AT}(h:(qh c t m x).2.2.2=3∨(qh c t m x).2.2.2=16):(qh c t m x).2.1.busy=true:=by
 cases hp:x.ph with
 |ent k=>
  unfold qh at h ⊢;simp only[hp] at h ⊢
  split at h
  ·rcases h with h|h <;>(dsimp only at h;omega)
  ·rename_i h0;rw[if_neg h0]
   split at h
   ·rename_i h1;rw[if_pos h1];rfl
   ·rcases h with h|h <;>(dsimp only at h;omega)
 |dc=>
  rw[q50 hp];dsimp only
  split
  ·exact q7i _
  ·split
   ·rfl
   ·exact q7i _
 |rd k b v=>
  exfalso;unfold qh at h;simp only[hp] at h
  (repeat' split at h) <;>(rcases h with h|h <;>(dsimp only at h;omega))
 |lk s ld=>
  exfalso;rw[q5R hp] at h
  (repeat' split at h) <;>(rcases h with h|h <;>(dsimp only at h;omega))
 |tn b=>
  exfalso;cases b with
  |false=>rw[q8R hp] at h;rcases h with h|h <;>(dsimp only at h;omega)
  |true=>rw[q6D hp] at h;rcases h with h|h <;>(dsimp only at h;omega)
 |_=>exact absurd h (by unfold qh;simp only[hp];decide)
theorem q8P{i bi:Ins}{cD:Own}(hF:qC W0)(hh:h.ok x)(hap:h.ap=ptr ah.b)(hok:ah.ok c a)(hM:mh.ok m.L)(hP:PhO W0 c t ah a E)(hA:okA c t m a)(hl:x.seen.length≤100000)(hl2:x.obs.length≤100000)(hC:RdE Ins.enc 5 W0 cD h.ca p)(hp:p.length≤100000)(hpc:x.th.pc≤1000000)(hi:p[x.th.pc]? =some i)(hii:(i.op=10∧0≤i.a∧i.a<8)∨(i.op≠10∧i.op≠14))
  (hbi:p[x.bg]? =some bi) (hop:bi.op=7) (hck:(qw p).2=0) (hend:q0t p x.bg≤100000) (hcode:(qh c t m a).2.1.st=2→0≤(qh c t m a).2.1.code∧(qh c t m a).2.1.code≤100) (Q:Own) [eq:qv Q cD]:
  qt Tryz.prog W0 83 [ptr h.b,ptr mh.mb] ((h.b,thP c t n p h x)::ah.O c t a a.ph.no a.ph.en (E++(mh.O m++(h.sD++(h.oD++Q))))) fun v own'=>
  ∃s:TR,(v= .tuple #[stV {(q0M c p t m x a i).2.2.1 with t:=0}, .slice s.ea s.el.length s.ec]∧s.ok W0 c t h (q0M c p t m x a i).2.1 (q0M c p t m x a i).2.2.2)∧Ent W0 own' (s.O c t n p (q0M c p t m x a i).2.1 (mh.O (q0M c p t m x a i).1++Q)):=by
 have hsb:=q7K (c:=c) (t:=t) (m:=m) (x:=a);unfold q0M;generalize hz:qh c t m a=z at hcode hsb ⊢;obtain⟨m',a',ac,ph⟩:=z;dsimp only at hcode hsb ⊢
 by_cases hb:a'.busy=true
 ·simp only[if_pos hb]
  by_cases h3:ph=3
  ·subst h3;exact qfQ hh hap hok hM hP hA hz hb Q
  ·unfold evA;rw[if_neg h3]
   by_cases h16:ph=16∧a'.dn=true
   ·rw[if_pos h16];obtain⟨rfl,hd⟩:=h16
    by_cases hc1:a'.code=1
    ·rw[if_pos hc1];exact qaW hh hap hok hM hP hA hz hd hc1 hb Q
    ·rw[if_neg hc1];exact qaX hh hap hok hM hP hA hz hd hc1 hb Q
   ·rw[if_neg h16];refine qfP hh hap hok hM hP hA hz h3 ?_ hb Q
    by_cases h:ph=16
    ·exact .inr (by cases hd:a'.dn with|false=>rfl|true=>exact absurd ⟨h,hd⟩ h16)
    ·exact .inl h
 ·have h3:ph≠3:=fun h=>hb (hsb (.inl h))
  have h16:ph≠16:=fun h=>hb (hsb (.inr h))
  simp only[if_neg hb];unfold evA;rw[if_neg h3,if_neg (fun h=>h16 h.1)];have hb':a'.busy=false:=by simpa using hb
  by_cases hst:a'.st=2
  ·exact qfR hF hh hap hok hM hP hA hl hl2 hC hp hbi hop hck hend (hcode hst) hst hi hz h3 h16 hb' Q
  ·exact qfS hh hap hok hM hP hA hl hC hpc hii hst hi hz h3 h16 hb' Q
end
open Go
abbrev feP(t n:Nat)(f:FT):Obj→Prop:=fun o=>o=Obj.cells #[.int .i64 t, .int .i64 n, .bool f.ld,uv f.lim, .int .i64 f.nx] 270 (0,0)
abbrev lmP(c:Cfg):Obj→Prop:=fun o=>o=Obj.cells #[.int .i64 c.words, .int .i64 c.orecs, .int .i64 c.base, .int .i64 c.c0, .int .i64 c.c1, .int .i64 c.c2, .int .i64 c.c3, .int .i64 c.reads, .int .i64 c.writes, .int .i64 c.allocs, .int .i64 c.frees, .int .i64 c.clock, .bool c.strong, .slice none 0 0] 236 (0,0)
section
variable{W0:World}{own Q:Own}{c:Cfg}{t n:Nat}{b:Nat}{f:FT}{mh:MH}{m:MS}
theorem q8M(t n:Nat)(Q:Own):qt Tryz.prog W0 130 [.int .i64 t, .int .i64 n] Q fun v own'=>∃b:Nat,v=ptr b∧Ent W0 own' ((b,feP t n ⟨false,0,0⟩)::Q):=by
 refine sH [] ?_
 repeat'((try(conv=>whnf));first|(refine qf (fun bk hbk=> ?_)))
 all_goals exact⟨_,rfl,Ent.refl⟩
theorem q7s(hn:f.nx≤1000)(Q:Own):qt Tryz.prog W0 158 [ptr b] ((b,feP t n f)::Q) fun v own'=>∃_:Unit,v= .tuple #[]∧Ent W0 own' ((b,feP t n {f with nx:=qcI t f.nx})::Q):=by
 refine qD (sH [3,5,7,9,11,13,15,17,19,0] ?_);unfold qcI
 by_cases h:(f.nx:Int)=t
 ·rw[if_pos h]
  repeat'((try(conv=>whnf));first|(refine fF ?_)|(refine fB ?_)|(refine fA ?_)|(refine fN ?_))
  all_goals exact⟨rfl,sbE⟩
 ·rw[if_neg h]
  repeat'((try(conv=>whnf));first|(refine fG ?_)|(refine fA ?_))
  all_goals exact⟨rfl,sbE⟩
theorem qdy(s:Int):qE Tryz.prog W0 223 [uv s] own (.int .i64 (if s=0 then 0 else if s=1 then 1 else 2)):=by
 refine qg (sH [] ?_)
 by_cases h0:s=0
 ·rw[if_pos h0]
  repeat'((try(conv=>whnf));first|(refine fF ?_))
  all_goals exact⟨rfl,(eC)⟩
 ·rw[if_neg h0]
  by_cases h1:s=1
  ·rw[if_pos h1]
   repeat'((try(conv=>whnf));first|(refine fF ?_)|(refine fG ?_))
   all_goals exact⟨rfl,(eC)⟩
  ·rw[if_neg h1]
   repeat'((try(conv=>whnf));first|(refine fG ?_))
   all_goals exact⟨rfl,(eC)⟩
theorem qcX{lim:Int}(s:Int)(h3:Cl W0 own b 3 (uv lim)):qE Tryz.prog W0 159 [ptr b,uv s] own (.bool (qcp lim s)):=by
 refine qg (sH [] ?_);have hw:=fun own=>qdy (W0:=W0) (own:=own) s
 unfold qcp
 by_cases h0:s=0
 ·simp only[if_pos h0] at hw ⊢
  repeat'((try(conv=>whnf));first|(refine fE ?_)|((apply qe);first|((refine qd (hw _) ?_))))
  all_goals exact⟨rfl,(eC)⟩
 ·simp only[if_neg h0] at hw ⊢
  by_cases h1:s=1
  ·simp only[if_pos h1] at hw ⊢
   repeat'((try(conv=>whnf));first|(refine fE ?_)|(refine fD ?_)|((apply qe);first|((refine qd (hw _) ?_))))
   all_goals exact⟨rfl,(eC)⟩
  ·simp only[if_neg h1] at hw ⊢
   repeat'((try(conv=>whnf));first|(refine fD ?_)|(refine q0d h3 ?_)|(refine arw (k:= .u64) ?_)|((apply qe);first|((refine qd (hw _) ?_))))
   all_goals exact⟨rfl,(eC)⟩
theorem q4P{ld:Bool}{nx:Nat}(h1:Cl W0 own b 1 (.int .i64 n))(h2:Cl W0 own b 2 (.bool ld))(h4:Cl W0 own b 4 (.int .i64 nx)):qE Tryz.prog W0 112 [ptr b] own (.bool (ld&&decide (n≤nx))):=by
 refine qg (sH [3,5,7,9,11,13,15,17,19,21,23,25,27,29,31,33,0] ?_);rw[show decide (n≤nx)=decide ((nx:Int)≥n) from decide_eq_decide.2 Y6];cases ld with
 |false=>
  repeat'((try(conv=>whnf));first|(refine fI ?_)|(refine q0d h2 ?_))
  all_goals exact⟨rfl,(eC)⟩
 |true=>
  repeat'((try(conv=>whnf));first|(refine fH ?_)|(refine q0d h2 ?_)|(refine q0d h4 ?_)|(refine q0d h1 ?_))
  all_goals exact⟨rfl,(eC)⟩
theorem qaM{lim:Int}(h2:Cl W0 own b 2 (.bool true))(h3:Cl W0 own b 3 (uv lim))(hl:0≤lim∧lim≤1099511627776):qE Tryz.prog W0 114 [ptr b] own (.int .i64 lim):=by
 refine qg (sH [] ?_)
 repeat'((try(conv=>whnf));first|(refine fD ?_)|(refine q0d h2 ?_)|(refine q0d h3 ?_)|(refine fB ?_))
 all_goals exact⟨rfl,(eC)⟩
theorem qaN(hM:mh.ok m.L)(Q:Own):qt Tryz.prog W0 111 [ptr b,ptr mh.mb] ((b,feP t n ⟨false,0,0⟩)::(mh.O m++Q)) fun v own'=>
  ∃_:Unit,v=(q2Q t m ⟨false,0,0⟩).2.1.v∧Ent W0 own' ((b,feP t n (q2Q t m ⟨false,0,0⟩).1)::(mh.O m++Q)):=by
 refine qD (sH [3,5,7,11,13,1,9,16,17,19,22,0,16,9,17,19,22,0] ?_);have hd:=fun(own':Own) (m1:qy b (feP t n ⟨false,0,0⟩) own')=>q4P (W0:=W0) (own:=own') (b:=b) (n:=n) (ld:=false) (nx:=0) (qk m1 rfl) (qk m1 rfl) (qk m1 rfl)
 have hs:=fun Q=>q7s (W0:=W0) (b:=b) (t:=t) (n:=n) (f:=⟨true,m.ck,0⟩) (zq _) Q
 rw[show(q2Q t m ⟨false,0,0⟩)=(⟨true,m.ck,qcI t 0⟩,acL 3 0 m.ck,25) from rfl];dsimp only at hs ⊢
 repeat'((try(conv=>whnf));first|(refine fE ?_)|(refine fD ?_)|((apply qe);first|((refine qd (hd _ Y9) ?_))|((refine q0O 2 0 hM Y7 rfl ?_ ?_ ?_;(exact rfl);(exact rfl)))|((refine qG (hs _) (fun _ v hv=> ?_);(subst hv))))|(refine fO ?_)|(refine fA ?_)|(refine fL ?_)|(refine fN ?_)|(refine fM ?_)|(refine qf (fun bk hbk=> ?_))|(refine q1c.mk ?_ ?_))
 all_goals exact⟨rfl,sbE⟩
theorem qaO(hM:mh.ok m.L)(hld:f.ld=true)(hn:f.nx<n)(hn2:n≤16)(hsl:m.sl.length=n)(Q:Own):qt Tryz.prog W0 111 [ptr b,ptr mh.mb] ((b,feP t n f)::(mh.O m++Q)) fun v own'=>
  ∃_:Unit,v=(q2Q t m f).2.1.v∧Ent W0 own' ((b,feP t n (q2Q t m f).1)::(mh.O m++Q)):=by
 refine qD (sH [3,5,7,11,13,1,9,16,17,19,22,0,16,9,17,19,22,0] ?_);obtain⟨ld,lim,nx⟩:=f;have hn0:=hn;dsimp only at hld hn ⊢;subst hld;have hd:=fun(own':Own) (m1:qy b (feP t n ⟨true,lim,nx⟩) own')=>q4P (W0:=W0) (own:=own') (b:=b) (n:=n) (ld:=true) (nx:=nx) (qk m1 rfl) (qk m1 rfl) (qk m1 rfl)
 rw[show(true&&decide (n≤nx))=false by simpa using hn] at hd;have hs:=fun Q=>q7s (W0:=W0) (b:=b) (t:=t) (n:=n) (f:=⟨true,lim,nx+1⟩) (by dsimp only;omega) Q
 have hj:=q0D (l:=m.sl) (i:=nx) Y6;have hp:=fun(own':Own) (m1:qy b (feP t n ⟨true,lim,nx⟩) own')=>qcX (W0:=W0) (own:=own') (b:=b) (lim:=lim) (m.sl.getD nx 0) (qk m1 rfl)
 unfold q2Q;dsimp only at hs ⊢;rw[if_neg Y7];generalize m.sl.getD nx 0=z at*;dsimp only
 by_cases hpz:qcp lim z=true
 ·rw[if_pos hpz];rw[hpz] at hp
  repeat'((try(conv=>whnf));first|(refine fE ?_)|(refine fD ?_)|((apply qe);first|((refine qd (hd _ Y9) ?_))|((refine qd (hp _ Y9) ?_))|((refine q0O 5 nx hM Y7 hj ?_ ?_ ?_;(exact rfl);(exact rfl)))|((refine qG (hs _) (fun _ v hv=> ?_);(subst hv))))|(refine fB ?_)|(refine fO ?_)|(refine fA ?_)|(refine fL ?_)|(refine fN ?_)|(refine fM ?_)|(refine qf (fun bk hbk=> ?_)))
  all_goals exact⟨rfl,sbE⟩
 ·have hpf:qcp lim z=false:=by simpa using hpz
  rw[hpf] at hp;rw[if_neg hpz]
  repeat'((try(conv=>whnf));first|(refine fD ?_)|((apply qe);first|((refine qd (hd _ Y9) ?_))|((refine qd (hp _ Y9) ?_))|((refine q0O 5 nx hM Y7 hj ?_ ?_ ?_;(exact rfl);(exact rfl))))|(refine fO ?_)|(refine fA ?_)|(refine fL ?_)|(refine fM ?_)|(refine qf (fun bk hbk=> ?_)))
  all_goals exact⟨rfl,sbE⟩
theorem q8J(own:Own):qt Tryz.prog W0 79 [c.v] own fun v own'=>∃b:Nat,v=ptr b∧Ent W0 own' ((b,lmP c)::own):=by
 refine sH [] ?_;dsimp only[Cfg.v,Cfg.cs]
 repeat'((try(conv=>whnf));first|(refine fL ?_)|(refine qf (fun bk hbk=> ?_)))
 all_goals exact⟨_,rfl,sbE⟩
theorem qfo(k:Int)(Q:Own):qt Tryz.prog W0 113 [ptr b, .int .i64 k] ((b,lmP c)::Q) fun v own'=>∃d:Nat,v=ptr d∧Ent W0 own' ((d,fun o=>o=Obj.cells #[.slice none 0 0] 276 (0,0))::(b,lmP c)::Q):=by
 refine sH [3,5,7,9,13,15,17,19,21,23,25,27,29,1,11,32,34,36,37,39,42,0,32,11,34,36,37,39,42,0] ?_
 repeat'((try(conv=>whnf));first|(refine fD ?_)|(refine q1P 1 ?_)|(refine fA ?_)|(refine fN ?_)|(refine qf (fun bk hbk=> ?_)))
 all_goals exact⟨_,rfl,sbE⟩
theorem qcS(h0:Cl W0 own b 0 (.slice none 0 0)):qE Tryz.prog W0 117 [ptr b] own (.bool true):=by
 refine qg (sH [] ?_)
 repeat'((try(conv=>whnf));first|(refine q0d h0 ?_))
 all_goals exact⟨rfl,(eC)⟩
end
open Go
theorem qiA(c:Cfg)(x:AT)(a:Int):(x.read c a).ph.en=3:=by
 unfold AT.read
 split
 ·rfl
 ·split <;>rfl
def rqI(i:Ins):Prop:=i.op=10∨i.op=11∨i.op=8∨i.op=9
section
variable{W0:World}{own Q E:Own}{c:Cfg}{t n:Nat}{p:List Ins}{h:TH}{x:GT}{k:Int}{b e:Nat}{a:AT}{ah:AH}{mh:MH}{m:MS}
theorem qle{i:Ins}{r:Rg}:(q1F c r a i).ph.en=3:=by
 unfold q1F
 (repeat' split) <;>first|exact qiA c a _|rfl
theorem qjf{i:Ins}(hap:h.ap=ptr ah.b)(hok:ah.ok c a)(hst:a.st=1)(hcw:0≤c.words∧c.words≤1099511627776)(hi:rqI i)(hx:qbb i)(Q:Own):
  qt Tryz.prog W0 128 [ptr h.b,i.v] ((h.b,thP c t n p h x)::ah.O c t a 0 3 Q) fun v own'=>
  ∃s:AH×Own,(v= .tuple #[]∧s.1.b=ah.b∧s.1.ok c (q1F c x.th.rg a i)∧PhO W0 c t s.1 (q1F c x.th.rg a i) s.2)∧Ent W0 own' ((h.b,thP c t n p h x)::s.1.O c t (q1F c x.th.rg a i) (q1F c x.th.rg a i).ph.no 3 (s.2++Q)):=by
 refine sH [3,5,7,9,11,13,15,17,19,21,23,26,0,3,5,7,9,11,13,15,17,19,21,23,25,27,29,31,33,35,37,39,42,0,3,5,7,9,11,13,15,18,0,3,5,7,9,11,13,15,17,19,21,23,25,27,30,0] ?_;obtain⟨hb,ap,lb,ca,cc,sa,sc,sD,oa,oc,oD⟩:=h;dsimp only at hap ⊢;subst hap;have had:=fun(r imm:Int) (hr:0≤r∧r<8) (own':Own) (m1:qy hb (thP c t n p ⟨hb,ptr ah.b,lb,ca,cc,sa,sc,sD,oa,oc,oD⟩ x) own')=>qa6 (W0:=W0) (own:=own') (b:=hb) (x:=x) (imm:=imm) hr
 have hw:∀(r:Rg) b k,0≤adr r b k:=fun r b k=>(q0m _).1
 obtain⟨_,hA,hB,_,_⟩:=hx;unfold rqI at hi;obtain⟨op,ia,ib,ic,imm⟩:=i;dsimp only at hi hA hB
 rcases hi with rfl|rfl|rfl|rfl
 ·have hS:=fun Q=>qfi (W0:=W0) (t:=t) hok hst (adr x.th.rg ib imm) (hw _ _ _) hcw Q
  have had0:=had ib imm (hB rfl);dsimp only[Ins.v]
  repeat'((try(conv=>whnf));first|(refine fE ?_)|((apply qe);first|((refine qo (b:=ah.b) (D:=AH.R ah c t a 3 []) hS (fun Q=>sbE) (fun y v hv=> ?_);(obtain⟨rfl,hv⟩:=hv))))|((apply qz);first|((refine qj (fun ex=>had0 _ Y9) ?_)))|(refine fA ?_)|(refine qf (fun bk hbk=> ?_)))
  all_goals exact⟨y,⟨rfl,hv⟩,sbE⟩
 ·have hS:=fun Q=>qcM (W0:=W0) (t:=t) hok hst (adr x.th.rg ia imm) (x.th.rg.get ib.toNat) Q
  have had0:=had ia imm (hA rfl);have hb7:=hB rfl;have hb8:ib.toNat<8:=Y6;dsimp only[Ins.v]
  repeat'((try(conv=>whnf));first|(refine fE ?_)|(refine fD ?_)|(refine q8o (c:=c) (t:=t) (n:=n) (p:=p) (h:=⟨hb,ptr ah.b,lb,ca,cc,sa,sc,sD,oa,oc,oD⟩) (x:=x) hb8 ?_ ?_;omega)|((apply qe);first|((refine qo (b:=ah.b) (D:=AH.R ah c t a 3 []) hS (fun Q=>sbE) (fun y v hv=> ?_);(obtain⟨rfl,hv⟩:=hv))))|((apply qz);first|((refine qj (fun ex=>had0 _ Y9) ?_)))|(refine fP ?_)|(refine fA ?_)|(refine qf (fun bk hbk=> ?_)))
  all_goals exact⟨y,⟨rfl,hv⟩,sbE⟩
 ·have hS:=fun Q=>qcK (W0:=W0) (t:=t) hok hst 1 (.inl rfl) Q
  dsimp only[Ins.v]
  repeat'((try(conv=>whnf));first|(refine fE ?_)|(refine fD ?_)|((apply qe);first|((refine qo (b:=ah.b) (D:=AH.R ah c t a 3 []) hS (fun Q=>sbE) (fun y v hv=> ?_);(obtain⟨rfl,hv⟩:=hv))))|(refine fA ?_)|(refine qf (fun bk hbk=> ?_)))
  all_goals exact⟨y,⟨rfl,hv⟩,sbE⟩
 ·have hS:=fun Q=>qcK (W0:=W0) (t:=t) hok hst 2 (.inr rfl) Q
  dsimp only[Ins.v]
  repeat'((try(conv=>whnf));first|(refine fE ?_)|(refine fD ?_)|((apply qe);first|((refine qo (b:=ah.b) (D:=AH.R ah c t a 3 []) hS (fun Q=>sbE) (fun y v hv=> ?_);(obtain⟨rfl,hv⟩:=hv))))|(refine fA ?_)|(refine qf (fun bk hbk=> ?_)))
  all_goals exact⟨y,⟨rfl,hv⟩,sbE⟩
theorem qbM{i:Ins}(h:i.op=7):q15 c p t m x i=q0M c p t m {x with bg:=x.th.pc,sv:=x.th.rg,tr:=x.tr+1,seen:= [],ct:=x.ct+1} a0T i:=by
 unfold q15;rw[if_pos h]
theorem qhT{i:Ins}(hi:rqI i)(ha:x.at'=some a):q15 c p t m x i=q0M c p t m x (q1F c x.th.rg a i) i:=by
 unfold rqI at hi;unfold q15;rw[ha,if_neg Y6,if_pos Y6]
theorem qbN{i:Ins}(hi:(0≤i.op∧i.op≤6)∨i.op=17):q15 c p t m x i=(m,{x with th:={q1q x.th i with dn:=decide ((q1q x.th i).pc=p.length)}},⟨t,0,if x.at'.isSome then x.ct else 0,acz⟩,[]):=by
 unfold q15;rw[if_neg Y6,if_neg Y6]
theorem qdp{i:Ins}(hi:(0≤i.op∧i.op≤6)∨i.op=17)(hx:qbb i)(hrg:x.th.rg.ok)(hh:h.ok x)(hat:x.at'=none)(hap:h.ap= .pointer none)(hpc:x.th.pc≤1000)(Q:Own):
  qt Tryz.prog W0 85 [ptr h.b,ptr mh.mb,i.v] ((h.b,thP c t n p h x)::(mh.O m++(h.sD++(h.oD++Q)))) fun v own'=>
  ∃s:TR,(v= .tuple #[stV {(q15 c p t m x i).2.2.1 with t:=0}, .slice s.ea s.el.length s.ec]∧s.ok W0 c t h (q15 c p t m x i).2.1 (q15 c p t m x i).2.2.2)∧Ent W0 own' (s.O c t n p (q15 c p t m x i).2.1 (mh.O (q15 c p t m x i).1++Q)):=by
 refine sH [3,5,7,9,11,13,15,17,19,21,23,25,27,29,31,34,35,37,39,42,0,3,5,7,9,11,13,15,17,19,22,23,25,27,30,0] ?_;rw[qbN hi];have hlc:=fun Q=>q7E (W0:=W0) (c:=c) (t:=t) (n:=n) (p:=p) (h:=h) hx hrg hpc Q
 obtain⟨hb,ap,lb,ca,cc,sa,sc,sD,oa,oc,oD⟩:=h;dsimp only at hap hlc ⊢;subst hap;obtain⟨hhs,hho⟩:=hh;dsimp only at hhs hho;clear hx;generalize q1q x.th i=z at*;obtain⟨op,ia,ib,ic,imm⟩:=i;dsimp only[Ins.v] at hi hlc ⊢;rw[hat]
 repeat'((try(conv=>whnf));first|(refine fE ?_)|(refine fG ?_)|((apply qe);first|((refine qG (hlc _) (fun _ v hv=> ?_);(subst hv))))|(refine fA ?_)|(refine fL ?_)|(refine fM ?_)|(refine qf (fun bk hbk=> ?_)))
 all_goals exact⟨⟨⟨hb, .pointer none,lb,ca,cc,sa,sc,sD,oa,oc,oD⟩,[],none,0,[],[]⟩,⟨rfl,⟨rfl,rfl,⟨hhs,hho⟩,by unfold AtO;exact⟨rfl,rfl⟩,EvO.nil,rfl,rfl,fun _ _=>rfl⟩⟩,by unfold TR.O;dsimp only;simp only[zd,zl,zi];exact sbE⟩
theorem qdq{i:Ins}(hi:(0≤i.op∧i.op≤6)∨i.op=17)(hx:qbb i)(hrg:x.th.rg.ok)(hh:h.ok x)(hat:x.at'=some a)(hph:a.ph= .idle)(hap:h.ap=ptr ah.b)(hok:ah.ok c a)(hpc:x.th.pc≤1000)(Q:Own):
  qt Tryz.prog W0 85 [ptr h.b,ptr mh.mb,i.v] ((h.b,thP c t n p h x)::ah.O c t a 0 3 (mh.O m++(h.sD++(h.oD++Q)))) fun v own'=>
  ∃s:TR,(v= .tuple #[stV {(q15 c p t m x i).2.2.1 with t:=0}, .slice s.ea s.el.length s.ec]∧s.ok W0 c t h (q15 c p t m x i).2.1 (q15 c p t m x i).2.2.2)∧Ent W0 own' (s.O c t n p (q15 c p t m x i).2.1 (mh.O (q15 c p t m x i).1++Q)):=by
 refine sH [3,5,7,9,11,13,15,17,19,21,23,25,27,29,31,34,35,37,39,42,0,3,5,7,9,11,13,15,17,19,22,23,25,27,30,0] ?_;rw[qbN hi];have hlc:=fun Q=>q7E (W0:=W0) (c:=c) (t:=t) (n:=n) (p:=p) (h:=h) hx hrg hpc Q
 obtain⟨hb,ap,lb,ca,cc,sa,sc,sD,oa,oc,oD⟩:=h;dsimp only at hap hlc ⊢;subst hap;obtain⟨hhs,hho⟩:=hh;dsimp only at hhs hho;clear hx;generalize q1q x.th i=z at*;obtain⟨op,ia,ib,ic,imm⟩:=i;dsimp only[Ins.v] at hi hlc ⊢;rw[hat]
 repeat'((try(conv=>whnf));first|(refine fD ?_)|(refine fG ?_)|((apply qe);first|((refine qG (hlc _) (fun _ v hv=> ?_);(subst hv))))|(refine fA ?_)|(refine fL ?_)|(refine fM ?_)|(refine qf (fun bk hbk=> ?_)))
 all_goals exact⟨⟨⟨hb,ptr ah.b,lb,ca,cc,sa,sc,sD,oa,oc,oD⟩,AH.O ah c t a 0 3 [],none,0,[],[]⟩,⟨rfl,⟨rfl,rfl,⟨hhs,hho⟩,by unfold AtO;exact⟨ah,[],rfl,hok,by unfold PhO;rw[hph],by rw[hph];rfl⟩,EvO.nil,rfl,rfl,fun _ _=>rfl⟩⟩,by unfold TR.O;dsimp only;simp only[zd,zl,zi];exact sbE⟩
theorem qfW{i:Ins}{cD:Own}(hi7:i.op=7)(hap:h.ap= .pointer none)(hF:qC W0)(hh:h.ok x)(hr:0≤c.reads∧c.reads≤32)(hw:1≤c.writes∧c.writes≤32)(hct:x.ct≤100000)(htr:x.tr≤100000)(hM:mh.ok m.L)(hA:okA c t m a0T)(hl2:x.obs.length≤100000)(hC:RdE Ins.enc 5 W0 cD h.ca p)(hp:p.length≤100000)(hpc:x.th.pc≤1000000)(hbi:p[x.th.pc]? =some i)(hck:(qw p).2=0)(hend:q0t p x.th.pc≤100000)(Q:Own) [eq:qv Q cD]:
  qt Tryz.prog W0 85 [ptr h.b,ptr mh.mb,i.v] ((h.b,thP c t n p h x)::(mh.O m++(h.sD++(h.oD++Q)))) fun v own'=>
  ∃s:TR,(v= .tuple #[stV {(q15 c p t m x i).2.2.1 with t:=0}, .slice s.ea s.el.length s.ec]∧s.ok W0 c t h (q15 c p t m x i).2.1 (q15 c p t m x i).2.2.2)∧Ent W0 own' (s.O c t n p (q15 c p t m x i).2.1 (mh.O (q15 c p t m x i).1++Q)):=by
 refine sH [3,5,7,9,11,13,15,17,19,21,23,25,27,29,31,34,35,37,39,42,0,3,5,7,9,11,13,15,17,19,22,23,25,27,30,0] ?_;rw[qbM hi7];have hS:=fun(X:GT) (hct:X.ct≤1000000) Q=>qds (W0:=W0) (c:=c) (t:=t) (n:=n) (p:=p) (h:=h) (x:=X) hr hw hct Q
 have hV:=fun(h:TH) (hh:h.ok {x with bg:=x.th.pc,sv:=x.th.rg,tr:=x.tr+1,seen:= [],ct:=x.ct+1}) (ah:AH) (hap:h.ap=ptr ah.b) (hok:ah.ok c a0T) (hC:RdE Ins.enc 5 W0 cD h.ca p) (Q:Own) (eq:qv Q cD)=>
  q8P (t:=t) (n:=n) (x:={x with bg:=x.th.pc,sv:=x.th.rg,tr:=x.tr+1,seen:= [],ct:=x.ct+1}) (E:= []) (i:=i) (bi:=i) hF hh hap hok hM rfl hA (zq _) hl2 hC hp hpc hbi (.inr ⟨Y6,Y6⟩) hbi hi7 hck hend (fun h=>by cases h) Q
 obtain⟨hb,ap,lb,ca,cc,sa,sc,sD,oa,oc,oD⟩:=h;obtain⟨hhs,hho⟩:=hh;dsimp only at hhs hho hC hap ⊢;generalize q0M c p t m {x with bg:=x.th.pc,sv:=x.th.rg,tr:=x.tr+1,seen:= [],ct:=x.ct+1} a0T i=z at hV ⊢;obtain⟨op,ia,ib,ic,imm⟩:=i;dsimp only at hi7;subst hi7;dsimp only[Ins.v];have hS0:=fun Q=>hS {x with bg:=x.th.pc,sv:=x.th.rg,tr:=x.tr+1} (by dsimp only;omega) Q
 repeat'((try(conv=>whnf));first|(refine fE ?_)|((apply qe);first|((refine qG (hS0 _) (fun ah v hv=> ?_);(obtain⟨rfl,hao⟩:=hv;have hV0:=hV ⟨hb,ptr ah.b,lb,ca,cc,none,0,[],oa,oc,oD⟩ ⟨qu.nil,hho⟩ ah rfl hao hC)))|((refine q1f (F:=cD) (b:=hb) (D:=AH.O ah c t a0T 2 0 (mh.O m++(oD++ []))) hV0 (fun Q=>by simp only[zi];exact sbE) (fun s v hv=> ?_);(obtain⟨rfl,hs⟩:=hv))))|(refine fB ?_)|(refine fO ?_)|(refine fA ?_)|(refine fL ?_)|(refine fQ ?_)|(refine fN ?_)|(refine fM ?_)|(refine qf (fun bk hbk=> ?_)))
 all_goals exact⟨s,⟨rfl,⟨hs.b,hs.ca,hs.ok,hs.at',hs.ev,hs.em,hs.lb,fun h=>absurd hap h⟩⟩,sbE⟩
theorem qfZ{i bi:Ins}{cD:Own}(hF:qC W0)(hh:h.ok x)(hat:x.at'=some a)(hap:h.ap=ptr ah.b)(hok:ah.ok c a)(hst:a.st=1)(hcw:0≤c.words∧c.words≤1099511627776)(hii:rqI i)(hx:qbb i)(hM:mh.ok m.L)(hA:okA c t m (q1F c x.th.rg a i))(hl:x.seen.length≤100000)(hl2:x.obs.length≤100000)(hC:RdE Ins.enc 5 W0 cD h.ca p)(hp:p.length≤100000)(hpc:x.th.pc≤1000000)(hi:p[x.th.pc]? =some i)
  (hbi:p[x.bg]? =some bi) (h7:bi.op=7) (hck:(qw p).2=0) (hend:q0t p x.bg≤100000) (hcode:(qh c t m (q1F c x.th.rg a i)).2.1.st=2→0≤(qh c t m (q1F c x.th.rg a i)).2.1.code∧(qh c t m (q1F c x.th.rg a i)).2.1.code≤100) (Q:Own) [eq:qv Q cD]:
  qt Tryz.prog W0 85 [ptr h.b,ptr mh.mb,i.v] ((h.b,thP c t n p h x)::ah.O c t a 0 3 (mh.O m++(h.sD++(h.oD++Q)))) fun v own'=>
  ∃s:TR,(v= .tuple #[stV {(q15 c p t m x i).2.2.1 with t:=0}, .slice s.ea s.el.length s.ec]∧s.ok W0 c t h (q15 c p t m x i).2.1 (q15 c p t m x i).2.2.2)∧Ent W0 own' (s.O c t n p (q15 c p t m x i).2.1 (mh.O (q15 c p t m x i).1++Q)):=by
 refine sH [3,5,7,9,11,13,15,17,19,21,23,25,27,29,31,34,35,37,39,42,0,3,5,7,9,11,13,15,17,19,22,23,25,27,30,0] ?_;rw[qhT hii hat];have hrd:(i.op=10∧0≤i.a∧i.a<8)∨(i.op≠10∧i.op≠14):=by
  by_cases h10:i.op=10
  ·exact .inl ⟨h10,hx.a (by rw[h10];rfl)⟩
  ·exact .inr ⟨h10,by unfold rqI at hii;omega⟩
 have hV:=fun(y:AH) (E:Own) (hap:h.ap=ptr y.b) (hok:y.ok c (q1F c x.th.rg a i)) (hP:PhO W0 c t y (q1F c x.th.rg a i) E) (Q:Own) (eq:qv Q cD)=>
  q8P (t:=t) (n:=n) (i:=i) (bi:=bi) hF hh hap hok hM hP hA hl hl2 hC hp hpc hi hrd hbi h7 hck hend hcode Q
 simp only[qle] at hV;have hQ:=fun Q=>qjf (W0:=W0) (c:=c) (t:=t) (n:=n) (p:=p) (x:=x) hap hok hst hcw hii hx Q
 have hop:i.op=10∨i.op=11∨i.op=8∨i.op=9:=hii;generalize q0M c p t m x (q1F c x.th.rg a i) i=z at hV ⊢;generalize q1F c x.th.rg a i=a' at*;obtain⟨hb,ap,lb,ca,cc,sa,sc,sD,oa,oc,oD⟩:=h;dsimp only at hap hC hV hQ ⊢;subst hap;clear hi hii hrd hx;obtain⟨op,ja,jb,jc,jm⟩:=i;dsimp only[Ins.v] at hop hQ hV ⊢
 rcases hop with rfl|rfl|rfl|rfl
 all_goals
  repeat'((try(conv=>whnf));first|(refine fE ?_)|(refine fD ?_)|((apply qe);first|((refine qo (b:=hb) (D:=AH.O ah c t a 0 3 []) hQ (fun Q=>sbE) (fun y v hv=> ?_);(obtain⟨ah1,E1⟩:=y;obtain⟨rfl,hyb,hyo,hyp⟩:=hv;dsimp only at hyb hyo hyp;have hV0:=hV ah1 E1 (by rw[hyb]) hyo hyp)))|((refine q1f (F:=cD) (b:=hb) (D:=AH.O ah1 c t a' a'.ph.no 3 (E1++(mh.O m++(sD++(oD++ []))))) hV0 (fun Q=>sbE) (fun s v hv=> ?_);(obtain⟨rfl,hs⟩:=hv))))|(refine fO ?_)|(refine fA ?_)|(refine fL ?_)|(refine fM ?_)|(refine qf (fun bk hbk=> ?_)))
 all_goals exact⟨s,⟨rfl,hs⟩,sbE⟩
end
open Go
def FeO(lb:LB)(t n:Nat)(fn:Option FT)(F:Own):Prop:=
 match fn with
 |none=>lb.fp= .pointer none∧F= []
 |some f=>∃fb:Nat,lb.fp=ptr fb∧F= [(fb,feP t n f)]
def qeU(n:Nat)(m:MS)(f:FT):Prop:=(f=⟨false,0,0⟩∨(f.ld=true∧f.nx<n∧0≤f.lim∧f.lim≤1099511627776))∧0≤m.ck∧m.ck≤1099511627776∧n≤16∧m.sl.length=n
section
variable{W0:World}{own Q E:Own}{c:Cfg}{t n:Nat}{p:List Ins}{h:TH}{x:GT}{k:Int}{b e:Nat}{a:AT}{ah:AH}{mh:MH}{m:MS}{i:Ins}
theorem q2U(kd v:Int)(hh:qu ObM.enc 78 3 h.oa h.oc x.obs h.oD)(hl:x.obs.length≤100000)(Q:Own):qt Tryz.prog W0 118 [ptr h.b, .int .i64 kd,uv v] ((h.b,thP c t n p h x)::(h.oD++Q)) fun r own'=>
  ∃y:Option Addr×Nat×Own,(r= .tuple #[]∧qu ObM.enc 78 3 y.1 y.2.1 (x.obs++ [⟨x.th.pc,kd,v⟩]) y.2.2)∧Ent W0 own' ((h.b,thP c t n p {h with oa:=y.1,oc:=y.2.1,oD:=y.2.2} {x with obs:=x.obs++ [⟨x.th.pc,kd,v⟩]})::(y.2.2++Q)):=by
 refine sH [3,5,7,9,11,13,15,17,19,21,23,25,27,30,32,33,35,38,0] ?_;obtain⟨hb,ap,lb,ca,cc,sa,sc,sD,oa,oc,oD⟩:=h;dsimp only at hh ⊢
 repeat'((try(conv=>whnf));first|(refine qf (fun bk hbk=> ?_))|(apply q0p (enc:=ObM.enc) (T:=78) (⟨x.th.pc,kd,v⟩:ObM) hh;(exact rfl);(exact rfl);(omega);(exact rfl);(exact rfl);(omega);intro a5 c5 D5 hb5)|(refine fA ?_)|(refine fN ?_))
 all_goals exact⟨(a5,c5,D5),⟨rfl,hb5⟩,by unfold thP;simp only[z8];exact sbE⟩
theorem qaZ [mm:qy b (thP c t n p h x) own](hi:i.op=12∨i.op=13)(hx:qbb i):qE Tryz.prog W0 125 [ptr b,i.v] own (uv (q1b x i)):=by
 refine qg (sH [] ?_);have had:=fun(r imm:Int) (hr:0≤r∧r<8) (own':Own) (m1:qy b (thP c t n p h x) own')=>qa6 (W0:=W0) (own:=own') (b:=b) (x:=x) (imm:=imm) hr
 obtain⟨_,hA,hB,_,_⟩:=hx;obtain⟨op,ia,ib,ic,imm⟩:=i;dsimp only[Ins.v] at hi hA hB ⊢
 rcases hi with rfl|rfl
 ·have had0:=had ib imm (hB rfl)
  repeat'((try(conv=>whnf));first|(refine fE ?_)|((apply qe);first|((refine qd (had0 _ Y9) ?_)))|(refine fA ?_)|(refine qf (fun bk hbk=> ?_)))
  all_goals exact⟨rfl,(eC)⟩
 ·have had0:=had ia imm (hA rfl)
  repeat'((try(conv=>whnf));first|(refine fD ?_)|((apply qe);first|((refine qd (had0 _ Y9) ?_)))|(refine fA ?_)|(refine qf (fun bk hbk=> ?_)))
  all_goals exact⟨rfl,(eC)⟩
theorem qja(v:Int)(hi:i.op=12∨i.op=13)(hx:qbb i)(hpc:x.th.pc≤100000)(hh:qu ObM.enc 78 3 h.oa h.oc x.obs h.oD)(hl:x.obs.length≤100000)(Q:Own):qt Tryz.prog W0 201 [ptr h.b,i.v,uv v] ((h.b,thP c t n p h x)::(h.oD++Q)) fun r own'=>
  ∃y:Option Addr×Nat×Own,(r= .tuple #[]∧qu ObM.enc 78 3 y.1 y.2.1 (x.obs++ [⟨x.th.pc,if i.op=12 then 4 else 5,v⟩]) y.2.2)∧
   Ent W0 own' ((h.b,thP c t n p {h with oa:=y.1,oc:=y.2.1,oD:=y.2.2} (({x with th:={x.th with rg:=if i.op=12 then x.th.rg.set i.a.toNat v else x.th.rg},obs:=x.obs++ [⟨x.th.pc,if i.op=12 then 4 else 5,v⟩]}:GT).to p.length (x.th.pc+1)))::(y.2.2++Q)):=by
 refine sH [3,5,7,9,11,13,15,17,20,0] ?_;have hob:=fun(X:GT) (hX:X.obs=x.obs) (kd:Int) Q=>q2U (W0:=W0) (c:=c) (t:=t) (n:=n) (p:=p) (h:=h) (x:=X) kd v (by rw[hX];exact hh) (by rw[hX];exact hl) Q
 obtain⟨hb,ap,lb,ca,cc,sa,sc,sD,oa,oc,oD⟩:=h;obtain⟨_,hA,_,_,_⟩:=hx;obtain⟨op,ia,ib,ic,imm⟩:=i;dsimp only[Ins.v] at hi hA hob hh ⊢
 rcases hi with rfl|rfl
 ·have ha7:=hA rfl;have ha8:ia.toNat<8:=Y6;rw[if_pos rfl,if_pos rfl];have hob0:=hob {x with th:={x.th with rg:=x.th.rg.set ia.toNat v}} rfl 4
  repeat'((try(conv=>whnf));first|(refine fE ?_)|(refine q8S (c:=c) (t:=t) (n:=n) (p:=p) (h:=⟨hb,ap,lb,ca,cc,sa,sc,sD,oa,oc,oD⟩) (x:=x) ha8 ?_ ?_;omega)|((apply qe);first|((refine qo (b:=hb) (D:=oD++ []) hob0 (fun Q=>sbE) (fun y v hv=> ?_);(obtain⟨a5,c5,D5⟩:=y;obtain⟨rfl,hB5⟩:=hv;dsimp only at hB5)))|((refine qG (q22 (c:=c) (t:=t) (n:=n) (p:=p) (h:=⟨hb,ap,lb,ca,cc,sa,sc,sD,a5,c5,D5⟩) (x:={x with th:={x.th with rg:=x.th.rg.set ia.toNat v},obs:=x.obs++ [⟨x.th.pc,4,v⟩]}) (by dsimp only;omega) _) (fun _ v hv=> ?_);(subst hv))))|(refine fP ?_)|(refine fA ?_)|(refine qf (fun bk hbk=> ?_)))
  all_goals exact⟨(a5,c5,D5),⟨rfl,hB5⟩,sbE⟩
 ·rw[if_neg Y7,if_neg Y7];have hob0:=hob x rfl 5
  repeat'((try(conv=>whnf));first|(refine fD ?_)|((apply qe);first|((refine qo (b:=hb) (D:=oD++ []) hob0 (fun Q=>sbE) (fun y v hv=> ?_);(obtain⟨a5,c5,D5⟩:=y;obtain⟨rfl,hB5⟩:=hv;dsimp only at hB5)))|((refine qG (q22 (c:=c) (t:=t) (n:=n) (p:=p) (h:=⟨hb,ap,lb,ca,cc,sa,sc,sD,a5,c5,D5⟩) (x:={x with obs:=x.obs++ [⟨x.th.pc,5,v⟩]}) (by dsimp only;omega) _) (fun _ v hv=> ?_);(subst hv))))|(refine fA ?_)|(refine qf (fun bk hbk=> ?_)))
  all_goals exact⟨(a5,c5,D5),⟨rfl,hB5⟩,sbE⟩
theorem qdr(hst:c.strong=false)(hcw:0≤c.words∧c.words≤1099511627776)(hdl:(m.d.length:Int)=c.words)(hM:mh.ok m.L)(hi:i.op=12∨i.op=13)(hx:qbb i)(hpc:x.th.pc≤100000)(hh:h.ok x)(hat:x.at'=none)(hap:h.ap= .pointer none)(hl:x.obs.length≤100000)(Q:Own):
  qt Tryz.prog W0 129 [ptr h.b,ptr mh.mb,i.v] ((h.b,thP c t n p h x)::(mh.O m++(h.sD++(h.oD++Q)))) fun v own'=>
  ∃s:TR,(v= .tuple #[stV {(q01 c p t m x i).2.2.1 with t:=0}, .slice s.ea s.el.length s.ec]∧s.ok W0 c t h (q01 c p t m x i).2.1 (q01 c p t m x i).2.2.2)∧Ent W0 own' (s.O c t n p (q01 c p t m x i).2.1 (mh.O (q01 c p t m x i).1++Q)):=by
 refine sH [3,5,7,9,11,13,15,18,0,3,5,7,9,11,13,15,17,19,21,23,26,27,29,31,33,36,0,3,1,5,1,8,10,11,0,10,8,11,0,10,5,8,11,0] ?_;have htg:=fun(own':Own) (m1:qy h.b (thP c t n p h x) own')=>qaZ (W0:=W0) (own:=own') (b:=h.b) (c:=c) (t:=t) (n:=n) (p:=p) (h:=h) (x:=x) hi hx
 have hob:=fun(X:GT) (hX:X.obs=x.obs) Q=>q2U (W0:=W0) (c:=c) (t:=t) (n:=n) (p:=p) (h:=h) (x:=X) 7 7 (by rw[hX];exact hh.ho) (by rw[hX];exact hl) Q
 have hac:=fun v Q=>qja (W0:=W0) (c:=c) (t:=t) (n:=n) (p:=p) v hi hx hpc hh.ho hl Q
 have h0:0≤q1b x i:=(q0m _).1;obtain⟨_,hA,hB,_,_⟩:=hx;unfold q01
 by_cases hw:c.words≤q1b x i
 ·rw[if_pos hw];obtain⟨hb,ap,lb,ca,cc,sa,sc,sD,oa,oc,oD⟩:=h;obtain⟨hhs,hho⟩:=hh;dsimp only at hap hhs hho hob htg ⊢;subst hap;generalize q1b x i=w at*;obtain⟨op,ia,ib,ic,imm⟩:=i;dsimp only[Ins.v] at hi htg hA ⊢;have hw2:w≥c.words:=hw
  rcases hi with rfl|rfl
  ·have ha7:=hA rfl;have ha8:ia.toNat<8:=Y6;rw[if_pos rfl];have hob0:=hob {x with th:={x.th with rg:=x.th.rg.set ia.toNat 0}} rfl
   repeat'((try(conv=>whnf));first|(refine fE ?_)|(refine fF ?_)|(refine q8S (c:=c) (t:=t) (n:=n) (p:=p) (h:=⟨hb, .pointer none,lb,ca,cc,sa,sc,sD,oa,oc,oD⟩) (x:=x) ha8 ?_ ?_;omega)|((apply qe);first|((refine qd (htg _ Y9) ?_))|((refine qo (b:=hb) (D:=oD++ []) hob0 (fun Q=>sbE) (fun y v hv=> ?_);(obtain⟨a5,c5,D5⟩:=y;obtain⟨rfl,hB5⟩:=hv;dsimp only at hB5)))|((refine qG (q22 (c:=c) (t:=t) (n:=n) (p:=p) (h:=⟨hb, .pointer none,lb,ca,cc,sa,sc,sD,a5,c5,D5⟩) (x:={x with th:={x.th with rg:=x.th.rg.set ia.toNat 0},obs:=x.obs++ [⟨x.th.pc,7,7⟩]}) (by dsimp only;omega) _) (fun _ v hv=> ?_);(subst hv))))|(refine fC ?_)|(refine fP ?_)|(refine fA ?_)|(refine fL ?_)|(refine fM ?_)|(refine qf (fun bk hbk=> ?_)))
   all_goals exact⟨⟨⟨hb, .pointer none,lb,ca,cc,sa,sc,sD,a5,c5,D5⟩,[],none,0,[],[]⟩,⟨rfl,⟨rfl,rfl,⟨hhs,hB5⟩,by unfold AtO GT.to;dsimp only;rw[hat];exact⟨rfl,rfl⟩,EvO.nil,rfl,rfl,fun _ _=>rfl⟩⟩,by unfold TR.O;dsimp only;simp only[zd,zl,zi];exact sbE⟩
  ·rw[if_neg Y7];have hob0:=hob x rfl
   repeat'((try(conv=>whnf));first|(refine fD ?_)|(refine fF ?_)|((apply qe);first|((refine qd (htg _ Y9) ?_))|((refine qo (b:=hb) (D:=oD++ []) hob0 (fun Q=>sbE) (fun y v hv=> ?_);(obtain⟨a5,c5,D5⟩:=y;obtain⟨rfl,hB5⟩:=hv;dsimp only at hB5)))|((refine qG (q22 (c:=c) (t:=t) (n:=n) (p:=p) (h:=⟨hb, .pointer none,lb,ca,cc,sa,sc,sD,a5,c5,D5⟩) (x:={x with obs:=x.obs++ [⟨x.th.pc,7,7⟩]}) (by dsimp only;omega) _) (fun _ v hv=> ?_);(subst hv))))|(refine fC ?_)|(refine fA ?_)|(refine fL ?_)|(refine fM ?_)|(refine qf (fun bk hbk=> ?_)))
   all_goals exact⟨⟨⟨hb, .pointer none,lb,ca,cc,sa,sc,sD,a5,c5,D5⟩,[],none,0,[],[]⟩,⟨rfl,⟨rfl,rfl,⟨hhs,hB5⟩,by unfold AtO GT.to;dsimp only;rw[hat];exact⟨rfl,rfl⟩,EvO.nil,rfl,rfl,fun _ _=>rfl⟩⟩,by unfold TR.O;dsimp only;simp only[zd,zl,zi];exact sbE⟩
 ·rw[if_neg hw];obtain⟨w,hwe⟩:=Z0 h0;rw[hwe] at htg hw ⊢;have hj:=q0D (l:=m.d) (i:=w) Y6;rw[zB];generalize m.d.getD w 0=z at*;obtain⟨hb,ap,lb,ca,cc,sa,sc,sD,oa,oc,oD⟩:=h;obtain⟨hhs,hho⟩:=hh;dsimp only at hap hhs hho htg hac ⊢;subst hap;obtain⟨op,ia,ib,ic,imm⟩:=i;dsimp only[Ins.v] at hi htg hA hB hac ⊢;have hw2:¬(w:Int)≥c.words:=hw;clear hwe
  rcases hi with rfl|rfl
  ·rw[if_pos rfl];have hac0:=hac z;rw[if_pos rfl,if_pos rfl] at hac0
   repeat'((try(conv=>whnf));first|(refine fE ?_)|(refine fG ?_)|(refine qbq hst ?_)|(refine qf (fun bk hbk=> ?_))|((apply qe);first|((refine qd (htg _ Y9) ?_))|((refine q0O 0 w hM Y7 hj ?_ ?_ ?_;(exact rfl);(exact rfl)))|((refine qo (b:=hb) (D:=oD++ []) hac0 (fun Q=>sbE) (fun y v hv=> ?_);(obtain⟨a5,c5,D5⟩:=y;obtain⟨rfl,hB5⟩:=hv;dsimp only at hB5))))|(refine fB ?_)|(refine fC ?_)|(refine fO ?_)|(refine fA ?_)|(refine fL ?_)|(refine fN ?_)|(refine fM ?_)|(refine q1c.mk ?_ ?_))
   all_goals exact⟨⟨⟨hb, .pointer none,lb,ca,cc,sa,sc,sD,a5,c5,D5⟩,[],some ⟨bk,0,none⟩,1,[⟨0,t,1,w,none,[],0,none,[],0⟩],[(bk,evP ⟨0,t,1,w,none,[],0,none,[],0⟩)]⟩,⟨rfl,⟨rfl,rfl,⟨hhs,hB5⟩,by unfold AtO GT.to;dsimp only;rw[hat];exact⟨rfl,rfl⟩,ev1 ⟨RdE.nil,RdE.nil⟩ (zq _) (zq _),rfl,rfl,fun _ _=>rfl⟩⟩,by unfold TR.O;dsimp only;simp only[zd,zl,zi];exact sbE⟩
  ·rw[if_neg Y7];have hb7:=hB rfl;have hb8:ib.toNat<8:=Y6;have hac0:=hac (x.th.rg.get ib.toNat);rw[if_neg Y7,if_neg Y7] at hac0
   repeat'((try(conv=>whnf));first|(refine fD ?_)|(refine fG ?_)|(refine qbq hst ?_)|(refine q8o (c:=c) (t:=t) (n:=n) (p:=p) (h:=⟨hb, .pointer none,lb,ca,cc,sa,sc,sD,oa,oc,oD⟩) (x:=x) hb8 ?_ ?_;omega)|(refine qf (fun bk hbk=> ?_))|((apply qe);first|((refine qd (htg _ Y9) ?_))|((refine q2h 0 w (x.th.rg.get ib.toNat) {m with d:=m.d.set w (x.th.rg.get ib.toNat)} hM Y7 hj rfl ?_ ?_ ?_;(exact rfl);(exact rfl)))|((refine qo (b:=hb) (D:=oD++ []) hac0 (fun Q=>sbE) (fun y v hv=> ?_);(obtain⟨a5,c5,D5⟩:=y;obtain⟨rfl,hB5⟩:=hv;dsimp only at hB5))))|(refine fB ?_)|(refine fC ?_)|(refine fO ?_)|(refine fP ?_)|(refine fA ?_)|(refine fL ?_)|(refine fM ?_)|(refine q1c.mk ?_ ?_))
   all_goals exact⟨⟨⟨hb, .pointer none,lb,ca,cc,sa,sc,sD,a5,c5,D5⟩,[],some ⟨bk,0,none⟩,1,[⟨0,t,2,w,none,[],0,none,[],0⟩],[(bk,evP ⟨0,t,2,w,none,[],0,none,[],0⟩)]⟩,⟨rfl,⟨rfl,rfl,⟨hhs,hB5⟩,by unfold AtO GT.to;dsimp only;rw[hat];exact⟨rfl,rfl⟩,ev1 ⟨RdE.nil,RdE.nil⟩ (zq _) (zq _),rfl,rfl,fun _ _=>rfl⟩⟩,by unfold TR.O;dsimp only;simp only[zd,zl,zi];exact sbE⟩
end
open Go
section
variable{W0:World}{own Q E:Own}{c:Cfg}{t n:Nat}{p:List Ins}{h:TH}{x:GT}{k:Int}{b e:Nat}{a:AT}{ah:AH}{mh:MH}{m:MS}{i:Ins}{f:FT}
theorem qet(hf:qeU n m f):(q2Q t m f).1.ld=true∧(0≤(q2Q t m f).1.lim∧(q2Q t m f).1.lim≤1099511627776)∧(((q2Q t m f).2.1.c=3∧(q2Q t m f).2.2=25)∨((q2Q t m f).2.1.c=6∧(q2Q t m f).2.2=26)):=by
 obtain⟨h1,h2,h3,_⟩:=hf;unfold q2Q
 rcases h1 with rfl|⟨h1,h4,h5,h6⟩
 ·rw[if_pos rfl];exact⟨rfl,⟨h2,h3⟩, .inl ⟨rfl,rfl⟩⟩
 ·rw[if_neg (by rw[h1];decide)];dsimp only;refine⟨?_,?_, .inr ⟨rfl,rfl⟩⟩
  ·split
   ·exact h1
   ·exact h1
  ·split
   ·exact⟨h5,h6⟩
   ·exact⟨h5,h6⟩
theorem qcY(hM:mh.ok m.L)(hf:qeU n m f)(Q:Own):qt Tryz.prog W0 111 [ptr b,ptr mh.mb] ((b,feP t n f)::(mh.O m++Q)) fun v own'=>
  ∃_:Unit,v=(q2Q t m f).2.1.v∧Ent W0 own' ((b,feP t n (q2Q t m f).1)::(mh.O m++Q)):=by
 obtain⟨h1,h2,h3,h4,h5⟩:=hf
 rcases h1 with rfl|⟨h1,h6,_,_⟩
 ·exact qaN hM Q
 ·exact qaO hM h1 h6 h4 h5 Q
abbrev WtQ(t n:Nat)(h:TH)(x':GT)(s:TH×Own):Prop:=s.1.b=h.b∧s.1.ap=h.ap∧s.1.ca=h.ca∧s.1.lb.l=h.lb.l∧s.1.ok x'∧FeO s.1.lb t n x'.fn s.2
theorem qa7{fb:Nat}(hM:mh.ok m.L)(hf:qeU n m f)(hfp:h.lb.fp=ptr fb)(hh:h.ok x)(hl:x.obs.length≤100000)(hpc:x.th.pc≤100000)(Q:Own):
  qt Tryz.prog W0 81 [ptr h.b,ptr mh.mb] ((h.b,thP c t n p h x)::(mh.O m++(h.sD++(h.oD++((fb,feP t n f)::(h.lb.l,lmP c)::Q))))) fun v own'=>
  ∃s:TH×Own,(v=stV {(q0n n p t m x f).2.2.1 with t:=0}∧WtQ t n h (q0n n p t m x f).2.1 s)∧Ent W0 own' ((s.1.b,thP c t n p s.1 (q0n n p t m x f).2.1)::(mh.O m++(s.1.sD++(s.1.oD++(s.2++((s.1.lb.l,lmP c)::Q)))))):=by
 refine sH [3,5,7,9,11,13,15,17,19,21,23,26,27,29,31,34,0] ?_;have hst:=fun Q=>qcY (W0:=W0) (b:=fb) (t:=t) hM hf Q
 obtain⟨hz1,hz2,hz3⟩:=qet (t:=t) hf;unfold q0n;generalize q2Q t m f=z at*;obtain⟨⟨ld,lim,nx⟩,ac,ph⟩:=z;dsimp only at hst hz1 hz2 hz3 ⊢;subst hz1;have hob:=fun(h:TH) (hh:h.ok x) Q=>q2U (W0:=W0) (c:=c) (t:=t) (n:=n) (p:=p) (h:=h) (x:=x) 6 0 hh.ho hl Q
 obtain⟨hb,ap,⟨lbl,fp⟩,ca,cc,sa,sc,sD,oa,oc,oD⟩:=h;obtain⟨hhs,hho⟩:=hh;dsimp only at hfp hhs hho hob ⊢;subst hfp;have hdn:=fun(own':Own) (m1:qy fb (feP t n ⟨true,lim,nx⟩) own')=>q4P (W0:=W0) (own:=own') (b:=fb) (n:=n) (ld:=true) (nx:=nx) (qk m1 rfl) (qk m1 rfl) (qk m1 rfl)
 have hlm:=fun(own':Own) (m1:qy fb (feP t n ⟨true,lim,nx⟩) own')=>qaM (W0:=W0) (own:=own') (b:=fb) (lim:=lim) (qk m1 rfl) (qk m1 rfl) hz2
 have hdd:=fun(d:Nat) (own':Own) (m1:qy d (fun o=>o=Obj.cells #[.slice none 0 0] 276 (0,0)) own')=>qcS (W0:=W0) (own:=own') (b:=d) (qk m1 rfl)
 obtain⟨ak,acc,ai,ag,apt,adn⟩:=ac;dsimp only at hz3 hst ⊢
 by_cases hd:n≤nx
 ·rw[if_pos hd];rw[show(true&&decide (n≤nx))=true by simpa using hd] at hdn;have hob0:=hob ⟨hb,ap,⟨lbl, .pointer none⟩,ca,cc,sa,sc,sD,oa,oc,oD⟩ ⟨hhs,hho⟩;dsimp only at hob0
  rcases hz3 with ⟨rfl,rfl⟩|⟨rfl,rfl⟩
  all_goals
   repeat'((try(conv=>whnf));first|(refine fH ?_)|(refine fE ?_)|(refine fD ?_)|((apply qe);first|((refine qd (hdn _ Y9) ?_))|((refine qd (hd1 _ Y9) ?_))|((refine qo (b:=fb) (D:=mh.O m++ []) hst (fun Q=>sbE) (fun _ v hv=> ?_);(subst hv)))|((refine qG (qfo (b:=lbl) (c:=c) lim _) (fun d v hv=> ?_);(subst hv;have hd1:=hdd d)))|((refine qo (b:=hb) (D:=oD++ []) hob0 (fun Q=>sbE) (fun y v hv=> ?_);(obtain⟨a5,c5,D5⟩:=y;obtain⟨rfl,hB5⟩:=hv;dsimp only at hB5)))|((refine qG (q22 (c:=c) (t:=t) (n:=n) (p:=p) (h:=⟨hb,ap,⟨lbl, .pointer none⟩,ca,cc,sa,sc,sD,a5,c5,D5⟩) (x:={x with obs:=x.obs++ [⟨x.th.pc,6,0⟩]}) (by dsimp only;omega) _) (fun _ v hv=> ?_);(subst hv))))|((apply qz);first|((refine qj (fun ex=>hlm _ Y9) ?_)))|(refine fA ?_)|(refine fL ?_)|(refine fN ?_)|(refine fM ?_)|(refine qf (fun bk hbk=> ?_)))
  all_goals exact⟨(⟨hb,ap,⟨lbl, .pointer none⟩,ca,cc,sa,sc,sD,a5,c5,D5⟩,[]),⟨rfl,rfl,rfl,rfl,rfl,⟨hhs,hB5⟩,rfl,rfl⟩,by dsimp only;simp only[zi];exact sbE⟩
 ·rw[if_neg hd];rw[show(true&&decide (n≤nx))=false by simpa using hd] at hdn
  rcases hz3 with ⟨rfl,rfl⟩|⟨rfl,rfl⟩
  all_goals
   repeat'((try(conv=>whnf));first|(refine fI ?_)|(refine fE ?_)|(refine fD ?_)|((apply qe);first|((refine qd (hdn _ Y9) ?_))|((refine qo (b:=fb) (D:=mh.O m++ []) hst (fun Q=>sbE) (fun _ v hv=> ?_);(subst hv))))|(refine fA ?_)|(refine fL ?_)|(refine fN ?_)|(refine fM ?_)|(refine qf (fun bk hbk=> ?_)))
  all_goals exact⟨(⟨hb,ap,⟨lbl,ptr fb⟩,ca,cc,sa,sc,sD,oa,oc,oD⟩,[(fb,feP t n ⟨true,lim,nx⟩)]),⟨rfl,rfl,rfl,rfl,rfl,⟨hhs,hho⟩,fb,rfl,rfl⟩,sbE⟩
theorem qfX(hi:i.op=16)(hM:mh.ok m.L)(hf:qeU n m ⟨false,0,0⟩)(hfp:h.lb.fp= .pointer none)(hh:h.ok x)(hl:x.obs.length≤100000)(hpc:x.th.pc≤100000)(Q:Own):
  qt Tryz.prog W0 85 [ptr h.b,ptr mh.mb,i.v] ((h.b,thP c t n p h x)::(mh.O m++(h.sD++(h.oD++((h.lb.l,lmP c)::Q))))) fun v own'=>
  ∃s:TH×Own,(v= .tuple #[stV {(q0n n p t m x ⟨false,0,0⟩).2.2.1 with t:=0}, .slice none 0 0]∧WtQ t n h (q0n n p t m x ⟨false,0,0⟩).2.1 s)∧Ent W0 own' ((s.1.b,thP c t n p s.1 (q0n n p t m x ⟨false,0,0⟩).2.1)::(mh.O m++(s.1.sD++(s.1.oD++(s.2++((s.1.lb.l,lmP c)::Q)))))):=by
 refine sH [3,5,7,9,11,13,15,17,19,21,23,25,27,29,31,34,35,37,39,42,0,3,5,7,9,11,13,15,17,19,22,23,25,27,30,0] ?_;have hwt:=fun(fb:Nat) (h:TH) (hfp:h.lb.fp=ptr fb) (hh:h.ok x) Q=>qa7 (W0:=W0) (c:=c) (t:=t) (n:=n) (p:=p) (fb:=fb) hM hf hfp hh hl hpc Q
 generalize q0n n p t m x ⟨false,0,0⟩=z at*;obtain⟨hb,ap,⟨lbl,fp⟩,ca,cc,sa,sc,sD,oa,oc,oD⟩:=h;obtain⟨hhs,hho⟩:=hh;dsimp only at hfp hhs hho ⊢;subst hfp;obtain⟨op,ia,ib,ic,imm⟩:=i;dsimp only[Ins.v] at hi ⊢;subst hi
 repeat'((try(conv=>whnf));first|(refine fE ?_)|(refine fD ?_)|((apply qe);first|((refine qi (q8M t n _) (fun fb v hv=> ?_);(subst hv;have hwt0:=hwt fb ⟨hb,ap,⟨lbl,ptr fb⟩,ca,cc,sa,sc,sD,oa,oc,oD⟩ rfl ⟨hhs,hho⟩;dsimp only at hwt0)))|((refine qo (b:=hb) (D:=mh.O m++(sD++(oD++((fb,feP t n ⟨false,0,0⟩)::(lbl,lmP c):: [])))) hwt0 (fun Q=>sbE) (fun s v hv=> ?_);(obtain⟨rfl,hs⟩:=hv))))|(refine fA ?_)|(refine fL ?_)|(refine fN ?_)|(refine fM ?_)|(refine qf (fun bk hbk=> ?_)))
 all_goals exact⟨s,⟨rfl,hs⟩,sbE⟩
theorem qfY(hst:c.strong=false)(hcw:0≤c.words∧c.words≤1099511627776)(hdl:(m.d.length:Int)=c.words)(hM:mh.ok m.L)(hi:i.op=12∨i.op=13)(hx:qbb i)(hpc:x.th.pc≤100000)(hh:h.ok x)(hat:x.at'=none)(hap:h.ap= .pointer none)(hl:x.obs.length≤100000)(Q:Own):
  qt Tryz.prog W0 85 [ptr h.b,ptr mh.mb,i.v] ((h.b,thP c t n p h x)::(mh.O m++(h.sD++(h.oD++Q)))) fun v own'=>
  ∃s:TR,(v= .tuple #[stV {(q01 c p t m x i).2.2.1 with t:=0}, .slice s.ea s.el.length s.ec]∧s.ok W0 c t h (q01 c p t m x i).2.1 (q01 c p t m x i).2.2.2)∧Ent W0 own' (s.O c t n p (q01 c p t m x i).2.1 (mh.O (q01 c p t m x i).1++Q)):=by
 refine sH [3,5,7,9,11,13,15,17,19,21,23,25,27,29,31,34,35,37,39,42,0,3,5,7,9,11,13,15,17,19,22,23,25,27,30,0] ?_;have hpl:=fun Q=>qdr (W0:=W0) (c:=c) (t:=t) (n:=n) (p:=p) hst hcw hdl hM hi hx hpc hh hat hap hl Q
 generalize q01 c p t m x i=z at*;obtain⟨hb,ap,lb,ca,cc,sa,sc,sD,oa,oc,oD⟩:=h;clear hx;obtain⟨op,ia,ib,ic,imm⟩:=i;dsimp only[Ins.v] at hi hpl ⊢
 rcases hi with rfl|rfl
 all_goals
  repeat'((try(conv=>whnf));first|(refine fE ?_)|(refine fD ?_)|((apply qe);first|((refine qo (b:=hb) (D:=mh.O m++(sD++(oD++ []))) hpl (fun Q=>sbE) (fun s v hv=> ?_);(obtain⟨rfl,hs⟩:=hv))))|(refine fO ?_)|(refine fA ?_)|(refine fL ?_)|(refine fM ?_)|(refine qf (fun bk hbk=> ?_)))
 all_goals exact⟨s,⟨rfl,hs⟩,sbE⟩
end
open Go
structure GoC(c:Cfg)(p:List Ins):Prop where
 hr:0≤c.reads∧c.reads≤32
 hw:1≤c.writes∧c.writes≤32
 hcw:0≤c.words∧c.words≤1099511627776
 str:c.strong=false
 hp:p.length≤100000
 hck:(qw p).2=0
 hend:∀b i,p[b]? =some i→i.op=7→q0t p b≤100000
def qka(c:Cfg)(t:Int)(m:MS)(a:AT):Prop:=(qh c t m a).2.1.st=2→0≤(qh c t m a).2.1.code∧(qh c t m a).2.1.code≤100
def locI(i:Ins):Prop:=(0≤i.op∧i.op≤6)∨i.op=17
structure GoT(c:Cfg)(p:List Ins)(n t:Nat)(m:MS)(x:GT)(i:Ins):Prop where
 hi:p[x.th.pc]? =some i
 ic:qbb i
 rg:x.th.rg.ok
 hpc:x.th.pc≤1000
 dn:x.th.dn=false
 hl:x.seen.length≤100000
 hl2:x.obs.length≤100000
 ct:x.ct≤100000
 tr:x.tr≤100000
 dl:(m.d.length:Int)=c.words
 at':match x.at' with
  |none=>(match x.fn with
   |some f=>qeU n m f
   |none=>locI i∨(i.op=7∧okA c t m a0T)∨(i.op=12∨i.op=13)∨(i.op=16∧qeU n m ⟨false,0,0⟩))
  |some a=>x.fn=none∧(∃bi,p[x.bg]? =some bi∧bi.op=7)∧((a.busy=true∧okA c t m a∧qka c t m a∧((i.op=10∧0≤i.a∧i.a<8)∨(i.op≠10∧i.op≠14)))∨
   (a.ph= .idle∧a.st=1∧(locI i∨(rqI i∧okA c t m (q1F c x.th.rg a i)∧qka c t m (q1F c x.th.rg a i)))))
theorem GT.dn_eq{x:GT}(e:x.th.dn=false):∃x':GT,x={x' with th:={x'.th with dn:=false}}:=⟨x,by obtain⟨⟨_,_,_,_⟩,_,_,_,_,_,_,_,_⟩:=x;cases e;rfl⟩
structure qjI(W0:World)(c:Cfg)(t n:Nat)(h:TH)(s:TR×Own)(x:GT)(es:List EvM):Prop where
 b:s.1.h.b=h.b
 ca:s.1.h.ca=h.ca
 ok:s.1.h.ok x
 at':AtO W0 c t s.1.h x s.1.A
 ev:EvO W0 s.1.ea s.1.ec s.1.el s.1.eD
 em:s.1.el.map EH.m=es
 fe:FeO s.1.h.lb t n x.fn s.2
 ll:s.1.h.lb.l=h.lb.l
 ap:h.ap≠ .pointer none→x.at'≠none→s.1.h.ap=h.ap
section
variable{W0:World}{own Q E A F:Own}{c:Cfg}{t n:Nat}{p:List Ins}{h:TH}{x:GT}{k:Int}{b e:Nat}{a:AT}{ah:AH}{mh:MH}{m:MS}{i:Ins}
theorem qbh{t:Int}:(q0M c p t m x a i).2.2.1.t=t∧(q0M c p t m x a i).2.1.fn=x.fn:=by
 refine⟨rfl,?_⟩;unfold q0M GT.ans GT.endG GT.to;dsimp only
 (repeat' split) <;>rfl
theorem qbK{t:Int}:(q15 c p t m x i).2.2.1.t=t∧(q15 c p t m x i).2.1.fn=x.fn:=by
 unfold q15
 split
 ·exact qbh
 ·split
  ·split
   ·exact qbh
   ·exact⟨rfl,rfl⟩
  ·exact⟨rfl,rfl⟩
theorem q9Q{t:Int}:(q01 c p t m x i).2.2.1.t=t∧(q01 c p t m x i).2.1.fn=x.fn:=by
 unfold q01
 split
 ·exact⟨rfl,rfl⟩
 ·split <;>exact⟨rfl,rfl⟩
theorem qbL(h1:¬(i.op=12∨i.op=13))(h2:i.op≠16){t:Int}:q2d c p n t m x i=q15 c p t m x i:=by
 unfold q2d;rw[if_neg h1,if_neg h2]
theorem qjI.of{s:TR}{x':GT}{ev:List EvM}(hs:s.ok W0 c t h x' ev)(hf:x'.fn=none)(hfp:h.lb.fp= .pointer none):qjI W0 c t n h (s,[]) x' ev:=
 ⟨hs.b,hs.ca,hs.ok,hs.at',hs.ev,hs.em,by unfold FeO;rw[hf];exact⟨by rw[hs.lb];exact hfp,rfl⟩,by rw[hs.lb],hs.ap⟩
theorem qg1{cD:Own}(hF:qC W0)(hG:GoC c p)(hT:GoT c p n t m x i)(hh:h.ok x)(hat:AtO W0 c t h x A)(hfe:FeO h.lb t n x.fn F)(hM:mh.ok m.L)(hC:RdE Ins.enc 5 W0 cD h.ca p)(Q:Own) [eq:qv Q cD]:
  qt Tryz.prog W0 49 [ptr h.b,ptr mh.mb] ((h.b,thP c t n p h x)::(A++(mh.O m++(h.sD++(h.oD++(F++((h.lb.l,lmP c)::Q))))))) fun v own'=>
  ∃s:TR×Own,(v= .tuple #[stV (qN c p n t m x).2.2.1, .slice s.1.ea s.1.el.length s.1.ec, .bool true]∧qjI W0 c t n h s (qN c p n t m x).2.1 (qN c p n t m x).2.2.2)∧Ent W0 own' (s.1.O c t n p (qN c p n t m x).2.1 (mh.O (qN c p n t m x).1++(s.2++((s.1.h.lb.l,lmP c)::Q)))):=by
 refine sH [3,5,7,9,11,13,15,17,19,21,23,26,28,0] ?_;obtain⟨hi,hic,hrg,hpc,hdn,hl,hl2,hct,htr,hdl,hgo⟩:=hT;unfold qN;rw[hi];dsimp only;unfold AtO at hat;cases hx:x.at' with
 |none=>
  rw[hx] at hgo hat;obtain⟨hap,rfl⟩:=hat;dsimp only at hgo ⊢;cases hfn:x.fn with
  |some f=>
   rw[hfn] at hgo hfe;dsimp only at hgo ⊢;obtain⟨fb,hfp,rfl⟩:=hfe;have hwt:=fun Q=>qa7 (W0:=W0) (c:=c) (t:=t) (n:=n) (p:=p) (fb:=fb) hM hgo hfp hh hl2 Y6 Q
   have hw2:(q0n n p t m x f).1=m∧(q0n n p t m x f).2.2.1.t=t∧(q0n n p t m x f).2.2.2= []∧(q0n n p t m x f).2.1.at'=none:=⟨rfl,rfl,rfl,by unfold q0n;dsimp only;split <;>exact hx⟩
   generalize q0n n p t m x f=z at hwt hw2 ⊢;obtain⟨m',x',⟨st,sph,sat,sac⟩,ev⟩:=z;dsimp only at hw2 hwt ⊢;obtain⟨rfl,rfl,rfl,hxa⟩:=hw2;obtain⟨x0,rfl⟩:=GT.dn_eq hdn;obtain⟨hb',ap,⟨lbl,fp⟩,ca,cc,sa,sc,sD,oa,oc,oD⟩:=h;dsimp only at hap hfp hC hwt ⊢;subst hap;subst hfp
   repeat'((try(conv=>whnf));first|(refine fH ?_)|(refine fE ?_)|(refine fD ?_)|((apply qJ);first|((refine ixE hC hi ?_ ?_;(first|rfl|omega))))|((apply q2H);first|(refine q1h hC hi rfl ?_))|((apply qe);first|((refine qo (b:=hb') (D:=mh.O m'++(sD++(oD++((fb,feP t n f)::(lbl,lmP c):: [])))) hwt (fun Q=>sbE) (fun s v hv=> ?_);(obtain⟨⟨hb1,ap1,⟨lbl1,fp1⟩,ca1,cc1,sa1,sc1,sD1,oa1,oc1,oD1⟩,F1⟩:=s;obtain⟨rfl,hs1,hs2,hs3,hs4,hs5,hs6⟩:=hv;dsimp only at hs1 hs2 hs3 hs4 hs5 hs6;subst hs1;subst hs2;subst hs3;subst hs4))))|(refine fA ?_)|(refine fL ?_)|(refine fN ?_)|(refine fM ?_)|(refine qf (fun bk hbk=> ?_)))
   all_goals exact⟨(⟨⟨hb1, .pointer none,⟨lbl1,fp1⟩,ca1,cc1,sa1,sc1,sD1,oa1,oc1,oD1⟩,[],none,0,[],[]⟩,F1),⟨rfl,⟨rfl,rfl,hs5,by unfold AtO;rw[hxa];exact⟨rfl,rfl⟩,EvO.nil,rfl,hs6,rfl,fun _ _=>rfl⟩⟩,by unfold TR.O;dsimp only;simp only[zd,zl,zi];exact sbE⟩
  |none=>
   rw[hfn] at hgo hfe;dsimp only at hgo ⊢;obtain⟨hfp,rfl⟩:=hfe
   by_cases h16:i.op=16
   ·have hok:qeU n m ⟨false,0,0⟩:=by
     unfold locI at hgo
     rcases hgo with h|h|h|h
     ·omega
     ·omega
     ·omega
     ·exact h.2
    have hwt:=fun Q=>qfX (W0:=W0) (c:=c) (t:=t) (n:=n) (p:=p) (i:=i) h16 hM hok hfp hh hl2 Y6 Q
    have hen:q2d c p n t m x i=q0n n p t m x ⟨false,0,0⟩:=by unfold q2d;rw[if_neg Y6,if_pos h16]
    rw[hen];have hw2:(q0n n p t m x ⟨false,0,0⟩).1=m∧(q0n n p t m x ⟨false,0,0⟩).2.2.1.t=t∧(q0n n p t m x ⟨false,0,0⟩).2.2.2= []∧(q0n n p t m x ⟨false,0,0⟩).2.1.at'=none:=⟨rfl,rfl,rfl,by unfold q0n;dsimp only;split <;>exact hx⟩
    generalize q0n n p t m x ⟨false,0,0⟩=z at hwt hw2 ⊢;obtain⟨m',x',⟨st,sph,sat,sac⟩,ev⟩:=z;dsimp only at hw2 hwt ⊢;obtain⟨rfl,rfl,rfl,hxa⟩:=hw2;obtain⟨x0,rfl⟩:=GT.dn_eq hdn;obtain⟨hb',ap,⟨lbl,fp⟩,ca,cc,sa,sc,sD,oa,oc,oD⟩:=h;dsimp only at hap hfp hC hwt ⊢;subst hap;subst hfp
    repeat'((try(conv=>whnf));first|(refine fH ?_)|(refine fI ?_)|(refine fD ?_)|((apply qJ);first|((refine ixE hC hi ?_ ?_;(first|rfl|omega))))|((apply q2H);first|(refine q1h hC hi rfl ?_))|((apply qe);first|((refine qo (b:=hb') (D:=mh.O m'++(sD++(oD++((lbl,lmP c):: [])))) hwt (fun Q=>sbE) (fun s v hv=> ?_);(obtain⟨⟨hb1,ap1,⟨lbl1,fp1⟩,ca1,cc1,sa1,sc1,sD1,oa1,oc1,oD1⟩,F1⟩:=s;obtain⟨rfl,hs1,hs2,hs3,hs4,hs5,hs6⟩:=hv;dsimp only at hs1 hs2 hs3 hs4 hs5 hs6;subst hs1;subst hs2;subst hs3;subst hs4))))|(refine fO ?_)|(refine fA ?_)|(refine fL ?_)|(refine fN ?_)|(refine fM ?_)|(refine qf (fun bk hbk=> ?_)))
    all_goals exact⟨(⟨⟨hb1, .pointer none,⟨lbl1,fp1⟩,ca1,cc1,sa1,sc1,sD1,oa1,oc1,oD1⟩,[],none,0,[],[]⟩,F1),⟨rfl,⟨rfl,rfl,hs5,by unfold AtO;rw[hxa];exact⟨rfl,rfl⟩,EvO.nil,rfl,hs6,rfl,fun _ _=>rfl⟩⟩,by unfold TR.O;dsimp only;simp only[zd,zl,zi];exact sbE⟩
   ·have hV:∀(Q:Own),qv Q cD→qt Tryz.prog W0 85 [ptr h.b,ptr mh.mb,i.v] ((h.b,thP c t n p h x)::(mh.O m++(h.sD++(h.oD++Q)))) fun v own'=>
      ∃s:TR,(v= .tuple #[stV {(q2d c p n t m x i).2.2.1 with t:=0}, .slice s.ea s.el.length s.ec]∧s.ok W0 c t h (q2d c p n t m x i).2.1 (q2d c p n t m x i).2.2.2)∧Ent W0 own' (s.O c t n p (q2d c p n t m x i).2.1 (mh.O (q2d c p n t m x i).1++Q)):=by
     intro Q _
     by_cases h1213:i.op=12∨i.op=13
     ·have hen:q2d c p n t m x i=q01 c p t m x i:=by unfold q2d;rw[if_pos h1213]
      rw[hen];exact qfY hG.str hG.hcw hdl hM h1213 hic Y6 hh hx hap hl2 Q
     ·rw[qbL h1213 h16]
      rcases hgo with hlo|⟨h7,hA⟩|h|h
      ·exact qdp hlo hic hrg hh hx hap hpc Q
      ·exact qfW h7 hap hF hh hG.hr hG.hw hct htr hM hA hl2 hC hG.hp Y6 hi hG.hck (hG.hend _ _ hi h7) Q
      ·exact absurd h h1213
      ·exact absurd h.1 h16
    have het:(q2d c p n t m x i).2.2.1.t=t∧(q2d c p n t m x i).2.1.fn=x.fn:=by
     by_cases h1213:i.op=12∨i.op=13
     ·have hen:q2d c p n t m x i=q01 c p t m x i:=by unfold q2d;rw[if_pos h1213]
      rw[hen];exact q9Q
     ·rw[qbL h1213 h16];exact qbK
    rw[hfn] at het;generalize q2d c p n t m x i=z at hV het ⊢;obtain⟨m',x',⟨st,sph,sat,sac⟩,ev⟩:=z;dsimp only at het hV ⊢;obtain⟨rfl,hf'⟩:=het;obtain⟨x0,rfl⟩:=GT.dn_eq hdn;obtain⟨hb',ap,⟨lbl,fp⟩,ca,cc,sa,sc,sD,oa,oc,oD⟩:=h;dsimp only at hap hfp hC hV ⊢;subst hap;subst hfp;simp only[zi]
    repeat'((try(conv=>whnf));first|(refine fH ?_)|(refine fI ?_)|(refine fD ?_)|((apply qJ);first|((refine ixE hC hi ?_ ?_;(first|rfl|omega))))|((apply q2H);first|(refine q1h hC hi rfl ?_))|((apply qe);first|((refine q1f (F:=cD) (b:=hb') (D:=mh.O m++(sD++(oD++ []))) hV (fun Q=>sbE) (fun s v hv=> ?_);(obtain⟨⟨hb1,ap1,lb1,ca1,cc1,sa1,sc1,sD1,oa1,oc1,oD1⟩,A1,ea1,ec1,el1,eD1⟩:=s;obtain⟨rfl,hs⟩:=hv;have hbb:hb'=hb1:=hs.b.symm;subst hbb;have hlb:lb1=⟨lbl, .pointer none⟩:=hs.lb;subst hlb))))|(refine fO ?_)|(refine fA ?_)|(refine fL ?_)|(refine fN ?_)|(refine fM ?_)|(refine qf (fun bk hbk=> ?_)))
    all_goals exact⟨(⟨⟨hb',ap1,⟨lbl, .pointer none⟩,ca1,cc1,sa1,sc1,sD1,oa1,oc1,oD1⟩,A1,ea1,ec1,el1,eD1⟩,[]),⟨rfl,qjI.of hs hf' rfl⟩,by dsimp only;simp only[zi];exact sbE⟩
 |some a=>
  rw[hx] at hgo hat;obtain⟨ah,E,hap,hok,hP,rfl⟩:=hat;dsimp only at hgo ⊢;obtain⟨hfn,⟨bi,hbi,h7⟩,hgo⟩:=hgo;rw[hfn] at hfe ⊢;obtain⟨hfp,rfl⟩:=hfe;dsimp only;have hbz:=fun(own':Own) (m1:qy ah.b (atP c t ah a a.ph.no) own')=>q20 (W0:=W0) (own:=own') (a:=a) (ah:=ah) (qk m1 rfl)
  rcases hgo with ⟨hb,hA,hcd,hii⟩|⟨hph,hst,hgo⟩
  ·rw[if_pos hb];rw[hb] at hbz;have hV:=fun(Q:Own) (eq:qv Q cD)=>q8P (t:=t) (n:=n) (i:=i) (bi:=bi) hF hh hap hok hM hP hA hl hl2 hC hG.hp Y6 hi hii hbi h7 hG.hck (hG.hend _ _ hbi h7) hcd Q
   have het:=qbh (c:=c) (p:=p) (t:=t) (m:=m) (x:=x) (a:=a) (i:=i);rw[hfn] at het;generalize q0M c p t m x a i=z at hV het ⊢;obtain⟨m',x',⟨st,sph,sat,sac⟩,ev⟩:=z;dsimp only at het hV ⊢;obtain⟨rfl,hf'⟩:=het;obtain⟨x0,rfl⟩:=GT.dn_eq hdn;obtain⟨hb',ap,⟨lbl,fp⟩,ca,cc,sa,sc,sD,oa,oc,oD⟩:=h;dsimp only at hap hfp hC hV ⊢;subst hap;subst hfp;simp only[zd,zl,zi]
   repeat'((try(conv=>whnf));first|(refine fH ?_)|(refine fE ?_)|(refine fD ?_)|((apply qJ);first|((refine ixE hC hi ?_ ?_;(first|rfl|omega))))|((apply q2H);first|(refine q1h hC hi rfl ?_))|((apply qe);first|((refine qd (hbz _ Y9) ?_))|((refine q1f (F:=cD) (b:=hb') (D:=AH.O ah c t a a.ph.no a.ph.en (E++(mh.O m++(sD++(oD++ []))))) hV (fun Q=>sbE) (fun s v hv=> ?_);(obtain⟨⟨hb1,ap1,lb1,ca1,cc1,sa1,sc1,sD1,oa1,oc1,oD1⟩,A1,ea1,ec1,el1,eD1⟩:=s;obtain⟨rfl,hs⟩:=hv;have hbb:hb'=hb1:=hs.b.symm;subst hbb;have hlb:lb1=⟨lbl, .pointer none⟩:=hs.lb;subst hlb))))|(refine fO ?_)|(refine fA ?_)|(refine fL ?_)|(refine fN ?_)|(refine fM ?_)|(refine qf (fun bk hbk=> ?_)))
   all_goals exact⟨(⟨⟨hb',ap1,⟨lbl, .pointer none⟩,ca1,cc1,sa1,sc1,sD1,oa1,oc1,oD1⟩,A1,ea1,ec1,el1,eD1⟩,[]),⟨rfl,qjI.of hs hf' rfl⟩,by dsimp only;simp only[zi];exact sbE⟩
  ·have hb:a.busy=false:=by unfold AT.busy;rw[hph]
   have hE:E= []:=by unfold PhO at hP;rw[hph] at hP;exact hP
   subst hE;rw[hb] at hbz;rw[if_neg (by rw[hb];decide)];rw[show a.ph.no=0 by rw[hph];rfl] at hbz ⊢;rw[show a.ph.en=3 by rw[hph];rfl];have hen:q2d c p n t m x i=q15 c p t m x i:=by
    have:locI i∨rqI i:=hgo.imp id fun h=>h.1
    unfold locI rqI at this;exact qbL Y6 Y6
   rw[hen];have hV:∀(Q:Own),qv Q cD→qt Tryz.prog W0 85 [ptr h.b,ptr mh.mb,i.v] ((h.b,thP c t n p h x)::ah.O c t a 0 3 (mh.O m++(h.sD++(h.oD++Q)))) fun v own'=>
     ∃s:TR,(v= .tuple #[stV {(q15 c p t m x i).2.2.1 with t:=0}, .slice s.ea s.el.length s.ec]∧s.ok W0 c t h (q15 c p t m x i).2.1 (q15 c p t m x i).2.2.2)∧Ent W0 own' (s.O c t n p (q15 c p t m x i).2.1 (mh.O (q15 c p t m x i).1++Q)):=by
    intro Q _
    rcases hgo with hlo|⟨hii,hA,hcd⟩
    ·exact qdq hlo hic hrg hh hx hph hap hok hpc Q
    ·exact qfZ hF hh hx hap hok hst hG.hcw hii hic hM hA hl hl2 hC hG.hp Y6 hi hbi h7 hG.hck (hG.hend _ _ hbi h7) hcd Q
   have het:=qbK (c:=c) (p:=p) (t:=t) (m:=m) (x:=x) (i:=i);rw[hfn] at het;generalize q15 c p t m x i=z at hV het ⊢;obtain⟨m',x',⟨st,sph,sat,sac⟩,ev⟩:=z;dsimp only at het hV ⊢;obtain⟨rfl,hf'⟩:=het;obtain⟨x0,rfl⟩:=GT.dn_eq hdn;obtain⟨hb',ap,⟨lbl,fp⟩,ca,cc,sa,sc,sD,oa,oc,oD⟩:=h;dsimp only at hap hfp hC hV ⊢;subst hap;subst hfp;simp only[zd,zl,zi]
   repeat'((try(conv=>whnf));first|(refine fH ?_)|(refine fD ?_)|((apply qJ);first|((refine ixE hC hi ?_ ?_;(first|rfl|omega))))|((apply q2H);first|(refine q1h hC hi rfl ?_))|((apply qe);first|((refine qd (hbz _ Y9) ?_))|((refine q1f (F:=cD) (b:=hb') (D:=AH.O ah c t a 0 3 (mh.O m++(sD++(oD++ [])))) hV (fun Q=>sbE) (fun s v hv=> ?_);(obtain⟨⟨hb1,ap1,lb1,ca1,cc1,sa1,sc1,sD1,oa1,oc1,oD1⟩,A1,ea1,ec1,el1,eD1⟩:=s;obtain⟨rfl,hs⟩:=hv;have hbb:hb'=hb1:=hs.b.symm;subst hbb;have hlb:lb1=⟨lbl, .pointer none⟩:=hs.lb;subst hlb))))|(refine fO ?_)|(refine fA ?_)|(refine fL ?_)|(refine fN ?_)|(refine fM ?_)|(refine qf (fun bk hbk=> ?_)))
   all_goals exact⟨(⟨⟨hb',ap1,⟨lbl, .pointer none⟩,ca1,cc1,sa1,sc1,sD1,oa1,oc1,oD1⟩,A1,ea1,ec1,el1,eD1⟩,[]),⟨rfl,qjI.of hs hf' rfl⟩,by dsimp only;simp only[zi];exact sbE⟩
end
end Go.Proofs.YtbhbldllneadeaaGreatDoor
