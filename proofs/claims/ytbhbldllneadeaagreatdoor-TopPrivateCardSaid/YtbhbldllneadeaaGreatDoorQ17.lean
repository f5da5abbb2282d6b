/- What the laws share, part 17. No condition. -/
import Derived.Test.YtbhbldllneadeaaGreatDoorQ16
set_option maxHeartbeats 8000000
set_option maxRecDepth 10000
namespace Go.Proofs.YtbhbldllneadeaaGreatDoor
open Go
abbrev qmH(c:Cfg)(t sb lb:Nat):Obj→Prop:=fun z=>z=Obj.cells #[ptr sb,ptr lb, .slice none 0 0, .slice none 0 0, .slice none 0 0, .pointer none, .pointer none, .int .i64 0, .pointer none, .pointer none, .pointer none, .pointer none, .pointer none, .pointer none, .pointer none,
 .int .i64 c.words, .int .i64 c.orecs, .int .i64 c.base, .int .i64 c.c0, .int .i64 c.c1, .int .i64 c.c2, .int .i64 c.c3, .int .i64 c.reads, .int .i64 c.writes, .int .i64 c.allocs, .int .i64 c.frees, .int .i64 c.clock, .bool c.strong,
 .int .i64 t, .int .i64 0, .int .i64 0, .int .i64 0, .nilFunc, .nilFunc, .int .i64 0,uv 0, .slice none 0 0,uv 0, .bool false, .int .i64 0] 189 (0,0)
section
variable{W0:World}{own Q:Own}{c:Cfg}{t:Nat}{h:AH}{x:AT}{k:Int}{b e:Nat}
theorem qiK(c:Cfg)(hr:0≤c.reads∧c.reads≤32)(hw:1≤c.writes∧c.writes≤32)(t:Nat)(Q:Own):qt Tryz.prog W0 197 [c.v, .int .i64 t] Q fun v own'=>
  ∃s:Nat×Nat×LH,(v=ptr s.1∧s.2.2.ok c.writes [] [])∧
   Ent W0 own' ((s.1,qmH c t s.2.1 s.2.2.b)::(s.2.1,stP c.reads none 0 0)::s.2.2.O c.writes [] [] Q):=by
 refine sH [3,5,9,19,1,8,11,1,14,15,17,21,24,25,0,17,14,15,21,24,25,0,1,11,1,8,1,14,15,17,21,24,25,0,17,14,15,21,24,25,0,17,8,14,15,21,24,25,0,17,1,8,11,14,15,21,24,25,0,11,8,14,15,21,24,25,0] ?_;have hs:=fun(own':Own)=>qdc (W0:=W0) c.reads hr own'
 have hl:=fun(own':Own)=>qdb (W0:=W0) c.writes hw own'
 repeat'((try(conv=>whnf));first|((apply qe);first|((refine qi (hs _) (fun sb v hv=> ?_);(subst hv)))|((refine qi (hl _) (fun y v hv=> ?_);(obtain⟨lb,ib,P⟩:=y;obtain⟨rfl,hI,hP1,hP2⟩:=hv;dsimp only at hI hP1 hP2))))|(refine fA ?_)|(refine fL ?_)|(refine qf (fun bk hbk=> ?_))|(refine q1c.mk ?_ ?_))
 all_goals exact⟨(_,sb,⟨lb,none,0,[],none,0,[],ib,P,List.replicate P (-1)⟩),⟨rfl,⟨qu.nil,qu.nil,hI,⟨hP1,hP2⟩,hw.1,rfl,(by show(0:Int)≤c.writes;omega)⟩⟩,sbE⟩
theorem qcJ{g:LH}{sb:Nat}(hg:g.ok c.writes [] [])(hw:c.writes≤32)(Q:Own):qt Tryz.prog W0 198 [ptr b] ((b,qmH c t sb g.b)::(sb,stP c.reads none 0 0)::g.O c.writes [] [] Q) fun v own'=>
  ∃h:AH,(v= .int .i64 0∧h.b=b∧h.ok c {AT.new with st:=1,ph:= .ent 0})∧Ent W0 own' (h.O c t {AT.new with st:=1,ph:= .ent 0} 2 0 Q):=by
 refine sH [] ?_;have hrd:=fun(own':Own) (m1:qy b (qmH c t sb g.b) own')=>q4g (W0:=W0) (qk m1 rfl) (qk m1 rfl)
 repeat'((try(conv=>whnf));first|(refine fD ?_)|((apply qe);first|((refine qd (hrd _ Y9) ?_))|((refine qi (q8L t _) (fun eb v hv=> ?_);(subst hv))))|(refine fA ?_)|(refine fN ?_))
 all_goals exact⟨⟨b,sb,none,0,[],g,none,0,[],none,0,[],eb, .pointer none,0, .pointer none, .pointer none, .pointer none, .pointer none, .pointer none, .nilFunc, .nilFunc⟩,⟨rfl,rfl,⟨qu.nil,qu.nil,qu.nil,hg,Y7,Y7,Y7,Y7,hw⟩⟩,sbE⟩
theorem qaK(hrv:0≤x.rv∧x.rv≤1099511627776)(a:Int)(g:FuncId)(cs:Array Value)(Q:Own):qt Tryz.prog W0 193 [ptr h.b, .int .i64 a, .func (.func g) #[] cs] ((h.b,atP c t h x k)::([(h.eb,enP t 3 x.rv)]++Q)) fun v own'=>
  ∃r:Nat,v= .tuple #[]∧Ent W0 own' ((h.b,atP c t {h with us:= .func (.func g) #[] cs,ld:=0,rd:=ptr r} {x with addr:=a} 3)::((r,rdP a (qF c a) x.rv 0 0 0 false)::([(h.eb,enP t 3 x.rv)]++Q))):=by
 refine sH [] ?_;have hsn:=fun(own':Own) (m1:qy h.b (atP c t {h with us:= .func (.func g) #[] cs,ld:=0} {x with addr:=a} 3) own') (m2:qy h.eb (enP t 3 x.rv) own')=>q9Z (W0:=W0) (qk m1 rfl) (qk m2 rfl) (qk m2 rfl) hrv Y7
 repeat'((try(conv=>whnf));first|((apply qe);first|((refine qd (q3I W0 _ c a) ?_))|((refine qd (hsn _ Y9 Y9) ?_))|((refine qi (qaS a (qF c a) x.rv _) (fun r v hv=> ?_);(subst hv))))|(refine fQ ?_)|(refine fN ?_))
 all_goals exact⟨r,rfl,sbE⟩
theorem qfi(hh:h.ok c x)(hst:x.st=1)(a:Int)(ha:0≤a)(hcw:0≤c.words∧c.words≤1099511627776)(Q:Own):qt Tryz.prog W0 124 [ptr h.b,uv a] (h.O c t x 0 3 Q) fun v own'=>
  ∃s:AH×Own,(v= .int .i64 0∧s.1.b=h.b∧s.1.ok c (x.read c a)∧PhO W0 c t s.1 (x.read c a) s.2)∧Ent W0 own' (s.1.O c t (x.read c a) (x.read c a).ph.no 3 (s.2++Q)):=by
 refine sH [] ?_;have hrd:=fun(own':Own) (m1:qy h.b (atP c t h x 0) own')=>q4g (W0:=W0) (s:=x.st) (qk m1 rfl) (qk m1 rfl)
 have hou:=fun(own':Own) (m1:qy h.b (atP c t h x 0) own')=>q5N (W0:=W0) (a:=a) (qk m1 rfl) hcw
 rw[hst] at hrd;unfold AT.read
 by_cases h1:c.words≤a
 ·rw[if_pos h1];have hd:decide (a≥c.words)=true:=decide_eq_true h1;simp only[hd] at hou
  repeat'((try(conv=>whnf));first|(refine fE ?_)|(refine fD ?_)|(refine qf (fun bk hbk=> ?_))|((apply qe);first|((refine qd (hrd _ Y9) ?_))|((refine qd (hou _ Y9) ?_))|((refine q1l (q2y (h:=h) (c:=c) (t:=t) (x:=x) (k:=0) ?_ ?_ _) ?_ ?_ ?_ (fun _ v hv=> ?_);rotate_left 2;(exact rfl);(exact rfl);(exact rfl);(subst hv))))|(refine fA ?_))
  all_goals exact⟨({h with th:=fnv 189 [ptr bk]},[(bk,abP h.b)]),⟨rfl,rfl,⟨hh.1,hh.2,hh.3,hh.4,hh.5,hh.6,hh.7,hh.8,hh.9⟩, .inr ⟨rfl,bk,rfl,rfl⟩⟩,by show Ent W0 _ (AH.O _ c t _ 1 3 _);exact sbE⟩
 ·rw[if_neg h1];have hd:decide (a≥c.words)=false:=decide_eq_false h1;simp only[hd] at hou;have hgt:=fun(own':Own) (m2:qy h.g.b (lgP c.writes h.g.aa x.ad.length h.g.ca h.g.va x.vl.length h.g.cv h.g.ib h.g.P) own') (m3:qv own' h.g.aD) (m4:qv own' h.g.vD) (m5:qy h.g.ib (fun o=>o=Obj.cells (h.g.ix.map qx).flatten.toArray 3) own')=>
   qlo (W0:=W0) (a:=a) hh.hg.hI (qk m2 rfl) (qk m2 rfl) (qk m2 rfl) ((hh.hg.hA.rd (W0:=W0)).up) ((hh.hg.hV.rd (W0:=W0)).up) (RdE.mem (T:=3)) (by have:=hh.hg.hP;omega) ⟨ha,Y6⟩ hh.hg.hl
  cases hx:q41 x.ad x.vl a with
  |some w=>
   simp only[hx,Z3,ZI] at hgt
   repeat'((try(conv=>whnf));first|(refine fE ?_)|(refine fD ?_)|(refine qf (fun bk hbk=> ?_))|((apply qe);first|((refine qd (hrd _ Y9) ?_))|((refine qd (hou _ Y9) ?_))|((refine qd (hgt _ Y9 Y9 Y9 Y9) ?_))|((refine q1l (q2y (h:=h) (c:=c) (t:=t) (x:=x) (k:=0) ?_ ?_ _) ?_ ?_ ?_ (fun _ v hv=> ?_);rotate_left 2;(exact rfl);(exact rfl);(exact rfl);(subst hv))))|(refine fB ?_)|(refine fO ?_)|(refine fA ?_)|(refine fN ?_))
   rename_i ab hab fb hfb _;dsimp only;exact⟨({h with th:=fnv 192 [ptr fb,ptr bk]},[(fb,q5u (fnv 190 [ptr ab]) 187),(bk,q5u (uv w) 49),(ab,abP h.b)]),⟨rfl,rfl,⟨hh.1,hh.2,hh.3,hh.4,hh.5,hh.6,hh.7,hh.8,hh.9⟩,⟨fb,bk,ab,rfl,rfl⟩⟩,by show Ent W0 _ (AH.O _ c t _ 1 3 _);exact sbE⟩
  |none=>
   simp only[hx,y4,Zv] at hgt
   repeat'((try(conv=>whnf));first|(refine fD ?_)|(refine qf (fun bk hbk=> ?_))|((apply qe);first|((refine qd (hrd _ Y9) ?_))|((refine qd (hou _ Y9) ?_))|((refine qd (hgt _ Y9 Y9 Y9 Y9) ?_))|((refine q64 (D:= [(h.eb,enP t 3 x.rv)]) (qaK (h:=h) (c:=c) (t:=t) (x:=x) (k:=0) hh.rv a ?_ ?_ _) ?_ ?_ ?_ (fun rb v hv=> ?_);rotate_left 2;(exact rfl);(exact rfl);(exact rfl);(subst hv))))|(refine fB ?_)|(refine fO ?_)|(refine fA ?_)|(refine fN ?_))
   rename_i ab hab fb hfb;dsimp only;exact⟨({h with us:=fnv 190 [ptr ab],ld:=0,rd:=ptr rb},[(rb,rdP a (qF c a) x.rv 0 0 0 false),(ab,abP h.b)]),⟨rfl,rfl,⟨hh.1,hh.2,hh.3,hh.4,hh.5,hh.6,hh.7,hh.8,hh.9⟩,⟨rfl,rb,ab,rfl,rfl,rfl⟩⟩,by show Ent W0 _ (AH.O _ c t _ 3 3 _);exact sbE⟩
theorem qcM(hh:h.ok c x)(hst:x.st=1)(a v:Int)(Q:Own):qt Tryz.prog W0 126 [ptr h.b,uv a,uv v] (h.O c t x 0 3 Q) fun r own'=>
  ∃s:AH×Own,(r= .int .i64 0∧s.1.b=h.b∧s.1.ok c {x with ph:= .loc (.wr a v)}∧PhO W0 c t s.1 {x with ph:= .loc (.wr a v)} s.2)∧Ent W0 own' (s.1.O c t {x with ph:= .loc (.wr a v)} 1 3 (s.2++Q)):=by
 refine sH [] ?_;have hrd:=fun(own':Own) (m1:qy h.b (atP c t h x 0) own')=>q4g (W0:=W0) (s:=x.st) (qk m1 rfl) (qk m1 rfl)
 rw[hst] at hrd
 repeat'((try(conv=>whnf));first|(refine fD ?_)|(refine qf (fun bk hbk=> ?_))|((apply qe);first|((refine qd (hrd _ Y9) ?_))|((refine q1l (q2y (h:=h) (c:=c) (t:=t) (x:=x) (k:=0) ?_ ?_ _) ?_ ?_ ?_ (fun _ v hv=> ?_);rotate_left 2;(exact rfl);(exact rfl);(exact rfl);(subst hv))))|(refine fA ?_))
 rename_i ab hab xb hxb _;exact⟨({h with th:=fnv 195 [ptr ab,ptr xb,ptr bk]},[(ab,abP h.b),(xb,q5u (uv a) 49),(bk,q5u (uv v) 49)]),⟨rfl,rfl,⟨hh.1,hh.2,hh.3,hh.4,hh.5,hh.6,hh.7,hh.8,hh.9⟩,⟨ab,xb,bk,rfl,rfl⟩⟩,sbE⟩
theorem qcK(hh:h.ok c x)(hst:x.st=1)(cd:Int)(hcd:cd=1∨cd=2)(Q:Own):qt Tryz.prog W0 123 [ptr h.b, .int .i64 cd] (h.O c t x 0 3 Q) fun r own'=>
  ∃s:AH×Own,(r= .int .i64 0∧s.1.b=h.b∧s.1.ok c {x with ph:= .loc (.en cd)}∧PhO W0 c t s.1 {x with ph:= .loc (.en cd)} s.2)∧Ent W0 own' (s.1.O c t {x with ph:= .loc (.en cd)} 1 3 (s.2++Q)):=by
 refine sH [] ?_;have hrd:=fun(own':Own) (m1:qy h.b (atP c t h x 0) own')=>q4g (W0:=W0) (s:=x.st) (qk m1 rfl) (qk m1 rfl)
 rw[hst] at hrd
 repeat'((try(conv=>whnf));first|(refine fH ?_)|(refine fI ?_)|(refine fD ?_)|(refine fG ?_)|(refine qf (fun bk hbk=> ?_))|((apply qe);first|((refine qd (hrd _ Y9) ?_))|((refine q1l (q2y (h:=h) (c:=c) (t:=t) (x:=x) (k:=0) ?_ ?_ _) ?_ ?_ ?_ (fun _ v hv=> ?_);rotate_left 2;(exact rfl);(exact rfl);(exact rfl);(subst hv))))|(refine fA ?_)|(apply q53;(exact rfl);(exact rfl);all_goals intro hc))
 all_goals
  first
  |(exfalso;omega)
  |(rename_i ab hab _ _ _;exact⟨({h with th:=fnv 186 [ptr ab,ptr bk]},[(ab,abP h.b),(bk,q5u (.int .i64 cd) 3)]),⟨rfl,rfl,⟨hh.1,hh.2,hh.3,hh.4,hh.5,hh.6,hh.7,hh.8,hh.9⟩, .inl ⟨ab,bk,rfl,rfl⟩⟩,sbE⟩)
  |(rename_i ab hab _ _;exact⟨({h with th:=fnv 186 [ptr ab,ptr bk]},[(ab,abP h.b),(bk,q5u (.int .i64 cd) 3)]),⟨rfl,rfl,⟨hh.1,hh.2,hh.3,hh.4,hh.5,hh.6,hh.7,hh.8,hh.9⟩, .inl ⟨ab,bk,rfl,rfl⟩⟩,sbE⟩)
  |(rename_i ab hab _;exact⟨({h with th:=fnv 186 [ptr ab,ptr bk]},[(ab,abP h.b),(bk,q5u (.int .i64 cd) 3)]),⟨rfl,rfl,⟨hh.1,hh.2,hh.3,hh.4,hh.5,hh.6,hh.7,hh.8,hh.9⟩, .inl ⟨ab,bk,rfl,rfl⟩⟩,sbE⟩)
end
open Go
def AtQ(W0:World)(c:Cfg)(t:Nat)(b:Nat)(x:AT)(e:Nat)(Q:Own)(r:Value)(v:Value)(own':Own):Prop:=
 ∃s:AH×Own,(v=r∧s.1.b=b∧s.1.ok c x∧PhO W0 c t s.1 x s.2)∧Ent W0 own' (s.1.O c t x x.ph.no e (s.2++Q))
section
variable{W0:World}{own Q:Own}{c:Cfg}{t:Nat}{h:AH}{x:AT}{k:Int}{b e:Nat}
theorem qk0{g':LH}(e:g'.b=h.g.b):atP c t h x k=atP c t {h with g:=g'} x k:=by
 unfold atP;dsimp only;rw[e]
theorem qiM(hh:h.ok c x)(a v:Int)(ha:0≤a∧a≤9223372036854775807)(Q:Own):qt Tryz.prog W0 196 [ptr h.b, .int .i64 a,uv v] (h.O c t x 0 e Q) fun r own'=>
  ∃g':LH,(r= .bool (q5k c.writes x.ad x.vl a v).isSome∧g'.ok c.writes ((q5k c.writes x.ad x.vl a v).getD (x.ad,x.vl)).1 ((q5k c.writes x.ad x.vl a v).getD (x.ad,x.vl)).2)∧
   Ent W0 own' (AH.O {h with g:=g'} c t {x with code:=if(q5k c.writes x.ad x.vl a v).isSome then x.code else 3,ad:=((q5k c.writes x.ad x.vl a v).getD (x.ad,x.vl)).1,vl:=((q5k c.writes x.ad x.vl a v).getD (x.ad,x.vl)).2} (if(q5k c.writes x.ad x.vl a v).isSome then 0 else 14) e Q):=by
 refine sH [] ?_;have hpt:=fun(Q:Own)=>qlt (W0:=W0) (v:=v) hh.hg ha Q
 generalize q5k c.writes x.ad x.vl a v=z at*;cases z with
 |none=>
  dsimp only[Option.isSome_none,Option.getD_none] at*
  repeat'((try(conv=>whnf));first|(refine fE ?_)|((apply qe);first|((refine qm (hpt ((h.b,atP c t h x 0)::((h.sb,stP c.reads h.sa x.set.length h.sc)::((h.eb,enP t e x.rv)::(h.sD++(h.nD++(h.oD++Q))))))) sbE ?_ ?_ (fun g' v hv=> ?_);(exact rfl);(exact rfl);(obtain⟨rfl,hgb,hgo⟩:=hv)))|((refine qG (q4Y (h:=h) (c:=c) (t:=t) (x:=x) (k:=0) 3 _) (fun _ v hv=> ?_);(subst hv))))|(refine fA ?_))
  refine⟨g',⟨rfl,hgo⟩,?_⟩;rw[if_neg Y7,if_neg Y7,qk0 hgb];exact sbE
 |some y=>
  obtain⟨ad,vl⟩:=y;dsimp only[Option.isSome_some,Option.getD_some] at*
  repeat'((try(conv=>whnf));first|(refine fD ?_)|((apply qe);first|((refine qm (hpt ((h.b,atP c t h x 0)::((h.sb,stP c.reads h.sa x.set.length h.sc)::((h.eb,enP t e x.rv)::(h.sD++(h.nD++(h.oD++Q))))))) sbE ?_ ?_ (fun g' v hv=> ?_);(exact rfl);(exact rfl);(obtain⟨rfl,hgb,hgo⟩:=hv))))|(refine fA ?_))
  refine⟨g',⟨rfl,hgo⟩,?_⟩;rw[if_pos rfl,if_pos rfl,qk0 hgb];exact sbE
theorem qiP{ab cb:Nat}(hh:h.ok c x)(ho:x.oc= [])(cd:Int)(Q:Own):qt Tryz.prog W0 186 [ptr ab,ptr cb] (h.O c t x k e ([(ab,abP h.b),(cb,q5u (.int .i64 cd) 3)]++Q)) (AtQ W0 c t h.b (x.endA c cd) e Q (.tuple #[])):=by
 unfold AtQ;refine sH [] ?_
 repeat'((try(conv=>whnf));first|((apply qe);first|((refine qm (q8H (e:=e) (k:=k) hh ho cd Q) sbE ?_ ?_ (fun s v hv=> ?_);(exact rfl);(exact rfl);(obtain⟨rfl,hs⟩:=hv))))|(refine fA ?_))
 exact⟨s,⟨rfl,hs⟩,Ent.refl⟩
theorem qdh{ab:Nat}(hh:h.ok c x)(ho:x.oc= [])(Q:Own):qt Tryz.prog W0 189 [ptr ab] (h.O c t x k e ([(ab,abP h.b)]++Q)) (AtQ W0 c t h.b (x.endA c 7) e Q (.tuple #[])):=by
 unfold AtQ;refine sH [] ?_
 repeat'((try(conv=>whnf));first|((apply qe);first|((refine qm (q8H (e:=e) (k:=k) hh ho 7 Q) sbE ?_ ?_ (fun s v hv=> ?_);(exact rfl);(exact rfl);(obtain⟨rfl,hs⟩:=hv))))|(refine fA ?_))
 exact⟨s,⟨rfl,hs⟩,Ent.refl⟩
theorem q4T{ab:Nat}(v:Int)(Q:Own):qt Tryz.prog W0 190 [uv v,ptr ab] ((h.b,atP c t h x k)::([(ab,abP h.b)]++Q)) fun r own'=>∃_:Unit,r= .tuple #[]∧Ent W0 own' ((h.b,atP c t h {x with val:=v} k)::([(ab,abP h.b)]++Q)):=by
 refine qD (sH [] ?_)
 repeat'((try(conv=>whnf));first|(refine fA ?_)|(refine fN ?_))
 all_goals exact⟨rfl,sbE⟩
theorem qis:okF Tryz.prog 190=true:=by kernel_rfl
theorem qdi{fb vb ab:Nat}(v:Int)(Q:Own):qt Tryz.prog W0 192 [ptr fb,ptr vb] ((h.b,atP c t h x k)::([(fb,q5u (fnv 190 [ptr ab]) 187),(vb,q5u (uv v) 49),(ab,abP h.b)]++Q)) fun r own'=>∃_:Unit,r= .tuple #[]∧Ent W0 own' ((h.b,atP c t h {x with val:=v} k)::Q):=by
 refine qD (sH [] ?_)
 repeat'((try(conv=>whnf));first|(refine q2X.mk ⟨qis,?_⟩)|((apply qe);first|((refine qB (D:= [(ab,abP h.b)]) (q4T (h:=h) (c:=c) (t:=t) (x:=x) (k:=k) v _) (fun _ v hv=> ?_);(subst hv))))|(refine fA ?_))
 all_goals exact⟨rfl,sbE⟩
theorem qb3{ab xb vb:Nat}(hh:h.ok c x)(ho:x.oc= [])(hcw:0≤c.words∧c.words≤1099511627776)(a v:Int)(ha:0≤a)(Q:Own):
  qt Tryz.prog W0 195 [ptr ab,ptr xb,ptr vb] (h.O c t x 0 e ([(ab,abP h.b),(xb,q5u (uv a) 49),(vb,q5u (uv v) 49)]++Q)) (AtQ W0 c t h.b (({x with ph:= .idle}:AT).kont c (.wr a v)) e Q (.tuple #[])):=by
 unfold AtQ;refine sH [] ?_;have hou:=fun(own':Own) (m1:qy h.b (atP c t h x 0) own')=>q5N (W0:=W0) (a:=a) (qk m1 rfl) hcw
 unfold AT.kont;dsimp only
 by_cases h1:c.words≤a
 ·rw[if_pos h1];have hd:decide (a≥c.words)=true:=decide_eq_true h1;simp only[hd] at hou;have hh2:h.ok c {x with ph:= .idle}:=⟨hh.1,hh.2,hh.3,hh.4,hh.5,hh.6,hh.7,hh.8,hh.9⟩
  repeat'((try(conv=>whnf));first|(refine fE ?_)|((apply qe);first|((refine qd (hou _ Y9) ?_))|((refine qm (q8H (e:=e) (k:=0) hh2 ho 7 Q) sbE ?_ ?_ (fun s v hv=> ?_);(exact rfl);(exact rfl);(obtain⟨rfl,hs⟩:=hv))))|(refine fA ?_))
  exact⟨s,⟨rfl,hs⟩,Ent.refl⟩
 ·rw[if_neg h1];have hd:decide (a≥c.words)=false:=decide_eq_false h1;simp only[hd] at hou;have hpt:=qiM (W0:=W0) (t:=t) (e:=e) hh a v ⟨ha,Y6⟩ Q;generalize q5k c.writes x.ad x.vl a v=z at*;cases z with
  |none=>
   dsimp only[Option.isSome_none,Option.getD_none] at*;rw[if_neg Y7,if_neg Y7] at hpt
   repeat'((try(conv=>whnf));first|(refine fD ?_)|((apply qe);first|((refine qd (hou _ Y9) ?_))|((refine qm hpt sbE ?_ ?_ (fun g' v hv=> ?_);(exact rfl);(exact rfl);(obtain⟨rfl,hg⟩:=hv))))|(refine fB ?_)|(refine fA ?_))
   all_goals exact⟨({h with g:=g'},[]),⟨rfl,rfl,⟨hh.1,hh.2,hh.3,hg,hh.5,hh.6,hh.7,hh.8,hh.9⟩,rfl⟩,sbE⟩
  |some y=>
   obtain⟨ad,vl⟩:=y;dsimp only[Option.isSome_some,Option.getD_some] at*;rw[if_pos rfl,if_pos rfl] at hpt
   repeat'((try(conv=>whnf));first|(refine fD ?_)|((apply qe);first|((refine qd (hou _ Y9) ?_))|((refine qm hpt sbE ?_ ?_ (fun g' v hv=> ?_);(exact rfl);(exact rfl);(obtain⟨rfl,hg⟩:=hv))))|(refine fB ?_)|(refine fA ?_))
   all_goals exact⟨({h with g:=g'},[]),⟨rfl,rfl,⟨hh.1,hh.2,hh.3,hg,hh.5,hh.6,hh.7,hh.8,hh.9⟩,rfl⟩,sbE⟩
theorem qmN:okF Tryz.prog 186=true:=by kernel_rfl
theorem qmO:okF Tryz.prog 189=true:=by kernel_rfl
theorem qmP:okF Tryz.prog 192=true:=by kernel_rfl
theorem qmQ:okF Tryz.prog 195=true:=by kernel_rfl
end
open Go
theorem AH.th_eq{h:AH}{v:Value}(e:h.th=v):∃h':AH,h={h' with th:=v}:=⟨h,by cases h;cases e;rfl⟩
abbrev azP:Obj→Prop:=fun z=>z=Obj.cells #[.int .i64 0, .int .i64 0, .int .i64 0,uv 0,uv 0, .bool false] 111 (0,0)
section
variable{W0:World}{own Q:Own}{c:Cfg}{t:Nat}{h:AH}{x:AT}{k:Int}{b e mb:Nat}
theorem qj0(hh:h.ok c x)(ho:x.oc= [])(hcw:0≤c.words∧c.words≤1099511627776){kk:Ko}{E:Own}(hE:FnO h kk E)(hka:∀a v,kk= .wr a v→0≤a)(Q:Own):
  qt Tryz.prog W0 120 [ptr h.b,ptr mb] (h.O c t x 1 3 (E++Q)) (AtQ W0 c t h.b (({x with ph:= .idle}:AT).kont c kk) 3 Q (.tuple #[acz.v, .int .i64 0])):=by
 unfold AtQ;refine sH [] ?_;have hh2:h.ok c {x with ph:= .idle}:=⟨hh.1,hh.2,hh.3,hh.4,hh.5,hh.6,hh.7,hh.8,hh.9⟩
 cases kk with
 |en cd=>
  rcases hE with ⟨ab,cb,hth,rfl⟩|⟨rfl,ab,hth,rfl⟩
  ·obtain⟨h',rfl⟩:=AH.th_eq hth
   repeat'((try(conv=>whnf));first|(refine fE ?_)|(refine q2X.mk ⟨qmN,?_⟩)|((apply qe);first|((refine qm (qiP (ab:=ab) (cb:=cb) (e:=3) (k:=0) hh2 ho cd ((bk,azP)::Q)) sbE ?_ ?_ (fun s v hv=> ?_);(exact rfl);(exact rfl);(obtain⟨rfl,hs⟩:=hv))))|(refine fA ?_)|(refine fL ?_)|(refine fN ?_)|(refine fM ?_)|(refine qf (fun bk hbk=> ?_)))
   all_goals exact⟨s,⟨rfl,hs⟩,sbE⟩
  ·obtain⟨h',rfl⟩:=AH.th_eq hth
   repeat'((try(conv=>whnf));first|(refine fE ?_)|(refine q2X.mk ⟨qmO,?_⟩)|((apply qe);first|((refine qm (qdh (ab:=ab) (e:=3) (k:=0) hh2 ho ((bk,azP)::Q)) sbE ?_ ?_ (fun s v hv=> ?_);(exact rfl);(exact rfl);(obtain⟨rfl,hs⟩:=hv))))|(refine fA ?_)|(refine fL ?_)|(refine fN ?_)|(refine fM ?_)|(refine qf (fun bk hbk=> ?_)))
   all_goals exact⟨s,⟨rfl,hs⟩,sbE⟩
 |tk v=>
  obtain⟨fb,vb,ab,hth,rfl⟩:=hE;obtain⟨h',rfl⟩:=AH.th_eq hth
  repeat'((try(conv=>whnf));first|(refine fE ?_)|(refine q2X.mk ⟨qmP,?_⟩)|((apply qe);first|((refine qB (D:= [(fb,q5u (fnv 190 [ptr ab]) 187),(vb,q5u (uv v) 49),(ab,abP h'.b)]) (qdi (h:={h' with th:=fnv 192 [ptr fb,ptr vb]}) (c:=c) (t:=t) (x:=x) (k:=0) v _) (fun _ v hv=> ?_);(subst hv))))|(refine fA ?_)|(refine fL ?_)|(refine fN ?_)|(refine fM ?_)|(refine qf (fun bk hbk=> ?_)))
  all_goals exact⟨({h' with th:=fnv 192 [ptr fb,ptr vb]},[]),⟨rfl,rfl,⟨hh.1,hh.2,hh.3,hh.4,hh.5,hh.6,hh.7,hh.8,hh.9⟩,rfl⟩,sbE⟩
 |wr a v=>
  obtain⟨ab,xb,vb,hth,rfl⟩:=hE;obtain⟨h',rfl⟩:=AH.th_eq hth
  repeat'((try(conv=>whnf));first|(refine fE ?_)|(refine q2X.mk ⟨qmQ,?_⟩)|((apply qe);first|((refine qm (qb3 (ab:=ab) (xb:=xb) (vb:=vb) (e:=3) hh ho hcw a v (hka a v rfl) ((bk,azP)::Q)) sbE ?_ ?_ (fun s v hv=> ?_);(exact rfl);(exact rfl);(obtain⟨rfl,hs⟩:=hv))))|(refine fA ?_)|(refine fL ?_)|(refine fN ?_)|(refine fM ?_)|(refine qf (fun bk hbk=> ?_)))
  all_goals exact⟨s,⟨rfl,hs⟩,sbE⟩
end
open Go
theorem AH.tn_eq{h:AH}{v:Value}(e:h.tn=v):∃h':AH,h={h' with tn:=v}:=⟨h,by cases h;cases e;rfl⟩
section
variable{W0:World}{own Q E:Own}{c:Cfg}{t:Nat}{h:AH}{x:AT}{k w:Int}{b e:Nat}{mh:MH}{m:MS}
theorem qlA(hh:h.ok c x)(hM:mh.ok m.L)(hE:TnO h true x.tk true E)(Q:Own):qt Tryz.prog W0 120 [ptr h.b,ptr mh.mb] (h.O c t x 11 3 (E++(mh.O m++Q)))
  (AtQ W0 c t h.b {x with ph:= .ps} 3 (mh.O {m with ck:=qM (x.ck+1)}++Q) (.tuple #[(acS 3 0 m.ck (qM (x.ck+1))).v, .int .i64 19])):=by
 unfold AtQ;refine sH [] ?_
 repeat'((try(conv=>whnf));first|(refine fE ?_)|(refine fD ?_)|(refine arw (k:= .u64) ?_)|((apply qe);first|((refine q2h 2 0 (qM (x.ck+1)) {m with ck:=qM (x.ck+1)} hM Y7 rfl rfl ?_ ?_ ?_;(exact rfl);(exact rfl))))|(refine fO ?_)|(refine fA ?_)|(refine fL ?_)|(refine fN ?_)|(refine fM ?_)|(refine qf (fun bk hbk=> ?_)))
 all_goals exact⟨(h,E),⟨rfl,rfl,⟨hh.1,hh.2,hh.3,hh.4,hh.5,hh.6,hh.7,hh.8,hh.9⟩,hE⟩,by show Ent W0 _ (AH.O _ c t _ 12 3 _);exact sbE⟩
theorem qly(hh:h.ok c x)(hM:mh.ok m.L)(hE:TnO h true x.tk true E)(htk:0≤x.tk∧x.tk≤1099511627776)(Q:Own):qt Tryz.prog W0 120 [ptr h.b,ptr mh.mb] (h.O c t x 12 3 (E++(mh.O m++Q)))
  (AtQ W0 c t h.b {x with ph:= .lv} 3 (mh.O {m with sv:=qM (x.tk+1)}++Q) (.tuple #[(acS 5 0 m.sv (qM (x.tk+1))).v, .int .i64 20])):=by
 unfold AtQ;refine sH [] ?_;obtain⟨tb,htn,rfl⟩:=hE.h;obtain⟨h',rfl⟩:=AH.tn_eq htn;have htc:=fun(own':Own) (m2:qy tb (tnP true x.tk true) own')=>qdv (W0:=W0) (c:=x.tk) (qk m2 rfl) (qk m2 rfl) htk
 repeat'((try(conv=>whnf));first|(refine fE ?_)|(refine fD ?_)|((apply qe);first|((refine qd (htc _ Y9) ?_))|((refine q45 (D:=mh.O m) (qiX hM htk _) (fun _ v hv=> ?_);(subst hv)))|((refine qG (q7t (h:={h' with tn:=ptr tb}) (c:=c) (t:=t) (x:=x) (k:=12) _) (fun _ v hv=> ?_);(subst hv))))|(refine fA ?_)|(refine fL ?_)|(refine fM ?_)|(refine qf (fun bk hbk=> ?_)))
 all_goals exact⟨({h' with tn:=ptr tb},[]),⟨rfl,rfl,⟨hh.1,hh.2,hh.3,hh.4,hh.5,hh.6,hh.7,hh.8,hh.9⟩,rfl⟩,by show Ent W0 _ (AH.O _ c t _ 14 3 _);exact sbE⟩
theorem qlx(hh:h.ok c x)(hM:mh.ok m.L)(hj:m.sl[t]? =some w)(Q:Own):qt Tryz.prog W0 120 [ptr h.b,ptr mh.mb] (h.O c t x 14 3 (mh.O m++Q))
  (AtQ W0 c t h.b {x with ph:= .idle,st:=2} 3 (mh.O {m with sl:=m.sl.set t 0}++Q) (.tuple #[(acS 6 t w 0).v, .int .i64 24])):=by
 unfold AtQ;refine sH [] ?_
 repeat'((try(conv=>whnf));first|(refine fE ?_)|(refine fD ?_)|((apply qe);first|((refine q45 (D:=mh.O m) (qfu hM hj _) (fun _ v hv=> ?_);(subst hv))))|(refine fA ?_)|(refine fL ?_)|(refine fN ?_)|(refine fM ?_)|(refine qf (fun bk hbk=> ?_)))
 all_goals exact⟨(h,[]),⟨rfl,rfl,⟨hh.1,hh.2,hh.3,hh.4,hh.5,hh.6,hh.7,hh.8,hh.9⟩,rfl⟩,by show Ent W0 _ (AH.O _ c t _ 0 3 _);exact sbE⟩
end
open Go
theorem AH.lk_eq{h:AH}{v:Value}(e:h.lk=v):∃h':AH,h={h' with lk:=v}:=⟨h,by cases h;cases e;rfl⟩
theorem LkQ.of{t:Nat}{h h':AH}{x x':AT}{E:Own}(e1:x'.oc=x.oc)(e2:x'.old=x.old)(e3:h'.lk=h.lk)(hE:LkQ t h x E):LkQ t h' x' E:=by
 unfold LkQ at*;rw[e1,e2]
 rcases hE with h|⟨h1,h2,s,⟨h3⟩⟩
 ·exact .inl h
 ·exact .inr ⟨h1,h2,s,⟨by rw[e1,e2,e3];exact h3⟩⟩
theorem TnO.of{h h':AH}{b d:Bool}{v:Int}{E:Own}(e:h'.tn=h.tn)(hE:TnO h b v d E):TnO h' b v d E:=⟨by rw[e];exact hE.h⟩
section
variable{W0:World}{own Q E:Own}{c:Cfg}{t:Nat}{h:AH}{x:AT}{k w:Int}{b e:Nat}{mh:MH}{m:MS}
theorem qj4{E1 E2:Own}(hh:h.ok c x)(hM:mh.ok m.L)(hE:TnO h false 0 false E1)(hE2:LkQ t h x E2)(Q:Own):qt Tryz.prog W0 168 [ptr h.b,ptr mh.mb] (h.O c t x 6 3 ((E1++E2)++(mh.O m++Q)))
  (AtQ W0 c t h.b {x with tk:=m.tk,ph:= .tn true} 3 (mh.O {m with tk:=qM (m.tk+1)}++Q) (.tuple #[(acA 4 0 m.tk 1).v, .int .i64 13])):=by
 unfold AtQ;refine sH [] ?_;obtain⟨tb,htn,rfl⟩:=hE.h;obtain⟨h',rfl⟩:=AH.tn_eq htn;have hdn:=fun(own':Own) (m2:qy tb (tnP true m.tk false) own')=>q4W (W0:=W0) (d:=false) (qk m2 rfl)
 repeat'((try(conv=>whnf));first|(refine fE ?_)|(refine fD ?_)|((apply qe);first|((refine qd (hdn _ Y9) ?_))|((refine qB (D:=mh.O m) (qg5 (b:=tb) hM _) (fun _ v hv=> ?_);(subst hv))))|(refine fA ?_)|(refine fL ?_)|(refine fM ?_)|(refine qf (fun bk hbk=> ?_)))
 all_goals exact⟨({h' with tn:=ptr tb},[(tb,tnP true m.tk false)]++E2),⟨rfl,rfl,⟨hh.1,hh.2,hh.3,hh.4,hh.5,hh.6,hh.7,hh.8,hh.9⟩,⟨_,E2,⟨tb,rfl,rfl⟩,by refine LkQ.of ?_ ?_ ?_ hE2 <;>rfl,rfl⟩⟩,by show Ent W0 _ (AH.O _ c t _ 6 3 _);exact sbE⟩
theorem qiY{o:Nat}(hh:h.ok c x)(hM:mh.ok m.L){s:Int}(hE:LkO t h x s false E)(ho:x.oc[x.old.length]? =some (o:Int))(hj:m.o[o]? =some w)(hw:okU w)(Q:Own):qt Tryz.prog W0 167 [ptr h.b,ptr mh.mb] (h.O c t x 5 3 (E++(mh.O m++Q)))
  (AtQ W0 c t h.b {x with ph:= .lk w (decide (q3R w<0))} 3 (mh.O m++Q) (.tuple #[(acL 2 o w).v, .int .i64 11])):=by
 unfold AtQ;refine sH [] ?_;obtain⟨kb,la,lc,lD,oa,oc,oD,hlk,hB,hB2,rfl⟩:=hE.h;obtain⟨h',rfl⟩:=AH.lk_eq hlk;have hlt:=(z7.1 ho).1;have hdn:=fun(own':Own) (m2:qy kb (lkP t la x.oc.length lc oa x.old.length oc w (decide (q3R w<0))) own')=>q3m (W0:=W0) (own:=own') (qk m2 rfl) (qk m2 rfl)
 rw[show decide (x.old.length=x.oc.length)=false from decide_eq_false Y6] at hdn;have hst:=fun(Q:Own) (eq:qv Q lD)=>qfz (W0:=W0) (b:=kb) (t:=t) (c:=lc) (c2:=oc) (a2:=oa) (l2:=x.old) (s:=s) hM (hB.rd (W0:=W0)) ho hj hw Q
 repeat'((try(conv=>whnf));first|(refine fD ?_)|((apply qe);first|((refine qd (hdn _ Y9) ?_))|((refine qB (D:=mh.O m) (hst _ Y9) (fun _ v hv=> ?_);(subst hv))))|(refine fA ?_)|(refine fL ?_)|(refine fM ?_)|(refine qf (fun bk hbk=> ?_)))
 all_goals exact⟨({h' with lk:=ptr kb},(kb,lkP t la x.oc.length lc oa x.old.length oc w (decide (q3R w<0)))::(lD++oD)),⟨rfl,rfl,⟨hh.1,hh.2,hh.3,hh.4,hh.5,hh.6,hh.7,hh.8,hh.9⟩,⟨kb,la,lc,lD,oa,oc,oD,rfl,hB,hB2,rfl⟩⟩,by show Ent W0 _ (AH.O _ c t _ 5 3 _);dsimp only;rw[zl,zd];exact sbE⟩
theorem qiZ{o:Nat}(hh:h.ok c x)(hM:mh.ok m.L){s:Int}(hE:LkO t h x s true E)(ho:x.oc[x.old.length]? =some (o:Int))(hj:m.o[o]? =some w)(hs:0≤s∧s+17≤18446744073709551615)(ht:t<16)(Q:Own):qt Tryz.prog W0 167 [ptr h.b,ptr mh.mb] (h.O c t x 5 3 (E++(mh.O m++Q)))
  (AtQ W0 c t h.b (if w=s then{x with old:=x.old++ [s],ph:=if x.old.length+1=x.oc.length then .tn false else .lk s false} else{x with ph:= .lk s false}) 3 (mh.O {m with o:=if w=s then m.o.set o (s+t+1) else m.o}++Q) (.tuple #[(acW 2 o w (s+t+1) (decide (w=s))).v, .int .i64 12])):=by
 unfold AtQ;refine sH [] ?_;obtain⟨kb,la,lc,lD,oa,oc,oD,hlk,hB,hB2,rfl⟩:=hE.h;obtain⟨h',rfl⟩:=AH.lk_eq hlk;have hlt:=(z7.1 ho).1;have hlo:=hh.lo;have hne:x.oc≠ []:=fun h=>by rw[h] at hlt;exact Nat.not_lt_zero _ hlt
 have hdn:=fun(own':Own) (n2 c2:Nat) (a2:Option Addr) (m2:qy kb (lkP t la x.oc.length lc a2 n2 c2 s false) own')=>q3m (W0:=W0) (own:=own') (qk m2 rfl) (qk m2 rfl)
 have hst:=fun(Q:Own) (eq:qv Q lD)=>qfA (W0:=W0) (b:=kb) (t:=t) (c:=lc) (c2:=oc) (a2:=oa) (l2:=x.old) (s:=s) hM (hB.rd (W0:=W0)) hB2 ho hj hs ht Y6 Q
 by_cases he:w=s
 ·simp only[if_pos he] at hst ⊢
  by_cases hl:x.old.length+1=x.oc.length
  ·simp only[if_pos hl];have hd2:decide ((x.old++ [s]).length=x.oc.length)=true:=decide_eq_true (by rw[z8];exact hl);have hdn2:=fun(own':Own) (c2:Nat) (a2:Option Addr) (m2:qy kb (lkP t la x.oc.length lc a2 (x.old++ [s]).length c2 s false) own')=>hdn own' _ c2 a2 m2
   simp only[hd2] at hdn2
   repeat'((try(conv=>whnf));first|(refine fE ?_)|((apply qe);first|((refine qd (hdn2 _ _ _ Y9) ?_))|((refine qm (hst ((bk,azP)::AH.O {h' with lk:=ptr kb} c t x 5 3 (lD++Q)) Y9) sbE ?_ ?_ (fun y v hv=> ?_);(exact rfl);(exact rfl);(obtain⟨a3,c3,D3⟩:=y;obtain⟨rfl,hB3⟩:=hv;dsimp only at hB3)))|((refine qi (q5M _) (fun tb v hv=> ?_);(subst hv))))|(refine fA ?_)|(refine fL ?_)|(refine fN ?_)|(refine fM ?_)|(refine qf (fun bk hbk=> ?_)))
   all_goals exact⟨({h' with lk:=ptr kb,tn:=ptr tb},[(tb,tnP false 0 false)]++((kb,lkP t la x.oc.length lc a3 (x.old++ [s]).length c3 s false)::(lD++D3))),⟨rfl,rfl,⟨hh.1,hh.2,hh.3,hh.4,hh.5,hh.6,hh.7,hh.8,hh.9⟩,⟨_,_,⟨tb,rfl,rfl⟩,(.inr ⟨hne,by rw[z8];exact hl,s,⟨kb,la,lc,lD,a3,c3,D3,rfl,hB,hB3,rfl⟩⟩),rfl⟩⟩,by show Ent W0 _ (AH.O _ c t _ 6 3 _);simp only[zd,zl,zi];exact sbE⟩
  ·simp only[if_neg hl];have hd2:decide ((x.old++ [s]).length=x.oc.length)=false:=decide_eq_false (by rw[z8];exact hl);have hdn2:=fun(own':Own) (c2:Nat) (a2:Option Addr) (m2:qy kb (lkP t la x.oc.length lc a2 (x.old++ [s]).length c2 s false) own')=>hdn own' _ c2 a2 m2
   simp only[hd2] at hdn2
   repeat'((try(conv=>whnf));first|(refine fE ?_)|(refine fD ?_)|((apply qe);first|((refine qd (hdn2 _ _ _ Y9) ?_))|((refine qm (hst ((bk,azP)::AH.O {h' with lk:=ptr kb} c t x 5 3 (lD++Q)) Y9) sbE ?_ ?_ (fun y v hv=> ?_);(exact rfl);(exact rfl);(obtain⟨a3,c3,D3⟩:=y;obtain⟨rfl,hB3⟩:=hv;dsimp only at hB3))))|(refine fA ?_)|(refine fL ?_)|(refine fM ?_)|(refine qf (fun bk hbk=> ?_)))
   all_goals exact⟨({h' with lk:=ptr kb},((kb,lkP t la x.oc.length lc a3 (x.old++ [s]).length c3 s false)::(lD++D3))),⟨rfl,rfl,⟨hh.1,hh.2,hh.3,hh.4,hh.5,hh.6,hh.7,hh.8,hh.9⟩,⟨kb,la,lc,lD,a3,c3,D3,rfl,hB,hB3,rfl⟩⟩,by show Ent W0 _ (AH.O _ c t _ 5 3 _);simp only[zd,zl];exact sbE⟩
 ·simp only[if_neg he] at hst ⊢;have hd2:decide (x.old.length=x.oc.length)=false:=decide_eq_false Y6;have hdn2:=fun(own':Own) (c2:Nat) (a2:Option Addr) (m2:qy kb (lkP t la x.oc.length lc a2 x.old.length c2 s false) own')=>hdn own' _ c2 a2 m2
  simp only[hd2] at hdn2
  repeat'((try(conv=>whnf));first|(refine fE ?_)|(refine fD ?_)|((apply qe);first|((refine qd (hdn2 _ _ _ Y9) ?_))|((refine qm (hst ((bk,azP)::AH.O {h' with lk:=ptr kb} c t x 5 3 (lD++Q)) Y9) sbE ?_ ?_ (fun y v hv=> ?_);(exact rfl);(exact rfl);(obtain⟨a3,c3,D3⟩:=y;obtain⟨rfl,hB3⟩:=hv;dsimp only at hB3))))|(refine fA ?_)|(refine fL ?_)|(refine fM ?_)|(refine qf (fun bk hbk=> ?_)))
  all_goals exact⟨({h' with lk:=ptr kb},((kb,lkP t la x.oc.length lc a3 x.old.length c3 s false)::(lD++D3))),⟨rfl,rfl,⟨hh.1,hh.2,hh.3,hh.4,hh.5,hh.6,hh.7,hh.8,hh.9⟩,⟨kb,la,lc,lD,a3,c3,D3,rfl,hB,hB3,rfl⟩⟩,by show Ent W0 _ (AH.O _ c t _ 5 3 _);simp only[zd,zl];exact sbE⟩
end
open Go
section
variable{W0:World}{own Q E:Own}{c:Cfg}{t:Nat}{h:AH}{x:AT}{k w:Int}{b e:Nat}{mh:MH}{m:MS}
theorem qj5{E1 E2:Own}(hh:h.ok c x)(hM:mh.ok m.L)(hE:TnO h true x.tk false E1)(hE2:LkQ t h x E2)(Q:Own):qt Tryz.prog W0 168 [ptr h.b,ptr mh.mb] (h.O c t x 6 3 ((E1++E2)++(mh.O m++Q)))
  (AtQ W0 c t h.b (if m.sv=x.tk then(if x.set= [] then{x with ph:= .dc} else{x with ph:= .ck x.set}) else{x with ph:= .tn true}) 3 (mh.O m++Q) (.tuple #[(acL 5 0 m.sv).v, .int .i64 14])):=by
 unfold AtQ;refine sH [] ?_;obtain⟨tb,htn,rfl⟩:=hE.h;obtain⟨h',rfl⟩:=AH.tn_eq htn;have hst:=fun Q=>qg6 (W0:=W0) (b:=tb) (c:=x.tk) hM Q
 by_cases he:m.sv=x.tk
 ·simp only[if_pos he,decide_eq_true he] at hst ⊢;have hdn:=fun(own':Own) (m2:qy tb (tnP true x.tk true) own')=>q4W (W0:=W0) (d:=true) (qk m2 rfl)
  have hls:=hh.ls;have hli:=fun(own':Own) (m2:qy h'.sb (stP c.reads h'.sa x.set.length h'.sc) own') (m3:qv own' h'.sD)=>qaU (W0:=W0) (own:=own') (qk m2 rfl) ((hh.hs.rd (W0:=W0)).up) Y6
  have hsn:=fun(own':Own) (m1:qy h'.b (atP c t {h' with tn:=ptr tb} x 6) own') (m2:qy h'.eb (enP t 3 x.rv) own')=>q9Z (W0:=W0) (qk m1 rfl) (qk m2 rfl) (qk m2 rfl) hh.rv Y7
  have hnc:=fun(own' D:Own) (sa:Option Addr) (sc:Nat) (hB:qu qx 3 1 sa sc x.set D) (m:qv own' D)=>q8K (W0:=W0) (own:=own') (c:=sc) ((hB.rd (W0:=W0)).up) Y6 x.rv
  have hcd:=fun(cb cc:Nat) (ca:Option Addr) (own':Own) (m2:qy cb (ckP ca x.set.length cc x.rv false) own')=>q4M (W0:=W0) (own:=own') (qk m2 rfl) (qk m2 rfl)
  by_cases hs:x.set= []
  ·simp only[if_pos hs];have hz:(false||decide (x.set.length=0))=true:=by rw[hs];rfl
   simp only[hz] at hcd
   repeat'((try(conv=>whnf));first|(refine fE ?_)|(refine fD ?_)|((apply qe);first|((refine qd (hdn _ Y9) ?_))|((refine qd (hsn _ Y9 Y9) ?_))|((refine qd (hcz _ Y9) ?_))|((refine qB (D:=mh.O m) (hst _) (fun _ v hv=> ?_);(subst hv)))|((refine qi (hli _ Y9 Y9) (fun y v hv=> ?_);(obtain⟨a1,c1,D1⟩:=y;obtain⟨rfl,hB1⟩:=hv;dsimp only at hB1)))|((refine qi (hnc _ _ _ _ hB1 Y9) (fun y v hv=> ?_);(obtain⟨cb,a2,c2,D2⟩:=y;obtain⟨rfl,hB2⟩:=hv;dsimp only at hB2;have hcz:=hcd cb c2 a2))))|(refine fA ?_)|(refine fL ?_)|(refine fN ?_)|(refine fM ?_)|(refine qf (fun bk hbk=> ?_)))
   all_goals exact⟨({h' with tn:=ptr tb,ck:=ptr cb},[(tb,tnP true x.tk true)]++E2),⟨rfl,rfl,⟨hh.1,hh.2,hh.3,hh.4,hh.5,hh.6,hh.7,hh.8,hh.9⟩,⟨_,E2,⟨tb,rfl,rfl⟩,by refine LkQ.of ?_ ?_ ?_ hE2 <;>rfl,rfl⟩⟩,by show Ent W0 _ (AH.O _ c t _ 8 3 _);exact sbE⟩
  ·simp only[if_neg hs];have hz:(false||decide (x.set.length=0))=false:=by rw[yN];exact decide_eq_false fun e=>hs (zA.1 e)
   simp only[hz] at hcd
   repeat'((try(conv=>whnf));first|(refine fE ?_)|(refine fD ?_)|((apply qe);first|((refine qd (hdn _ Y9) ?_))|((refine qd (hsn _ Y9 Y9) ?_))|((refine qd (hcz _ Y9) ?_))|((refine qB (D:=mh.O m) (hst _) (fun _ v hv=> ?_);(subst hv)))|((refine qi (hli _ Y9 Y9) (fun y v hv=> ?_);(obtain⟨a1,c1,D1⟩:=y;obtain⟨rfl,hB1⟩:=hv;dsimp only at hB1)))|((refine qi (hnc _ _ _ _ hB1 Y9) (fun y v hv=> ?_);(obtain⟨cb,a2,c2,D2⟩:=y;obtain⟨rfl,hB2⟩:=hv;dsimp only at hB2;have hcz:=hcd cb c2 a2))))|(refine fA ?_)|(refine fL ?_)|(refine fN ?_)|(refine fM ?_)|(refine qf (fun bk hbk=> ?_)))
   all_goals exact⟨({h' with tn:=ptr tb,ck:=ptr cb},(cb,ckP a2 x.set.length c2 x.rv false)::(D2++([(tb,tnP true x.tk true)]++E2))),⟨rfl,rfl,⟨hh.1,hh.2,hh.3,hh.4,hh.5,hh.6,hh.7,hh.8,hh.9⟩,⟨_,E2,cb,a2,c2,D2,⟨tb,rfl,rfl⟩,by refine LkQ.of ?_ ?_ ?_ hE2 <;>rfl,rfl,⟨hB2.rd,hB2.le⟩,rfl⟩⟩,by show Ent W0 _ (AH.O _ c t _ 7 3 _);simp only[zd,zl,zi];exact sbE⟩
 ·simp only[if_neg he,decide_eq_false he] at hst ⊢;have hdn:=fun(own':Own) (m2:qy tb (tnP true x.tk false) own')=>q4W (W0:=W0) (d:=false) (qk m2 rfl)
  repeat'((try(conv=>whnf));first|(refine fD ?_)|((apply qe);first|((refine qd (hdn _ Y9) ?_))|((refine qB (D:=mh.O m) (hst _) (fun _ v hv=> ?_);(subst hv))))|(refine fA ?_)|(refine fL ?_)|(refine fM ?_)|(refine qf (fun bk hbk=> ?_)))
  all_goals exact⟨({h' with tn:=ptr tb},[(tb,tnP true x.tk false)]++E2),⟨rfl,rfl,⟨hh.1,hh.2,hh.3,hh.4,hh.5,hh.6,hh.7,hh.8,hh.9⟩,⟨_,E2,⟨tb,rfl,rfl⟩,by refine LkQ.of ?_ ?_ ?_ hE2 <;>rfl,rfl⟩⟩,by show Ent W0 _ (AH.O _ c t _ 6 3 _);exact sbE⟩
end
open Go
class q28(D own:Own)(r:outParam Own):Prop where
 h:own.Perm (D++r)
instance q28.nil{own:Own}:q28 [] own own:=⟨List.Perm.refl _⟩
instance q28.cons{D own r r1:Own}{b:Nat}{p:Obj→Prop} [m:q1r b p own r1] [k:q28 D r1 r]:q28 ((b,p)::D) own r:=⟨m.h.trans (k.h.cons _)⟩
instance q28.app{A D own r r1:Own} [m:qT A own r1] [k:q28 D r1 r]:q28 (A++D) own r:=⟨m.h.trans (by rw[zd];exact k.h.append_left A)⟩
section
variable{P:Program}{W0:World}{own D r r1:Own}{f f0:FuncId}{args args0:List Value}{b:Nat}{p p':Obj→Prop}
theorem qhB{σ:Type}{R:σ→Value→Prop}{O:σ→Own→Own}{own0:Own→Own}{K:Value→Own→Prop} [m1:q1r b p own r1] [m2:q28 D r1 r](h:∀Q,qt P W0 f0 args0 (own0 Q) fun v own'=>∃s,R s v∧Ent W0 own' (O s Q))(hD:∀Q,Ent W0 ((b,p')::(D++Q)) (own0 Q))
  (ep:p=p') (ek:f=f0) (ea:args=args0) (hk:∀s v,R s v→K v (O s r)):q0w P W0 own f args K:=by
 subst ek;subst ea;subst ep;exact⟨fun w hw=>(h r w (hD r w (Ent.of_perm (m1.h.trans (m2.h.cons _)) w hw))).mono fun _ _ ⟨_,_,he,hs,s,hR,hE⟩=>⟨_,O s r,he,hE _ hs,hk s _ hR⟩⟩
theorem qo{σ:Type}{R:σ→Value→Prop}{O:σ→Own→Own}{own0:Own→Own}{K:Value→Own→Prop} [m1:q1r b p own r1] [m2:q28 D r1 r](h:∀Q,qt P W0 f0 args0 (own0 Q) fun v own'=>∃s,R s v∧Ent W0 own' (O s Q))(hD:∀Q,Ent W0 ((b,p')::(D++Q)) (own0 Q))(hk:∀s v,R s v→K v (O s r))(ep:p=p':=by exact rfl)(ek:f=f0:=by exact rfl)(ea:args=args0:=by exact rfl):q0w P W0 own f args K:=qhB h hD ep ek ea hk
end
theorem AH.ck_eq{h:AH}{v u:Value}(e:h.ck=v)(e2:h.tn=u):∃h':AH,h={h' with ck:=v,tn:=u}:=⟨h,by cases h;cases e;cases e2;rfl⟩
section
variable{W0:World}{own Q E:Own}{c:Cfg}{t:Nat}{h:AH}{x:AT}{k w:Int}{b e:Nat}{mh:MH}{m:MS}
theorem q9Y{E1 E2:Own}(hh:h.ok c x)(hE:TnO h true x.tk true E1)(hE2:LkQ t h x E2)(Q:Own):qt Tryz.prog W0 251 [ptr h.b] (h.O c t x k 3 ((E1++E2)++Q))
  (AtQ W0 c t h.b x.rest 3 Q (.tuple #[])):=by
 unfold AtQ AT.rest;refine sH [3,5,7,9,11,15,17,19,21,23,1,13,26,28,29,31,34,35,37,39,42,0,26,13,28,29,31,34,35,37,39,42,0] ?_
 rcases hE2 with ⟨h1,rfl⟩|⟨h1,h2,s,⟨kb,la,lc,lD,oa,oc,oD,hlk,hB,hB2,rfl⟩⟩
 ·simp only[if_pos h1];have hz:x.oc.length=0:=by rw[h1];rfl
  have hz2:(x.oc.length:Int)=0:=Y6
  repeat'((try(conv=>whnf));first|(refine fF ?_)|(refine fA ?_)|(refine fN ?_))
  all_goals exact⟨(h,E1),⟨rfl,rfl,⟨hh.1,hh.2,hh.3,hh.4,hh.5,hh.6,hh.7,hh.8,hh.9⟩,hE⟩,by show Ent W0 _ (AH.O _ c t _ 12 3 _);exact sbE⟩
 ·simp only[if_neg h1];obtain⟨h',rfl⟩:=AH.lk_eq hlk;have hz0:x.oc.length≠0:=fun e=>h1 (zA.1 e)
  have hz:¬(x.oc.length:Int)=0:=Y6;have hlo:=hh.lo;have hol:=fun(own':Own) (m2:qy kb (lkP t la x.oc.length lc oa x.old.length oc s false) own') (m3:qv own' oD)=>qfx (W0:=W0) (own:=own') (qk m2 rfl) ((hB2.rd (W0:=W0)).up) Y6
  have hnr:=fun(D:Own) (a:Option Addr) (cc:Nat) (hB3:qu q09 49 1 a cc x.old D) (own':Own) (m:qv own' h'.oD) (m3:qv own' D)=>q7z (W0:=W0) (own:=own') (c:=h'.oc) (c2:=cc) ((hh.ho.rd (W0:=W0)).up) ((hB3.rd (W0:=W0)).up) Y6 h2 hh.ho.le hB3.le
  repeat'((try(conv=>whnf));first|(refine fG ?_)|((apply qe);first|((refine qi (hol _ Y9 Y9) (fun y v hv=> ?_);(obtain⟨a3,c3,D3⟩:=y;obtain⟨rfl,hB3⟩:=hv;dsimp only at hB3;have hnz:=hnr D3 a3 c3 hB3)))|((refine qi (hnz _ Y9 Y9) (fun y v hv=> ?_);(obtain⟨rb,⟨a4,c4,D4⟩,⟨a5,c5,D5⟩⟩:=y;obtain⟨rfl,hB4,hB5⟩:=hv;dsimp only at hB4 hB5))))|(refine fA ?_)|(refine fN ?_)|(refine q1c.mk ?_ ?_))
  all_goals exact⟨({h' with lk:=ptr kb,rl:=ptr rb},(rb,rlP a4 x.oc.length c4 a5 x.old.length c5)::(D4++(D5++E1))),⟨rfl,rfl,⟨hh.1,hh.2,hh.3,hh.4,hh.5,hh.6,hh.7,hh.8,hh.9⟩,⟨E1,rb,a4,c4,D4,a5,c5,D5,by refine TnO.of ?_ hE;rfl,rfl,⟨hB4.rd,hB4.le⟩,⟨hB5.rd,hB5.le⟩,rfl⟩⟩,by show Ent W0 _ (AH.O _ c t _ 10 3 _);simp only[zd,zl];exact sbE⟩
theorem qlv{E1 E2:Own}{cb cc o:Nat}{ca:Option Addr}{cD:Own}{l:List Int}(hh:h.ok c x)(hM:mh.ok m.L)(hE:TnO h true x.tk true E1)(hE2:LkQ t h x E2)(hck:h.ck=ptr cb)(hL:RdE qx 1 W0 cD ca ((o:Int)::l))(hcc:l.length+1≤cc)(hj:m.o[o]? =some w)(hw:okU w)(Q:Own):
  qt Tryz.prog W0 169 [ptr h.b,ptr mh.mb] (h.O c t x 7 3 ((cb,ckP ca (l.length+1) cc x.rv false)::(cD++((E1++E2)++(mh.O m++Q)))))
  (AtQ W0 c t h.b (if q5V w>x.rv then{x with code:=9}.rest else if l= [] then{x with ph:= .dc} else{x with ph:= .ck l}) 3 (mh.O m++Q) (.tuple #[(acL 2 o w).v, .int .i64 15])):=by
 unfold AtQ;refine sH [] ?_;obtain⟨tb,htn,rfl⟩:=hE.h;obtain⟨h',rfl⟩:=AH.ck_eq hck htn;have hst:=fun(Q:Own) (eq:qv Q cD)=>qcQ (W0:=W0) (b:=cb) (c:=cc) (rv:=x.rv) hM hL hj hw Q
 have hfl:=fun(own':Own) (f:Bool) (m2:qy cb (ckP (slA ca cc 1 1) l.length (cc-1) x.rv f) own')=>qcP (W0:=W0) (own:=own') (qk m2 rfl)
 have hdn:=fun(own':Own) (m2:qy cb (ckP (slA ca cc 1 1) l.length (cc-1) x.rv false) own')=>q4M (W0:=W0) (own:=own') (qk m2 rfl) (qk m2 rfl)
 by_cases hv:q5V w>x.rv
 ·simp only[if_pos hv,decide_eq_true hv] at hst ⊢;have hrs:=fun Q=>q9Y (W0:=W0) (t:=t) (k:=7) (c:=c) (x:={x with code:=9}) (h:={h' with ck:=ptr cb,tn:=ptr tb}) (E1:= [(tb,tnP true x.tk true)]) (E2:=E2) ⟨hh.1,hh.2,hh.3,hh.4,hh.5,hh.6,hh.7,hh.8,hh.9⟩ ⟨tb,rfl,rfl⟩ (by refine LkQ.of ?_ ?_ ?_ hE2 <;>rfl) Q
  repeat'((try(conv=>whnf));first|(refine fE ?_)|((apply qe);first|((refine qd (hfl _ _ Y9) ?_))|((refine qB (D:=mh.O m) (hst _ Y9) (fun _ v hv=> ?_);(subst hv)))|((refine qo (b:=h'.b) (D:=AH.R {h' with ck:=ptr cb,tn:=ptr tb} c t x 3 ([(tb,tnP true x.tk true)]++(E2++ []))) hrs (fun Q=>by simp only[zd];exact sbE) (fun s v hv=> ?_);(obtain⟨rfl,hs⟩:=hv))))|(refine fA ?_)|(refine fL ?_)|(refine fN ?_)|(refine fM ?_)|(refine qf (fun bk hbk=> ?_)))
  all_goals exact⟨s,⟨rfl,hs⟩,sbE⟩
 ·simp only[if_neg hv,decide_eq_false hv] at hst ⊢
  by_cases hl:l= []
  ·simp only[if_pos hl];have hz:(false||decide (l.length=0))=true:=by rw[hl];rfl
   simp only[hz] at hdn
   repeat'((try(conv=>whnf));first|(refine fE ?_)|(refine fD ?_)|((apply qe);first|((refine qd (hfl _ _ Y9) ?_))|((refine qd (hdn _ Y9) ?_))|((refine qB (D:=mh.O m) (hst _ Y9) (fun _ v hv=> ?_);(subst hv))))|(refine fA ?_)|(refine fL ?_)|(refine fN ?_)|(refine fM ?_)|(refine qf (fun bk hbk=> ?_)))
   all_goals exact⟨({h' with ck:=ptr cb,tn:=ptr tb},[(tb,tnP true x.tk true)]++E2),⟨rfl,rfl,⟨hh.1,hh.2,hh.3,hh.4,hh.5,hh.6,hh.7,hh.8,hh.9⟩,⟨_,E2,⟨tb,rfl,rfl⟩,by refine LkQ.of ?_ ?_ ?_ hE2 <;>rfl,rfl⟩⟩,by show Ent W0 _ (AH.O _ c t _ 8 3 _);exact sbE⟩
  ·simp only[if_neg hl];have hz:(false||decide (l.length=0))=false:=by rw[yN];exact decide_eq_false fun e=>hl (zA.1 e)
   simp only[hz] at hdn
   repeat'((try(conv=>whnf));first|(refine fD ?_)|((apply qe);first|((refine qd (hfl _ _ Y9) ?_))|((refine qd (hdn _ Y9) ?_))|((refine qB (D:=mh.O m) (hst _ Y9) (fun _ v hv=> ?_);(subst hv))))|(refine fA ?_)|(refine fL ?_)|(refine fM ?_)|(refine qf (fun bk hbk=> ?_)))
   all_goals exact⟨({h' with ck:=ptr cb,tn:=ptr tb},(cb,ckP (slA ca cc 1 1) l.length (cc-1) x.rv false)::(cD++([(tb,tnP true x.tk true)]++E2))),⟨rfl,rfl,⟨hh.1,hh.2,hh.3,hh.4,hh.5,hh.6,hh.7,hh.8,hh.9⟩,⟨_,E2,cb,_,_,cD,⟨tb,rfl,rfl⟩,by refine LkQ.of ?_ ?_ ?_ hE2 <;>rfl,rfl,⟨RdE.tl hL hcc,Y6⟩,rfl⟩⟩,by show Ent W0 _ (AH.O _ c t _ 7 3 _);simp only[zd,zl,zi];exact sbE⟩
end
open Go
theorem AH.rl_eq{h:AH}{v u:Value}(e:h.rl=v)(e2:h.tn=u):∃h':AH,h={h' with rl:=v,tn:=u}:=⟨h,by cases h;cases e;cases e2;rfl⟩
section
variable{W0:World}{own Q E:Own}{c:Cfg}{t:Nat}{h:AH}{x:AT}{k w:Int}{b e:Nat}{mh:MH}{m:MS}
theorem q2S{d:Bool}{ck:Int}{b2 n c2:Nat}{a2:Option Addr}(h38:Cl W0 own b 38 (.bool d))(h37:Cl W0 own b 37 (uv ck))(hck:0≤ck∧ck≤1099511627776)(h30:Cl W0 own b 30 (.int .i64 k))(h1:Cl W0 own b 1 (ptr b2))(hl:Cl W0 own b2 1 (.slice a2 n c2)):
  qE Tryz.prog W0 68 [ptr b] own (.int .i64 (if d=true∧k=1∧n≠0 then ck+1 else-1)):=by
 refine qg (sH [] ?_);have hs:=q3n h30 h1 hl;cases d with
 |false=>
  rw[if_neg Y8]
  repeat'((try(conv=>whnf));first|(refine fI ?_)|(refine fE ?_)|(refine q0d h38 ?_))
  all_goals exact⟨rfl,(eC)⟩
 |true=>
  by_cases hk:k=1∧n≠0
  ·rw[decide_eq_true hk] at hs;rw[if_pos ⟨rfl,hk⟩]
   repeat'((try(conv=>whnf));first|(refine fH ?_)|(refine fD ?_)|(refine q0d h38 ?_)|(refine q0d h37 ?_)|((apply qe);first|((refine qd (hs) ?_)))|(refine fB ?_))
   all_goals exact⟨rfl,(eC)⟩
  ·rw[decide_eq_false hk] at hs;rw[if_neg (fun e=>hk e.2)]
   repeat'((try(conv=>whnf));first|(refine fH ?_)|(refine fE ?_)|(refine q0d h38 ?_)|((apply qe);first|((refine qd (hs) ?_))))
   all_goals exact⟨rfl,(eC)⟩
theorem q8T:(x.dn=true∧x.sto=true)↔(x.dn=true∧x.code=1∧x.ad.length≠0):=by
 unfold AT.sto;rw[decide_eq_true_iff];exact⟨fun h=>⟨h.1,h.2.1,fun e=>h.2.2 (zA.1 e)⟩,fun h=>⟨h.1,h.2.1,fun e=>h.2.2 (by rw[e];rfl)⟩⟩
theorem qlz{E1:Own}{wb wc vc o:Nat}{wa va:Option Addr}{wD vD:Own}{l l2:List Int}{v:Int}(hh:h.ok c x)(hM:mh.ok m.L)(hE:TnO h true x.tk true E1)(hrl:h.rl=ptr wb)(hL:RdE qx 1 W0 wD wa ((o:Int)::l))(hL2:RdE q09 1 W0 vD va (v::l2))(hc1:l.length+1≤wc)(hc2:l2.length+1≤vc)
  (hj:m.o[o]? =some w) (hck:0≤x.ck∧x.ck≤1099511627776) (Q:Own):qt Tryz.prog W0 172 [ptr h.b,ptr mh.mb] (h.O c t x 10 3 ((wb,rlP wa (l.length+1) wc va (l2.length+1) vc)::(wD++(vD++(E1++(mh.O m++Q))))))
  (AtQ W0 c t h.b (if l= [] then{x with ph:=if x.dn=true∧x.sto=true then .sp else .ps} else{x with ph:= .rl l l2}) 3 (mh.O {m with o:=m.o.set o v}++Q) (.tuple #[(acS 2 o w v).v, .int .i64 18])):=by
 unfold AtQ;refine sH [] ?_;obtain⟨tb,htn,rfl⟩:=hE.h;obtain⟨h',rfl⟩:=AH.rl_eq hrl htn;have hst:=fun(Q:Own) (e1:qv Q wD) (e2:qv Q vD)=>qdj (W0:=W0) (F:=Q) (b:=wb) (c:=wc) (c2:=vc) hM (hL.up) (hL2.up) hj Q
 have hdn:=fun(own':Own) (m2:qy wb (rlP (slA wa wc 1 1) l.length (wc-1) (slA va vc 1 1) l2.length (vc-1)) own')=>q7C (W0:=W0) (own:=own') (qk m2 rfl)
 have hve:=fun(own':Own) (m1:qy h'.b (atP c t {h' with rl:=ptr wb,tn:=ptr tb} x 12) own') (m2:qy h'.g.b (lgP c.writes h'.g.aa x.ad.length h'.g.ca h'.g.va x.vl.length h'.g.cv h'.g.ib h'.g.P) own')=>q2S (W0:=W0) (qk m1 rfl) (qk m1 rfl) hck (qk m1 rfl) (qk m1 rfl) (qk m2 rfl)
 by_cases hl:l= []
 ·have hz:decide (l.length=0)=true:=by rw[hl];rfl
  simp only[if_pos hl,hz] at hdn ⊢
  by_cases hs:x.dn=true∧x.sto=true
  ·simp only[if_pos hs,if_pos (q8T.1 hs)] at hve ⊢;have hp:x.ck+1≥0:=Y6
   repeat'((try(conv=>whnf));first|(refine fE ?_)|(refine fF ?_)|((apply qe);first|((refine qd (hdn _ Y9) ?_))|((refine qd (hve _ Y9 Y9) ?_))|((refine qB (D:=mh.O m) (hst _ Y9 Y9) (fun _ v hv=> ?_);(subst hv))))|(refine fA ?_)|(refine fL ?_)|(refine fN ?_)|(refine fM ?_)|(refine qf (fun bk hbk=> ?_)))
   all_goals exact⟨({h' with rl:=ptr wb,tn:=ptr tb},[(tb,tnP true x.tk true)]),⟨rfl,rfl,⟨hh.1,hh.2,hh.3,hh.4,hh.5,hh.6,hh.7,hh.8,hh.9⟩,(⟨tb,rfl,rfl⟩:TnO _ _ _ _ _)⟩,by show Ent W0 _ (AH.O _ c t _ 11 3 _);exact sbE⟩
  ·simp only[if_neg hs,if_neg (fun e=>hs (q8T.2 e))] at hve ⊢
   repeat'((try(conv=>whnf));first|(refine fE ?_)|(refine fD ?_)|((apply qe);first|((refine qd (hdn _ Y9) ?_))|((refine qd (hve _ Y9 Y9) ?_))|((refine qB (D:=mh.O m) (hst _ Y9 Y9) (fun _ v hv=> ?_);(subst hv))))|(refine fA ?_)|(refine fL ?_)|(refine fN ?_)|(refine fM ?_)|(refine qf (fun bk hbk=> ?_)))
   all_goals exact⟨({h' with rl:=ptr wb,tn:=ptr tb},[(tb,tnP true x.tk true)]),⟨rfl,rfl,⟨hh.1,hh.2,hh.3,hh.4,hh.5,hh.6,hh.7,hh.8,hh.9⟩,(⟨tb,rfl,rfl⟩:TnO _ _ _ _ _)⟩,by show Ent W0 _ (AH.O _ c t _ 12 3 _);exact sbE⟩
 ·have hz:decide (l.length=0)=false:=decide_eq_false fun e=>hl (zA.1 e)
  simp only[if_neg hl,hz] at hdn ⊢
  repeat'((try(conv=>whnf));first|(refine fD ?_)|((apply qe);first|((refine qd (hdn _ Y9) ?_))|((refine qB (D:=mh.O m) (hst _ Y9 Y9) (fun _ v hv=> ?_);(subst hv))))|(refine fA ?_)|(refine fL ?_)|(refine fM ?_)|(refine qf (fun bk hbk=> ?_)))
  all_goals exact⟨({h' with rl:=ptr wb,tn:=ptr tb},(wb,rlP (slA wa wc 1 1) l.length (wc-1) (slA va vc 1 1) l2.length (vc-1))::(wD++(vD++ [(tb,tnP true x.tk true)]))),⟨rfl,rfl,⟨hh.1,hh.2,hh.3,hh.4,hh.5,hh.6,hh.7,hh.8,hh.9⟩,⟨_,wb,_,_,wD,_,_,vD,⟨tb,rfl,rfl⟩,rfl,⟨RdE.tl hL hc1,Y6⟩,⟨RdE.tl hL2 hc2,Y6⟩,rfl⟩⟩,by show Ent W0 _ (AH.O _ c t _ 10 3 _);simp only[zd,zl,zi];exact sbE⟩
end
open Go
section
variable{W0:World}{own Q E:Own}{c:Cfg}{t:Nat}{h:AH}{x:AT}{k w:Int}{b e:Nat}{mh:MH}{m:MS}
theorem q6G:x.sto=true↔(x.code=1∧x.ad.length≠0):=by
 unfold AT.sto;rw[decide_eq_true_iff];exact⟨fun h=>⟨h.1,fun e=>h.2 (zA.1 e)⟩,fun h=>⟨h.1,fun e=>h.2 (by rw[e];rfl)⟩⟩
theorem qlw{E1 E2:Own}(hh:h.ok c x)(hM:mh.ok m.L)(hE:TnO h true x.tk true E1)(hE2:LkQ t h x E2)(hcl:0≤c.clock∧c.clock≤1099511627776)(Q:Own):qt Tryz.prog W0 170 [ptr h.b,ptr mh.mb] (h.O c t x 8 3 ((E1++E2)++(mh.O m++Q)))
  (AtQ W0 c t h.b (if x.sto=true∧m.ck≥c.clock then{x with ck:=m.ck,code:=6}.rest else if x.sto=true then{x with ck:=m.ck,dn:=true,ph:= .wr x.ad x.vl} else{x with ck:=m.ck,dn:=true}.rest) 3 (mh.O m++Q) (.tuple #[(acL 3 0 m.ck).v, .int .i64 16])):=by
 unfold AtQ;refine sH [3,5,7,9,11,13,15,17,19,21,23,25,27,29,31,0,3,5,7,9,11,13,15,19,21,23,25,1,18,27,30,32,33,35,38,39,41,43,46,0,27,18,30,32,33,35,38,39,41,43,46,0] ?_;have hs1:=fun(own':Own) (m1:qy h.b (atP c t h {x with ck:=m.ck} 8) own') (m2:qy h.g.b (lgP c.writes h.g.aa x.ad.length h.g.ca h.g.va x.vl.length h.g.cv h.g.ib h.g.P) own')=>q3n (W0:=W0) (qk m1 rfl) (qk m1 rfl) (qk m2 rfl)
 have hs2:=fun(own':Own) (m1:qy h.b (atP c t h {x with ck:=m.ck,dn:=true} 8) own') (m2:qy h.g.b (lgP c.writes h.g.aa x.ad.length h.g.ca h.g.va x.vl.length h.g.cv h.g.ib h.g.P) own')=>q3n (W0:=W0) (qk m1 rfl) (qk m1 rfl) (qk m2 rfl)
 have hrs:=fun(cd:Int) (dn:Bool) Q=>q9Y (W0:=W0) (t:=t) (k:=8) (c:=c) (x:={x with ck:=m.ck,code:=cd,dn:=dn}) (h:=h) (E1:=E1) (E2:=E2) ⟨hh.1,hh.2,hh.3,hh.4,hh.5,hh.6,hh.7,hh.8,hh.9⟩ hE (by refine LkQ.of ?_ ?_ ?_ hE2 <;>rfl) Q
 by_cases hs:x.sto=true
 ·have hd:decide (x.code=1∧x.ad.length≠0)=true:=decide_eq_true (q6G.1 hs);simp only[hd] at hs1 hs2
  by_cases hg:m.ck≥c.clock
  ·simp only[if_pos (And.intro hs hg)];have hg2:(acL (((2:Nat):Int)+1) ((0:Nat):Int) m.ck).got≥c.clock:=hg
   repeat'((try(conv=>whnf));first|(refine fH ?_)|(refine fF ?_)|((apply qe);first|((refine q0O 2 0 hM Y7 rfl ?_ ?_ ?_;(exact rfl);(exact rfl)))|((refine qo (b:=h.b) (D:=AH.R h c t x 3 (E1++(E2++ []))) (hrs 6 x.dn) (fun Q=>by simp only[zd];exact sbE) (fun s v hv=> ?_);(obtain⟨rfl,hs⟩:=hv))))|((apply qz);first|((refine qj (fun ex=>hs1 _ Y9 Y9) ?_)))|(refine fC ?_)|(refine fO ?_)|(refine fA ?_)|(refine fL ?_)|(refine fN ?_)|(refine fM ?_)|(refine qf (fun bk hbk=> ?_)))
   all_goals exact⟨s,⟨rfl,hs⟩,sbE⟩
  ·simp only[if_neg (fun e:x.sto=true∧m.ck≥c.clock=>hg e.2),if_pos hs];have hg2:¬(acL (((2:Nat):Int)+1) ((0:Nat):Int) m.ck).got≥c.clock:=hg;have hml:x.ad.length≤1000000:=by
    have h1:=hh.hg.hm;have h2:=hh.wr;omega
   have hvl:=hh.hg.hl;have hAd:=fun(own':Own) (m2:qy h.g.b (lgP c.writes h.g.aa x.ad.length h.g.ca h.g.va x.vl.length h.g.cv h.g.ib h.g.P) own') (m3:qv own' h.g.aD)=>q3H (W0:=W0) (own:=own') (qk m2 rfl) ((hh.hg.hA.rd (W0:=W0)).up) hml
   have hVl:=fun(own':Own) (m2:qy h.g.b (lgP c.writes h.g.aa x.ad.length h.g.ca h.g.va x.vl.length h.g.cv h.g.ib h.g.P) own') (m3:qv own' h.g.vD)=>qd8 (W0:=W0) (own:=own') (qk m2 rfl) ((hh.hg.hV.rd (W0:=W0)).up) Y6
   have hnw:=fun(a a2:Option Addr) (cc cc2:Nat) (D D2:Own) (hB:qu qx 3 1 a cc x.ad D) (hB2:qu q09 49 1 a2 cc2 x.vl D2) (own':Own) (m:qv own' D) (m3:qv own' D2)=>q8N (W0:=W0) (own:=own') (c:=cc) (c2:=cc2) ((hB.rd (W0:=W0)).up) ((hB2.rd (W0:=W0)).up) hml hvl hB.le hB2.le
   repeat'((try(conv=>whnf));first|(refine fH ?_)|(refine fE ?_)|(refine fG ?_)|((apply qe);first|((refine qd (hs2 _ Y9 Y9) ?_))|((refine q0O 2 0 hM Y7 rfl ?_ ?_ ?_;(exact rfl);(exact rfl)))|((refine qi (hAd _ Y9 Y9) (fun y v hv=> ?_);(obtain⟨a1,c1,D1⟩:=y;obtain⟨rfl,hB1⟩:=hv;dsimp only at hB1;try have hnz:=hnw _ _ _ _ _ _ hB1 hB2)))|((refine qi (hVl _ Y9 Y9) (fun y v hv=> ?_);(obtain⟨a2,c2,D2⟩:=y;obtain⟨rfl,hB2⟩:=hv;dsimp only at hB2;try have hnz:=hnw _ _ _ _ _ _ hB1 hB2)))|((refine qi (hnz _ Y9 Y9) (fun y v hv=> ?_);(obtain⟨wb,⟨a4,c4,D4⟩,⟨a5,c5,D5⟩⟩:=y;obtain⟨rfl,hB4,hB5⟩:=hv;dsimp only at hB4 hB5))))|((apply qz);first|((refine qj (fun ex=>hs1 _ Y9 Y9) ?_)))|(refine fC ?_)|(refine fO ?_)|(refine fA ?_)|(refine fL ?_)|(refine fN ?_)|(refine fM ?_)|(refine qf (fun bk hbk=> ?_))|(refine q1c.mk ?_ ?_))
   all_goals exact⟨({h with wr:=ptr wb},(wb,wrP a4 x.ad.length c4 a5 x.vl.length c5)::(D4++(D5++E1))),⟨rfl,rfl,⟨hh.1,hh.2,hh.3,hh.4,hh.5,hh.6,hh.7,hh.8,hh.9⟩,⟨E1,wb,a4,c4,D4,a5,c5,D5,by refine TnO.of ?_ hE;rfl,rfl,⟨hB4.rd,hB4.le⟩,⟨hB5.rd,hB5.le⟩,rfl⟩⟩,by show Ent W0 _ (AH.O _ c t _ 9 3 _);simp only[zd,zl];exact sbE⟩
 ·simp only[if_neg (fun e:x.sto=true∧m.ck≥c.clock=>hs e.1),if_neg hs];have hd:decide (x.code=1∧x.ad.length≠0)=false:=decide_eq_false fun e=>hs (q6G.2 e)
  simp only[hd] at hs1 hs2
  repeat'((try(conv=>whnf));first|(refine fI ?_)|(refine fD ?_)|((apply qe);first|((refine qd (hs2 _ Y9 Y9) ?_))|((refine q0O 2 0 hM Y7 rfl ?_ ?_ ?_;(exact rfl);(exact rfl)))|((refine qo (b:=h.b) (D:=AH.R h c t x 3 (E1++(E2++ []))) (hrs x.code true) (fun Q=>by simp only[zd];exact sbE) (fun s v hv=> ?_);(obtain⟨rfl,hs⟩:=hv))))|((apply qz);first|((refine qj (fun ex=>hs1 _ Y9 Y9) ?_)))|(refine fO ?_)|(refine fA ?_)|(refine fL ?_)|(refine fN ?_)|(refine fM ?_)|(refine qf (fun bk hbk=> ?_)))
  all_goals exact⟨s,⟨rfl,hs⟩,sbE⟩
end
open Go
theorem AH.wr_eq{h:AH}{v u:Value}(e:h.wr=v)(e2:h.tn=u):∃h':AH,h={h' with wr:=v,tn:=u}:=⟨h,by cases h;cases e;cases e2;rfl⟩
section
variable{W0:World}{own Q E:Own}{c:Cfg}{t:Nat}{h:AH}{x:AT}{k w:Int}{b e:Nat}{mh:MH}{m:MS}
theorem qj6{E1:Own}{wb wc vc o:Nat}{wa va:Option Addr}{wD vD:Own}{l l2:List Int}{v:Int}(hh:h.ok c x)(hM:mh.ok m.L)(hE:TnO h true x.tk true E1)(hwr:h.wr=ptr wb)(hL:RdE qx 1 W0 wD wa ((o:Int)::l))(hL2:RdE q09 1 W0 vD va (v::l2))(hc1:l.length+1≤wc)(hc2:l2.length+1≤vc)
  (hj:m.d[o]? =some w) (hl:l≠ []) (Q:Own):qt Tryz.prog W0 171 [ptr h.b,ptr mh.mb] (h.O c t x 9 3 ((wb,wrP wa (l.length+1) wc va (l2.length+1) vc)::(wD++(vD++(E1++(mh.O m++Q))))))
  (AtQ W0 c t h.b {x with ph:= .wr l l2} 3 (mh.O {m with d:=m.d.set o v}++Q) (.tuple #[(acS 1 o w v).v, .int .i64 17])):=by
 unfold AtQ;refine sH [] ?_;obtain⟨tb,htn,rfl⟩:=hE.h;obtain⟨h',rfl⟩:=AH.wr_eq hwr htn;have hst:=fun(Q:Own) (e1:qv Q wD) (e2:qv Q vD)=>q7F (W0:=W0) (F:=Q) (b:=wb) (c:=wc) (c2:=vc) hM (hL.up) (hL2.up) hj Q
 have hdn:=fun(own':Own) (m2:qy wb (wrP (slA wa wc 1 1) l.length (wc-1) (slA va vc 1 1) l2.length (vc-1)) own')=>q4Z (W0:=W0) (own:=own') (qk m2 rfl)
 have hz:decide (l.length=0)=false:=decide_eq_false fun e=>hl (zA.1 e)
 simp only[hz] at hdn
 repeat'((try(conv=>whnf));first|(refine fD ?_)|((apply qe);first|((refine qd (hdn _ Y9) ?_))|((refine qB (D:=mh.O m) (hst _ Y9 Y9) (fun _ v hv=> ?_);(subst hv))))|(refine fA ?_)|(refine fL ?_)|(refine fM ?_)|(refine qf (fun bk hbk=> ?_)))
 all_goals exact⟨({h' with wr:=ptr wb,tn:=ptr tb},(wb,wrP (slA wa wc 1 1) l.length (wc-1) (slA va vc 1 1) l2.length (vc-1))::(wD++(vD++ [(tb,tnP true x.tk true)]))),⟨rfl,rfl,⟨hh.1,hh.2,hh.3,hh.4,hh.5,hh.6,hh.7,hh.8,hh.9⟩,⟨_,wb,_,_,wD,_,_,vD,⟨tb,rfl,rfl⟩,rfl,⟨RdE.tl hL hc1,Y6⟩,⟨RdE.tl hL2 hc2,Y6⟩,rfl⟩⟩,by show Ent W0 _ (AH.O _ c t _ 9 3 _);simp only[zd,zl,zi];exact sbE⟩
end
open Go
section
variable{W0:World}{c:Cfg}{t:Nat}{h:AH}{x x':AT}{e e':Nat}{mh:MH}{m m':MS}{r:AcM}{ph:Int}{E:Own}
theorem qjl(hS:∀Q,qt Tryz.prog W0 164 [ptr h.b,ptr mh.mb] (h.O c t x 2 e (E++(mh.O m++Q))) (AtQ W0 c t h.b x' e' (mh.O m'++Q) (.tuple #[r.v, .int .i64 ph])))(Q:Own):qt Tryz.prog W0 120 [ptr h.b,ptr mh.mb] (h.O c t x 2 e (E++(mh.O m++Q))) (AtQ W0 c t h.b x' e' (mh.O m'++Q) (.tuple #[r.v, .int .i64 ph])):=by
 unfold AtQ at*;refine sH [] ?_
 repeat'((try(conv=>whnf));first|(refine fE ?_)|(refine fD ?_)|((apply qe);first|((refine qm (hS ((bk,azP)::Q)) sbE ?_ ?_ (fun s v hv=> ?_);(exact rfl);(exact rfl);(obtain⟨rfl,hs⟩:=hv))))|(refine fO ?_)|(refine fA ?_)|(refine fL ?_)|(refine fM ?_)|(refine qf (fun bk hbk=> ?_)))
 all_goals exact⟨s,⟨rfl,hs⟩,sbE⟩
theorem qjm(hS:∀Q,qt Tryz.prog W0 165 [ptr h.b,ptr mh.mb] (h.O c t x 3 e (E++(mh.O m++Q))) (AtQ W0 c t h.b x' e' (mh.O m'++Q) (.tuple #[r.v, .int .i64 ph])))(Q:Own):qt Tryz.prog W0 120 [ptr h.b,ptr mh.mb] (h.O c t x 3 e (E++(mh.O m++Q))) (AtQ W0 c t h.b x' e' (mh.O m'++Q) (.tuple #[r.v, .int .i64 ph])):=by
 unfold AtQ at*;refine sH [] ?_
 repeat'((try(conv=>whnf));first|(refine fE ?_)|(refine fD ?_)|((apply qe);first|((refine qm (hS ((bk,azP)::Q)) sbE ?_ ?_ (fun s v hv=> ?_);(exact rfl);(exact rfl);(obtain⟨rfl,hs⟩:=hv))))|(refine fO ?_)|(refine fA ?_)|(refine fL ?_)|(refine fM ?_)|(refine qf (fun bk hbk=> ?_)))
 all_goals exact⟨s,⟨rfl,hs⟩,sbE⟩
theorem qlC(hS:∀Q,qt Tryz.prog W0 167 [ptr h.b,ptr mh.mb] (h.O c t x 5 e (E++(mh.O m++Q))) (AtQ W0 c t h.b x' e' (mh.O m'++Q) (.tuple #[r.v, .int .i64 ph])))(Q:Own):qt Tryz.prog W0 120 [ptr h.b,ptr mh.mb] (h.O c t x 5 e (E++(mh.O m++Q))) (AtQ W0 c t h.b x' e' (mh.O m'++Q) (.tuple #[r.v, .int .i64 ph])):=by
 unfold AtQ at*;refine sH [] ?_
 repeat'((try(conv=>whnf));first|(refine fE ?_)|(refine fD ?_)|((apply qe);first|((refine qm (hS ((bk,azP)::Q)) sbE ?_ ?_ (fun s v hv=> ?_);(exact rfl);(exact rfl);(obtain⟨rfl,hs⟩:=hv))))|(refine fO ?_)|(refine fA ?_)|(refine fL ?_)|(refine fM ?_)|(refine qf (fun bk hbk=> ?_)))
 all_goals exact⟨s,⟨rfl,hs⟩,sbE⟩
theorem qlD(hS:∀Q,qt Tryz.prog W0 168 [ptr h.b,ptr mh.mb] (h.O c t x 6 e (E++(mh.O m++Q))) (AtQ W0 c t h.b x' e' (mh.O m'++Q) (.tuple #[r.v, .int .i64 ph])))(Q:Own):qt Tryz.prog W0 120 [ptr h.b,ptr mh.mb] (h.O c t x 6 e (E++(mh.O m++Q))) (AtQ W0 c t h.b x' e' (mh.O m'++Q) (.tuple #[r.v, .int .i64 ph])):=by
 unfold AtQ at*;refine sH [] ?_
 repeat'((try(conv=>whnf));first|(refine fE ?_)|(refine fD ?_)|((apply qe);first|((refine qm (hS ((bk,azP)::Q)) sbE ?_ ?_ (fun s v hv=> ?_);(exact rfl);(exact rfl);(obtain⟨rfl,hs⟩:=hv))))|(refine fO ?_)|(refine fA ?_)|(refine fL ?_)|(refine fM ?_)|(refine qf (fun bk hbk=> ?_)))
 all_goals exact⟨s,⟨rfl,hs⟩,sbE⟩
theorem qn4(hS:∀Q,qt Tryz.prog W0 169 [ptr h.b,ptr mh.mb] (h.O c t x 7 e (E++(mh.O m++Q))) (AtQ W0 c t h.b x' e' (mh.O m'++Q) (.tuple #[r.v, .int .i64 ph])))(Q:Own):qt Tryz.prog W0 120 [ptr h.b,ptr mh.mb] (h.O c t x 7 e (E++(mh.O m++Q))) (AtQ W0 c t h.b x' e' (mh.O m'++Q) (.tuple #[r.v, .int .i64 ph])):=by
 unfold AtQ at*;refine sH [] ?_
 repeat'((try(conv=>whnf));first|(refine fE ?_)|(refine fD ?_)|((apply qe);first|((refine qm (hS ((bk,azP)::Q)) sbE ?_ ?_ (fun s v hv=> ?_);(exact rfl);(exact rfl);(obtain⟨rfl,hs⟩:=hv))))|(refine fO ?_)|(refine fA ?_)|(refine fL ?_)|(refine fM ?_)|(refine qf (fun bk hbk=> ?_)))
 all_goals exact⟨s,⟨rfl,hs⟩,sbE⟩
theorem qn5(hS:∀Q,qt Tryz.prog W0 170 [ptr h.b,ptr mh.mb] (h.O c t x 8 e (E++(mh.O m++Q))) (AtQ W0 c t h.b x' e' (mh.O m'++Q) (.tuple #[r.v, .int .i64 ph])))(Q:Own):qt Tryz.prog W0 120 [ptr h.b,ptr mh.mb] (h.O c t x 8 e (E++(mh.O m++Q))) (AtQ W0 c t h.b x' e' (mh.O m'++Q) (.tuple #[r.v, .int .i64 ph])):=by
 unfold AtQ at*;refine sH [] ?_
 repeat'((try(conv=>whnf));first|(refine fE ?_)|(refine fD ?_)|((apply qe);first|((refine qm (hS ((bk,azP)::Q)) sbE ?_ ?_ (fun s v hv=> ?_);(exact rfl);(exact rfl);(obtain⟨rfl,hs⟩:=hv))))|(refine fO ?_)|(refine fA ?_)|(refine fL ?_)|(refine fM ?_)|(refine qf (fun bk hbk=> ?_)))
 all_goals exact⟨s,⟨rfl,hs⟩,sbE⟩
theorem qlE(hS:∀Q,qt Tryz.prog W0 171 [ptr h.b,ptr mh.mb] (h.O c t x 9 e (E++(mh.O m++Q))) (AtQ W0 c t h.b x' e' (mh.O m'++Q) (.tuple #[r.v, .int .i64 ph])))(Q:Own):qt Tryz.prog W0 120 [ptr h.b,ptr mh.mb] (h.O c t x 9 e (E++(mh.O m++Q))) (AtQ W0 c t h.b x' e' (mh.O m'++Q) (.tuple #[r.v, .int .i64 ph])):=by
 unfold AtQ at*;refine sH [] ?_
 repeat'((try(conv=>whnf));first|(refine fE ?_)|(refine fD ?_)|((apply qe);first|((refine qm (hS ((bk,azP)::Q)) sbE ?_ ?_ (fun s v hv=> ?_);(exact rfl);(exact rfl);(obtain⟨rfl,hs⟩:=hv))))|(refine fO ?_)|(refine fA ?_)|(refine fL ?_)|(refine fM ?_)|(refine qf (fun bk hbk=> ?_)))
 all_goals exact⟨s,⟨rfl,hs⟩,sbE⟩
theorem qlB(hS:∀Q,qt Tryz.prog W0 172 [ptr h.b,ptr mh.mb] (h.O c t x 10 e (E++(mh.O m++Q))) (AtQ W0 c t h.b x' e' (mh.O m'++Q) (.tuple #[r.v, .int .i64 ph])))(Q:Own):qt Tryz.prog W0 120 [ptr h.b,ptr mh.mb] (h.O c t x 10 e (E++(mh.O m++Q))) (AtQ W0 c t h.b x' e' (mh.O m'++Q) (.tuple #[r.v, .int .i64 ph])):=by
 unfold AtQ at*;refine sH [] ?_
 repeat'((try(conv=>whnf));first|(refine fE ?_)|(refine fD ?_)|((apply qe);first|((refine qm (hS ((bk,azP)::Q)) sbE ?_ ?_ (fun s v hv=> ?_);(exact rfl);(exact rfl);(obtain⟨rfl,hs⟩:=hv))))|(refine fO ?_)|(refine fA ?_)|(refine fL ?_)|(refine fM ?_)|(refine qf (fun bk hbk=> ?_)))
 all_goals exact⟨s,⟨rfl,hs⟩,sbE⟩
end
open Go
theorem qiB(n i:Nat)(v:Int)(hi:i<n):(List.replicate i v++List.replicate (n-i) 0).set i v=List.replicate (i+1) v++List.replicate (n-(i+1)) 0:=by
 rw[ZH _ _ Y8,zJ,y0,show n-i=(n-(i+1))+1 by omega,yr,Y1,yO,zd];rfl
abbrev axP(a:AcM):Obj→Prop:=fun z=>z=Obj.cells #[.int .i64 a.k, .int .i64 a.c, .int .i64 a.i, .int .u64 a.got, .int .u64 a.put, .bool a.dn] 111 (0,0)
theorem RdE.memU{W0:World}{own:Own}{l:List Int}{T:TypeId}{b:Nat} [m:qy b (fun o=>o=Obj.cells (l.map q09).flatten.toArray T) own]:RdE q09 1 W0 own (some ⟨b,0,none⟩) l:=q1A m.h (fun _ _=>rfl) (by rw[zL])
section
variable{W0:World}{own Q E:Own}{c:Cfg}{t:Nat}{h:AH}{x:AT}{k w:Int}{b e:Nat}{mh:MH}{m:MS}
theorem qj7{E1:Own}{wb wc vc o:Nat}{wa va:Option Addr}{wD vD:Own}{l2:List Int}{v:Int}(hh:h.ok c x)(hM:mh.ok m.L)(hE:TnO h true x.tk true E1)(hwr:h.wr=ptr wb)(hL:RdE qx 1 W0 wD wa [(o:Int)])(hL2:RdE q09 1 W0 vD va (v::l2))
  (hj:m.d[o]? =some w) (hs:x.dn=true∧x.sto=true) (hck:0≤x.ck∧x.ck<1099511627776) (Q:Own):qt Tryz.prog W0 171 [ptr h.b,ptr mh.mb] (h.O c t x 9 3 ((wb,wrP wa 1 wc va (l2.length+1) vc)::(wD++(vD++(E1++(mh.O m++Q))))))
  (AtQ W0 c t h.b {x with ph:= .rl x.oc (x.oc.map fun _=>(x.ck+1)*64)} 3 (mh.O {m with d:=m.d.set o v}++Q) (.tuple #[(acS 1 o w v).v, .int .i64 17])):=by
 unfold AtQ;rw[show(x.oc.map fun _=>(x.ck+1)*64)=List.replicate x.oc.length ((x.ck+1)*64) from List.map_const'];refine sH [] ?_;obtain⟨tb,htn,rfl⟩:=hE.h;obtain⟨h',rfl⟩:=AH.wr_eq hwr htn;have hlo:=hh.lo;have hst:=fun(Q:Own) (e1:qv Q wD) (e2:qv Q vD)=>q7F (W0:=W0) (F:=Q) (b:=wb) (c:=wc) (c2:=vc) (l:= []) hM (hL.up) (hL2.up) hj Q
 have hdn:=fun(own':Own) (m2:qy wb (wrP (slA wa wc 1 1) 0 (wc-1) (slA va vc 1 1) l2.length (vc-1)) own')=>q4Z (W0:=W0) (own:=own') (qk m2 rfl)
 repeat'((try(conv=>whnf));first|(refine fE ?_)|(refine mkC (enc:=q09) x.oc.length 0 rfl rfl rfl Y6 (fun bx=> ?_))|((apply qe);first|((refine qd (hdn _ Y9) ?_))|((refine qB (D:=mh.O m) (hst _ Y9 Y9) (fun _ v hv=> ?_);(subst hv))))|(refine fA ?_)|(refine fM ?_)|(refine qf (fun bk hbk=> ?_)))
 rename_i bk2 _ _;have hver:=fun(own':Own) (m1:qy h'.b (atP c t {h' with wr:=ptr wb,tn:=ptr tb} x 9) own') (m2:qy h'.g.b (lgP c.writes h'.g.aa x.ad.length h'.g.ca h'.g.va x.vl.length h'.g.cv h'.g.ib h'.g.P) own')=>q2S (W0:=W0) (own:=own') (b:=h'.b) (qk m1 rfl) (qk m1 rfl) Y6 (qk m1 rfl) (qk m1 rfl) (qk m2 rfl)
 rw[if_pos ⟨hs.1,q6G.1 hs.2⟩] at hver;have hfr:=fun(own':Own)=>qg8 (W0:=W0) (own:=own') (x.ck+1) Y6
 refine qX (σ:=Nat) (fun i=> [(30, .int .i64 i)]) (fun i=>q0K q09 49 bx (List.replicate i ((x.ck+1)*64)++List.replicate (x.oc.length-i) 0)::((bk,axP (acS 1 o w v))::(bk2,azP)::AH.O {h' with wr:=ptr wb,tn:=ptr tb} c t x 9 3 ((wb,wrP (slA wa wc 1 1) 0 (wc-1) (slA va vc 1 1) l2.length (vc-1))::(wD++(vD++([(tb,tnP true x.tk true)]++(mh.O {m with d:=m.d.set o v}++Q))))))) (fun i=>i≤x.oc.length) (fun i=>x.oc.length-i) 0 (zq _) (eF) (by rw[yq,zi,Nat.sub_zero];exact sbE) rfl ?_;rintro i junk hi;have hw:∀z∈(List.replicate i ((x.ck+1)*64)++List.replicate (x.oc.length-i) 0:List Int),(q09 z).length=1:=fun _ _=>rfl
 by_cases hlt:i<x.oc.length
 ·have hx:(List.replicate i ((x.ck+1)*64)++List.replicate (x.oc.length-i) 0:List Int)[i]? =some 0:=by
   rw[zP Y8,zJ,y0,ZM,if_pos Y6]
  have hlt':(i:Int)<x.oc.length:=Y6;have hln:x.oc.length=(List.replicate i ((x.ck+1)*64)++List.replicate (x.oc.length-i) 0:List Int).length:=by simp;omega
  repeat'((try(conv=>whnf));first|(refine fF ?_)|((apply qJ);first|((refine ixC hx hln ?_ ?_;(first|rfl|omega))))|((apply qe);first|((refine qd (hver _ Y9 Y9) ?_))|((refine qd (hfr _) ?_)))|((with_reducible show StT _ _ _ _ _);first|((refine stC (T:=49) (k:=0) (((x.ck+1)*64)) hw hx ?_ ?_ ?_ ?_ ?_;(exact rfl);(omega);(exact rfl);(exact rfl))))|(refine fB ?_)|(refine fO ?_))
  refine⟨i+1,hlt,Y6,(eF),?_⟩;rw[←qiB _ _ _ hlt];exact sbE
 ·have hlt':¬(i:Int)<x.oc.length:=Y6;obtain rfl:i=x.oc.length:=Y6;rw[y0,yq,zC];have hnr:=fun(own':Own) (m:qv own' h'.oD) (m3:qy bx (fun z=>z=Obj.cells ((List.replicate x.oc.length ((x.ck+1)*64)).map q09).flatten.toArray 49) own')=>q7z (W0:=W0) (own:=own') (c:=h'.oc) (c2:=x.oc.length) ((hh.ho.rd (W0:=W0)).up) (RdE.memU (T:=49) (l:=List.replicate x.oc.length ((x.ck+1)*64)) (b:=bx)) Y6 zJ hh.ho.le (by rw[zJ];exact zu _)
  rw[zJ] at hnr
  repeat'((try(conv=>whnf));first|(refine fG ?_)|((apply qe);first|((refine qi (hnr _ Y9 Y9) (fun y v hv=> ?_);(obtain⟨rb,⟨a4,c4,D4⟩,⟨a5,c5,D5⟩⟩:=y;obtain⟨rfl,hB4,hB5⟩:=hv;dsimp only at hB4 hB5))))|(refine fA ?_)|(refine fL ?_)|(refine fN ?_)|(refine fM ?_))
  have hlr:(List.replicate x.oc.length ((x.ck+1)*64)).length=x.oc.length:=zJ;have hB5e:=hB5.le;rw[hlr] at hB5e;exact⟨({h' with wr:=ptr wb,tn:=ptr tb,rl:=ptr rb},(rb,rlP a4 x.oc.length c4 a5 x.oc.length c5)::(D4++(D5++ [(tb,tnP true x.tk true)]))),⟨rfl,rfl,⟨hh.1,hh.2,hh.3,hh.4,hh.5,hh.6,hh.7,hh.8,hh.9⟩,⟨_,rb,a4,c4,D4,a5,c5,D5,⟨tb,rfl,rfl⟩,rfl,⟨hB4.rd,hB4.le⟩,⟨hB5.rd,hB5.le⟩,by rw[hlr]⟩⟩,by show Ent W0 _ (AH.O _ c t _ 10 3 _);simp only[zd,zl,zi];exact sbE⟩
end
end Go.Proofs.YtbhbldllneadeaaGreatDoor
