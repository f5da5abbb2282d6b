/- What the laws share, part 24. No condition. -/
import Derived.Test.YtkieffpjjfebjaaGreatDoorZ23
set_option maxHeartbeats 8000000
set_option maxRecDepth 10000
namespace Go.Proofs.YtkieffpjjfebjaaGreatDoor
open Go
abbrev q8x(x:ChM):List Value:= [.int .i64 x.t, .int .i64 x.f, .slice none 0 0]
section
variable{W0:World}{own:Own}
theorem q4h{a:Option Addr}{l:List ChM}{cap:Nat}(hR:RdE q8x 3 W0 own a l)(hl:l.length≤1000000000):
  q0E Tryz.prog W0 29 [.slice a l.length cap] own fun v own'=>∃s:Option Addr×Nat×Own,(v= .slice s.1 l.length s.2.1∧qr q8x 79 3 s.1 s.2.1 l s.2.2)∧Ent W0 own' (s.2.2++own):=by
 refine qa qj q3D (by simp[q07]) ?_
 cases a with
 |none=>
  have hn:l= []:=by
   by_cases h:l= []
   ·exact h
   ·have:=hR.isS h;cases this
  subst hn
  repeat'((try(conv=>whnf));first|(refine fE ?_))
  exact⟨(none,0,[]),⟨rfl,qr.nil⟩,(eC)⟩
 |some a=>
  repeat'((try(conv=>whnf));first|(refine fD ?_)|(refine q7m (enc:=q8x) (l:= []) (l2:=l) qr.nil (At.head (D:= []) (r:=_)) hR.up rfl rfl (by omega) (fun _ _=>rfl) (fun _=>by simp;omega) (fun a1 c1 D1 hB1=> ?_);(rw[List.length_nil,Nat.zero_add l.length]);(apply Stop.h))|(refine qc (fun bk hbk=> ?_)))
  refine Stop.mk ?_
  rw[List.nil_append] at hB1
  exact⟨(a1,c1,D1),⟨rfl,hB1⟩,Ent.of_sub ((List.sublist_cons_self _ own).append_left D1)⟩
theorem q7H{a:Option Addr}{l:List EH}{cap:Nat}(hR:RdE EH.enc 6 W0 own a l)(hl:l.length≤1000000000):
  q0E Tryz.prog W0 63 [.slice a l.length cap] own fun v own'=>∃s:Option Addr×Nat×Own,(v= .slice s.1 l.length s.2.1∧qr EH.enc 116 6 s.1 s.2.1 l s.2.2)∧Ent W0 own' (s.2.2++own):=by
 refine qa qj q3Q (by simp[q0j]) ?_
 cases a with
 |none=>
  have hn:l= []:=by
   by_cases h:l= []
   ·exact h
   ·have:=hR.isS h;cases this
  subst hn
  repeat'((try(conv=>whnf));first|(refine fE ?_))
  exact⟨(none,0,[]),⟨rfl,qr.nil⟩,(eC)⟩
 |some a=>
  repeat'((try(conv=>whnf));first|(refine fD ?_)|(refine q7m (enc:=EH.enc) (l:= []) (l2:=l) qr.nil (At.head (D:= []) (r:=_)) hR.up rfl rfl (by omega) (fun _ _=>rfl) (fun _=>by simp;omega) (fun a1 c1 D1 hB1=> ?_);(rw[List.length_nil,Nat.zero_add l.length]);(apply Stop.h))|(refine qc (fun bk hbk=> ?_)))
  refine Stop.mk ?_
  rw[List.nil_append] at hB1
  exact⟨(a1,c1,D1),⟨rfl,hB1⟩,Ent.of_sub ((List.sublist_cons_self _ own).append_left D1)⟩
theorem ql0{a:Option Addr}{n sz:Nat}:slA a n 0 sz=a:=by
 unfold slA
 split
 ·rfl
 ·cases a with
  |none=>rfl
  |some a=>rw[Nat.zero_mul];show some (a.add 0)=some a;simp[Addr.add]
theorem ql1{a:Option Addr}{n c sz:Nat}{K:Value→Prop}(hc:n≤c)(h:K (.slice a n n)):qiJ a n c sz none (some (n:Int)) (some (n:Int)) K:=
 ⟨0,n,n,rfl,rfl,rfl,Nat.zero_le _,fun _=>Nat.le_refl _,fun _=>hc,fun _=>rfl,by rw[ql0];exact h⟩
theorem qdT{a:Option Addr}{n c:Nat}(hc:n≤c):qD Tryz.prog W0 35 [.slice a n c] own (.slice a n n):=by
 refine qe (qa qj q3P (by simp[q0i]) ?_)
 repeat'((try(conv=>whnf));first|(refine ql1 hc ?_))
 exact⟨rfl,(eC)⟩
end
abbrev GP.A(g:GP)(c:Cfg)(np:Nat)(s:GS):Own:=(g.gb,fun o=>o=Obj.cells (g.cells c np s).toArray 122 (0,0))::(g.dD++((g.mb,q70 (mpV g.ml))::(g.tD++(g.eD++(g.oD++q5q g.S)))))
section
variable{W0:World}{Kp Y:Own}{g g':GP}{c:Cfg}{ps:List PH}{s s':GS}
theorem GP.back{np np':Nat}{q:Own}(h:∃Z,g'.X=Z++g.X):Ent W0 (g'.O c np' s'++(g.A c np s++q)) (g.O c np s++q):=by
 obtain⟨Z,hZ⟩:=h
 have:∀X':Own,X'=Z++g.X→Ent W0 (({g' with X:=X'}:GP).O c np' s'++(g.A c np s++q)) (g.O c np s++q):=fun X' hX=>by
  subst hX
  refine qo (({g' with X:= []}:GP).O c np' s'++Z) fun a=> ?_
  simp only[GP.O,GP.A,GP.cells,q2k,q51,q6C]
  omega
 exact this g'.X hZ
theorem qh9{e1 e2 m1 m2:Nat×(Obj→Prop)}{dD tD eD oD S D1 D2 D3 D4 S' X q:Own}:Ent W0 (D4++(S'++(D3++(D2++(D1++(m1::(e1::((e2::(dD++(m2::(tD++(eD++(oD++(S++X)))))))++q)))))))) ((e1::(D1++(m1::(D2++(D3++(D4++(S'++X)))))))++((e2::(dD++(m2::(tD++(eD++(oD++S))))))++q)):=
 qo []
theorem qha{b1:Nat×(Obj→Prop)}{D D4 S' R:Own}:Ent W0 (b1::(D4++(S'++(D++R)))) (D4++((S'++D)++R)):=qo [b1]
theorem qhb{b1:Nat×(Obj→Prop)}{D D4 S' R:Own}:Ent W0 (b1::(D++(D4++(S'++R)))) (D4++((S'++D)++R)):=qo [b1]
theorem q7c(h:g.ok W0 Kp ps s)(hv:g.ev W0 Y)(hz:SzG s)(q:Own):
  q0E Tryz.prog W0 32 [.pointer (some ⟨g.gb,0,none⟩)] (g.O c ps.length s++q) fun v own'=>∃g':GP,
   (v= .pointer (some ⟨g'.gb,0,none⟩)∧g'.ok W0 Kp ps s∧g'.ev W0 g.X)∧Ent W0 own' (g'.O c ps.length s++(g.A c ps.length s++q)):=by
 have hEl:g.L.length=s.E.length:=by rw[←h.em,List.length_map]
 have hSl:g.S.length=s.O.length:=by rw[←h.ol,List.length_map]
 have hOR:=h.o.rd (W0:=W0)
 have hd:=hz.d
 have ht:=hz.t
 have hE:=hz.e
 have hO:=hz.o
 refine qa qj q4v (by simp[q0I]) ?_
 have hcm:=fun(own':Own) [qt own' g.dD] [q3X g.mb (q70 (mpV g.ml)) own']=>q66 (own:=own') (dc:=g.dc) (mb:=g.mb) (ml:=g.ml) (RdE.up (h.d.rd (W0:=W0))) (by omega)
 have hct:=fun(own':Own) [qt own' g.tD]=>q4i (cap:=g.tc) (RdE.up (own:=own') (h.t.rd (W0:=W0))) (by omega)
 have hce:=fun(own':Own) [qt own' g.eD]=>q7H (cap:=g.ec) (RdE.up (own:=own') (h.e.rd (W0:=W0))) (by omega)
 repeat'((try(conv=>whnf));first|(refine qc (fun b3 h3=> ?_))|((with_reducible show qf _ _ _ _ _ _);first|((refine qZ (hcm _) ?_ ?_ (fun y v hv=> ?_);(exact rfl);(exact rfl);(obtain⟨⟨a1,c1,D1⟩,mb1⟩:=y;obtain⟨rfl,hB1⟩:=hv;dsimp only at hB1)))|((refine qZ (hct _) ?_ ?_ (fun y v hv=> ?_);(exact rfl);(exact rfl);(obtain⟨a2,c2,D2⟩:=y;obtain⟨rfl,hB2⟩:=hv;dsimp only at hB2)))|((refine qZ (hce _) ?_ ?_ (fun y v hv=> ?_);(exact rfl);(exact rfl);(obtain⟨a3,c3,D3⟩:=y;obtain⟨rfl,hB3⟩:=hv;dsimp only at hB3))))|(refine fA ?_)|(refine fL ?_)|(refine fQ ?_)|(refine fN ?_)|(refine fM ?_))
 refine q0Z (σ:=Nat×List ObS×Option Addr×Nat×Own) (fun y=> [(33, .int .i64 y.1)])
  (fun y=>y.2.2.2.2++(q5q y.2.1++(D3++(D2++(D1++((mb1,q70 (mpV g.ml))::((b3,fun o=>o=Obj.cells (.slice a1 s.d.length c1:: .map (some mb1)::cfL c [.slice g.ka ps.length g.kc, .slice a2 s.T.length c2, .slice a3 g.L.length c3, .slice y.2.2.1 y.2.1.length y.2.2.2.1, .int .i64 s.n]).toArray 122 (0,0))::(g.O c ps.length s++q))))))))
  (fun y=>y.1≤g.S.length∧y.2.1.map ObS.l=(g.S.take y.1).map ObS.l∧qr ObS.enc 124 1 y.2.2.1 y.2.2.2.1 y.2.1 y.2.2.2.2∧∀x∈y.2.1,qr ObM.enc 127 3 x.a x.cap x.l x.D)
  (fun y=>g.S.length-y.1) (0,[],none,0,[]) ⟨Nat.zero_le _,rfl,qr.nil,fun _ h=>by cases h⟩ (eF) ?_ rfl ?_
 ·exact Ent.refl
 ·rintro⟨j,S',oa,oc,oD⟩ junk ⟨hj,hmS,hBS,hSS⟩
  dsimp only at hj hmS hBS hSS ⊢
  have hllS:=qfi hmS hj
  by_cases hjl:j<g.S.length
  ·obtain⟨x,hx⟩:∃x,g.S[j]? =some x:=⟨_,List.getElem?_eq_getElem hjl⟩
   have hxm:=List.mem_of_getElem? hx
   have hxB:=(h.os x hxm).rd (W0:=W0)
   have hxl:=hz.ol x.l (by rw[←h.ol];exact List.mem_map_of_mem hxm)
   have hsp:=q3k hx
   obtain⟨xa,xc,xl,xD⟩:=x
   dsimp only at hxB hxl hsp
   have hco:=fun(own':Own) [qt own' xD]=>q64 (cap:=xc) (RdE.up (own:=own') hxB) (by omega)
   dsimp only[GP.O]
   rw[hsp]
   repeat'((try(conv=>whnf));first|(refine fF ?_)|(apply q69 (enc:=ObS.enc) (T:=124) ⟨a4,c4,xl,D4⟩ hBS;(exact rfl);(exact rfl);(omega);(exact rfl);(exact rfl);(omega);intro a9 c9 D5 hb1)|((with_reducible show Ld _ _ _ _);first|(refine q1M hOR hx rfl ?_))|((with_reducible show IxS _ _ _ _ _);first|((refine ixE hOR hx ?_ ?_;(first|rfl|omega))))|((with_reducible show qf _ _ _ _ _ _);first|((refine qZ (hco _) ?_ ?_ (fun y v hv=> ?_);(exact rfl);(exact rfl);(obtain⟨a4,c4,D4⟩:=y;obtain⟨rfl,hB4⟩:=hv;dsimp only at hB4))))|(refine fB ?_)|(refine fA ?_)|(refine fN ?_)|(refine qc (fun bk hbk=> ?_))|(refine q4T.mk ?_ ?_))
   all_goals
    refine⟨(j+1,S'++ [⟨a4,c4,xl,D4⟩],a9,c9,D5),⟨hjl,qbQ hmS hx rfl,hb1,fun e he=> ?_⟩,(by show g.S.length-(j+1)<g.S.length-j;omega),(eF),?_⟩
    ·rcases List.mem_append.1 he with he|he
     ·exact hSS e he
     ·rw[List.mem_singleton.1 he]
      exact hB4
    ·have hlen:(S'++ [(⟨a4,c4,xl,D4⟩:ObS)]).length=S'.length+1:=by simp
     dsimp only
     rw[hlen,qbq]
     first|exact qha|exact qhb
  ·have hjN:j=g.S.length:=by omega
   subst hjN
   rw[List.take_length] at hmS
   repeat'((try(conv=>whnf));first|(refine fG ?_))
   refine⟨⟨b3,mb1,g.ml,a1,c1,D1,g.ka,g.kc,a2,c2,D2,a3,c3,D3,g.L,g.X,oa,oc,oD,S'⟩,⟨rfl,⟨hB1,h.m,h.k,h.kp,hB2,hB3,h.em,hBS,hSS,by rw[hmS,h.ol]⟩,hv.1,[],rfl⟩,?_⟩
   dsimp only[GP.O,GP.A]
   exact qh9
end
open Go
section
variable{P:Program}{W0:World}{own own2:Own}{k k0:FuncId}{args args0:List Value}{v:Value}
theorem q3s{K:Value→Own→Prop}(h:qD P W0 k0 args0 own2 v)(he:Ent W0 own own2)(ek:k=k0)(ea:args=args0)(hk:K v own2):qf P W0 own k args K:=by
 subst ek;subst ea
 exact⟨fun w hw=>(h w (he w hw)).mono fun _ _ ⟨h1,h2⟩=>⟨v,own2,h1,h2,hk⟩⟩
end
theorem qcn(W0:World)(own:Own)(i:Ins):qD Tryz.prog W0 64 [i.v] own (.bool (isL i)):=by
 refine qe (qa qj q4L (by simp[q0V]) ?_)
 unfold isL
 obtain⟨op,a,b,c,imm⟩:=i
 dsimp only[Ins.v]
 repeat'((try(conv=>whnf));first|(refine fF ?_)|(refine fA ?_)|(refine qc (fun bk hbk=> ?_))|(apply q9q;(exact rfl);all_goals intro hc))
 all_goals first|exact⟨q0N (vb (dt (by omega))),(eC)⟩|exact⟨q0N (vb (df (by omega))),(eC)⟩
def nxV(o:Option Ins):Ins:=o.getD ⟨0,0,0,0,0⟩
section
variable{W0:World}{Kp K Y:Own}{g:GP}{c:Cfg}{ps:List PH}{P:List (List Ins)}{s:GS}
theorem qfM(h:g.ok W0 Kp ps s)(hG:GOk c P s)(hP:ps.map PH.p=P)(t:Nat)(q:Own) [ek:qt q Kp]:
  qD Tryz.prog W0 31 [.pointer (some ⟨g.gb,0,none⟩), .int .i64 t] (g.O c ps.length s++q) (.tuple #[(nxV (nxM P s t)).v, .bool (nxM P s t).isSome]):=by
 cases hn:nxM P s t with
 |none=>
  have hd:=(q8W hG).1 hn
  refine q9U h ?_ q
  unfold dnB at hd
  by_cases ht:t<s.T.length
  ·rw[List.getElem?_eq_getElem ht] at hd
   exact .inr (.inr ⟨t,s.T[t],rfl,List.getElem?_eq_getElem ht,hd⟩)
  ·exact .inr (.inl (by omega))
 |some i=>
  obtain⟨th,p,hth,hp,hdn,hx⟩:=qat hn
  subst hP
  rw[List.getElem?_map] at hp
  obtain⟨ph,hph,rfl⟩:=Option.map_eq_some_iff.1 hp
  exact q9V h hth hph hdn hx q
theorem qh5{b8:Nat×(Obj→Prop)}{G D q:Own}:Ent W0 (b8::(G++(D++q))) (G++(D++(b8::q))):=qo []
theorem qh6{b8 b10:Nat×(Obj→Prop)}{G D q:Own}:Ent W0 (b10::(G++(D++(b8::q)))) (G++(b10::(D++(b8::q)))):=qo []
theorem qh7{b l b8 b10:Nat×(Obj→Prop)}{G D q:Own}:Ent W0 (b::(l::(G++(b10::(D++(b8::q)))))) (G++(b::(D++q))):=qo [l,b10,b8]
theorem qh8{b:Nat×(Obj→Prop)}{G D q:Own}:Ent W0 (G++(b::(D++q))) (G++(D++(b::q))):=qo []
theorem qd5{b8:Nat×(Obj→Prop)}{G D q:Own}:Ent W0 (G++(D++(b8::q))) (G++(D++q)):=qo [b8]
theorem qeK{t n:Nat}{l:List ChM}(h:q7u P s t=true):q1t c P t (n+1) s l=q1t c P t n (doM c P s (ch0 t)).2 (l++ [ch0 t]):=by
 rw[q1t,if_pos h]
theorem qeL{t n:Nat}{l:List ChM}(h:q7u P s t=false):q1t c P t n s l=(s,l):=by
 cases n with
 |zero=>rfl
 |succ n=>rw[q1t,h];rfl
theorem qcI(t:Nat):∀(n:Nat) (s:GS) (l:List ChM),(q1t c P t n s l).2.length≤l.length+n
 |0,_,_=>Nat.le_refl _
 |n+1,s,l=>by
  unfold q1t
  split
  ·have:=qcI t n (doM c P s (ch0 t)).2 (l++ [ch0 t])
   rw[List.length_append,List.length_singleton] at this
   omega
  ·show l.length≤_;omega
theorem qcj(hF:q0A W0)(h:g.ok W0 Kp ps s)(hv:g.ev W0 Y)(hG:GOk c P s)(hna:qfn P)(hP:ps.map PH.p=P)(hn:s.n+q1n P s≤5000)(t:Nat){la:Option Addr}{l:List ChM}{lc:Nat}(hL:RdE q8x 3 W0 K la l)(hll:l.length≤100000)(q:Own) [ek:qt q Kp] [ek2:qt q K]:
  q0E Tryz.prog W0 33 [.pointer (some ⟨g.gb,0,none⟩), .int .i64 t, .slice la l.length lc] (g.O c ps.length s++q) fun v own'=>∃y:GP×Option Addr×Nat×Own,
   (v= .slice y.2.1 (q1t c P t 64 s l).2.length y.2.2.1∧y.1.ok W0 Kp ps (q1t c P t 64 s l).1∧y.1.ev W0 Y∧y.1.gb=g.gb∧qr q8x 79 3 y.2.1 y.2.2.1 (q1t c P t 64 s l).2 y.2.2.2)∧Ent W0 own' (y.1.O c ps.length (q1t c P t 64 s l).1++(y.2.2.2++q)):=by
 refine qa qj q4K (by simp[q0U]) ?_
 have hcl:=fun(own':Own) [qt own' K]=>q4h (cap:=lc) (hL.up (own:=own')) (by omega)
 have hnx:=fun(q:Own) [qt q Kp]=>qfM (c:=c) h hG hP t q
 have hil:=fun own' i=>qcn W0 own' i
 have hr64:=qgE (t:=t) hG
 repeat'((try(conv=>whnf));first|(refine qc (fun b8 hb8=> ?_))|((with_reducible show qf _ _ _ _ _ _);first|((refine qZ (hcl _) ?_ ?_ (fun y v hv=> ?_);(exact rfl);(exact rfl);(obtain⟨a1,c1,D1⟩:=y;obtain⟨rfl,hB1⟩:=hv;dsimp only at hB1)))|((refine q3s (hnx (D1++q)) ?_ ?_ ?_ ?_;(exact qo [] fun a=>by simp only[q2k,q6C];omega);(exact rfl);(exact rfl))))|(refine fO ?_)|(refine fM ?_))
 generalize hres:q1t c P t 64 s l=res at*
 obtain⟨rs,rl⟩:=res
 have hrl:rl.length≤l.length+64:=by have:=qcI (c:=c) (P:=P) t 64 s l;rw[hres] at this;exact this
 refine q0Z (σ:=Nat×GP×GS×List ChM×(Option Addr×Nat×Own)×Nat) (fun y=> [(8, .pointer (some ⟨y.2.2.2.2.2,0,none⟩)),(9, .bool (nxM P y.2.2.1 t).isSome),(7, .slice y.2.2.2.2.1.1 y.2.2.2.1.length y.2.2.2.2.1.2.1)])
  (fun y=>y.2.1.O c ps.length y.2.2.1++(y.2.2.2.2.1.2.2++((y.2.2.2.2.2,fun o=>o=Obj.cells (nxV (nxM P y.2.2.1 t)).enc.toArray 69 (0,0))::q)))
  (fun y=>y.2.1.ok W0 Kp ps y.2.2.1∧y.2.1.ev W0 Y∧y.2.1.gb=g.gb∧GOk c P y.2.2.1∧y.2.2.1.n+q1n P y.2.2.1≤5000∧q6q P y.2.2.1 t≤y.1∧y.2.2.2.1.length+y.1≤l.length+64∧q1t c P t y.1 y.2.2.1 y.2.2.2.1=(rs,rl)∧qr q8x 79 3 y.2.2.2.2.1.1 y.2.2.2.2.1.2.1 y.2.2.2.1 y.2.2.2.2.1.2.2)
  (fun y=>q6q P y.2.2.1 t) (64,g,s,l,(a1,c1,D1),b8) ⟨h,hv,rfl,hG,hn,hr64,Nat.le_refl _,hres,hB1⟩ (eF) ?_ rfl ?_
 ·exact qh5
 ·rintro⟨k,g1,s1,l1,⟨a2,c2,D2⟩,b9⟩ junk ⟨hok1,hev1,hgb1,hG1,hn1,hr1,hl1,hadv,hB2⟩
  dsimp only at hok1 hev1 hgb1 hG1 hn1 hr1 hl1 hadv hB2 ⊢
  cases hloc:q7u P s1 t with
  |true=>
   obtain⟨i,hi,hLi⟩:=q86 hloc
   obtain⟨-,g1',g2',g3',g4', -⟩:(doM c P s1 (ch0 t)).1=0∧GOk c P (doM c P s1 (ch0 t)).2∧(doM c P s1 (ch0 t)).2.n=s1.n+1∧q6q P (doM c P s1 (ch0 t)).2 t<q6q P s1 t∧(doM c P s1 (ch0 t)).2.n+q1n P (doM c P s1 (ch0 t)).2≤s1.n+q1n P s1∧q1n P (doM c P s1 (ch0 t)).2<q1n P s1:=q3Z hG1 hna hi (.inl rfl)
   obtain⟨k',rfl⟩:∃k',k=k'+1:=⟨k-1,by omega⟩
   rw[qeK hloc] at hadv
   have hd1:=fun(Q:Own) [qt Q Kp]=>qdW (K:=Kp) (c:=c) hF hgb1 hok1 hev1 hG1 hP (by omega) t 0 (aa:=none) (ad:= []) (ac:=0) RdE.nil (Nat.le_refl _) (fun _ h=>(by cases h)) Q
   have hd2:∀g2:GP,g2.ok W0 Kp ps (doM c P s1 (ch0 t)).2→g2.gb=g.gb→∀(Q:Own) [qt Q Kp],qD Tryz.prog W0 31 [.pointer (some ⟨g.gb,0,none⟩), .int .i64 t] (g2.O c ps.length (doM c P s1 (ch0 t)).2++Q) (.tuple #[(nxV (nxM P (doM c P s1 (ch0 t)).2 t)).v, .bool (nxM P (doM c P s1 (ch0 t)).2 t).isSome]):=fun g2 h2 hgb Q _=>hgb ▸ qfM (c:=c) h2 g1' hP t Q
   have hlen:(l1++ [ch0 t]).length=l1.length+1:=by simp
   rw[hi]
   change ∀(Q:Own) [qt Q Kp],q0E _ _ _ _ _ (fun v own'=>∃g':GP,(v= .int .i64 (doM c P s1 (ch0 t)).1∧g'.ok W0 Kp ps (doM c P s1 (ch0 t)).2∧g'.ev W0 Y∧g'.gb=g.gb)∧Ent W0 own' (g'.O c ps.length (doM c P s1 (ch0 t)).2++Q)) at hd1
   generalize doM c P s1 (ch0 t)=z at*
   obtain⟨zc,s2⟩:=z
   dsimp only at g1' g2' g3' g4' hadv hd1 hd2
   have hiv:(nxV (some i))=i:=rfl
   rw[hiv]
   have hil1:=fun own'=>hil own' i
   rw[hLi] at hil1
   repeat'((try(conv=>whnf));first|(refine fH ?_)|(refine fE ?_)|(refine qc (fun b10 hb10=> ?_))|(apply q69 (enc:=q8x) (T:=79) (ch0 t) hB2;(exact rfl);(exact rfl);(omega);(exact rfl);(exact rfl);(omega);intro a3 c3 D3 hb3)|((with_reducible show qf _ _ _ _ _ _);first|((refine qh (hil1 _) ?_ ?_ ?_;(exact rfl);exact rfl))|((refine qm (hd1 _) qh6 ?_ ?_ (fun g2 v hv=> ?_);(exact rfl);(exact rfl);(obtain⟨rfl,hok2,hev2,hgb2⟩:=hv)))|((refine q3s (hd2 g2 hok2 hgb2 _) qh7 ?_ ?_ ?_;(exact rfl);(exact rfl))))|(refine fO ?_)|(refine fL ?_)|(refine fM ?_))
   all_goals exact⟨(k',g2,s2,l1++ [ch0 t],(a3,c3,D3),b10),⟨hok2,hev2,hgb2,g1',by show s2.n+q1n P s2≤5000;omega,by show q6q P s2 t≤k';omega,by show(l1++ [ch0 t]).length+k'≤l.length+64;rw[hlen];omega,hadv,hb3⟩,g3',by rw[hlen];exact(eF),qh8⟩
  |false=>
   rw[qeL hloc] at hadv
   simp only[Prod.mk.injEq] at hadv
   obtain⟨rfl,rfl⟩:=hadv
   cases hnn:nxM P s1 t with
   |none=>
    repeat'((try(conv=>whnf));first|(refine fI ?_)|(refine fD ?_))
    all_goals exact⟨(g1,a2,c2,D2),⟨rfl,hok1,hev1,hgb1,hB2⟩,qd5⟩
   |some i=>
    have hLi:isL i=false:=by unfold q7u at hloc;rw[hnn] at hloc;exact hloc
    have hiv:(nxV (some i))=i:=rfl
    rw[hiv]
    have hil1:=fun own'=>hil own' i
    rw[hLi] at hil1
    repeat'((try(conv=>whnf));first|(refine fH ?_)|(refine fD ?_)|((with_reducible show qf _ _ _ _ _ _);first|((refine qh (hil1 _) ?_ ?_ ?_;(exact rfl);exact rfl)))|(refine fL ?_))
    all_goals exact⟨(g1,a2,c2,D2),⟨rfl,hok1,hev1,hgb1,hB2⟩,qd5⟩
end
open Go
def qeC{α:Type}(p:α→Bool)(l:List α):Int:=match l.findIdx? p with
 |some i=>i
 |none=> -1
theorem qbh{α:Type}(p:α→Bool)(l:List α):decide (qeC p l≥0)=l.any p:=by
 unfold qeC
 cases h:l.findIdx? p with
 |none=>
  have:=List.findIdx?_eq_none_iff.1 h
  rw[show l.any p=false from List.any_eq_false.2 fun x hx=>by simpa using this x hx]
  decide
 |some i=>
  obtain⟨hi,hp, -⟩:=List.findIdx?_eq_some_iff_getElem.1 h
  rw[show l.any p=true from List.any_eq_true.2 ⟨_,List.getElem_mem hi,hp⟩]
  show decide (((i:Nat):Int)≥0)=true
  exact decide_eq_true (by omega)
section
variable{W0:World}{own:Own}{a:Option Addr}{cap:Nat}
theorem q7e{g:FuncId}{p:Ins→Bool}{l:List Ins}(hg:okF Tryz.prog g=true)(hR:RdE Ins.enc 5 W0 own a l)(hl:l.length≤9223372036854775807)(hp:∀x∈l,qD Tryz.prog W0 g [x.v] own (.bool (p x))):
  qD Tryz.prog W0 113 [.slice a l.length cap, .func (.func g) #[] #[]] own (.int .i64 (qeC p l)):=by
 refine qe (qa qj q2S (by simp[qK]) ?_)
 refine q1N (σ:=Nat) (fun i=> [(8, .int .i64 i)]) (fun i=>i≤l.length∧∀j x,j<i→l[j]? =some x→p x=false) (fun i=>l.length-i) 0 ⟨by omega,fun j x h=>by omega⟩ (eF) rfl ?_
 rintro i junk ⟨hi,hI⟩
 by_cases hlt:i<l.length
 ·obtain⟨x,hx⟩:∃x,l[i]? =some x:=⟨_,List.getElem?_eq_getElem hlt⟩
  have hlt':(i:Int)<l.length:=by omega
  have hpx:=hp x (List.mem_of_getElem? hx)
  cases hb:p x with
  |true=>
   rw[hb] at hpx
   repeat'((try(conv=>whnf));first|(refine fE ?_)|(refine fF ?_)|(refine⟨hg,qg hpx ?_⟩)|((with_reducible show IxS _ _ _ _ _);first|((refine ixE hR hx ?_ ?_;(first|rfl|omega))))|((with_reducible show LdN _ _ _ _ _);first|(refine q2e hR hx rfl ?_)))
   refine⟨q0N (vi ?_),(eC)⟩
   have:l.findIdx? p=some i:=by
    rw[List.findIdx?_eq_some_iff_getElem]
    have hx2:=(List.getElem?_eq_some_iff.1 hx).2
    refine⟨hlt,by rw[hx2];exact hb,fun j hj=> ?_⟩
    have:=hI j (l[j]'(by omega)) hj (List.getElem?_eq_getElem (by omega))
    simp[this]
   unfold qeC;rw[this]
  |false=>
   rw[hb] at hpx
   repeat'((try(conv=>whnf));first|(refine fD ?_)|(refine fF ?_)|(refine⟨hg,qg hpx ?_⟩)|((with_reducible show IxS _ _ _ _ _);first|((refine ixE hR hx ?_ ?_;(first|rfl|omega))))|((with_reducible show LdN _ _ _ _ _);first|(refine q2e hR hx rfl ?_))|(refine fB ?_))
   refine⟨i+1,⟨by omega,fun j y hj hy=> ?_⟩,by omega,(eF),(eC)⟩
   by_cases hji:j=i
   ·subst hji
    rw[hx] at hy
    obtain rfl:=Option.some.inj hy
    exact hb
   ·exact hI j y (by omega) hy
 ·have hlt':¬(i:Int)<l.length:=by omega
  repeat'((try(conv=>whnf));first|(refine fG ?_))
  refine⟨q0N (vi ?_),(eC)⟩
  have:l.findIdx? p=none:=by
   rw[List.findIdx?_eq_none_iff]
   intro x hx
   obtain⟨j,hj⟩:=List.getElem?_of_mem hx
   exact hI j x (by have:=(List.getElem?_eq_some_iff.1 hj).1;omega) hj
  unfold qeC;rw[this]
theorem q5i{g:FuncId}{p:Ins→Bool}{l:List Ins}(hg:okF Tryz.prog g=true)(hR:RdE Ins.enc 5 W0 own a l)(hl:l.length≤9223372036854775807)(hp:∀x∈l,qD Tryz.prog W0 g [x.v] own (.bool (p x))):
  qD Tryz.prog W0 82 [.slice a l.length cap, .func (.func g) #[] #[]] own (.bool (l.any p)):=by
 refine qe (qa qj q2m (by simp[qA]) ?_)
 have h:=q7e (cap:=cap) hg hR hl hp
 have e:=qbh p l
 generalize qeC p l=z at*
 repeat'((try(conv=>whnf));first|((with_reducible show qf _ _ _ _ _ _);first|((refine qh (h) ?_ ?_ ?_;(exact rfl);exact rfl))))
 all_goals exact⟨q0N (vb e),(eC)⟩
theorem q5j{g:FuncId}{p:PH→Bool}{l:List PH}(hg:okF Tryz.prog g=true)(hR:RdE PH.enc 1 W0 own a l)(hl:l.length≤9223372036854775807)(hp:∀x∈l,qD Tryz.prog W0 g [.slice x.a x.p.length x.cap] own (.bool (p x))):
  qD Tryz.prog W0 81 [.slice a l.length cap, .func (.func g) #[] #[]] own (.int .i64 (qeC p l)):=by
 refine qe (qa qj q2n (by simp[qB]) ?_)
 refine q1N (σ:=Nat) (fun i=> [(8, .int .i64 i)]) (fun i=>i≤l.length∧∀j x,j<i→l[j]? =some x→p x=false) (fun i=>l.length-i) 0 ⟨by omega,fun j x h=>by omega⟩ (eF) rfl ?_
 rintro i junk ⟨hi,hI⟩
 by_cases hlt:i<l.length
 ·obtain⟨x,hx⟩:∃x,l[i]? =some x:=⟨_,List.getElem?_eq_getElem hlt⟩
  have hlt':(i:Int)<l.length:=by omega
  have hpx:=hp x (List.mem_of_getElem? hx)
  cases hb:p x with
  |true=>
   rw[hb] at hpx
   repeat'((try(conv=>whnf));first|(refine fE ?_)|(refine fF ?_)|(refine⟨hg,qg hpx ?_⟩)|((with_reducible show Ld _ _ _ _);first|(refine q1M hR hx rfl ?_))|((with_reducible show IxS _ _ _ _ _);first|((refine ixE hR hx ?_ ?_;(first|rfl|omega)))))
   refine⟨q0N (vi ?_),(eC)⟩
   have:l.findIdx? p=some i:=by
    rw[List.findIdx?_eq_some_iff_getElem]
    have hx2:=(List.getElem?_eq_some_iff.1 hx).2
    refine⟨hlt,by rw[hx2];exact hb,fun j hj=> ?_⟩
    have:=hI j (l[j]'(by omega)) hj (List.getElem?_eq_getElem (by omega))
    simp[this]
   unfold qeC;rw[this]
  |false=>
   rw[hb] at hpx
   repeat'((try(conv=>whnf));first|(refine fD ?_)|(refine fF ?_)|(refine⟨hg,qg hpx ?_⟩)|((with_reducible show Ld _ _ _ _);first|(refine q1M hR hx rfl ?_))|((with_reducible show IxS _ _ _ _ _);first|((refine ixE hR hx ?_ ?_;(first|rfl|omega))))|(refine fB ?_))
   refine⟨i+1,⟨by omega,fun j y hj hy=> ?_⟩,by omega,(eF),(eC)⟩
   by_cases hji:j=i
   ·subst hji
    rw[hx] at hy
    obtain rfl:=Option.some.inj hy
    exact hb
   ·exact hI j y (by omega) hy
 ·have hlt':¬(i:Int)<l.length:=by omega
  repeat'((try(conv=>whnf));first|(refine fG ?_))
  refine⟨q0N (vi ?_),(eC)⟩
  have:l.findIdx? p=none:=by
   rw[List.findIdx?_eq_none_iff]
   intro x hx
   obtain⟨j,hj⟩:=List.getElem?_of_mem hx
   exact hI j x (by have:=(List.getElem?_eq_some_iff.1 hj).1;omega) hj
  unfold qeC;rw[this]
theorem q4j{g:FuncId}{p:PH→Bool}{l:List PH}(hg:okF Tryz.prog g=true)(hR:RdE PH.enc 1 W0 own a l)(hl:l.length≤9223372036854775807)(hp:∀x∈l,qD Tryz.prog W0 g [.slice x.a x.p.length x.cap] own (.bool (p x))):
  qD Tryz.prog W0 53 [.slice a l.length cap, .func (.func g) #[] #[]] own (.bool (l.any p)):=by
 refine qe (qa qj q1K (by simp[qw]) ?_)
 have h:=q5j (cap:=cap) hg hR hl hp
 have e:=qbh p l
 generalize qeC p l=z at*
 repeat'((try(conv=>whnf));first|((with_reducible show qf _ _ _ _ _ _);first|((refine qh (h) ?_ ?_ ?_;(exact rfl);exact rfl))))
 all_goals exact⟨q0N (vb e),(eC)⟩
def alI(x:Ins):Bool:=decide (x.op=14)||decide (x.op=15)
def alQ(ps:List PH):Bool:=ps.any fun h=>h.p.any alI
theorem qkv{ps:List PH}(h:alQ ps=false):qfn (ps.map PH.p):=by
 intro p hp x hx
 obtain⟨y,hy,rfl⟩:=List.mem_map.1 hp
 have h1:=List.any_eq_false.1 h y hy
 have h2:=List.any_eq_false.1 (by simpa using h1) x hx
 unfold alI at h2
 simp only[Bool.or_eq_true,decide_eq_true_eq,not_or] at h2
 exact h2
theorem qjN(W0:World)(own:Own)(x:Ins):qD Tryz.prog W0 83 [x.v] own (.bool (alI x)):=by
 refine qe (qa qj q3A (by simp[q04]) ?_)
 unfold alI
 obtain⟨op,a,b,c,imm⟩:=x
 dsimp only[Ins.v]
 by_cases h1:op=14
 ·rw[decide_eq_true h1,Bool.true_or]
  repeat'((try(conv=>whnf));first|(refine fI ?_)|(refine fJ ?_)|(refine fA ?_)|(refine qc (fun bk hbk=> ?_)))
  all_goals exact⟨q0N rfl,(eC)⟩
 ·rw[decide_eq_false h1,Bool.false_or]
  repeat'((try(conv=>whnf));first|(refine fH ?_)|(refine fK ?_)|(refine fA ?_)|(refine qc (fun bk hbk=> ?_)))
  all_goals exact⟨q0N rfl,(eC)⟩
theorem qjB:okF Tryz.prog 83=true:=by kernel_rfl
theorem qjC:okF Tryz.prog 54=true:=by kernel_rfl
theorem qjO{l:List Ins}(hR:RdE Ins.enc 5 W0 own a l)(hl:l.length≤9223372036854775807):qD Tryz.prog W0 54 [.slice a l.length cap] own (.bool (l.any alI)):=by
 refine qe (qa qj q46 (by simp[q0q]) ?_)
 have h:=q5i (cap:=cap) qjB hR hl fun x _=>qjN W0 own x
 generalize l.any alI=z at*
 repeat'((try(conv=>whnf));first|((with_reducible show qf _ _ _ _ _ _);first|((refine qh (h) ?_ ?_ ?_;(exact rfl);exact rfl))))
 all_goals exact⟨rfl,(eC)⟩
theorem qi4{ps:List PH}(hR:RdE PH.enc 1 W0 own a ps)(hl:ps.length≤9223372036854775807)(hQ:∀h∈ps,RdE Ins.enc 5 W0 own h.a h.p∧h.p.length≤9223372036854775807):
  qD Tryz.prog W0 53 [.slice a ps.length cap, .func (.func 54) #[] #[]] own (.bool (alQ ps)):=
 q4j qjC hR hl fun x hx=>qjO (hQ x hx).1 (hQ x hx).2
end
def foB(fo:List Int):Bool:=fo.all fun k=>decide (3≤k∧k≤6)
def qeN(c:Cfg)(il:Nat)(ps:List PH)(fo:List Int)(lim:Int):Int:=
 if(csM c il ps []).2.2≠0 then(csM c il ps []).2.2 else if c.strong=true∨alQ ps=true then 1 else if lim<1∨100000<lim∨(4:Int)<fo.length then 2 else if foB fo then 0 else 2
section
variable{W0:World}{own:Own}{c:Cfg}{ia pa ka:Option Addr}{ic pc kc:Nat}{ps:List PH}{il ks:List Int}{fa:Option Addr}{fc:Nat}{fo:List Int}
theorem qhs{i:Nat}{x:Int}(hx:fo[i]? =some x)(h:foB (fo.take i)=true)(hk:3≤x∧x≤6):foB (fo.take (i+1))=true:=by
 unfold foB at*
 rw[List.take_add_one,hx,List.all_append,h]
 simp[hk]
theorem qjo{i:Nat}{x:Int}(hx:fo[i]? =some x)(hk:¬(3≤x∧x≤6)):foB fo=false:=by
 unfold foB
 rw[List.all_eq_false]
 exact⟨x,List.mem_of_getElem? hx,by simpa using hk⟩
theorem qdX(hF:q0A W0)(hI:RdE q7j 1 W0 own ia il)(hil:il.length≤500000)(hP:RdE PH.enc 1 W0 own pa ps)(hpl:ps.length≤1000000)(hQ:∀h∈ps,RdE Ins.enc 5 W0 own h.a h.p)(hfo:RdE qM 1 W0 own fa fo)(lim:Int):
  q0E Tryz.prog W0 25 [qi0 c ia il.length ic pa ps.length pc ka ks.length kc, .slice fa fo.length fc, .int .i64 lim] own fun v own'=>v= .int .i64 (qeN c il.length ps fo lim)∧Ent W0 own' own:=by
 refine qa qj q5B (by simp[q1b]) ?_
 have hnw:=fun(own':Own) [qt own' own]=>qgH (own:=own') (c:=c) (ic:=ic) (pc:=pc) (ka:=ka) (ks:=ks) (kc:=kc) hF hI.up (by omega) hP.up (fun h hh=>(hQ h hh).up)
 repeat'((try(conv=>whnf));first|(refine qc (fun b3 h3=> ?_);(apply Stop.h)))
 refine Stop.mk ?_
 repeat'((try(conv=>whnf));first|((with_reducible show qf _ _ _ _ _ _);first|((refine q3r (hnw _) Ent.refl ?_ ?_ (fun v hv=> ?_) (fun y v hv=> ?_);(exact rfl);(exact rfl);all_goals(apply Stop.h))))|(refine fL ?_))
 ·obtain⟨rfl,he⟩:=hv
  unfold qeN
  rw[if_pos he]
  refine Stop.mk ?_
  repeat'((try(conv=>whnf));first|(refine fF ?_)|(refine fO ?_))
  all_goals exact⟨rfl,(eC)⟩
 ·obtain⟨g,ys,kD⟩:=y
  obtain⟨rfl,h0, -⟩:=hv
  obtain⟨-,hc0,hpl2,hiw,hck⟩:=qh1 (by rw[h0]:(csM c il.length ps []).2.2=0)
  unfold qeN
  rw[h0,if_neg (by simp)]
  have hal:=fun(own':Own) [qt own' own]=>qi4 (own:=own') (cap:=pc) hP.up (by omega) (fun h hh=>⟨(hQ h hh).up,by have:=q6A (hck h hh);omega⟩)
  generalize alQ ps=z at*
  generalize g.O c (ys.map PB.h).length (q7G c il (ps.map PH.p))=G
  generalize kD++q9L ys=KD
  clear hnw
  obtain⟨q0,q1,q2,q3,q4,q5,q6,q7,q8,q9,q10,q11,st⟩:=c
  dsimp only at*
  refine Stop.mk ?_
  by_cases h1:st=true∨z=true
  ·rw[if_pos h1]
   cases st with
   |true=>
    repeat'((try(conv=>whnf));first|(refine fI ?_)|(refine fE ?_)|(refine fD ?_)|(refine fO ?_)|(refine fA ?_))
    all_goals exact⟨rfl,(eC)⟩
   |false=>
    have hz:z=true:=by rcases h1 with h1|h1;(cases h1);exact h1
    subst hz
    repeat'((try(conv=>whnf));first|(refine fH ?_)|(refine fE ?_)|(refine fD ?_)|((with_reducible show qf _ _ _ _ _ _);first|((refine qh (hal _) ?_ ?_ ?_;(exact rfl);exact rfl)))|(refine fO ?_)|(refine fA ?_))
    all_goals exact⟨rfl,(eC)⟩
  ·rw[if_neg h1]
   obtain rfl:st=false:=by simpa using fun h=>h1 (.inl h)
   obtain rfl:z=false:=by simpa using fun h=>h1 (.inr h)
   by_cases h2:lim<1∨100000<lim∨(4:Int)<fo.length
   ·rw[if_pos h2]
    repeat'((try(conv=>whnf));first|(refine fH ?_)|(refine fI ?_)|(refine fE ?_)|(refine fD ?_)|(refine fF ?_)|((with_reducible show qf _ _ _ _ _ _);first|((refine qh (hal _) ?_ ?_ ?_;(exact rfl);exact rfl)))|(refine fO ?_)|(refine fA ?_)|(apply q4P;(exact rfl);(exact rfl);all_goals intro hc))
    all_goals exact⟨rfl,(eC)⟩
   ·rw[if_neg h2]
    have h2':(fo.length:Int)≤4:=by omega
    repeat'((try(conv=>whnf));first|(refine fH ?_)|(refine fD ?_)|(refine fG ?_)|(refine fK ?_)|((with_reducible show qf _ _ _ _ _ _);first|((refine qh (hal _) ?_ ?_ ?_;(exact rfl);exact rfl)))|(refine fO ?_)|(refine fA ?_))
    refine q0Z (σ:=Nat) (fun i=> [(44, .int .i64 i)]) (fun _=>own) (fun i=>i≤fo.length∧foB (fo.take i)=true) (fun i=>fo.length-i) 0 ⟨Nat.zero_le _,rfl⟩ (eF) ?_ rfl ?_
    ·exact(eC)
    rintro i junk ⟨hi,hI2⟩
    by_cases hil2:i<fo.length
    ·obtain⟨x,hx⟩:∃x,fo[i]? =some x:=⟨_,List.getElem?_eq_getElem hil2⟩
     by_cases hk:3≤x∧x≤6
     ·repeat'((try(conv=>whnf));first|(refine fH ?_)|(refine fF ?_)|(refine fG ?_)|(refine fK ?_)|((with_reducible show Ld _ _ _ _);first|(refine q1M hfo hx rfl ?_))|((with_reducible show IxS _ _ _ _ _);first|((refine ixE hfo hx ?_ ?_;(first|rfl|omega))))|(refine fB ?_))
      all_goals exact⟨i+1,⟨hil2,qhs hx hI2 hk⟩,by omega,(eF),Ent.refl⟩
     ·rw[qjo hx hk]
      repeat'((try(conv=>whnf));first|(refine fH ?_)|(refine fI ?_)|(refine fE ?_)|(refine fF ?_)|((with_reducible show Ld _ _ _ _);first|(refine q1M hfo hx rfl ?_))|((with_reducible show IxS _ _ _ _ _);first|((refine ixE hfo hx ?_ ?_;(first|rfl|omega))))|(apply q4P;(exact rfl);(exact rfl);all_goals intro hc))
      all_goals first|exact⟨rfl,(eC)⟩|(exfalso;omega)
    ·have hiN:i=fo.length:=by omega
     subst hiN
     rw[List.take_length] at hI2
     rw[hI2]
     repeat'((try(conv=>whnf));first|(refine fG ?_))
     all_goals exact⟨rfl,(eC)⟩
end
open Go
section
variable(rc:List EvM→Bool)(c:Cfg)(P:List (List Ins))(fo:List Int)(lim:Int)(n:Nat)
def q5S(b:GS)(l:List ChM)(t:Nat)(x:SS)(k:Int):SS:=if x.stop then x else q7L rc c P fo lim n (doM c P b ⟨t,k,[]⟩).2 (l++ [⟨t,k,[]⟩]) x
def q7J(s:GS)(l:List ChM)(x:SS)(t:Nat):SS:=if x.stop then x else if dnB s t then x else
 if dnB (q1t c P t 64 s l).1 t then q7L rc c P fo lim n (q1t c P t 64 s l).1 (q1t c P t 64 s l).2 x
 else(q52 fo (nxM P (q1t c P t 64 s l).1 t)).foldl (q5S rc c P fo lim n (q1t c P t 64 s l).1 (q1t c P t 64 s l).2 t) x
theorem qgL(s:GS)(l:List ChM)(x:SS):q7L rc c P fo lim (n+1) s l x=if q6E s then qey rc lim s l x else(List.range s.T.length).foldl (q7J rc c P fo lim n s l) x:=rfl
end
section
variable{rc:List EvM→Bool}{c:Cfg}{P:List (List Ins)}{fo:List Int}{lim:Int}
theorem qa2{n:Nat}{b:GS}{l:List ChM}{t:Nat}(x:SS)(k:Int)(h:x.stop=true):q5S rc c P fo lim n b l t x k=x:=by unfold q5S;rw[if_pos h]
theorem q3l{n:Nat}{s:GS}{l:List ChM}(x:SS)(t:Nat)(h:x.stop=true):q7J rc c P fo lim n s l x t=x:=by unfold q7J;rw[if_pos h]
theorem q6I{α:Type}{g:SS→α→SS}{Q:SS→Prop}(hg:∀x a,Q x→Q (g x a)):∀(l:List α) (x:SS),Q x→Q (l.foldl g x)
 | [],_,h=>h
 |a::l,x,h=>q6I hg l _ (hg x a h)
theorem q6s{Q:SS→Prop}(hf:∀s l x,x.stop=false→Q x→Q (qey rc lim s l x)):∀(n:Nat) (s:GS) (l:List ChM) (x:SS),x.stop=false→Q x→Q (q7L rc c P fo lim n s l x)
 |0,_,_,_,_,h=>h
 |n+1,s,l,x,hx,h=>by
  rw[qgL]
  split
  ·exact hf s l x hx h
  ·refine q6I (fun y t hy=> ?_) _ x h
   unfold q7J
   split
   ·exact hy
   ·rename_i hys
    have hys':y.stop=false:=by simpa using hys
    split
    ·exact hy
    ·split
     ·exact q6s hf n _ _ y hys' hy
     ·refine q6I (fun z k hz=> ?_) _ y hy
      unfold q5S
      split
      ·exact hz
      ·rename_i hzs
       exact q6s hf n _ _ z (by simpa using hzs) hz
theorem q9c{n:Nat}{s:GS}{l:List ChM}{x:SS}(hx:x.stop=false)(h:(x.runs:Int)≤lim):((q7L rc c P fo lim n s l x).runs:Int)≤lim:=by
 refine q6s (Q:=fun x=>(x.runs:Int)≤lim) (fun s l x _ h=> ?_) n s l x hx h
 unfold qey
 split
 ·exact h
 ·split
  ·show((x.runs+1:Nat):Int)≤lim;omega
  ·show((x.runs+1:Nat):Int)≤lim;omega
theorem q7h{n:Nat}{s:GS}{l:List ChM}{x:SS}(hx:x.stop=false)(h:x.found= [])(hr:(q7L rc c P fo lim n s l x).racy=false):(q7L rc c P fo lim n s l x).found= []:=by
 refine q6s (Q:=fun x=>x.racy=false→x.found= []) (fun s l x _ h=> ?_) n s l x hx (fun _=>h) hr
 unfold qey
 split
 ·exact h
 ·split
  ·intro h2;cases h2
  ·exact h
theorem qcb{N t:Nat}(h:t<N):(List.range N).drop t=t::(List.range N).drop (t+1):=by
 have:(List.range N)[t]? =some t:=by rw[List.getElem?_range h]
 exact q4I this
theorem qiM(hna:qfn P)(t:Nat):∀(n:Nat) (s:GS) (l:List ChM),GOk c P s→l.length≤s.n→(q1t c P t n s l).2.length≤(q1t c P t n s l).1.n
 |0,_,_,_,h=>h
 |n+1,s,l,hG,h=>by
  unfold q1t
  cases hb:q7u P s t with
  |false=>exact h
  |true=>
   rw[if_pos rfl]
   obtain⟨i,hi, -⟩:=q86 hb
   obtain⟨-,h1,h2, -⟩:(doM c P s (ch0 t)).1=0∧GOk c P (doM c P s (ch0 t)).2∧(doM c P s (ch0 t)).2.n=s.n+1∧_:=q3Z hG hna hi (.inl rfl)
   exact qiM hna t n _ _ h1 (by rw[List.length_append,List.length_singleton];omega)
end
end Go.Proofs.YtkieffpjjfebjaaGreatDoor
