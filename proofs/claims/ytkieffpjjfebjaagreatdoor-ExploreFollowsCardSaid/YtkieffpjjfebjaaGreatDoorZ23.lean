/- What the laws share, part 23. No condition. -/
import Derived.Test.YtkieffpjjfebjaaGreatDoorZ22
set_option maxHeartbeats 16000000
set_option maxRecDepth 10000
namespace Go.Proofs.YtkieffpjjfebjaaGreatDoor
open Go
theorem qj3{W0:World}{e m:Nat×(Obj→Prop)}{A Z:Own}:Ent W0 (e::(m::(A++Z))) (e::(A++(m::Z))):=qo []
theorem qj4{W0:World}{e m:Nat×(Obj→Prop)}{A Z:Own}:Ent W0 (e::(A++(m::Z))) (e::(A++(m::Z))):=Ent.refl
theorem qj5{W0:World}{bk bk2 gb mb b1:Nat×(Obj→Prop)}{D1 D3 D8 D9 L Z:Own}:Ent W0 (bk::(bk2::(D3++(gb::(D1++(mb::(D8++(L++(D9++(b1::Z)))))))))) (gb::(D1++(mb::(D8++((L++D3)++(D9++(b1::Z))))))):=qo [bk,bk2]
theorem qj6{W0:World}{gb mb b1:Nat×(Obj→Prop)}{D1 D5 kD tD L Z:Own}:Ent W0 (D5++(gb::(D1++(mb::(kD++(L++(tD++(b1::Z)))))))) ((gb::(D1++(mb::(tD++([]++(D5++([]++ [])))))))++((kD++L)++Z)):=qo [b1]
theorem qhO{W0:World}{kD:Own}{ys:List PB}{x:PB}{a:Option Addr}{l:List Ins}(hx:x∈ys)(h:RdE Ins.enc 5 W0 x.D a l):RdE Ins.enc 5 W0 (kD++q9L ys) a l:=by
 obtain⟨l1,l2,rfl⟩:=List.append_of_mem hx
 refine h.ent ?_
 simp only[q9L,List.map_append,List.map_cons,List.flatten_append,List.flatten_cons]
 exact qo (kD++((l1.map PB.D).flatten++(l2.map PB.D).flatten))
theorem qbw:∀(ps:List PH) (t:Nat),psG ps t=none→∀h∈ps,qx h.p=(0,0)
 | [],_,_,_,h=>by cases h
 |x::l,t,hn,y,hy=>by
  unfold psG at hn
  split at hn
  ·cases hn
  ·rename_i h0
   rcases List.mem_cons.1 hy with rfl|hy
   ·have h0':(qx y.p).2=0:=by omega
    exact qac.1 h0'
   ·exact qbw l (t+1) hn y hy
theorem qjG:∀(ps:List PH) (t:Nat) (r:Int×Int×Int),psG ps t=some r→r.2.2≠0
 | [],_,_,h=>by cases h
 |x::l,t,r,hn=>by
  unfold psG at hn
  split at hn
  ·rename_i h0
   rw[←Option.some.inj hn];exact h0
  ·exact qjG l (t+1) r hn
theorem qh1{c:Cfg}{il:Nat}{ps:List PH}(h:(csM c il ps []).2.2=0):csM c il ps []=(0,0,0)∧qL c=0∧(1≤ps.length∧ps.length≤16)∧(il:Int)=c.words∧∀h∈ps,qx h.p=(0,0):=by
 unfold csM at h ⊢
 by_cases h0:qL c=0
 ·rw[if_neg (by omega)] at h ⊢
  by_cases h1:ps.length<1∨16<ps.length
  ·rw[if_pos h1] at h;exact absurd h (by decide)
  ·rw[if_neg h1] at h ⊢
   by_cases h2:(il:Int)≠c.words
   ·rw[if_pos h2] at h;exact absurd h (by decide)
   ·rw[if_neg h2] at h ⊢
    cases hp:psG ps 0 with
    |some r=>rw[hp] at h;exact absurd h (qjG ps 0 r hp)
    |none=>exact⟨rfl,h0,by omega,by omega,qbw ps 0 hp⟩
 ·rw[if_pos h0] at h;exact absurd h h0
def qcD(p:List Ins):Thr:=⟨0,⟨0,0,0,0,0,0,0,0⟩,0,decide (p.length=0)⟩
section
variable{W0:World}{own:Own}{c:Cfg}{ia pa ka:Option Addr}{ic pc kc:Nat}{ps:List PH}{il ks:List Int}
theorem qgH(hF:q0A W0)(hI:RdE q7j 1 W0 own ia il)(hil:il.length≤1000000)(hP:RdE PH.enc 1 W0 own pa ps)(hQ:∀h∈ps,RdE Ins.enc 5 W0 own h.a h.p):
  q0E Tryz.prog W0 36 [qi0 c ia il.length ic pa ps.length pc ka ks.length kc] own fun v own'=>
   ((v= .tuple #[.pointer none, .int .i64 (csM c il.length ps []).1, .int .i64 (csM c il.length ps []).2.1, .int .i64 (csM c il.length ps []).2.2]∧(csM c il.length ps []).2.2≠0)∧Ent W0 own' own)∨
   ∃y:GP×List PB×Own,(v= .tuple #[.pointer (some ⟨y.1.gb,0,none⟩), .int .i64 0, .int .i64 0, .int .i64 0]∧csM c il.length ps []=(0,0,0)∧
    y.1.ok W0 (y.2.2++q9L y.2.1) (y.2.1.map PB.h) (q7G c il (ps.map PH.p))∧y.1.ev W0 []∧(y.2.1.map PB.h).map PH.p=ps.map PH.p∧y.1.L= [])∧Ent W0 own' (y.1.O c (y.2.1.map PB.h).length (q7G c il (ps.map PH.p))++((y.2.2++q9L y.2.1)++own)):=by
 refine qa qj q9H (by simp[q3x]) ?_
 have hcs:=fun(own':Own) [qt own' own]=>ql3 (c:=c) (ia:=ia) (il:=il.length) (ic:=ic) (pc:=pc) (ka:=none) (ks:= []) (kc:=0) (own:=own') hF (RdE.up hP) (fun h hh=>RdE.up (hQ h hh)) RdE.nil
 by_cases he:(csM c il.length ps []).2.2=0
 ·obtain⟨h0,hc0,hpl,hiw,hck⟩:=qh1 he
  rw[h0] at hcs ⊢
  have hcl:=fun(own':Own) [qt own' own]=>q2N (cap:=ic) (RdE.up (own:=own') hI) (by omega)
  repeat'((try(conv=>whnf));first|(refine qc (fun b1 h1=> ?_);(apply Stop.h)))
  refine Stop.mk ?_
  repeat'((try(conv=>whnf));first|(refine fD ?_)|((with_reducible show qf _ _ _ _ _ _);first|((refine qh (hcs _) ?_ ?_ ?_;(exact rfl);exact rfl)))|(refine fO ?_)|(refine fL ?_)|(refine fN ?_))
  refine q4H (σ:=Nat×Nat×Option Addr×Nat×Own) 535822340 (fun y=> [(2, .pointer (some ⟨y.1,0,none⟩))])
   (fun y=>(y.1,fun o=>o=Obj.cells (.slice y.2.2.1 il.length y.2.2.2.1:: .map (some y.2.1)::cfL c [.slice none 0 0, .slice none 0 0, .slice none 0 0, .slice none 0 0, .int .i64 0]).toArray 122 (0,0))::(y.2.2.2.2++((y.2.1,q70 (mpV []))::((b1,fun o=>o=Obj.cells (qiF c (.slice ia il.length ic) (.slice pa ps.length pc) (.slice none 0 0)) 32 (0,0))::own))))
   (fun y=>qr q7j 58 1 y.2.2.1 y.2.2.2.1 il y.2.2.2.2) rfl ?_ ?_
  ·repeat'((try(conv=>whnf));first|(refine qlf.mk (fun mb hmb=> ?_))|(refine qc (fun gb hgb=> ?_))|((with_reducible show qf _ _ _ _ _ _);first|((refine qZ (hcl _) ?_ ?_ (fun y v hv=> ?_);(exact rfl);(exact rfl);(obtain⟨a1,c1,D1⟩:=y;obtain⟨rfl,hB⟩:=hv;dsimp only at hB))))|(refine fA ?_)|(refine fQ ?_)|(refine q4T.mk ?_ ?_))
   all_goals
    refine⟨(gb,mb,a1,c1,D1),hB,(eF),?_⟩
    first|exact qj3|exact qj4
  ·rintro⟨gb,mb,a1,c1,D1⟩ junk hB1
   dsimp only at hB1 ⊢
   repeat'((try(conv=>whnf));first|(refine fA ?_))
   refine q0Z (σ:=Nat×List PB×(Option Addr×Nat×Own)×(Option Addr×Nat×Own)) (fun y=> [(32, .int .i64 y.1)])
    (fun y=>(gb,fun o=>o=Obj.cells (.slice a1 il.length c1:: .map (some mb)::cfL c [.slice y.2.2.1.1 (y.2.1.map PB.h).length y.2.2.1.2.1, .slice y.2.2.2.1 ((ps.take y.1).map fun h=>qcD h.p).length y.2.2.2.2.1, .slice none 0 0, .slice none 0 0, .int .i64 0]).toArray 122 (0,0))::(D1++((mb,q70 (mpV []))::(y.2.2.1.2.2++(q9L y.2.1++(y.2.2.2.2.2++((b1,fun o=>o=Obj.cells (qiF c (.slice ia il.length ic) (.slice pa ps.length pc) (.slice none 0 0)) 32 (0,0))::own)))))))
    (fun y=>y.1≤ps.length∧(y.2.1.map PB.h).map PH.p=(ps.take y.1).map PH.p∧qr PH.enc 66 1 y.2.2.1.1 y.2.2.1.2.1 (y.2.1.map PB.h) y.2.2.1.2.2∧(∀x∈y.2.1,x.ok)∧qr Thr.enc 61 11 y.2.2.2.1 y.2.2.2.2.1 ((ps.take y.1).map fun h=>qcD h.p) y.2.2.2.2.2)
    (fun y=>ps.length-y.1) (0,[],(none,0,[]),(none,0,[])) ⟨Nat.zero_le _,rfl,qr.nil,(fun _ h=>(by cases h)),qr.nil⟩ (eF) Ent.refl rfl ?_
   rintro⟨i,ys,⟨ka',kc',kD⟩,⟨ta,tc,tD⟩⟩ junk ⟨hi,hm,hBk,hys,hBt⟩
   dsimp only at hi hm hBk hys hBt ⊢
   have hyl:(ys.map PB.h).length=i:=qfi hm hi
   have htl:((ps.take i).map fun h=>qcD h.p).length=i:=by simp;omega
   by_cases hil:i<ps.length
   ·obtain⟨x,hx⟩:∃x,ps[i]? =some x:=⟨_,List.getElem?_eq_getElem hil⟩
    have hxm:=List.mem_of_getElem? hx
    have hxP:=hQ x hxm
    have hxl:=q6A (hck x hxm)
    obtain⟨xa,xc,xp⟩:=x
    dsimp only at hxP hxl
    have hci:=fun(own':Own) [qt own' own]=>q7I (cap:=xc) (RdE.up (own:=own') hxP) (by omega)
    have hthr:∀b:Bool,b=decide (xp.length=0)→ [.int .i64 0, .int .u64 0, .int .u64 0, .int .u64 0, .int .u64 0, .int .u64 0, .int .u64 0, .int .u64 0, .int .u64 0, .int .i64 0, .bool b]=(qcD xp).enc:=fun b hb=>by rw[hb];rfl
    repeat'((try(conv=>whnf));first|(refine fF ?_)|(apply q69 (enc:=PH.enc) (T:=66) ⟨a3,c3,xp⟩ hBk;(exact rfl);(exact rfl);(omega);(exact rfl);(exact rfl);(omega);intro a8 c8 D8 hb8)|(apply q69 (enc:=Thr.enc) (T:=61) (qcD xp) hBt;(refine hthr _ ?_;simp);(exact rfl);(omega);(exact rfl);(exact rfl);(omega);intro a9 c9 D9 hb9)|((with_reducible show Ld _ _ _ _);first|(refine q1M hP hx rfl ?_))|((with_reducible show IxS _ _ _ _ _);first|((refine ixE hP hx ?_ ?_;(first|rfl|omega))))|((with_reducible show qf _ _ _ _ _ _);first|((refine qZ (hci _) ?_ ?_ (fun y v hv=> ?_);(exact rfl);(exact rfl);(obtain⟨a3,c3,D3⟩:=y;obtain⟨rfl,hB3⟩:=hv;dsimp only at hB3))))|(refine fB ?_)|(refine fA ?_)|(refine fN ?_)|(refine qc (fun bk hbk=> ?_))|(refine q4T.mk ?_ ?_))
    all_goals
     have hsn:ys.map PB.h++ [⟨a3,c3,xp⟩]=(ys++ [(⟨⟨a3,c3,xp⟩,D3⟩:PB)]).map PB.h:=by simp
     have htk:((ps.take i).map fun h=>qcD h.p)++ [qcD xp]=(ps.take (i+1)).map fun h=>qcD h.p:=by
      rw[List.take_add_one,hx];simp
     rw[hsn] at hb8
     rw[htk] at hb9
     refine⟨(i+1,ys++ [⟨⟨a3,c3,xp⟩,D3⟩],(a8,c8,D8),(a9,c9,D9)),⟨hil,by rw[←hsn];exact qbQ hm hx rfl,hb8,fun x hx=> ?_,hb9⟩,(by show ps.length-(i+1)<ps.length-i;omega),(eF),?_⟩
     ·rcases List.mem_append.1 hx with hx|hx
      ·exact hys x hx
      ·rw[List.mem_singleton.1 hx];exact hB3
     ·have e1:((ys++ [(⟨⟨a3,c3,xp⟩,D3⟩:PB)]).map PB.h).length=(ys.map PB.h).length+1:=by simp
      have e2:((ps.take (i+1)).map fun h=>qcD h.p).length=((ps.take i).map fun h=>qcD h.p).length+1:=by rw[←htk];simp
      dsimp only
      rw[e1,e2,q72]
      exact qj5
   ·have hiN:i=ps.length:=by omega
    subst hiN
    rw[List.take_length] at hm hBt ⊢
    repeat'((try(conv=>whnf));first|(refine fG ?_)|(refine mkE (enc:=ObS.enc) ⟨none,0,[],[]⟩ rfl rfl (by omega) (fun a5 c5 D5 hb5=> ?_))|(refine fA ?_)|(refine fN ?_))
    have hT:(q7G c il (ps.map PH.p)).T=ps.map fun h=>qcD h.p:=by simp[q7G,qcD]
    have hz:q5q (List.replicate (ys.map PB.h).length (⟨none,0,[],[]⟩:ObS))= []:=by simp[q5q]
    replace hb5:qr ObS.enc 124 1 a5 c5 (List.replicate (ys.map PB.h).length ⟨none,0,[],[]⟩) D5:=hb5
    refine .inr ⟨(⟨gb,mb,[],a1,c1,D1,ka',kc',ta,tc,tD,none,0,[],[],[],a5,c5,D5,List.replicate (ys.map PB.h).length ⟨none,0,[],[]⟩⟩,ys,kD),⟨rfl,rfl,⟨hB1,?_,RdE.up (hBk.rd (W0:=W0)),?_,hT ▸ hBt,qr.nil,rfl,hb5,?_,?_⟩,⟨(fun _ h=>(by cases h)),[],rfl⟩,hm,rfl⟩,?_⟩
    ·intro k
     show false=_
     simp only[q7G,List.getD_eq_getElem?_getD,List.getElem?_replicate]
     split <;>rfl
    ·intro h hh
     obtain⟨x,hx,rfl⟩:=List.mem_map.1 hh
     exact qhO hx ((hys x hx).rd (W0:=W0))
    ·intro x hx
     rw[List.eq_of_mem_replicate hx]
     exact qr.nil
    ·have e:ps.length=(ys.map PB.h).length:=hyl.symm
     simp only[q7G,List.map_map,List.map_replicate]
     rw[←e]
     exact(List.map_const' ..).symm
    ·dsimp only[GP.O,GP.cells]
     rw[hT,hz,List.length_replicate]
     exact qj6
 ·generalize csM c il.length ps []=z at*
  obtain⟨zt,za,ze⟩:=z
  dsimp only at he
  repeat'((try(conv=>whnf));first|(refine fF ?_)|((with_reducible show qf _ _ _ _ _ _);first|((refine qh (hcs _) ?_ ?_ ?_;(exact rfl);exact rfl)))|(refine fO ?_)|(refine fL ?_)|(refine fN ?_)|(refine qc (fun bk hbk=> ?_)))
  all_goals exact .inl ⟨⟨rfl,he⟩,(eC)⟩
end
open Go
theorem ok0:okU 0:=⟨by decide,by decide⟩
theorem qgw{c:Cfg}{il:List Int}{P:List (List Ins)}(h0:qL c=0)(hl:(il.length:Int)=c.words)(hw:∀x∈il,okU x)(hP:∀p∈P,qx p=(0,0)):GOk c P (q7G c il P):=by
 refine⟨h0,hP,hl,hw,by simp[q7G],by simp[q7G],by simp[q7G],fun t th p ht hp=> ?_,Nat.zero_le _,⟨fun _ h=>(by cases h),fun _ _ h=>(by cases h)⟩,fun l hl=> ?_⟩
 ·simp only[q7G,List.getElem?_map,hp,Option.map_some,Option.some.injEq] at ht
  subst ht
  refine⟨fun k=> ?_,Nat.zero_le _,(by show(-1:Int)<0;decide),?_,ok0⟩
  ·by_cases hk:k<8
   ·rcases lt8 hk with rfl|rfl|rfl|rfl|rfl|rfl|rfl|rfl <;>exact ok0
   ·obtain⟨m,rfl⟩:∃m,k=m+8:=⟨k-8,by omega⟩
    exact ok0
  ·show decide (p.length=0)=decide (0=p.length)
   by_cases h:p.length=0
   ·rw[h]
   ·rw[decide_eq_false h,decide_eq_false (by omega)]
 ·obtain⟨_,_,rfl⟩:=List.mem_map.1 hl
  exact Nat.zero_le _
def qce(c:Cfg)(P:List (List Ins)):List ChM→Nat→GS→GS ⊕ Nat
 | [],_,s=> .inl s
 |ch::l,k,s=>if(doM c P s ch).1=0 then qce c P l (k+1) (doM c P s ch).2 else .inr k
structure CH where
 t:Int
 f:Int
 a:Option Addr
 ad:List Int
 ac:Nat
abbrev CH.enc(x:CH):List Value:= [.int .i64 x.t, .int .i64 x.f, .slice x.a x.ad.length x.ac]
abbrev CH.m(x:CH):ChM:=⟨x.t,x.f,x.ad⟩
structure MS where
 c:Cfg
 ia:Option Addr
 il:List Int
 ic:Nat
 Di:Own
 pa:Option Addr
 ps:List PB
 pc:Nat
 Dp:Own
 ka:Option Addr
 kc:Nat
 Dk:Own
abbrev MS.v(m:MS):Value:=qi0 m.c m.ia m.il.length m.ic m.pa m.ps.length m.pc m.ka 0 m.kc
def MS.O(m:MS):Own:=m.Dk++(m.Dp++(q9L m.ps++m.Di))
structure MS.ok(m:MS)(st:Bool):Prop where
 i:qr q7j 58 1 m.ia m.ic m.il m.Di
 p:qr PH.enc 66 1 m.pa m.pc (m.ps.map PB.h) m.Dp
 k:qr qM 3 1 m.ka m.kc [] m.Dk
 q:∀x∈m.ps,x.ok∧qx x.h.p=(0,0)
 il:(m.il.length:Int)=m.c.words
 iw:∀x∈m.il,0≤x∧x≤3
 pl:m.ps.length=2∨m.ps.length=3
 cw:4≤m.c.words∧m.c.words≤12
 c0:qL m.c=0
 cs:m.c.strong=st
def qks(ls:List IH)(i:Nat)(n:Int):Prop:=i≤3→0≤n∧n≤i*17592186043904∧∀h∈ls.take i,(h.l.length:Int)≤n
theorem qks.next{ls:List IH}{i:Nat}{n:Int}{x:IH}(h:qks ls i n)(hx:ls[i]? =some x)(hl:x.l.length≤17592186043904):qks ls (i+1) (IntKind.i64.wrap (n+x.l.length)):=fun hi=>by
 obtain⟨h0,h1,h2⟩:=h (by omega)
 rw[q9h (by omega) (by omega)]
 refine⟨by omega,by omega,fun y hy=> ?_⟩
 rw[List.take_add_one,hx] at hy
 rcases List.mem_append.1 hy with hy|hy
 ·have:=h2 y hy;omega
 ·rw[List.mem_singleton.1 hy];omega
structure SzG(s:GS):Prop where
 d:s.d.length≤500000
 t:s.T.length≤500000
 e:s.E.length≤500000
 o:s.O.length≤500000
 ol:∀l∈s.O,l.length≤500000
 ev:∀e∈s.E,e.r.length≤500000∧e.wl.length≤500000
theorem GOk.sz{c:Cfg}{P:List (List Ins)}{s:GS}(h:GOk c P s)(hn:s.n≤5000)(hP:P.length≤16):SzG s:=by
 have h0:=(q1R h.c0).1
 unfold okW at h0
 have h1:=h.dl
 have h2:=h.tl
 have h3:=h.ol
 have h4:=h.el
 exact⟨by omega,by omega,by omega,by omega,fun l hl=>by have:=h.ob l hl;omega,fun e he=>by have:=(h.ev.1 e he).2.2.2;omega⟩
structure RG.at(r:RG)(W0:World)(s:GS)(own:Own):Prop where
 d:RdE q7j 1 W0 own r.da s.d
 t:RdE Thr.enc 11 W0 own r.ta s.T
 e:RdE EH.enc 6 W0 own r.ea r.L
 em:r.L.map EH.m=s.E
 ev:∀e∈r.L,RdE qM 1 W0 own e.ra e.rl∧RdE qM 1 W0 own e.wa e.wl
 o:RdE ObS.enc 1 W0 own r.oa r.S
 os:∀x∈r.S,RdE ObM.enc 3 W0 own x.a x.l
 ol:r.S.map ObS.l=s.O
section
variable{W0:World}{own:Own}{r r1 r2:RG}{s s1 s2:GS}
theorem qf1{S:List ObS}{x:ObS}(hx:x∈S):Ent W0 (q5q S) x.D:=by
 obtain⟨j,hj⟩:=List.getElem?_of_mem hx
 rw[q3k hj]
 exact qo (q5q (S.take j)++q5q (S.drop (j+1)))
theorem RG.ok.at(h:r.ok W0 s)(he:Ent W0 own r.D):r.at W0 s own:=by
 unfold RG.D at he
 have e1:Ent W0 own r.dD:=he.trans (qo (r.tD++(r.eD++(r.X++(r.oD++q5q r.S)))) fun a=>by simp only[q2k])
 have e2:Ent W0 own r.tD:=he.trans (qo (r.dD++(r.eD++(r.X++(r.oD++q5q r.S)))))
 have e3:Ent W0 own r.eD:=he.trans (qo (r.dD++(r.tD++(r.X++(r.oD++q5q r.S)))))
 have e4:Ent W0 own r.X:=he.trans (qo (r.dD++(r.tD++(r.eD++(r.oD++q5q r.S)))))
 have e5:Ent W0 own r.oD:=he.trans (qo (r.dD++(r.tD++(r.eD++(r.X++q5q r.S)))))
 have e6:Ent W0 own (q5q r.S):=he.trans (qo (r.dD++(r.tD++(r.eD++(r.X++r.oD)))))
 exact⟨h.d.rd.ent e1,h.t.rd.ent e2,h.e.rd.ent e3,h.em,fun e he=>⟨(h.ev e he).1.ent e4,(h.ev e he).2.ent e4⟩,h.o.rd.ent e5,fun x hx=>(h.os x hx).rd.ent (e6.trans (qf1 hx)),h.ol⟩
theorem RG.at.mono{own':Own}(h:r.at W0 s own)(he:Ent W0 own' own):r.at W0 s own':=
 ⟨h.d.ent he,h.t.ent he,h.e.ent he,h.em,fun e hx=>⟨(h.ev e hx).1.ent he,(h.ev e hx).2.ent he⟩,h.o.ent he,fun x hx=>(h.os x hx).ent he,h.ol⟩
theorem RG.at.el(h:r.at W0 s own):r.L.length=s.E.length:=by rw[←h.em,List.length_map]
theorem RG.at.sl(h:r.at W0 s own):r.S.length=s.O.length:=by rw[←h.ol,List.length_map]
end
open Go
abbrev MS.P(m:MS):List (List Ins):=(m.ps.map PB.h).map PH.p
theorem MS.ok.g0{m:MS}{st:Bool}(h:m.ok st):GOk m.c m.P (q7G m.c m.il m.P):=
 qgw h.c0 h.il (fun x hx=>by have:=h.iw x hx;exact⟨by omega,by omega⟩) fun p hp=>by
  obtain⟨y,hy,rfl⟩:=List.mem_map.1 hp
  obtain⟨x,hx,rfl⟩:=List.mem_map.1 hy
  exact(h.q x hx).2
section
variable{W0:World}{Kp K Y:Own}{g:GP}{c:Cfg}{ps:List PH}{P:List (List Ins)}{s:GS}{gb:Nat}
theorem qi9(hgb:g.gb=gb)(h:g.ok W0 Kp ps s)(hv:g.ev W0 Y)(hz:SzG s)(q:Own):
  q0E Tryz.prog W0 28 [.pointer (some ⟨gb,0,none⟩)] (g.O c ps.length s++q) fun v own'=>∃r:RG,(v=r.v s∧r.ok W0 s)∧Ent W0 own' (r.D++(g.O c ps.length s++q)):=by
 subst hgb
 exact qeb (c:=c) h hv hz.d hz.t hz.e hz.o hz.ol hz.ev q
theorem qdW(hF:q0A W0)(hgb:g.gb=gb)(h:g.ok W0 Kp ps s)(hv:g.ev W0 Y)(hG:GOk c P s)(hP:ps.map PH.p=P)(hn:s.n≤5000)(t f:Int){aa:Option Addr}{ad:List Int}{ac:Nat}(hA:RdE qM 1 W0 K aa ad)(hal:ad.length≤ac)(had:∀a∈ad,a≤9223372036854775807)(q:Own) [ek:qt q Kp] [ek2:qt q K]:
  q0E Tryz.prog W0 34 [.pointer (some ⟨gb,0,none⟩),chV t f aa ad.length ac] (g.O c ps.length s++q) fun v own'=>∃g':GP,
   (v= .int .i64 (doM c P s ⟨t,f,ad⟩).1∧g'.ok W0 Kp ps (doM c P s ⟨t,f,ad⟩).2∧g'.ev W0 Y∧g'.gb=gb)∧Ent W0 own' (g'.O c ps.length (doM c P s ⟨t,f,ad⟩).2++q):=by
 subst hgb;subst hP
 exact ql4 (c:=c) hF h hv hG hn t f hA hal had q
end
section
variable{c:Cfg}{P:List (List Ins)}{s:GS}{t:Nat}{th:Thr}{p:List Ins}{x:Ins}
theorem qeR(hth:s.T[t]? =some th)(hp:P[t]? =some p)(hd:th.dn=false)(hx:p[th.pc]? =some x)(f:Int):chM c P s ⟨t,f,[]⟩=if x.op=7 then txM c p s th t f [] else sgM c p s th t f x:=by
 unfold chM
 rw[if_neg (by show ¬((t:Nat):Int)<0;omega)]
 simp only[Int.toNat_natCast,hth,hp,hd,Bool.false_eq_true,if_false,hx,if_true]
theorem qfV(hth:s.T[t]? =some th)(hp:P[t]? =some p)(hd:th.dn=false)(hx:p[th.pc]? =some x)(h7:x.op≠7):(doM c P s ⟨t,0,[]⟩).1=0:=by
 have:∃s',sgM c p s th t 0 x=some s':=by
  unfold sgM
  generalize adr th.rg (if x.op=12 then x.b else x.a) x.imm=z
  by_cases h12:x.op=12∨x.op=13
  ·rw[if_pos h12]
   dsimp only
   rw[if_neg (by simp)]
   split
   ·exact⟨_,rfl⟩
   ·by_cases h:x.op=12
    ·rw[if_pos h];exact⟨_,rfl⟩
    ·rw[if_neg h];exact⟨_,rfl⟩
  ·rw[if_neg h12,if_neg (by simp)]
   exact⟨_,rfl⟩
 obtain⟨s',hs⟩:=this
 unfold doM
 rw[qeR hth hp hd hx,if_neg h7,hs]
end
open Go
structure Sw(s s1:GS)(x:Nat)(h:Thr):Prop where
 d:s1.d=s.d
 k:s1.tk=s.tk
 T:s1.T=s.T.set x h
 O:s1.O=s.O
 E:s1.E.length=s.E.length
def SwO(x:Nat)(h:Thr):Option GS→Option GS→Prop
 |some a,some b=>Sw a b x h
 |none,none=>True
 |_,_=>False
section
variable{c:Cfg}{P:List (List Ins)}{s s1:GS}{x t:Nat}{h th:Thr}{p:List Ins}{i:Ins}{f:Int}{ad:List Int}
theorem Sw.fin(w:Sw s s1 x h)(ht:t≠x)(l:List ObM):Sw (s.fin t th l) (s1.fin t th l) x h:=
 ⟨w.d,w.k,by show s1.T.set t th=(s.T.set t th).set x h;rw[w.T,List.set_comm _ _ (fun e=>ht e.symm)],by show s1.O.set t (s1.O.getD t []++l)=_;rw[w.O];rfl,w.E⟩
theorem Sw.ev(w:Sw s s1 x h){l l1:List EvM}(hl:l1.length=l.length):Sw (s.ev l) (s1.ev l1) x h:=
 ⟨w.d,w.k,w.T,w.O,by show(s1.E++l1).length=(s.E++l).length;rw[List.length_append,List.length_append,w.E,hl]⟩
theorem Sw.mem(w:Sw s s1 x h)(d:List Int)(tk:List Bool):Sw (s.mem d tk) (s1.mem d tk) x h:=⟨rfl,rfl,w.T,w.O,w.E⟩
theorem qdF{n m t:Nat}{k a:Int}:(plE c n t k a).length=(plE c m t k a).length:=by
 unfold plE
 split <;>rfl
theorem Sw.sg(w:Sw s s1 x h)(ht:t≠x):SwO x h (sgM c p s th t f i) (sgM c p s1 th t f i):=by
 unfold sgM
 generalize adr th.rg (if i.op=12 then i.b else i.a) i.imm=a
 dsimp only
 rw[w.d,w.k]
 split
 ·split
  ·split
   ·exact w.fin ht _
   ·exact trivial
  ·split
   ·exact w.fin ht _
   ·split
    ·exact(w.ev qdF).fin ht _
    ·exact((w.mem _ _).ev qdF).fin ht _
 ·split
  ·exact trivial
  ·exact w.fin ht _
theorem Sw.tx(w:Sw s s1 x h)(ht:t≠x):SwO x h (txM c p s th t f ad) (txM c p s1 th t f ad):=by
 unfold txM
 rw[w.d,w.k]
 split
 ·split
  ·exact w.fin ht _
  ·exact trivial
 ·generalize q5e c p p.length _=r
  obtain⟨b,o⟩:=r
  dsimp only
  split
  ·exact trivial
  ·split
   ·refine Sw.fin (s:=(s.mem b.d b.tk).ev _) (s1:=(s1.mem b.d b.tk).ev _) ((w.mem b.d b.tk).ev ?_) ht _
    rfl
   ·refine Sw.fin (s:=s.ev _) (s1:=s1.ev _) (w.ev ?_) ht _
    rfl
theorem Sw.ch(w:Sw s s1 x h)(ht:t≠x):SwO x h (chM c P s ⟨t,f,ad⟩) (chM c P s1 ⟨t,f,ad⟩):=by
 unfold chM
 dsimp only
 have e:s1.T[t]? =s.T[t]? :=by rw[w.T,List.getElem?_set_ne (fun e=>ht e.symm)]
 rw[if_neg (by omega),if_neg (by omega),Int.toNat_natCast,e]
 cases hT:s.T[t]? with
 |none=>exact trivial
 |some th=>
  cases hp:P[t]? with
  |none=>exact trivial
  |some p=>
   dsimp only
   split
   ·exact trivial
   ·cases hx:p[th.pc]? with
    |none=>exact trivial
    |some i=>
     dsimp only
     split
     ·exact w.tx ht
     ·split
      ·exact w.sg ht
      ·exact trivial
theorem Sw.do(w:Sw s s1 x h)(ht:t≠x):(doM c P s1 ⟨t,f,ad⟩).1=(doM c P s ⟨t,f,ad⟩).1∧Sw (doM c P s ⟨t,f,ad⟩).2 (doM c P s1 ⟨t,f,ad⟩).2 x h:=by
 have:=w.ch (c:=c) (P:=P) (f:=f) (ad:=ad) ht
 unfold doM
 cases ha:chM c P s ⟨t,f,ad⟩ with
 |none=>
  cases hb:chM c P s1 ⟨t,f,ad⟩ with
  |none=>exact⟨rfl,w⟩
  |some b=>rw[ha,hb] at this;exact this.elim
 |some a=>
  cases hb:chM c P s1 ⟨t,f,ad⟩ with
  |none=>rw[ha,hb] at this;exact this.elim
  |some b=>rw[ha,hb] at this;exact⟨rfl,⟨this.d,this.k,this.T,this.O,this.E⟩⟩
theorem qjy(hth:s.T[x]? =some th)(hp:P[x]? =some p)(hd:th.dn=false)(hx:p[th.pc]? =some i)(hop:i.op≠7∧i.op≠12∧i.op≠13∧i.op≠16):
  (doM c P s ⟨x,0,[]⟩).1=0∧Sw s (doM c P s ⟨x,0,[]⟩).2 x {q6a th i with dn:=decide ((q6a th i).pc=p.length)}:=by
 have e:chM c P s ⟨x,0,[]⟩=some (s.fin x {q6a th i with dn:=decide ((q6a th i).pc=p.length)} []):=by
  rw[qeR hth hp hd hx,if_neg hop.1]
  unfold sgM
  generalize adr th.rg (if i.op=12 then i.b else i.a) i.imm=a
  rw[if_neg (by omega),if_neg (by simp),if_neg hop.2.2.2]
 unfold doM
 rw[e]
 refine⟨rfl,rfl,rfl,rfl,?_,rfl⟩
 show s.O.set x (s.O.getD x []++ [])=s.O
 rw[List.append_nil]
 by_cases hl:x<s.O.length
 ·apply List.ext_getElem? ;intro j
  by_cases hj:x=j
  ·subst hj
   rw[List.getElem?_set_self hl,List.getD_eq_getElem?_getD,List.getElem?_eq_getElem hl]
   rfl
  ·rw[List.getElem?_set_ne hj]
 ·exact List.set_eq_of_length_le (by omega)
theorem qan{s':GS}{l:List ObM}{y:Nat}(h:some (s.fin t th l)=some s')(hy:y≠t):s'.T[y]? =s.T[y]? :=by
 obtain rfl:=Option.some.inj h
 show(s.T.set t th)[y]? =_
 rw[List.getElem?_set_ne (fun e=>hy e.symm)]
theorem qgk{s':GS}{l:List ObM}{y:Nat}{d:List Int}{tk:List Bool}{E:List EvM}(h:some (((s.mem d tk).ev E).fin t th l)=some s')(hy:y≠t):s'.T[y]? =s.T[y]? :=(qan h hy:s'.T[y]? =((s.mem d tk).ev E).T[y]?)
theorem qlE{s':GS}{y:Nat}(h:sgM c p s th t f i=some s')(hy:y≠t):s'.T[y]? =s.T[y]? :=by
 unfold sgM at h
 generalize adr th.rg (if i.op=12 then i.b else i.a) i.imm=a at h
 dsimp only at h
 split at h
 ·split at h
  ·split at h
   ·exact qan h hy
   ·cases h
  ·split at h
   ·exact qan h hy
   ·split at h
    ·exact(qan (s:=s.ev _) h hy)
    ·exact(qgk h hy)
 ·split at h
  ·cases h
  ·exact qan h hy
theorem qlJ{s':GS}{y:Nat}(h:txM c p s th t f ad=some s')(hy:y≠t):s'.T[y]? =s.T[y]? :=by
 unfold txM at h
 split at h
 ·split at h
  ·exact qan h hy
  ·cases h
 ·generalize q5e c p p.length _=r at h
  obtain⟨b,o⟩:=r
  dsimp only at h
  split at h
  ·cases h
  ·split at h
   ·exact(qgk h hy)
   ·exact(qan (s:=s.ev _) h hy)
theorem qlj{y:Nat}(hy:y≠t):(doM c P s ⟨t,f,ad⟩).2.T[y]? =s.T[y]? :=by
 unfold doM
 cases ha:chM c P s ⟨t,f,ad⟩ with
 |none=>rfl
 |some s'=>
  show s'.T[y]? =_
  unfold chM at ha
  dsimp only at ha
  rw[if_neg (by omega),Int.toNat_natCast] at ha
  split at ha
  ·split at ha
   ·cases ha
   ·split at ha
    ·split at ha
     ·exact qlJ ha hy
     ·split at ha
      ·exact qlE ha hy
      ·cases ha
    ·cases ha
  ·cases ha
end
open Go
structure SS where
 runs:Nat
 racy:Bool
 many:Bool
 found:List ChM
def SS.stop(x:SS):Bool:=x.racy||x.many
def ss0:SS:=⟨0,false,false,[]⟩
def nxM(P:List (List Ins))(s:GS)(t:Nat):Option Ins:=
 match s.T[t]?,P[t]? with
 |some th,some p=>if th.dn then none else p[th.pc]?
 |_,_=>none
def q7u(P:List (List Ins))(s:GS)(t:Nat):Bool:=match nxM P s t with
 |some i=>isL i
 |none=>false
def dnB(s:GS)(t:Nat):Bool:=match s.T[t]? with
 |some th=>th.dn
 |none=>true
def q6E(s:GS):Bool:=s.T.all (·.dn)
abbrev ch0(t:Nat):ChM:=⟨t,0,[]⟩
def q1t(c:Cfg)(P:List (List Ins))(t:Nat):Nat→GS→List ChM→GS×List ChM
 |0,s,l=>(s,l)
 |n+1,s,l=>if q7u P s t then q1t c P t n (doM c P s (ch0 t)).2 (l++ [ch0 t]) else(s,l)
def q52(fo:List Int):Option Ins→List Int
 |some i=>if i.op=7 then 0::fo else [0]
 |none=> [0]
def qey(rc:List EvM→Bool)(lim:Int)(s:GS)(l:List ChM)(x:SS):SS:=
 if(x.runs:Int)=lim then{x with many:=true} else if rc s.E then⟨x.runs+1,true,x.many,l⟩ else{x with runs:=x.runs+1}
def q7L(rc:List EvM→Bool)(c:Cfg)(P:List (List Ins))(fo:List Int)(lim:Int):Nat→GS→List ChM→SS→SS
 |0,_,_,x=>x
 |n+1,s,l,x=>if q6E s then qey rc lim s l x else
  (List.range s.T.length).foldl (fun x t=>if x.stop then x else if dnB s t then x else
   if dnB (q1t c P t 64 s l).1 t then q7L rc c P fo lim n (q1t c P t 64 s l).1 (q1t c P t 64 s l).2 x
   else(q52 fo (nxM P (q1t c P t 64 s l).1 t)).foldl (fun x k=>if x.stop then x else
    q7L rc c P fo lim n (doM c P (q1t c P t 64 s l).1 ⟨t,k,[]⟩).2 ((q1t c P t 64 s l).2++ [⟨t,k,[]⟩]) x) x) x
def qfn(P:List (List Ins)):Prop:=∀p∈P,∀x∈p,x.op≠14∧x.op≠15
section
variable{c:Cfg}{P:List (List Ins)}{s s':GS}{t:Nat}{th:Thr}{p:List Ins}{i:Ins}{f:Int}
theorem qat(h:nxM P s t=some i):∃th p,s.T[t]? =some th∧P[t]? =some p∧th.dn=false∧p[th.pc]? =some i:=by
 unfold nxM at h
 split at h
 ·rename_i th p h1 h2
  split at h
  ·cases h
  ·rename_i hd
   exact⟨th,p,h1,h2,by simpa using hd,h⟩
 ·cases h
theorem q8W(hG:GOk c P s):nxM P s t=none↔dnB s t=true:=by
 unfold nxM dnB
 cases hT:s.T[t]? with
 |none=>simp
 |some th=>
  have hl:=(List.getElem?_eq_some_iff.1 hT).1
  have htl:=hG.tl
  obtain⟨p,hp⟩:∃p,P[t]? =some p:=⟨_,List.getElem?_eq_getElem (by omega)⟩
  obtain⟨-,hpc, -,hdn, -⟩:=hG.th t th p hT hp
  rw[hp]
  dsimp only
  cases hd:th.dn with
  |true=>simp
  |false=>
   rw[hd] at hdn
   have:¬th.pc=p.length:=of_decide_eq_false hdn.symm
   rw[if_neg (by simp),List.getElem?_eq_getElem (by omega)]
   simp
theorem q82{l:List ObM}{th':Thr}(h:some (s.fin t th' l)=some s')(hp:th.pc<th'.pc):∃th',s'.T=s.T.set t th'∧th.pc<th'.pc:=by
 obtain rfl:=Option.some.inj h
 exact⟨th',rfl,hp⟩
theorem qdh{l:List ObM}{th':Thr}{d:List Int}{tk:List Bool}{E:List EvM}(h:some (((s.mem d tk).ev E).fin t th' l)=some s')(hp:th.pc<th'.pc):∃th',s'.T=s.T.set t th'∧th.pc<th'.pc:=by
 obtain rfl:=Option.some.inj h
 exact⟨th',rfl,hp⟩
theorem qkP(h:sgM c p s th t f i=some s'):∃th',s'.T=s.T.set t th'∧th.pc<th'.pc:=by
 unfold sgM at h
 generalize adr th.rg (if i.op=12 then i.b else i.a) i.imm=a at h
 dsimp only at h
 have h1:∀r,th.pc<(th.nxt p.length r).pc:=fun _=>Nat.lt_succ_self _
 split at h
 ·split at h
  ·split at h
   ·exact q82 h (h1 _)
   ·cases h
  ·split at h
   ·exact q82 h (h1 _)
   ·split at h
    ·exact q82 (s:=s.ev _) h (h1 _)
    ·exact qdh h (h1 _)
 ·split at h
  ·cases h
  ·exact q82 h (Nat.lt_of_lt_of_le (Nat.lt_succ_self _) (qdv (t:=th) (x:=i)))
theorem ql9{ad:List Int}(he:th.pc≤q40 p th.pc)(h:txM c p s th t f ad=some s'):∃th',s'.T=s.T.set t th'∧th.pc<th'.pc:=by
 unfold txM at h
 have h1:th.pc<q40 p th.pc+1:=by omega
 split at h
 ·split at h
  ·exact q82 h h1
  ·cases h
 ·generalize q5e c p p.length _=r at h
  obtain⟨b,o⟩:=r
  dsimp only at h
  split at h
  ·cases h
  ·split at h
   ·exact qdh h h1
   ·exact q82 (s:=s.ev _) h h1
end
open Go
theorem qk0{c:Cfg}{b:BM}{x:Ins}(h:x.op≠14):(q18 c b x).2≠ -1∧(q18 c b x).1.ad=b.ad:=by
 unfold q18
 split
 ·split
  ·exact⟨by simp,rfl⟩
  ·exact⟨by simp,rfl⟩
 ·split
  ·split
   ·exact⟨by simp,rfl⟩
   ·exact⟨by simp,rfl⟩
  ·split
   ·split
    ·exact⟨by simp,rfl⟩
    ·exact⟨by simp,rfl⟩
   ·split
    ·exact⟨by simp,rfl⟩
    ·split
     ·exact⟨by simp,rfl⟩
     ·exact⟨by simp,rfl⟩
theorem qgF{p:List Ins}(h:qx p=(0,0))(hna:∀x∈p,x.op≠14){k:Nat}{x0:Ins}(hx0:p[k]? =some x0)(h7:x0.op=7){c:Cfg}:∀(n:Nat) (b:BM),k<b.t.pc→b.t.pc≤q40 p k→q40 p k-b.t.pc<n→(q5e c p n b).2≠ -1∧(q5e c p n b).1.ad=b.ad
 |0,_,_,_,hn=>absurd hn (by omega)
 |n+1,b,h1,h2,hn=>by
  obtain⟨x,hx,hi, -⟩:=qiu h hx0 h7 h1 h2
  obtain⟨h3,h4⟩:=qk0 (c:=c) (b:=b) (hna x (List.mem_of_getElem? hx))
  unfold q5e
  rw[hx]
  simp only
  by_cases h0:(q18 c b x).2=0
  ·rw[if_pos h0]
   obtain⟨h5,h6⟩:=qaC h hx0 h7 h1 h2 hx (c:=c) (b:=b) rfl h0
   obtain⟨h8,h9⟩:=qgF h hna hx0 h7 n _ (by omega) h6 (by omega)
   exact⟨h8,h9.trans h4⟩
  ·rw[if_neg h0]
   exact⟨h3,h4⟩
section
variable{c:Cfg}{P:List (List Ins)}{s s':GS}{t:Nat}{th:Thr}{p:List Ins}{i:Ins}{k:Int}
theorem qiU(hG:GOk c P s)(hna:qfn P)(hi:nxM P s t=some i)(hk:k=0∨(i.op=7∧3≤k∧k≤6)):
  ∃s',doM c P s ⟨t,k,[]⟩=(0,s')∧s'.n=s.n+1∧∃th th' p,s.T[t]? =some th∧P[t]? =some p∧th.pc<p.length∧s'.T=s.T.set t th'∧th.pc<th'.pc:=by
 obtain⟨th,p,hth,hp,hd,hx⟩:=qat hi
 have hpc:=(List.getElem?_eq_some_iff.1 hx).1
 have hck:=hG.pv p (List.mem_of_getElem? hp)
 have hmk:∀s1,chM c P s ⟨t,k,[]⟩=some s1→(∃th',s1.T=s.T.set t th'∧th.pc<th'.pc)→∃s',doM c P s ⟨t,k,[]⟩=(0,s')∧s'.n=s.n+1∧∃th th' p,s.T[t]? =some th∧P[t]? =some p∧th.pc<p.length∧s'.T=s.T.set t th'∧th.pc<th'.pc:=fun s1 h1 ⟨th',h2,h3⟩=>by
  refine⟨{s1 with n:=s.n+1},?_,rfl,th,th',p,hth,hp,hpc,h2,h3⟩
  unfold doM
  rw[h1]
 have he:=qeR (c:=c) hth hp hd hx k
 by_cases h7:i.op=7
 ·rw[if_pos h7] at he
  obtain⟨e,he1,he2,he3, -⟩:=q3G hck hx h7
  have hsome:∃s1,txM c p s th t k []=some s1:=by
   unfold txM
   rcases hk with rfl|⟨-,hk⟩
   ·rw[if_neg (by simp)]
    obtain⟨h1,h2⟩:=qgF hck (fun x hx=>(hna p (List.mem_of_getElem? hp) x hx).1) hx h7 (c:=c) p.length ⟨s.d,s.tk,{th with pc:=th.pc+1},[],[],[],[]⟩ (Nat.lt_succ_self _) (by show th.pc+1≤_;omega) (by show q40 p th.pc-(th.pc+1)<p.length;omega)
    generalize q5e c p p.length _=r at h1 h2
    obtain⟨b,o⟩:=r
    dsimp only at h1 h2 ⊢
    rw[if_neg (by rw[h2];simp;exact h1)]
    split
    ·exact⟨_,rfl⟩
    ·exact⟨_,rfl⟩
   ·rw[if_pos (by omega),if_pos ⟨hk,rfl⟩]
    exact⟨_,rfl⟩
  obtain⟨s1,h1⟩:=hsome
  exact hmk s1 (he.trans h1) (ql9 (by omega) h1)
 ·have hk0:k=0:=by omega
  subst hk0
  have h0:=qfV (c:=c) hth hp hd hx h7
  rw[if_neg h7] at he
  cases h1:sgM c p s th t 0 i with
  |none=>
   unfold doM at h0
   rw[he,h1] at h0
   cases h0
  |some s1=>exact hmk s1 (he.trans h1) (qkP h1)
end
def q6q(P:List (List Ins))(s:GS)(t:Nat):Nat:=match s.T[t]?,P[t]? with
 |some th,some p=>p.length-th.pc
 |_,_=>0
def q1n(P:List (List Ins))(s:GS):Nat:=((List.range P.length).map (q6q P s)).sum
theorem qep{f g:Nat→Nat}:∀l:List Nat,(∀x∈l,f x≤g x)→(l.map f).sum≤(l.map g).sum
 | [],_=>Nat.le_refl _
 |y::l,h=>by
  have h1:=h y List.mem_cons_self
  have h2:=qep l fun x hx=>h x (List.mem_cons_of_mem _ hx)
  simp only[List.map_cons,List.sum_cons]
  omega
theorem qgK{f g:Nat→Nat}{z:Nat}(hz:f z<g z):∀l:List Nat,(∀x∈l,f x≤g x)→z∈l→(l.map f).sum<(l.map g).sum
 | [],_,h=>by cases h
 |y::l,h,hm=>by
  have h1:=h y List.mem_cons_self
  have h2:∀x∈l,f x≤g x:=fun x hx=>h x (List.mem_cons_of_mem _ hx)
  simp only[List.map_cons,List.sum_cons]
  rcases List.mem_cons.1 hm with rfl|hm
  ·have:=qep l h2
   omega
  ·have:=qgK hz l h2 hm
   omega
section
variable{c:Cfg}{P:List (List Ins)}{s s':GS}{t:Nat}{th:Thr}{p:List Ins}{i:Ins}{k:Int}
theorem qhY{th':Thr}(hth:s.T[t]? =some th)(hp:P[t]? =some p)(h:s'.T=s.T.set t th')(hpc:th.pc<p.length)(hlt:th.pc<th'.pc):q6q P s' t<q6q P s t∧∀u,q6q P s' u≤q6q P s u:=by
 have hl:=(List.getElem?_eq_some_iff.1 hth).1
 have h1:q6q P s' t<q6q P s t:=by
  unfold q6q
  rw[h,List.getElem?_set_self hl,hth,hp]
  dsimp only
  omega
 refine⟨h1,fun u=> ?_⟩
 by_cases hu:u=t
 ·subst hu;omega
 ·unfold q6q
  rw[h,List.getElem?_set_ne (fun e=>hu e.symm)]
  exact Nat.le_refl _
theorem q3Z(hG:GOk c P s)(hna:qfn P)(hi:nxM P s t=some i)(hk:k=0∨(i.op=7∧3≤k∧k≤6)):
  (doM c P s ⟨t,k,[]⟩).1=0∧GOk c P (doM c P s ⟨t,k,[]⟩).2∧(doM c P s ⟨t,k,[]⟩).2.n=s.n+1∧q6q P (doM c P s ⟨t,k,[]⟩).2 t<q6q P s t∧(doM c P s ⟨t,k,[]⟩).2.n+q1n P (doM c P s ⟨t,k,[]⟩).2≤s.n+q1n P s∧q1n P (doM c P s ⟨t,k,[]⟩).2<q1n P s:=by
 have hG2:=qeY hG (ch:=⟨t,k,[]⟩) (fun _ h=>(by cases h))
 obtain⟨s',hs,hn,th,th',p,hth,hp,hpc,hT,hlt⟩:=qiU hG hna hi hk
 rw[hs] at hG2 ⊢
 obtain⟨h1,h2⟩:=qhY hth hp hT hpc hlt
 have h3:q1n P s'<q1n P s:=qgK h1 _ (fun x _=>h2 x) (List.mem_range.2 (List.getElem?_eq_some_iff.1 hp).1)
 exact⟨rfl,hG2,hn,h1,by dsimp only;omega,h3⟩
theorem q86(h:q7u P s t=true):∃i,nxM P s t=some i∧isL i=true:=by
 unfold q7u at h
 split at h
 ·rename_i i hi;exact⟨i,hi,h⟩
 ·cases h
theorem qg3(hna:qfn P):∀(n:Nat) (s:GS) (l:List ChM),GOk c P s→GOk c P (q1t c P t n s l).1∧(q1t c P t n s l).1.n+q1n P (q1t c P t n s l).1≤s.n+q1n P s∧q6q P (q1t c P t n s l).1 t≤q6q P s t∧
  (q1t c P t n s l=(s,l)∨q1n P (q1t c P t n s l).1<q1n P s)∧(q6q P s t≤n→q7u P (q1t c P t n s l).1 t=false)
 |0,s,l,hG=>by
  refine⟨hG,Nat.le_refl _,Nat.le_refl _, .inl rfl,fun h=> ?_⟩
  show q7u P s t=false
  cases hb:q7u P s t with
  |false=>rfl
  |true=>
   obtain⟨i,hi, -⟩:=q86 hb
   have:=(q3Z hG hna hi (.inl rfl)).2.2.2.1
   omega
 |n+1,s,l,hG=>by
  unfold q1t
  cases hb:q7u P s t with
  |false=>exact⟨hG,Nat.le_refl _,Nat.le_refl _, .inl rfl,fun _=>hb⟩
  |true=>
   rw[if_pos rfl]
   obtain⟨i,hi, -⟩:=q86 hb
   obtain⟨-,h1,h2,h3,h4,h5⟩:(doM c P s (ch0 t)).1=0∧GOk c P (doM c P s (ch0 t)).2∧(doM c P s (ch0 t)).2.n=s.n+1∧q6q P (doM c P s (ch0 t)).2 t<q6q P s t∧(doM c P s (ch0 t)).2.n+q1n P (doM c P s (ch0 t)).2≤s.n+q1n P s∧q1n P (doM c P s (ch0 t)).2<q1n P s:=q3Z hG hna hi (.inl rfl)
   obtain⟨g1,g2,g3,g4,g5⟩:=qg3 hna n _ (l++ [ch0 t]) h1
   refine⟨g1,by omega,by omega, .inr ?_,fun h=>g5 (by omega)⟩
   rcases g4 with g4|g4
   ·rw[g4];exact h5
   ·omega
theorem qgE(hG:GOk c P s):q6q P s t≤64:=by
 unfold q6q
 split
 ·rename_i th p h1 h2
  have:=q6A (hG.pv p (List.mem_of_getElem? h2))
  omega
 ·omega
theorem qhJ(hG:GOk c P s)(hP:P.length≤16):q1n P s≤1024:=by
 have h1:=qep (f:=q6q P s) (g:=fun _=>64) (List.range P.length) fun x _=>qgE hG
 have h2:∀l:List Nat,(l.map fun _=>64).sum=l.length*64:=fun l=>by
  induction l with
  |nil=>rfl
  |cons y l ih=>simp only[List.map_cons,List.sum_cons,ih,List.length_cons];omega
 have h3:=h2 (List.range P.length)
 rw[List.length_range] at h3
 unfold q1n
 omega
theorem qag{fo:List Int}(hfo:∀k∈fo,3≤k∧k≤6){o:Option Ins}(hk:k∈q52 fo o):k=0∨∃i,o=some i∧i.op=7∧3≤k∧k≤6:=by
 unfold q52 at hk
 split at hk
 ·rename_i i
  split at hk
  ·rename_i h7
   rcases List.mem_cons.1 hk with h|h
   ·exact .inl h
   ·exact .inr ⟨i,rfl,h7,hfo k h⟩
  ·exact .inl (List.mem_singleton.1 hk)
 ·exact .inl (List.mem_singleton.1 hk)
theorem qh2(hG:GOk c P s)(h:dnB s t=false):∃i,nxM P s t=some i:=by
 cases hn:nxM P s t with
 |none=>rw[(q8W hG).1 hn] at h;cases h
 |some i=>exact⟨i,rfl⟩
end
open Go
inductive qex (c:Cfg) (P:List (List Ins)) (fo:List Int):GS→List ChM→GS→List ChM→Prop
 |done {s:GS} {l:List ChM} (h:q6E s=true):qex c P fo s l s l
 |loc {s s':GS} {l l':List ChM} {t:Nat} (ht:t<s.T.length) (hd:dnB s t=false) (ha:dnB (q1t c P t 64 s l).1 t=true) (h:qex c P fo (q1t c P t 64 s l).1 (q1t c P t 64 s l).2 s' l'):qex c P fo s l s' l'
 |step {s s':GS} {l l':List ChM} {t:Nat} {k:Int} (ht:t<s.T.length) (hd:dnB s t=false) (ha:dnB (q1t c P t 64 s l).1 t=false) (hk:k∈q52 fo (nxM P (q1t c P t 64 s l).1 t))
   (h:qex c P fo (doM c P (q1t c P t 64 s l).1 ⟨t,k,[]⟩).2 ((q1t c P t 64 s l).2++ [⟨t,k,[]⟩]) s' l'):qex c P fo s l s' l'
section
variable{α:Type}{g:SS→α→SS}
theorem q2w(hg:∀x a,x.stop=true→g x a=x):∀(l:List α) (x:SS),x.stop=true→l.foldl g x=x
 | [],_,_=>rfl
 |a::l,x,h=>by rw[List.foldl_cons,hg x a h];exact q2w hg l x h
end
theorem q5T{x:SS}(h:x.stop=false):x.racy=false∧x.many=false:=by
 unfold SS.stop at h
 exact Bool.or_eq_false_iff.1 h
theorem qfo{s:GS}{t:Nat}(ht:t<s.T.length)(hd:dnB s t=false):q6E s=false:=by
 cases h:q6E s with
 |false=>rfl
 |true=>
  unfold q6E at h
  have:=List.all_eq_true.1 h _ (List.getElem_mem ht)
  unfold dnB at hd
  rw[List.getElem?_eq_getElem ht] at hd
  dsimp only at hd this
  rw[this] at hd
  cases hd
section
variable{rc:List EvM→Bool}{c:Cfg}{P:List (List Ins)}{fo:List Int}{lim:Int}
theorem qex.mono{fo':List Int}(hf:∀k∈fo,k∈fo'){s s':GS}{l l':List ChM}(h:qex c P fo s l s' l'):qex c P fo' s l s' l':=by
 induction h with
 |done h=>exact .done h
 |loc ht hd ha _ ih=>exact .loc ht hd ha ih
 |step ht hd ha hk _ ih=>
  refine .step ht hd ha ?_ ih
  unfold q52 at hk ⊢
  split at hk
  ·split at hk
   ·rename_i h7
    rw[if_pos h7]
    rcases List.mem_cons.1 hk with h|h
    ·exact List.mem_cons.2 (.inl h)
    ·exact List.mem_cons_of_mem _ (hf _ h)
   ·rename_i h7
    rw[if_neg h7]
    exact hk
  ·exact hk
end
open Go
def evZ(e:EvM):EvM:={e with ev:=0}
structure Sz(s s1:GS)(F:List Thr→List Thr):Prop where
 d:s1.d=s.d
 k:s1.tk=s.tk
 T:s1.T=F s.T
 O:s1.O=s.O
 E:s1.E.map evZ=s.E.map evZ
structure Fx(F:List Thr→List Thr)(t:Nat):Prop where
 set:∀T th,F (T.set t th)=(F T).set t th
 get:∀T,(F T)[t]? =T[t]?
def SzO(F:List Thr→List Thr):Option GS→Option GS→Prop
 |some a,some b=>Sz a b F
 |none,none=>True
 |_,_=>False
section
variable{c:Cfg}{P:List (List Ins)}{s s1:GS}{F:List Thr→List Thr}{t:Nat}{th:Thr}{p:List Ins}{i:Ins}{f:Int}{ad:List Int}
theorem Sz.fin(w:Sz s s1 F)(hF:Fx F t)(l:List ObM):Sz (s.fin t th l) (s1.fin t th l) F:=
 ⟨w.d,w.k,by show s1.T.set t th=F (s.T.set t th);rw[w.T,hF.set],by show s1.O.set t (s1.O.getD t []++l)=_;rw[w.O];rfl,w.E⟩
theorem Sz.ev(w:Sz s s1 F){l l1:List EvM}(hl:l1.map evZ=l.map evZ):Sz (s.ev l) (s1.ev l1) F:=
 ⟨w.d,w.k,w.T,w.O,by show(s1.E++l1).map evZ=(s.E++l).map evZ;rw[List.map_append,List.map_append,w.E,hl]⟩
theorem Sz.mem(w:Sz s s1 F)(d:List Int)(tk:List Bool):Sz (s.mem d tk) (s1.mem d tk) F:=⟨rfl,rfl,w.T,w.O,w.E⟩
theorem qjE{n m t:Nat}{k a:Int}:(plE c n t k a).map evZ=(plE c m t k a).map evZ:=by
 unfold plE
 split <;>rfl
theorem Sz.sg(w:Sz s s1 F)(hF:Fx F t):SzO F (sgM c p s th t f i) (sgM c p s1 th t f i):=by
 unfold sgM
 generalize adr th.rg (if i.op=12 then i.b else i.a) i.imm=a
 dsimp only
 rw[w.d,w.k]
 split
 ·split
  ·split
   ·exact w.fin hF _
   ·exact trivial
  ·split
   ·exact w.fin hF _
   ·split
    ·exact(w.ev qjE).fin hF _
    ·exact((w.mem _ _).ev qjE).fin hF _
 ·split
  ·exact trivial
  ·exact w.fin hF _
theorem Sz.tx(w:Sz s s1 F)(hF:Fx F t):SzO F (txM c p s th t f ad) (txM c p s1 th t f ad):=by
 unfold txM
 rw[w.d,w.k]
 split
 ·split
  ·exact w.fin hF _
  ·exact trivial
 ·generalize q5e c p p.length _=r
  obtain⟨b,o⟩:=r
  dsimp only
  split
  ·exact trivial
  ·split
   ·refine Sz.fin (s:=(s.mem b.d b.tk).ev _) (s1:=(s1.mem b.d b.tk).ev _) ((w.mem b.d b.tk).ev ?_) hF _
    rfl
   ·refine Sz.fin (s:=s.ev _) (s1:=s1.ev _) (w.ev ?_) hF _
    rfl
theorem Sz.ch(w:Sz s s1 F)(hF:Fx F t):SzO F (chM c P s ⟨t,f,ad⟩) (chM c P s1 ⟨t,f,ad⟩):=by
 unfold chM
 dsimp only
 have e:s1.T[t]? =s.T[t]? :=by rw[w.T,hF.get]
 rw[if_neg (by omega),if_neg (by omega),Int.toNat_natCast,e]
 cases hT:s.T[t]? with
 |none=>exact trivial
 |some th=>
  cases hp:P[t]? with
  |none=>exact trivial
  |some p=>
   dsimp only
   split
   ·exact trivial
   ·cases hx:p[th.pc]? with
    |none=>exact trivial
    |some i=>
     dsimp only
     split
     ·exact w.tx hF
     ·split
      ·exact w.sg hF
      ·exact trivial
theorem Sz.do(w:Sz s s1 F)(hF:Fx F t):(doM c P s1 ⟨t,f,ad⟩).1=(doM c P s ⟨t,f,ad⟩).1∧Sz (doM c P s ⟨t,f,ad⟩).2 (doM c P s1 ⟨t,f,ad⟩).2 F:=by
 have:=w.ch (c:=c) (P:=P) (f:=f) (ad:=ad) hF
 unfold doM
 cases ha:chM c P s ⟨t,f,ad⟩ with
 |none=>
  cases hb:chM c P s1 ⟨t,f,ad⟩ with
  |none=>exact⟨rfl,w⟩
  |some b=>rw[ha,hb] at this;exact this.elim
 |some a=>
  cases hb:chM c P s1 ⟨t,f,ad⟩ with
  |none=>rw[ha,hb] at this;exact this.elim
  |some b=>rw[ha,hb] at this;exact⟨rfl,⟨this.d,this.k,this.T,this.O,this.E⟩⟩
theorem qhw:Fx id t:=⟨fun _ _=>rfl,fun _=>rfl⟩
theorem qjr{x:Nat}{h:Thr}(hx:t≠x):Fx (fun T=>T.set x h) t:=⟨fun _ _=>List.set_comm _ _ hx,fun _=>List.getElem?_set_ne (fun e=>hx e.symm)⟩
abbrev EqS(s s1:GS):Prop:=Sz s s1 id
theorem EqS.refl:EqS s s:=⟨rfl,rfl,rfl,rfl,rfl⟩
theorem EqS.symm(h:EqS s s1):EqS s1 s:=⟨h.d.symm,h.k.symm,h.T.symm,h.O.symm,h.E.symm⟩
theorem EqS.trans{s2:GS}(h:EqS s s1)(g:EqS s1 s2):EqS s s2:=⟨g.d.trans h.d,g.k.trans h.k,g.T.trans h.T,g.O.trans h.O,g.E.trans h.E⟩
theorem Sz.eqs{u v:GS}(a:Sz s u F)(b:Sz s v F):EqS u v:=⟨b.d.trans a.d.symm,b.k.trans a.k.symm,b.T.trans a.T.symm,b.O.trans a.O.symm,b.E.trans a.E.symm⟩
theorem qgr{x:Nat}(hth:s.T[x]? =some th)(hp:P[x]? =some p)(hd:th.dn=false)(hx:p[th.pc]? =some i)(hop:isL i=true):
  Sz s (doM c P s (ch0 x)).2 (fun T=>T.set x {q6a th i with dn:=decide ((q6a th i).pc=p.length)}):=by
 have hop':(0≤i.op∧i.op≤6)∨i.op=17:=of_decide_eq_true hop
 obtain⟨-,h⟩:=qjy (c:=c) hth hp hd hx ⟨by omega,by omega,by omega,by omega⟩
 refine⟨h.d,h.k,h.T,h.O,?_⟩
 have e:chM c P s ⟨x,0,[]⟩=some (s.fin x {q6a th i with dn:=decide ((q6a th i).pc=p.length)} []):=by
  rw[qeR hth hp hd hx,if_neg (by omega)]
  unfold sgM
  generalize adr th.rg (if i.op=12 then i.b else i.a) i.imm=a
  rw[if_neg (by omega),if_neg (by simp),if_neg (by omega)]
 unfold doM
 rw[e]
 rfl
end
def qfA(c:Cfg)(P:List (List Ins))(s:GS)(l:List Nat):GS:=l.foldl (fun s t=>(doM c P s (ch0 t)).2) s
def qiH(c:Cfg)(P:List (List Ins)):GS→List Nat→Prop
 |_,[]=>True
 |s,t::l=>q7u P s t=true∧qiH c P (doM c P s (ch0 t)).2 l
section
variable{c:Cfg}{P:List (List Ins)}{s s1:GS}{t x:Nat}
theorem qkL{F:List Thr→List Thr}(h:Sz s s1 F)(hF:Fx F t):nxM P s1 t=nxM P s t:=by unfold nxM;rw[h.T,hF.get]
theorem qjx{F:List Thr→List Thr}(h:Sz s s1 F)(hF:Fx F t):q7u P s1 t=q7u P s t:=by unfold q7u;rw[qkL h hF]
theorem qdN:∀(l:List Nat) (s s1:GS),EqS s s1→EqS (qfA c P s l) (qfA c P s1 l)
 | [],_,_,h=>h
 |_::l,_,_,h=>qdN l _ _ (h.do qhw).2
theorem qcJ:∀(l:List Nat) (s s1:GS),EqS s s1→qiH c P s l→qiH c P s1 l
 | [],_,_,_,_=>trivial
 |_::l,_,_,h,⟨h1,h2⟩=>⟨(qjx h qhw).trans h1,qcJ l _ _ (h.do qhw).2 h2⟩
theorem qgG{h:Thr}:∀(l:List Nat) (s s1:GS),(∀t∈l,t≠x)→Sz s s1 (fun T=>T.set x h)→Sz (qfA c P s l) (qfA c P s1 l) (fun T=>T.set x h)
 | [],_,_,_,h=>h
 |t::l,_,_,hl,h=>qgG l _ _ (fun u hu=>hl u (List.mem_cons_of_mem _ hu)) (h.do (qjr (hl t List.mem_cons_self))).2
theorem qjK:∀(l:List Nat) (s:GS),(∀t∈l,t≠x)→(qfA c P s l).T[x]? =s.T[x]?
 | [],_,_=>rfl
 |t::l,_,hl=>(qjK l _ (fun u hu=>hl u (List.mem_cons_of_mem _ hu))).trans (qlj (fun e=>hl t List.mem_cons_self e.symm))
theorem qlB(h:s1.T[x]? =s.T[x]?):nxM P s1 x=nxM P s x:=by unfold nxM;rw[h]
theorem qkK(h:s1.T[x]? =s.T[x]?):q7u P s1 x=q7u P s x:=by unfold q7u;rw[qlB h]
theorem qlw(hx:q7u P s x=true)(l:List Nat)(hl:∀t∈l,t≠x):EqS (qfA c P (doM c P s (ch0 x)).2 l) (doM c P (qfA c P s l) (ch0 x)).2:=by
 obtain⟨i,hi,hL⟩:=q86 hx
 obtain⟨th,p,hth,hp,hd,hix⟩:=qat hi
 exact(qgG l _ _ hl (qgr (c:=c) hth hp hd hix hL)).eqs (qgr (c:=c) ((qjK l s hl).trans hth) hp hd hix hL)
theorem push(t:Nat):∀(u:List Nat) (s:GS),(∀y∈u,y≠t)→qiH c P s u→EqS (doM c P (qfA c P s u) (ch0 t)).2 (qfA c P (doM c P s (ch0 t)).2 u)∧qiH c P (doM c P s (ch0 t)).2 u
 | [],s,_,_=>⟨EqS.refl,trivial⟩
 |x::u,s,hu,⟨h1,h2⟩=>by
  obtain⟨g1,g2⟩:=push t u _ (fun y hy=>hu y (List.mem_cons_of_mem _ hy)) h2
  have hxt:=hu x List.mem_cons_self
  have hc:=qlw (c:=c) h1 [t] (fun y hy=>by rw[List.mem_singleton.1 hy];exact fun e=>hxt e.symm)
  refine⟨g1.trans (qdN u _ _ hc),?_,qcJ u _ _ hc g2⟩
  rw[qkK (qlj hxt)]
  exact h1
end
open Go
section
variable{c:Cfg}{P:List (List Ins)}{s s':GS}{t N:Nat}{th:Thr}{p:List Ins}{i:Ins}{f:Int}{ad:List Int}{fo:List Int}
theorem qgQ(t:Nat):∀(n:Nat) (s:GS) (l:List ChM),GOk c P s→GOk c P (q1t c P t n s l).1
 |0,_,_,h=>h
 |n+1,s,l,h=>by
  unfold q1t
  split
  ·exact qgQ t n _ _ (qeY h (fun _ h=>(by cases h)))
  ·exact h
end
open Go
section
variable{c:Cfg}{P:List (List Ins)}{s s':GS}{t:Nat}{th:Thr}{p:List Ins}{i:Ins}{f:Int}{ad:List Int}{fo:List Int}
theorem q8o(hna:qfn P)(t:Nat):∀(n:Nat) (s:GS) (l:List ChM),GOk c P s→∃m,(q1t c P t n s l).2=l++m∧(∀x∈m,x.ad= [])∧∀(r:List ChM) (k:Nat),∃k',qce c P (m++r) k s=qce c P r k' (q1t c P t n s l).1
 |0,s,l,_=>⟨[],(List.append_nil l).symm,(fun _ h=>by cases h),fun _ k=>⟨k,rfl⟩⟩
 |n+1,s,l,hG=>by
  unfold q1t
  cases hb:q7u P s t with
  |false=>exact⟨[],(List.append_nil l).symm,(fun _ h=>by cases h),fun _ k=>⟨k,rfl⟩⟩
  |true=>
   rw[if_pos rfl]
   obtain⟨i,hi, -⟩:=q86 hb
   have h0:(doM c P s (ch0 t)).1=0:=(q3Z hG hna hi (.inl rfl)).1
   obtain⟨m,h1,h2,h3⟩:=q8o hna t n _ (l++ [ch0 t]) (qeY hG (ch:=ch0 t) (fun _ h=>(by cases h)))
   refine⟨ch0 t::m,by rw[h1,List.append_assoc];rfl,fun x hx=> ?_,fun r k=> ?_⟩
   ·rcases List.mem_cons.1 hx with rfl|hx
    ·rfl
    ·exact h2 x hx
   ·obtain⟨k',h4⟩:=h3 r (k+1)
    refine⟨k',?_⟩
    rw[List.cons_append,qce,if_pos h0]
    exact h4
theorem qex.runs(hna:qfn P)(hfo:∀k∈fo,3≤k∧k≤6){l l':List ChM}(h:qex c P fo s l s' l'):GOk c P s→∃m,l'=l++m∧(∀x∈m,x.ad= [])∧q6E s'=true∧∀k,qce c P m k s= .inl s':=by
 induction h with
 | @done s l h=>exact fun _=>⟨[],(List.append_nil l).symm,(fun _ h=>by cases h),h,fun _=>rfl⟩
 | @loc s s' l l' t ht hd ha _ ih=>
  intro hG
  obtain⟨m1,h1,h2,h3⟩:=q8o hna t 64 s l hG
  obtain⟨m2,g1,g2,g3,g4⟩:=ih (qgQ t 64 s l hG)
  refine⟨m1++m2,by rw[g1,h1,List.append_assoc],fun x hx=> ?_,g3,fun k=> ?_⟩
  ·rcases List.mem_append.1 hx with hx|hx
   ·exact h2 x hx
   ·exact g2 x hx
  ·obtain⟨k',h4⟩:=h3 m2 k
   rw[h4]
   exact g4 k'
 | @step s s' l l' t k ht hd ha hk _ ih=>
  intro hG
  obtain⟨m1,h1,h2,h3⟩:=q8o hna t 64 s l hG
  have hg:=qgQ t 64 s l hG
  obtain⟨i,hi⟩:=qh2 hg ha
  have hck:k=0∨(i.op=7∧3≤k∧k≤6):=by
   rcases qag hfo hk with hk|⟨j,hj,h7,hk⟩
   ·exact .inl hk
   ·rw[hi] at hj
    obtain rfl:=Option.some.inj hj
    exact .inr ⟨h7,hk⟩
  have h0:=(q3Z hg hna hi hck).1
  obtain⟨m2,g1,g2,g3,g4⟩:=ih (qeY hg (fun _ h=>(by cases h)))
  refine⟨m1++⟨t,k,[]⟩::m2,by rw[g1,h1,List.append_assoc,List.append_assoc];rfl,fun x hx=> ?_,g3,fun k1=> ?_⟩
  ·rcases List.mem_append.1 hx with hx|hx
   ·exact h2 x hx
   ·rcases List.mem_cons.1 hx with rfl|hx
    ·rfl
    ·exact g2 x hx
  ·obtain⟨k',h4⟩:=h3 (⟨t,k,[]⟩::m2) k1
   rw[h4,qce,if_pos h0]
   exact g4 (k'+1)
end
end Go.Proofs.YtkieffpjjfebjaaGreatDoor
