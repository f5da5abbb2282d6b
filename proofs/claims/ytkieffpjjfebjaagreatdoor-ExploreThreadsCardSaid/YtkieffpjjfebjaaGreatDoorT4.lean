/- What the laws share, part 4. No condition. -/
import Derived.Test.YtkieffpjjfebjaaGreatDoorT3
set_option maxHeartbeats 16000000
set_option maxRecDepth 100000
namespace Go.Proofs.YtkieffpjjfebjaaGreatDoor
open Go
abbrev qms(w o:Int):Cfg:=⟨1+qbp w 12,1+qbp o 12,0,0,0,0,0,16,32,0,0,1000,false⟩
theorem qn1(w o:Int):qL (qms w o)=0:=by
 have h1:=qb4 w (n:=12) (by omega)
 have h2:=qb4 o (n:=12) (by omega)
 exact(cm0 (by unfold okW;dsimp only;omega) (by unfold okH okC nB nW;dsimp only;omega) (by unfold okL;dsimp only;omega) (by unfold okK;dsimp only;omega)).symm
structure MS.cl(m:MS):Prop where
 i:qr q7i 58 1 m.ia m.ic m.il m.Di
 p:qr PH.enc 66 1 m.pa m.pc (m.ps.map PB.h) m.Dp
 q:∀x∈m.ps,x.ok∧qx x.h.p=(0,0)
 na:∀x∈m.ps,∀y∈x.h.p,y.op≠14∧y.op≠15
 len:∀x∈m.ps,x.h.p.length≤6
 il:(m.il.length:Int)=m.c.words
 iw:∀x∈m.il,0≤x∧x≤3
 pl:m.ps.length=2∨m.ps.length=3
 cw:1≤m.c.words∧m.c.words≤12
 c0:qL m.c=0
 cs:m.c.strong=false
section
variable{W0:World}{own:Own}{la:Option Addr}{lc:Nat}{ls:List IH}
theorem qmI(w o:Int):qD Tryz.prog W0 24 [.int .i64 w, .int .i64 o] own (qms w o).v:=by
 refine qe (qa qj qlX (by simp[qb]) ?_)
 have hw:=qb4 w (n:=12) (by omega)
 have ho:=qb4 o (n:=12) (by omega)
 have p1:=fun q=>qbk W0 q w 12 (by omega)
 have p2:=fun q=>qbk W0 q o 12 (by omega)
 repeat'((try(conv=>whnf));first|((with_reducible show qg _ _ _ _ _ _);first|((refine qh (p1 _) ?_ ?_ ?_;(exact rfl);exact rfl))|((refine qh (p2 _) ?_ ?_ ?_;(exact rfl);exact rfl)))|(refine fB ?_)|(refine fL ?_)|(refine fM ?_)|(refine qc (fun bk hbk=> ?_)))
 all_goals exact⟨rfl,(eC)⟩
theorem qmh{c:Cfg}(h0:qL c=0)(hcs:c.strong=false)(hcw:1≤c.words∧c.words≤12)(n:Int)(hn:n=2∨n=3)(hL:RdE IH.enc 1 W0 own la ls)(hQ:∀h∈ls,RdE qM 1 W0 own h.a h.l∧h.l.length≤1000000):
  q0E Tryz.prog W0 18 [c.v, .int .i64 n, .slice la ls.length lc, .int .i64 (8-n), .bool false, .bool true, .slice none 0 0] own fun v own'=>∃m:MS,(v=m.v∧m.cl∧m.c=c)∧Ent W0 own' (m.O++own):=fun w hw=>by
 refine(qiz (c:=c) (pka:=none) (pks:= []) (pkc:=0) n (8-n) false true (by omega) (by omega) (by omega) hL hQ RdE.nil (by simp) w hw).mono fun _ _ ⟨v,o,a,b,ia,il,ic,Di,pa,ps,pc,Dp,ka,ks,kc,Dk,hv,hI,hP,hK,hp,hl,hw,hpl,hkl,_,hE⟩=> ?_
 have hk0:ks= []:=List.eq_nil_of_length_eq_zero hkl
 subst hk0
 refine⟨v,o,a,b,⟨c,ia,il,ic,Di,pa,ps,pc,Dp,ka,kc,Dk⟩,⟨hv,⟨hI,hP,fun x hx=>⟨(hp x hx).1,by rw[qfO];exact(hp x hx).2.1⟩,fun x hx y hy=> ?_,fun x hx=>by have:=(hp x hx).2.2.1;omega,hl,hw,(by show ps.length=2∨ps.length=3;omega),hcw,h0,hcs⟩,rfl⟩,?_⟩
 ·have:=((hp x hx).2.2.2 y hy).2
  exact⟨fun h=>(by have:=this (.inl h);cases this),fun h=>(by have:=this (.inr h);cases this)⟩
 ·simpa only[MS.O,List.append_assoc] using hE
theorem qn8{x y z:Nat×(Obj→Prop)}{A Z:Own}:Ent W0 (x::(A++(y::(z::Z)))) (A++Z):=qo [x,y,z]
theorem qmw(w o:Int)(hL:RdE IH.enc 1 W0 own la ls)(hll:ls.length≤3)(hQ:∀h∈ls,RdE qM 1 W0 own h.a h.l∧h.l.length≤24):
  q0E Tryz.prog W0 11 [.int .i64 w, .int .i64 o, .slice la ls.length lc] own fun v own'=>∃m:MS,(v=m.v∧m.cl∧m.c=qms w o)∧Ent W0 own' (m.O++own):=by
 refine qa qj qlR (by simp[q8]) ?_
 have hw:=qb4 w (n:=12) (by omega)
 have hro:=fun q=>qmI (W0:=W0) (own:=q) w o
 have hsc:=fun(own':Own) [qt own' own]=>qmh (lc:=lc) (own:=own') (c:=qms w o) (qn1 w o) rfl (by dsimp only;omega) (2+(ls.length:Int) % 2) (by omega) hL.up (fun h hh=>⟨(hQ h hh).1.up,by have:=(hQ h hh).2;omega⟩)
 generalize qms w o=c at*
 repeat'((try(conv=>whnf));first|((with_reducible show qg _ _ _ _ _ _);first|((refine qh (hro _) ?_ ?_ ?_;(exact rfl);exact rfl))|((refine qm (hsc _) Ent.refl ?_ ?_ (fun m v hv=> ?_);(exact rfl);(exact rfl);(obtain⟨rfl,hm,hc⟩:=hv))))|(refine fB ?_)|(refine fL ?_)|(refine fM ?_)|(refine qc (fun bk hbk=> ?_))|(refine q9M ?_ ?_;omega))
 all_goals exact⟨m,⟨rfl,hm,hc⟩,qn8⟩
end
open Go
section
variable{m:MS}
theorem MS.cl.cs0(h:m.cl):csM m.c m.il.length (m.ps.map PB.h) []=(0,0,0):=by
 unfold csM
 have hp:=h.pl
 rw[if_neg (by rw[h.c0];simp),if_neg (by rw[List.length_map];omega),if_neg (by rw[h.il];simp),qm8 _ _ fun y hy=>by
  obtain⟨x,hx,rfl⟩:=List.mem_map.1 hy
  exact(h.q x hx).2]
 rfl
theorem MS.cl.ilu(h:m.cl):∀x∈m.il,okU x:=fun x hx=>by have:=h.iw x hx;exact⟨by omega,by omega⟩
theorem MS.cl.g0(h:m.cl):GOk m.c m.P (q7G m.c m.il m.P):=
 qgm h.c0 h.il h.ilu fun p hp=>by
  obtain⟨y,hy,rfl⟩:=List.mem_map.1 hp
  obtain⟨x,hx,rfl⟩:=List.mem_map.1 hy
  exact(h.q x hx).2
theorem MS.cl.il5(h:m.cl):m.il.length≤500000:=by
 have h1:=h.il
 have h2:=h.cw
 omega
theorem MS.cl.noal(h:m.cl):qeR m.P:=fun p hp=>by
 obtain⟨y,hy,rfl⟩:=List.mem_map.1 hp
 obtain⟨x,hx,rfl⟩:=List.mem_map.1 hy
 exact h.na x hx
theorem MS.cl.alq(h:m.cl):alQ (m.ps.map PB.h)=false:=by
 unfold alQ
 rw[List.any_eq_false]
 intro y hy
 obtain⟨x,hx,rfl⟩:=List.mem_map.1 hy
 rw[Bool.not_eq_true,List.any_eq_false]
 intro z hz
 have:=h.na x hx z hz
 unfold alI
 simp[this.1,this.2]
theorem MS.cl.arg(h:m.cl){fo:List Int}{lim:Int}(hf:fo.length≤4)(hfo:∀k∈fo,3≤k∧k≤6)(hl:1≤lim∧lim≤100000):qfB m.c m.il.length (m.ps.map PB.h) fo lim=0:=by
 unfold qfB
 rw[h.cs0,if_neg (by simp),if_neg (by rw[h.cs,h.alq];simp),if_neg (by omega),if_pos]
 unfold foB
 rw[List.all_eq_true]
 intro k hk
 exact decide_eq_true (hfo k hk)
theorem MS.cl.rp{W0:World}(h:m.cl):RdE PH.enc 1 W0 (m.O) m.pa (m.ps.map PB.h):=h.p.rd.ent (qo (m.Dk++(q9Z m.ps++m.Di)) fun a=>by simp only[MS.O,q2m];omega)
theorem MS.cl.ri{W0:World}(h:m.cl):RdE q7i 1 W0 (m.O) m.ia m.il:=h.i.rd.ent (qo (m.Dk++(m.Dp++q9Z m.ps)) fun a=>by simp only[MS.O,q2m];omega)
theorem MS.cl.rq{W0:World}(h:m.cl):∀x∈m.ps.map PB.h,RdE Ins.enc 5 W0 (m.O) x.a x.p:=fun y hy=>by
 obtain⟨x,hx,rfl⟩:=List.mem_map.1 hy
 have:=qie (kD:= []) hx ((h.q x hx).1.rd (W0:=W0))
 exact this.ent (qo (m.Dk++(m.Dp++m.Di)) fun a=>by simp only[MS.O,q2m,q7a];omega)
end
structure Ans(c:Cfg)(il:List Int)(P:List (List Ins))(fo:List Int)(R:SS×Int):Prop where
 e:R.2=0∨(R.2=80∧R.1=ss0)
 n:R.1.racy=false→R.1.found= []
 r:R.2=0→R.1.racy=true→∃s',qey c P fo (q7G c il P) [] s' R.1.found∧rcC P.length s'.E=true
 a:R.2=0→R.1.racy=false→∀s' l',qey c P fo (q7G c il P) [] s' l'→rcC P.length s'.E=false
theorem MS.cl.ans{m:MS}(h:m.cl){fo:List Int}{lim:Int}(hf:fo.length≤4)(hfo:∀k∈fo,3≤k∧k≤6)(hl:1≤lim∧lim≤100000):Ans m.c m.il m.P fo (q5E m.c m.il (m.ps.map PB.h) fo lim):=by
 unfold q5E
 rw[h.arg hf hfo hl,if_neg (by simp)]
 unfold qlm
 have h1:=qm2 (rc:=rcC m.P.length) (c:=m.c) (P:=m.P) (fo:=fo) (lim:=lim) (q1o m.P (q7G m.c m.il m.P)+1) (q7G m.c m.il m.P) [] ss0 rfl
 have h2:=qma (rc:=rcC m.P.length) (c:=m.c) (P:=m.P) (fo:=fo) (lim:=lim) h.noal hfo (q1o m.P (q7G m.c m.il m.P)+1) (q7G m.c m.il m.P) [] ss0 h.g0 (Nat.lt_succ_self _)
 have h3:=q6C (rc:=rcC m.P.length) (c:=m.c) (P:=m.P) (fo:=fo) (lim:=lim) (n:=q1o m.P (q7G m.c m.il m.P)+1) (s:=q7G m.c m.il m.P) (l:= []) (x:=ss0) rfl rfl
 dsimp only
 generalize q7w (rcC m.P.length) m.c m.P fo lim (q1o m.P (q7G m.c m.il m.P)+1) (q7G m.c m.il m.P) [] ss0=R at*
 cases hm:R.many with
 |true=>exact⟨.inr ⟨rfl,rfl⟩,fun _=>rfl,fun h=>absurd h (by simp),fun h=>absurd h (by simp)⟩
 |false=>
  refine⟨.inl rfl,h3,fun _ hr=>h1 hr,fun _ hr=>h2 ?_⟩
  unfold SS.stop
  have hr':R.racy=false:=hr
  rw[hr',hm]
  rfl
theorem qey.len{c:Cfg}{P:List (List Ins)}{fo:List Int}(hna:qeR P)(hfo:∀k∈fo,3≤k∧k≤6){s s':GS}{l l':List ChM}(h:qey c P fo s l s' l'):GOk c P s→l.length≤s.n→GOk c P s'∧l'.length≤s'.n∧s'.n+q1o P s'≤s.n+q1o P s:=by
 induction h with
 |done h=>exact fun hG hl=>⟨hG,hl,Nat.le_refl _⟩
 | @loc s s' l l' t ht hd ha _ ih=>
  intro hG hl
  obtain⟨g1,g2, -⟩:=qg2 (t:=t) hna 64 s l hG
  obtain⟨i1,i2,i3⟩:=ih g1 (qjb hna t 64 s l hG hl)
  exact⟨i1,i2,by omega⟩
 | @step s s' l l' t k ht hd ha hk _ ih=>
  intro hG hl
  obtain⟨g1,g2, -⟩:=qg2 (t:=t) hna 64 s l hG
  have hn:=qjb hna t 64 s l hG hl
  obtain⟨i,hi⟩:=qhd g1 ha
  obtain⟨-,m1,m2,m3,m4,m5⟩:=q48 g1 hna hi (k:=k) (by
   rcases qan hfo hk with hk|⟨j,hj,h7,hk⟩
   ·exact .inl hk
   ·rw[hi] at hj
    obtain rfl:=Option.some.inj hj
    exact .inr ⟨h7,hk⟩)
  obtain⟨i1,i2,i3⟩:=ih m1 (by rw[List.length_append,List.length_singleton];omega)
  exact⟨i1,i2,by omega⟩
open Go
def bcS(f:Nat→Nat):Nat→Nat
 |0=>1
 |b+1=>f (b+1)+bcS f b
def bc:Nat→Nat→Nat
 |0=>fun _=>1
 |a+1=>bcS (bc a)
abbrev qnt:Ins:=⟨13,0,0,0,0⟩
abbrev qns:Ins:=⟨12,1,0,0,1⟩
def qnv(n m:Nat):List (List Ins):= [List.replicate n qnt,List.replicate m qns]
structure Two(c:Cfg)(n m:Nat)(s:GS)(i j:Nat):Prop where
 G:GOk c (qnv n m) s
 T:∃a b:Thr,s.T= [a,b]∧a.pc=i∧b.pc=j∧a.rg.r0=0∧b.rg.r0=0∧a.dn=decide (i=n)∧b.dn=decide (j=m)
 E:∀e∈s.E,(e.k=1∨e.k=2)∧e.w=e.t
theorem RdE.conv{α β:Type}{enc:α→List Value}{enc2:β→List Value}{f:α→β}{sz:Nat}{W0:World}{own:Own}{a:Option Addr}{l:List α}(h:RdE enc sz W0 own a l)(he:∀x∈l,enc2 (f x)=enc x):RdE enc2 sz W0 own a (l.map f):=by
 refine⟨fun hn=>h.isS (fun e=>hn (by rw[e];rfl)),fun x hx=> ?_,fun{j k x v} hx hv=> ?_⟩
 ·obtain⟨y,hy,rfl⟩:=List.mem_map.1 hx
  rw[he y hy]
  exact h.wid y hy
 ·rw[List.getElem?_map] at hx
  cases hy:l[j]? with
  |none=>rw[hy] at hx;cases hx
  |some y=>
   rw[hy] at hx
   obtain rfl:=Option.some.inj hx
   rw[he y (List.mem_of_getElem? hy)] at hv
   exact h.cell hy hv
section
variable{W0:World}{own:Own}{c:Cfg}{ia pa ka:Option Addr}{ic pc kc:Nat}{ps:List PH}{il ks:List Int}
abbrev ScF(b:Nat)(c:Cfg)(i p k:Value):Nat×(Obj→Prop):=(b,fun o=>o=Obj.cells (qiD c i p k) 32 (0,0))
theorem qmT{e b d:Nat×(Obj→Prop)}{A B Z:Own}:Ent W0 (e::(B++(A++(b::(d::Z))))) (b::(d::(e::(A++(B++Z))))):=qo []
theorem qmU{e b d:Nat×(Obj→Prop)}{A B Z:Own}:Ent W0 (B++(e::(A++(b::(d::Z))))) (b::(d::(e::(A++(B++Z))))):=qo []
theorem qmV{e b d:Nat×(Obj→Prop)}{A B Z:Own}:Ent W0 (B++(A++(e::(b::(d::Z))))) (b::(d::(e::(A++(B++Z))))):=qo []
theorem qmW{e b1 b2:Nat×(Obj→Prop)}{A B kD L Z:Own}:Ent W0 (b1::(b2::(e::(kD++(L++(A++(B++Z))))))) (kD++(L++(A++(B++Z)))):=qo [b1,b2,e]
theorem qmX{bk e b1 b2:Nat×(Obj→Prop)}{A B D3 D8 L Z:Own}:Ent W0 (bk::(D3++(b1::(b2::(e::(D8++(L++(A++(B++Z))))))))) (b1::(b2::(e::(D8++((L++D3)++(A++(B++Z))))))):=qo [bk]
theorem qlZ(hI:RdE q7i 1 W0 own ia il)(hil:il.length≤1000000)(hP:RdE PH.enc 1 W0 own pa ps)(hpl:ps.length≤1000)(hQ:∀h∈ps,RdE Ins.enc 5 W0 own h.a h.p∧h.p.length≤1000000)(hK:RdE qM 1 W0 own ka ks)(hkl:ks.length≤1000000):
  q0E Tryz.prog W0 22 [qhi c ia il.length ic pa ps.length pc ka ks.length kc] own fun v own'=>∃y:(Option Addr×Nat×Own)×(Option Addr×Nat×Own)×List PB×(Option Addr×Nat×Own),
   (v=qhi c y.1.1 il.length y.1.2.1 y.2.2.2.1 (y.2.2.1.map PB.h).length y.2.2.2.2.1 y.2.1.1 ks.length y.2.1.2.1∧(y.2.2.1.map PB.h).map PH.p=ps.map PH.p∧qr PH.enc 66 1 y.2.2.2.1 y.2.2.2.2.1 (y.2.2.1.map PB.h) y.2.2.2.2.2∧(∀x∈y.2.2.1,x.ok)∧qr q7i 58 1 y.1.1 y.1.2.1 il y.1.2.2)∧
   Ent W0 own' (y.2.2.2.2.2++(q9Z y.2.2.1++(y.1.2.2++(y.2.1.2.2++own)))):=by
 refine qa qj q11 (by simp[q5]) ?_
 have hcw:=fun(own':Own) [qt own' own]=>qm3 (cap:=ic) (RdE.up (own:=own') hI) (by omega)
 have hci:=fun(own':Own) [qt own' own]=>qm9 (cap:=kc) (RdE.up (own:=own') hK) (by omega)
 repeat'((try(conv=>whnf));first|(refine qc (fun b1 h1=> ?_);(apply Stop.h)))
 refine Stop.mk ?_
 repeat'((try(conv=>whnf));first|(refine qc (fun b2 h2=> ?_);(apply Stop.h)))
 refine Stop.mk ?_
 refine q4Q (σ:=Nat×(Option Addr×Nat×Own)×(Option Addr×Nat×Own)) 16360 (fun y=> [(3, .pointer (some ⟨y.1,0,none⟩))])
  (fun y=>ScF b2 ⟨0,0,0,0,0,0,0,0,0,0,0,0,false⟩ (.slice none 0 0) (.slice none 0 0) (.slice none 0 0)::(ScF b1 c (.slice ia il.length ic) (.slice pa ps.length pc) (.slice ka ks.length kc)::(ScF y.1 c (.slice y.2.1.1 il.length y.2.1.2.1) (.slice none 0 0) (.slice y.2.2.1 ks.length y.2.2.2.1)::(y.2.1.2.2++(y.2.2.2.2++own)))))
  (fun y=>qr q7i 58 1 y.2.1.1 y.2.1.2.1 il y.2.1.2.2) rfl ?_ ?_
 ·repeat'((try(conv=>whnf));first|(refine qc (fun b3 h3=> ?_))|((with_reducible show qg _ _ _ _ _ _);first|((refine q01 (hcw _) ?_ ?_ (fun y v hv=> ?_);(exact rfl);(exact rfl);(obtain⟨a1,c1,D1⟩:=y;obtain⟨rfl,hB⟩:=hv;dsimp only at hB)))|((refine q01 (hci _) ?_ ?_ (fun y v hv=> ?_);(exact rfl);(exact rfl);(obtain⟨a2,c2,D2⟩:=y;obtain⟨rfl,hB2⟩:=hv;dsimp only at hB2))))|(refine fA ?_)|(refine fQ ?_)|(refine fM ?_)|(refine q5l.mk ?_ ?_))
  all_goals
   refine⟨(b3,(a1,c1,D1),(a2,c2,D2)),hB,(eF),?_⟩
   first|exact qmT|exact qmU|exact qmV
 ·rintro⟨b3,⟨a1,c1,D1⟩,⟨a2,c2,D2⟩⟩ junk hB
  dsimp only at hB ⊢
  refine q0Z (σ:=Nat×List PB×(Option Addr×Nat×Own)) (fun y=> [(4, .int .i64 y.1)])
   (fun y=>ScF b2 ⟨0,0,0,0,0,0,0,0,0,0,0,0,false⟩ (.slice none 0 0) (.slice none 0 0) (.slice none 0 0)::(ScF b1 c (.slice ia il.length ic) (.slice pa ps.length pc) (.slice ka ks.length kc)::(ScF b3 c (.slice a1 il.length c1) (.slice y.2.2.1 (y.2.1.map PB.h).length y.2.2.2.1) (.slice a2 ks.length c2)::(y.2.2.2.2++(q9Z y.2.1++(D1++(D2++own)))))))
   (fun y=>y.1≤ps.length∧(y.2.1.map PB.h).map PH.p=(ps.take y.1).map PH.p∧qr PH.enc 66 1 y.2.2.1 y.2.2.2.1 (y.2.1.map PB.h) y.2.2.2.2∧(∀x∈y.2.1,x.ok))
   (fun y=>ps.length-y.1) (0,[],(none,0,[])) ⟨Nat.zero_le _,rfl,qr.nil,(fun _ h=>(by cases h))⟩ (eF) Ent.refl rfl ?_
  rintro⟨i,ys,⟨ka',kc',kD⟩⟩ junk ⟨hi,hm,hBk,hys⟩
  dsimp only at hi hm hBk hys ⊢
  have hyl:(ys.map PB.h).length=i:=qeB hm hi
  by_cases hil:i<ps.length
  ·obtain⟨x,hx⟩:∃x,ps[i]? =some x:=⟨_,List.getElem?_eq_getElem hil⟩
   obtain⟨hxP,hxl⟩:=hQ x (List.mem_of_getElem? hx)
   obtain⟨xa,xc,xp⟩:=x
   dsimp only at hxP hxl
   have hci:=fun(own':Own) [qt own' own]=>qlY (cap:=xc) (RdE.up (own:=own') hxP) (by omega)
   repeat'((try(conv=>whnf));first|(refine fF ?_)|(apply q6h (enc:=PH.enc) (T:=66) ⟨a3,c3,xp⟩ hBk;(exact rfl);(exact rfl);(omega);(exact rfl);(exact rfl);(omega);intro a8 c8 D8 hb8)|((with_reducible show Ld _ _ _ _);first|(refine q1N hP hx rfl ?_))|((with_reducible show IxS _ _ _ _ _);first|((refine ixE hP hx ?_ ?_;(first|rfl|omega))))|((with_reducible show qg _ _ _ _ _ _);first|((refine q01 (hci _) ?_ ?_ (fun y v hv=> ?_);(exact rfl);(exact rfl);(obtain⟨a3,c3,D3⟩:=y;obtain⟨rfl,hB3⟩:=hv;dsimp only at hB3))))|(refine fB ?_)|(refine fA ?_)|(refine fN ?_)|(refine qc (fun bk hbk=> ?_))|(refine q5l.mk ?_ ?_))
   all_goals
    have hsn:ys.map PB.h++ [⟨a3,c3,xp⟩]=(ys++ [(⟨⟨a3,c3,xp⟩,D3⟩:PB)]).map PB.h:=by simp
    rw[hsn] at hb8
    refine⟨(i+1,ys++ [⟨⟨a3,c3,xp⟩,D3⟩],(a8,c8,D8)),⟨hil,by rw[←hsn];exact qaX hm hx rfl,hb8,fun x hx=> ?_⟩,(by show ps.length-(i+1)<ps.length-i;omega),(eF),?_⟩
    ·rcases List.mem_append.1 hx with hx|hx
     ·exact hys x hx
     ·rw[List.mem_singleton.1 hx];exact hB3
    ·have e1:((ys++ [(⟨⟨a3,c3,xp⟩,D3⟩:PB)]).map PB.h).length=(ys.map PB.h).length+1:=by simp
     dsimp only
     rw[e1,q6w]
     exact qmX
  ·have hiN:i=ps.length:=by omega
   subst hiN
   rw[List.take_length] at hm
   repeat'((try(conv=>whnf));first|(refine fG ?_)|(refine fA ?_)|(refine fL ?_)|(refine fM ?_))
   exact⟨((a1,c1,D1),(a2,c2,D2),ys,(ka',kc',kD)),⟨rfl,hm,hBk,hys,hB⟩,qmW⟩
end
open Go
section
variable{W0:World}{own:Own}{la:Option Addr}{lc:Nat}{ls:List IH}
theorem qmx{m:MS}(hF:q0B W0)(hN:q1C W0 0 Ord.noneV)(h:m.cl) [e:qt own m.O]{fa:Option Addr}{fc:Nat}{fo:List Int}(hfo:RdE qM 1 W0 own fa fo)(lim:Int):
  q0E Tryz.prog W0 13 [qhi m.c m.ia m.il.length m.ic m.pa m.ps.length m.pc m.ka 0 m.kc, .slice fa fo.length fc, .int .i64 lim] own fun v own'=>∃y:Option Addr×Nat×Own,
   (v= .tuple #[.agg #[.bool (q5E m.c m.il (m.ps.map PB.h) fo lim).1.racy, .slice y.1 (q5E m.c m.il (m.ps.map PB.h) fo lim).1.found.length y.2.1, .int .i64 (q5E m.c m.il (m.ps.map PB.h) fo lim).1.runs], .int .i64 (q5E m.c m.il (m.ps.map PB.h) fo lim).2]∧RdE q8Z 3 W0 y.2.2 y.1 (q5E m.c m.il (m.ps.map PB.h) fo lim).1.found)∧Ent W0 own' (y.2.2++own):=by
 have:=qcd (ks:= []) (c:=m.c) (ic:=m.ic) (pc:=m.pc) (ka:=m.ka) (kc:=m.kc) (fc:=fc) hF hN (h.ri.up (W0:=W0) (own:=own)) h.il5 h.ilu h.rp.up (by have:=h.pl;rw[List.length_map];omega) (fun x hx=>(h.rq x hx).up) hfo lim
 rw[List.length_map] at this
 exact this
end
open Go
theorem qmj{c:Cfg}{il:List Int}{P:List (List Ins)}{R R':SS×Int}(hG:GOk c P (q7G c il P))(hna:qeR P)(hA:Ans c il P [] R)(hB:Ans c il P.reverse [] R')(h1:R.2=0)(h2:R'.2=0)(hr:R.1.racy=true):R'.1.racy=true:=by
 cases hr':R'.1.racy with
 |true=>rfl
 |false=>
  obtain⟨s',hL,hc⟩:=hA.r h1 hr
  have hrv:=hL.rv (N:=P.length) rfl hG
  rw[←qng] at hrv
  have:=hB.a h2 hr' _ _ hrv
  rw[List.length_reverse] at this
  have he:=(hL.evS qmY).1
  have hT:s'.T.length=P.length:=(hL.len hna (by simp) hG (Nat.zero_le _)).1.tl
  have e:(rvS s').E=s'.E.map (rvE P.length):=by rw[←hT];rfl
  rw[e,qnm he,hc] at this
  cases this
abbrev qnd(m:MS)(a1:Option Addr)(c1:Nat)(D1:Own)(pa:Option Addr)(pc:Nat)(Dp:Own)(ka:Option Addr)(kc:Nat):MS:=⟨m.c,a1,m.il,c1,D1,pa,m.ps.reverse,pc,Dp,ka,kc,[]⟩
theorem qn0{m:MS}(h:m.cl){a1 pa ka:Option Addr}{c1 pc kc:Nat}{D1 Dp:Own}(h1:qr q7i 58 1 a1 c1 m.il D1)(h2:qr PH.enc 66 1 pa pc (m.ps.reverse.map PB.h) Dp):(qnd m a1 c1 D1 pa pc Dp ka kc).cl:=
 ⟨h1,h2,fun x hx=>h.q x (List.mem_reverse.1 hx),fun x hx=>h.na x (List.mem_reverse.1 hx),fun x hx=>h.len x (List.mem_reverse.1 hx),h.il,h.iw,by dsimp only;rw[List.length_reverse];exact h.pl,h.cw,h.c0,h.cs⟩
theorem qmk{a:Nat×(Obj→Prop)}:∀l:List PB,cnt a (q9Z l.reverse)=cnt a (q9Z l)
 | []=>rfl
 |x::l=>by
  rw[List.reverse_cons,q6w]
  have:=qmk (a:=a) l
  simp only[q9Z,List.map_cons,List.flatten_cons,q2m] at*
  omega
theorem qnr{α:Type}{enc:α→List Value}{sz n:Nat}{W0:World}{own':Own}{a:Option Addr}{l:List α}{i:Int}{K:Addr→Prop}{j:Nat}{x:α}(h:RdE enc sz W0 own' a l)(hx:l[j]? =some x)(hn:n=l.length)(hi:i=j)(hk:K ⟨ab a,ao a+j*sz,none⟩):IxS a sz i n K:=by
 subst hn
 exact ixE h hx hi hk
def qmA(l y:List PH)(i:Nat):List PH:=l.reverse.take i++y.drop i
theorem qmF{l y:List PH}(h:y.length=l.length){i:Nat}(hi:i≤l.length):(qmA l y i).length=l.length:=by
 unfold qmA
 rw[List.length_append,List.length_take,List.length_drop,List.length_reverse]
 omega
theorem qmG{l y:List PH}(h:y.length=l.length){i:Nat}{x:PH}(hx:l[l.length-1-i]? =some x)(hi:i<l.length):(qmA l y i).set i x=qmA l y (i+1):=by
 unfold qmA
 have hr:l.reverse[i]? =some x:=by rw[List.getElem?_reverse hi,hx]
 obtain⟨z,hz⟩:∃z,y[i]? =some z:=⟨_,List.getElem?_eq_getElem (by omega)⟩
 rw[List.take_add_one,hr,q4H hz]
 have ht:(l.reverse.take i).length=i:=by rw[List.length_take,List.length_reverse];omega
 rw[List.set_append_right _ _ (by omega),ht,Nat.sub_self]
 simp
theorem qmE{l y:List PH}(h:y.length=l.length):qmA l y l.length=l.reverse:=by
 unfold qmA
 rw[List.take_of_length_le (by rw[List.length_reverse];exact Nat.le_refl _),List.drop_eq_nil_of_le (by omega),List.append_nil]
theorem qmS{W0:World}{b11 b8 b7:Nat×(Obj→Prop)}{Y z L D1 D2 own:Own}{m:MS}{a1 pa ka:Option Addr}{c1 pc kc:Nat}:Ent W0 (b11::(Y++(b8::(z++(L++(D1++(D2++(b7::(m.O++own))))))))) (qnd m a1 c1 D1 pa pc z ka kc).O:=
 qo (b11::b8::b7::(Y++(L++(D2++(own++(m.Dk++(m.Dp++m.Di))))))) fun a=>by simp only[MS.O,q2m,q5b,q7a,qmk];omega
section
variable{W0:World}{own:Own}{la:Option Addr}{lc:Nat}{ls:List IH}
theorem qmi(hF:q0B W0)(hN:q1C W0 0 Ord.noneV)(w o:Int)(hL:RdE IH.enc 1 W0 own la ls)(hll:ls.length≤17592186043904)(hQ:∀h∈ls,RdE qM 1 W0 own h.a h.l∧h.l.length≤17592186043904):
  qD Tryz.prog W0 7 [.int .i64 w, .int .i64 o, .slice la ls.length lc] own (.bool true):=by
 refine qe (qa qj qR (by simp[q3]) ?_)
 have haw:=fun own=>qka (W0:=W0) (own:=own) hF hN
 have hlo:=fun(own':Own) [qt own' own]=>qn5 (lc:=lc) (own:=own') hL.up hll (fun h hh=>(hQ h hh).2)
 repeat'((try(conv=>whnf));first|((with_reducible show qg _ _ _ _ _ _);first|((refine qm (hlo _) Ent.refl ?_ ?_ (fun z v hv=> ?_);(exact rfl);(exact rfl);(apply Stop.h)))))
 obtain⟨rfl,hz⟩:=hv
 refine Stop.mk ?_
 cases z with
 |true=>
  repeat'((try(conv=>whnf));first|(refine fE ?_)|((with_reducible show qg _ _ _ _ _ _);first|((refine qh (haw _) ?_ ?_ ?_;(exact rfl);exact rfl))))
  all_goals exact⟨rfl,(eC)⟩
 |false=>
  obtain⟨hl3,hl24⟩:=hz rfl
  have hcl:=fun(own':Own) [qt own' own]=>qmw (lc:=lc) (own:=own') w o hL.up hl3 (fun h hh=>⟨(hQ h hh).1.up,hl24 h hh⟩)
  repeat'((try(conv=>whnf));first|(refine fD ?_)|((with_reducible show qg _ _ _ _ _ _);first|((refine qm (hcl _) Ent.refl ?_ ?_ (fun m v hv=> ?_);(exact rfl);(exact rfl);(apply Stop.h)))))
  obtain⟨rfl,hm, -⟩:=hv
  refine Stop.mk ?_
  have htw:=fun(own':Own) [qt own' m.O]=>qlZ (own:=own') (c:=m.c) (ic:=m.ic) (pc:=m.pc) (ka:=m.ka) (ks:= []) (kc:=m.kc) (hm.ri.up (W0:=W0)) (by have:=hm.il5;omega) hm.rp.up (by have:=hm.pl;rw[List.length_map];omega) (fun x hx=>⟨(hm.rq x hx).up,by
   obtain⟨y,hy,rfl⟩:=List.mem_map.1 hx
   have:=hm.len y hy
   omega⟩) RdE.nil (Nat.zero_le _)
  simp only[List.length_map,List.length_nil] at htw
  repeat'((try(conv=>whnf));first|(refine qc (fun b7 h7=> ?_);(apply Stop.h)))
  refine Stop.mk ?_
  repeat'((try(conv=>whnf));first|((with_reducible show qg _ _ _ _ _ _);first|((refine qm (htw _) Ent.refl ?_ ?_ (fun y v hv=> ?_);(exact rfl);(exact rfl);(apply Stop.h))))|(refine fL ?_)|(refine fM ?_))
  obtain⟨⟨a1,c1,D1⟩,⟨a2,c2,D2⟩,ys,⟨ya,yc,yD⟩⟩:=y
  obtain⟨rfl,hyp,hyB,hys,hB1⟩:=hv
  dsimp only at hyp hyB hys hB1 ⊢
  have hyl:ys.length=m.ps.length:=by
   have:=congrArg List.length hyp
   simpa using this
  have hym:(ys.map PB.h).length=ys.length:=List.length_map ..
  have hrp:=hm.rp (W0:=W0)
  have hpl:=hm.pl
  have hml:(m.ps.map PB.h).length=m.ps.length:=List.length_map ..
  rw[hyl]
  refine Stop.mk ?_
  repeat'((try(conv=>whnf));first|(refine qc (fun b8 h8=> ?_);(apply Stop.h)))
  refine Stop.mk ?_
  repeat'((try(conv=>whnf));first|(refine fA ?_)|(refine fM ?_))
  refine q0Z (σ:=Nat×Own) (fun z=> [(10, .int .i64 z.1)])
   (fun z=>(b8,fun o=>o=Obj.cells (qiD m.c (.slice a1 m.il.length c1) (.slice ya m.ps.length yc) (.slice a2 0 c2)) 32 (0,0))::(z.2++(q9Z ys++(D1++(D2++((b7,fun o=>o=Obj.cells (qiD m.c (.slice m.ia m.il.length m.ic) (.slice m.pa m.ps.length m.pc) (.slice m.ka 0 m.kc)) 32 (0,0))::(m.O++own)))))))
   (fun z=>z.1≤m.ps.length∧qr PH.enc 66 1 ya yc (qmA (m.ps.map PB.h) (ys.map PB.h) z.1) z.2) (fun z=>m.ps.length-z.1) (0,yD) ⟨Nat.zero_le _,by unfold qmA;simpa using hyB⟩ (eF) ?_ rfl ?_
  ·exact Ent.refl
  rintro⟨i,zD⟩ junk ⟨hi,hB⟩
  dsimp only at hi hB ⊢
  have hrl:=qmF (l:=m.ps.map PB.h) (y:=ys.map PB.h) (by omega) (i:=i) (by omega)
  by_cases hin:i<m.ps.length
  ·obtain⟨x,hx⟩:∃x,(m.ps.map PB.h)[m.ps.length-1-i]? =some x:=⟨_,List.getElem?_eq_getElem (by omega)⟩
   obtain⟨z,hz⟩:∃z,(qmA (m.ps.map PB.h) (ys.map PB.h) i)[i]? =some z:=⟨_,List.getElem?_eq_getElem (by omega)⟩
   have hset:=qmG (l:=m.ps.map PB.h) (y:=ys.map PB.h) (by omega) (i:=i) (x:=x) (by rw[hml];exact hx) (by omega)
   have hin':(i:Int)<m.ps.length:=by omega
   obtain⟨xa,xc,xp⟩:=x
   repeat'((try(conv=>whnf));first|(refine fF ?_)|(refine qnr hrp hx hml.symm ?_ ?_;omega)|(refine qnr (hB.rd (W0:=W0)) hz (hml.symm.trans hrl.symm) ?_ ?_;omega)|(apply q5C (enc:=PH.enc) (T:=66) (k:=0) ⟨xa,xc,xp⟩ hB hz;(exact rfl);(omega);(exact rfl);(exact rfl);intro D' hB')|((with_reducible show Ld _ _ _ _);first|(refine q1N hrp hx rfl ?_))|(refine fB ?_)|(refine fA ?_))
   all_goals
    rw[hset] at hB'
    exact⟨(i+1,D'),⟨hin,hB'⟩,(by show m.ps.length-(i+1)<m.ps.length-i;omega),(eF),Ent.refl⟩
  ·obtain rfl:i=m.ps.length:=by omega
   have hra:=qmE (l:=m.ps.map PB.h) (y:=ys.map PB.h) (by omega)
   rw[hml] at hra
   rw[hra,←List.map_reverse] at hB
   have hmR:=qn0 (ka:=a2) (kc:=c2) hm hB1 hB
   have hex1:=fun(own':Own) [qt own' m.O]=>qmx (own:=own') (fa:=none) (fc:=0) hF hN hm RdE.nil 150
   have hex2:=fun(own':Own) [qt own' (qnd m a1 c1 D1 ya yc zD a2 c2).O]=>qmx (own:=own') (fa:=none) (fc:=0) hF hN hmR RdE.nil 150
   have hex3:=fun(own':Own) [qt own' m.O] (fa:Option Addr) (hfo:RdE qM 1 W0 own' fa [5])=>qmx (own:=own') (fc:=1) hF hN hm hfo 150
   have hA1:=hm.ans (fo:= []) (lim:=150) (by simp) (by simp) (by omega)
   have hA2:=hmR.ans (fo:= []) (lim:=150) (by simp) (by simp) (by omega)
   have hA3:=hm.ans (fo:= [5]) (lim:=150) (by simp) (by simp) (by omega)
   have hPr:(qnd m a1 c1 D1 ya yc zD a2 c2).P=m.P.reverse:=by simp[List.map_reverse]
   rw[hPr] at hA2
   dsimp only[qnd] at hA2
   have hr12:=fun h1 h2=>qmj hm.g0 hm.noal hA1 hA2 h1 h2
   have hG2:=hmR.g0
   have hn2:=hmR.noal
   rw[hPr] at hG2 hn2
   have hr21:=fun h1 h2=>qmj (P:=m.P.reverse) hG2 hn2 hA2 (by rw[List.reverse_reverse];exact hA1) h1 h2
   have hr13:(q5E m.c m.il (m.ps.map PB.h) [] 150).2=0→(q5E m.c m.il (m.ps.map PB.h) [5] 150).2=0→(q5E m.c m.il (m.ps.map PB.h) [] 150).1.racy=true→(q5E m.c m.il (m.ps.map PB.h) [5] 150).1.racy=true:=fun h1 h3 hr=>by
    cases hr':(q5E m.c m.il (m.ps.map PB.h) [5] 150).1.racy with
    |true=>rfl
    |false=>
     obtain⟨s',hL,hc⟩:=hA1.r h1 hr
     have:=hA3.a h3 hr' _ _ (hL.mono (fun _ h=>by cases h))
     rw[hc] at this
     cases this
   have e1:=hA1.e
   have e2:=hA2.e
   have e3:=hA3.e
   clear hA1 hA2 hA3 hG2 hn2
   simp only[List.length_reverse] at hex2
   generalize q5E m.c m.il (m.ps.map PB.h) [] 150=R1 at*
   generalize q5E m.c m.il (m.ps.reverse.map PB.h) [] 150=R2 at*
   generalize q5E m.c m.il (m.ps.map PB.h) [5] 150=R3 at*
   obtain⟨⟨n1,r1,m1,f1⟩,v1⟩:=R1
   obtain⟨⟨n2,r2,m2,f2⟩,v2⟩:=R2
   obtain⟨⟨n3,r3,m3,f3⟩,v3⟩:=R3
   dsimp only at hex1 hex2 hex3 hr12 hr21 hr13 e1 e2 e3
   repeat'((try(conv=>whnf));first|(refine fG ?_)|((with_reducible show qg _ _ _ _ _ _);first|((refine qm (hex1 _) Ent.refl ?_ ?_ (fun y v hv=> ?_);(exact rfl);(exact rfl);(apply Stop.h))))|(refine fL ?_))
   obtain⟨rfl, -⟩:=hv
   refine Stop.mk ?_
   repeat'((try(conv=>whnf));first|(refine qc (fun b11 h11=> ?_);(apply Stop.h))|(refine fO ?_))
   refine Stop.mk ?_
   repeat'((try(conv=>whnf));first|((with_reducible show qg _ _ _ _ _ _);first|((refine qm (@hex2 _ ⟨fun _=>qmS⟩) Ent.refl ?_ ?_ (fun y v hv=> ?_);(exact rfl);(exact rfl);(apply Stop.h))))|(refine fL ?_)|(refine fM ?_))
   obtain⟨rfl, -⟩:=hv
   refine Stop.mk ?_
   repeat'((try(conv=>whnf));first|(refine qc (fun b13 h13=> ?_);(apply Stop.h))|(refine fO ?_))
   refine Stop.mk ?_
   repeat'((try(conv=>whnf));first|(refine qc (fun b58 h58=> ?_);(apply Stop.h))|(refine fL ?_)|(refine fM ?_))
   refine Stop.mk ?_
   repeat'((try(conv=>whnf));first|((with_reducible show qg _ _ _ _ _ _);first|((refine qm (hex3 _ (some ⟨b58,0,none⟩) (q4D (by(repeat(first|exact List.Mem.head _|apply List.Mem.tail))) (fun _ _=>rfl) rfl)) Ent.refl ?_ ?_ (fun y v hv=> ?_);(exact rfl);(exact rfl);(apply Stop.h)))))
   obtain⟨rfl, -⟩:=hv
   refine Stop.mk ?_
   repeat'((try(conv=>whnf));first|(refine qc (fun b15 h15=> ?_);(apply Stop.h))|(refine fO ?_))
   refine Stop.mk ?_
   clear hex1 hex2 hex3
   have hv1:v1=0∨v1=80:=e1.imp id (·.1)
   have hv2:v2=0∨v2=80:=e2.imp id (·.1)
   have hv3:v3=0∨v3=80:=e3.imp id (·.1)
   clear e1 e2 e3
   rcases hv1 with rfl|rfl
   ·have hr12:=hr12 rfl
    have hr21:=fun h2=>hr21 h2 rfl
    have hr13:=hr13 rfl
    rcases hv2 with rfl|rfl
    ·have hrr:r1=r2:=by
      have a1:=hr12 rfl
      have a2:=hr21 rfl
      cases r1 <;>cases r2 <;>simp_all
     subst hrr
     rcases hv3 with rfl|rfl
     ·have h3:=hr13 rfl
      cases r1 with
      |false=>
       repeat'((try(conv=>whnf));first|(refine fH ?_)|(refine fI ?_)|(refine fD ?_)|((with_reducible show qg _ _ _ _ _ _);first|((refine qh (haw _) ?_ ?_ ?_;(exact rfl);exact rfl)))|(refine fA ?_)|(refine fM ?_))
       all_goals exact⟨rfl,(eC)⟩
      |true=>
       obtain rfl:r3=true:=h3 rfl
       repeat'((try(conv=>whnf));first|(refine fH ?_)|(refine fD ?_)|((with_reducible show qg _ _ _ _ _ _);first|((refine qh (haw _) ?_ ?_ ?_;(exact rfl);exact rfl)))|(refine fA ?_)|(refine fM ?_))
       all_goals exact⟨rfl,(eC)⟩
     ·cases r1
      all_goals
       repeat'((try(conv=>whnf));first|(refine fH ?_)|(refine fI ?_)|(refine fD ?_)|((with_reducible show qg _ _ _ _ _ _);first|((refine qh (haw _) ?_ ?_ ?_;(exact rfl);exact rfl)))|(refine fA ?_)|(refine fM ?_))
      all_goals exact⟨rfl,(eC)⟩
    ·rcases hv3 with rfl|rfl
     ·have h3:=hr13 rfl
      cases r1 with
      |false=>
       repeat'((try(conv=>whnf));first|(refine fH ?_)|(refine fI ?_)|(refine fD ?_)|((with_reducible show qg _ _ _ _ _ _);first|((refine qh (haw _) ?_ ?_ ?_;(exact rfl);exact rfl)))|(refine fA ?_)|(refine fM ?_))
       all_goals exact⟨rfl,(eC)⟩
      |true=>
       obtain rfl:r3=true:=h3 rfl
       repeat'((try(conv=>whnf));first|(refine fH ?_)|(refine fI ?_)|(refine fD ?_)|((with_reducible show qg _ _ _ _ _ _);first|((refine qh (haw _) ?_ ?_ ?_;(exact rfl);exact rfl)))|(refine fA ?_)|(refine fM ?_))
       all_goals exact⟨rfl,(eC)⟩
     ·repeat'((try(conv=>whnf));first|(refine fH ?_)|(refine fI ?_)|(refine fD ?_)|((with_reducible show qg _ _ _ _ _ _);first|((refine qh (haw _) ?_ ?_ ?_;(exact rfl);exact rfl)))|(refine fM ?_))
      all_goals exact⟨rfl,(eC)⟩
   ·repeat'((try(conv=>whnf));first|(refine fH ?_)|(refine fI ?_)|(refine fD ?_)|((with_reducible show qg _ _ _ _ _ _);first|((refine qh (haw _) ?_ ?_ ?_;(exact rfl);exact rfl)))|(refine fM ?_))
    all_goals exact⟨rfl,(eC)⟩
end
open Go Go.ChangeShapes Go.WideShapes Go.ChangeAt Go.RowKit
theorem qmm{W:World}(h:laidMetH Tryz.prog [("strongtx/tdrf.none",Rows.laid_strongtx_tdrf_none),("strongtx/isa.forms",Rows.laid_strongtx_isa_forms)] W):q0B W:=
 qmo (d:=Rows.laid_strongtx_isa_forms) (g:=2) (t:=240) (cs:=qiU) (by kernel_rfl) h (List.Mem.tail _ (List.Mem.head _)) (by kernel_rfl) (by kernel_rfl) (by kernel_rfl) (by kernel_rfl) (by simp[qiU])
theorem qmZ{W:World}(h:laidMetH Tryz.prog [("strongtx/tdrf.none",Rows.laid_strongtx_tdrf_none),("strongtx/isa.forms",Rows.laid_strongtx_isa_forms)] W):q1C W 0 Ord.noneV:=
 qmo (d:=Rows.laid_strongtx_tdrf_none) (g:=0) (t:=56) (cs:=Ord.noneV) (by kernel_rfl) h (List.Mem.head _) (by kernel_rfl) (by kernel_rfl) (by kernel_rfl) (by kernel_rfl) (by simp[Ord.noneV])
end Go.Proofs.YtkieffpjjfebjaaGreatDoor
