/- What the laws share, part 4. No condition. -/
import Derived.Test.YtbhbldllneadeaaGreatDoorChecked
import Derived.Shelf.SlMaps.Clone
import Derived.Shelf.Sort.Plain
import Derived.Shelf.Slices.In.SortNone
import Derived.Shelf.Slices.CompactI
import Derived.Ground.Names2Prog
import Derived.Test.YtbhbldllneadeaaGreatDoorProg
import Derived.Lib.SlicesCompact
import Derived.Test.YtbhbldllneadeaaGreatDoorB3
set_option maxHeartbeats 16000000
set_option maxRecDepth 100000
namespace Go.Proofs.YtbhbldllneadeaaGreatDoor
namespace Pv
open Go
section
variable{W0:World}{own:Own}{c:Cfg}{la pka:Option Addr}{lc pkc:Nat}{ls:List IH}{pks:List Int}
theorem sp_script2V(n most:Int)(heap plain:Bool)(hc:0≤c.words∧c.words≤1000000)(hn:1≤n∧n≤1000)(hm:1≤most∧most≤64)
  (hL:RdE IH.enc 1 W0 own la ls) (hQ:∀h∈ls,RdE qx 1 W0 own h.a h.l∧h.l.length≤1000000) (hP:RdE qx 1 W0 own pka pks) (hpl:pks.length≤1000000):
  qt Tryz.prog W0 10 [c.v, .int .i64 n, .slice la ls.length lc, .int .i64 most, .bool heap, .bool plain, .slice pka pks.length pkc] own fun v own'=>
   ∃ia il ic Di pa ps pc Dp ka ks kc Dk,v=qaG c ia (List.length il) ic pa (List.length ps) pc ka (List.length ks) kc∧qu q09 49 1 ia ic il Di∧qu PH.enc 38 1 pa pc (ps.map PB.h) Dp∧qu qx 3 1 ka kc ks Dk∧
    (∀x∈ps,x.ok∧qbx x.h.p=(0,0)∧(x.h.p.length:Int)≤most∧∀y∈x.h.p,rngPV heap y)∧(il.length:Int)=c.words∧(∀x∈il,0≤x∧x≤3)∧(ps.length:Int)=n∧ks.length=pks.length∧(∀k∈ks,0≤k∧k<n)∧Ent W0 own' (Dk++(Dp++(qb7 ps++(Di++own)))):=by
 refine sH [3,7,9,11,13,15,17,19,21,23,1,5,26,28,30,31,34,0,26,5,28,30,31,34,0,3,5,7,9,11,13,15,17,20,22,23,26,0] ?_
 repeat'((try(conv=>whnf));first|(refine q4h rfl ?_)|(apply q0e;(exact eM);exact rfl)|(apply q51;(first|(solve|repeat(first|with_reducible exact Up.head|with_reducible apply Up.tail|with_reducible apply Up.app))|(repeat(first|exact Up.head|apply Up.tail|apply Up.app)));(solve|((try(conv=>arg 2;whnf));repeat'(first|exact Lis.nil|apply Lis.cons|apply q2M.here|apply q2M.there|apply q1D.done|apply q1D.put|apply q1D.skip)));exact rfl)|(refine qf (fun bk hbk=> ?_)))
 rename_i b7 h7 b14 h14;refine qX (σ:=List Int×Option Addr×Nat×Own) (fun s=> [(16, .int .i64 s.1.length)]) (fun s=>(bk,fun o=>o=Obj.cells (qh8 c (.slice s.2.1 s.1.length s.2.2.1) qp3 qp3) 31)::(s.2.2.2++qp1 b14 b7 c own))
  (fun s=>qu q09 49 1 s.2.1 s.2.2.1 s.1 s.2.2.2∧(s.1.length:Int)≤c.words∧∀x∈s.1,0≤x∧x≤3) (fun s=>(c.words-s.1.length).toNat) ([],none,0,[]) ⟨qu.nil,(by simp;omega),fun _ h=>(by cases h)⟩ (eF) Ent.refl rfl ?_
 rintro s junk ⟨hB,hw,hw3⟩
 by_cases hlt:(s.1.length:Int)<c.words
 ·repeat'((try(conv=>whnf));first|(refine q14 Y6 ?_)|(refine qms (enc:=q09) ((s.1.length:Int) % 4) hB (by(repeat(first|exact At.head|apply At.tail|apply At.skip))) (eN) rfl rfl Y6 rfl rfl Y6 (fun a1 c1 D1 hb1=> ?_))|(refine fB ?_)|(refine fC ?_)|(apply q0b;(exact eM);exact rfl)|(apply qlK;(first|(solve|repeat(first|with_reducible exact Up.head|with_reducible apply Up.tail|with_reducible apply Up.app))|(repeat(first|exact Up.head|apply Up.tail|apply Up.app)));(solve|((try(conv=>arg 2;whnf));repeat'(first|exact Lis.nil|apply Lis.cons|apply q2M.here|apply q2M.there|apply q1D.done|apply q1D.put|apply q1D.skip)));exact rfl)|(refine qf (fun bk hbk=> ?_))|(refine q8A ?_ ?_;omega))
  refine⟨(s.1++ [(s.1.length:Int) % 4],a1,c1,D1),⟨hb1,(by simp;omega),fun x hx=> ?_⟩,by simp;omega,?_,?_⟩
  ·rcases zz.1 hx with hx|hx
   ·exact hw3 x hx
   ·rw[zf.1 hx];omega
  ·simp only[z8,zG,zM,zD];exact(eF)
  ·simp only[z8,zG,zM,zD];exact eB
 ·repeat'((try(conv=>whnf));first|(refine q1H Y6 ?_)|(apply q0b;(exact eM);exact rfl))
  refine qX (σ:=List PB×Option Addr×Nat×Own) (fun q=> [(17, .int .i64 (q.1.map PB.h).length)]) (fun q=>(bk,fun o=>o=Obj.cells (qh8 c (.slice s.2.1 s.1.length s.2.2.1) (.slice q.2.1 (q.1.map PB.h).length q.2.2.1) qp3) 31)::(q.2.2.2++(qb7 q.1++(s.2.2.2++qp1 b14 b7 c own))))
   (fun q=>qu PH.enc 38 1 q.2.1 q.2.2.1 (q.1.map PB.h) q.2.2.2∧(∀x∈q.1,x.ok∧qbx x.h.p=(0,0)∧(x.h.p.length:Int)≤most∧∀y∈x.h.p,rngPV heap y)∧((q.1.map PB.h).length:Int)≤n) (fun q=>(n-(q.1.map PB.h).length).toNat) ([],none,0,[]) ⟨qu.nil,fun _ h=>(by cases h),by simp;omega⟩ (eF) Ent.refl rfl ?_
  rintro q junk2 ⟨hB2,hq2,hqn⟩
  by_cases hlt2:((q.1.map PB.h).length:Int)<n
  ·have hfin:∀a1 c1 D1 p1 a3 c3 D3 (h':Bool),(h'=true→heap=true)→qu Ins.enc 40 5 a1 c1 p1 D1→(qbx p1=(0,0)∧(p1.length:Int)≤most∧∀y∈p1,rngPV h' y)→qu PH.enc 38 1 a3 c3 (q.1.map PB.h++ [⟨a1,c1,p1⟩]) D3→
     qu PH.enc 38 1 a3 c3 ((q.1++ [(⟨⟨a1,c1,p1⟩,D1⟩:PB)]).map PB.h) D3∧(∀x∈q.1++ [(⟨⟨a1,c1,p1⟩,D1⟩:PB)],x.ok∧qbx x.h.p=(0,0)∧(x.h.p.length:Int)≤most∧∀y∈x.h.p,rngPV heap y)∧(((q.1++ [(⟨⟨a1,c1,p1⟩,D1⟩:PB)]).map PB.h).length:Int)≤n:=fun a1 c1 D1 p1 a3 c3 D3 h' hh h1 h2 h3=>by
    refine⟨by rw[zH];exact h3,fun x hx=> ?_,by rw[zH,z8];simp only[zF,Zi,zG,zM];omega⟩
    rcases zz.1 hx with hx|hx
    ·exact hq2 x hx
    ·rw[zf.1 hx];exact⟨h1,h2.1,h2.2.1,fun y hy=>⟨(h2.2.2 y hy).1,fun h=>hh ((h2.2.2 y hy).2 h)⟩⟩
   by_cases ht:(q.1.map PB.h).length<ls.length
   ·obtain⟨x,hx⟩:∃x,ls[(q.1.map PB.h).length]? =some x:=⟨_,z6 ht⟩
    obtain⟨hx1,hx2⟩:=hQ x (zg hx);have ht':((q.1.map PB.h).length:Int)<ls.length:=Y6;cases heap
    all_goals
     repeat'((try(conv=>whnf));first|(refine qQ ?_)|(refine q2V ?_)|(refine q14 Y6 ?_)|(apply q5v (fun _=>qW _ _ c))|(refine qol (q9 (l:=x.l) (lc:=x.cap) most _ plain (hx1.ent (eB)) hx2 hm) (fun a1 c1 D1 p1 hb1 hp1=> ?_))|(refine qms (enc:=PH.enc) ⟨a1,c1,p1⟩ hB2 (by(repeat(first|exact At.head|apply At.tail|apply At.skip))) (eN) rfl rfl Y6 rfl rfl Y6 (fun a3 c3 D3 hb3=> ?_))|((apply gLd);first|(refine ldE (k:=0) (RdE.ent hL ?_) hx ?_ rfl ?_;rotate_left;rfl;rotate_left;(solve|(exact eB))))|((apply qJ);first|(refine ixE hL hx ?_ ?_;(first|rfl|omega)))|(refine fB ?_)|(apply q0b;(exact eM);exact rfl)|(apply q0e;(exact eM);exact rfl)|(apply qlK;(first|(solve|repeat(first|with_reducible exact Up.head|with_reducible apply Up.tail|with_reducible apply Up.app))|(repeat(first|exact Up.head|apply Up.tail|apply Up.app)));(solve|((try(conv=>arg 2;whnf));repeat'(first|exact Lis.nil|apply Lis.cons|apply q2M.here|apply q2M.there|apply q1D.done|apply q1D.put|apply q1D.skip)));exact rfl)|(refine qf (fun bk hbk=> ?_))|(refine q1c.mk ?_ ?_))
    all_goals refine⟨(q.1++ [(⟨⟨a1,c1,p1⟩,D1⟩:PB)],a3,c3,D3),hfin a1 c1 D1 p1 a3 c3 D3 _ Y8 hb1 hp1 hb3,by rw[zH,z8];simp only[zF,Zi,zG,zM];omega,?_,?_⟩
    all_goals simp only[qck,zH,z8,zF,Zi,zG,zM,zD]
    all_goals first|exact qo8|exact(eF)
   ·have hx1:RdE qx 1 W0 own none []:=RdE.nil;cases heap
    all_goals
     repeat'((try(conv=>whnf));first|(refine qQ ?_)|(refine q2V ?_)|(refine q14 Y6 ?_)|(refine q1H Y6 ?_)|(apply q5v (fun _=>qW _ _ c))|(refine qol (q9 (la:=none) (l:= []) (lc:=0) most _ plain (hx1.ent (eB)) Y8 hm) (fun a1 c1 D1 p1 hb1 hp1=> ?_))|(refine qms (enc:=PH.enc) ⟨a1,c1,p1⟩ hB2 (by(repeat(first|exact At.head|apply At.tail|apply At.skip))) (eN) rfl rfl Y6 rfl rfl Y6 (fun a3 c3 D3 hb3=> ?_))|(refine fB ?_)|(apply q0b;(exact eM);exact rfl)|(apply q0e;(exact eM);exact rfl)|(apply qlK;(first|(solve|repeat(first|with_reducible exact Up.head|with_reducible apply Up.tail|with_reducible apply Up.app))|(repeat(first|exact Up.head|apply Up.tail|apply Up.app)));(solve|((try(conv=>arg 2;whnf));repeat'(first|exact Lis.nil|apply Lis.cons|apply q2M.here|apply q2M.there|apply q1D.done|apply q1D.put|apply q1D.skip)));exact rfl)|(refine qf (fun bk hbk=> ?_))|(refine q1c.mk ?_ ?_))
    all_goals refine⟨(q.1++ [(⟨⟨a1,c1,p1⟩,D1⟩:PB)],a3,c3,D3),hfin a1 c1 D1 p1 a3 c3 D3 _ Y8 hb1 hp1 hb3,by rw[zH,z8];simp only[zF,Zi,zG,zM];omega,?_,?_⟩
    all_goals simp only[qck,zH,z8,zF,Zi,zG,zM,zD]
    all_goals first|exact qo8|exact(eF)
  ·repeat'((try(conv=>whnf));first|(refine q1H Y6 ?_))
   refine qX (σ:=List Int×Option Addr×Nat×Own) (fun k=> [(19, .int .i64 k.1.length)]) (fun k=>(bk,fun o=>o=Obj.cells (qh8 c (.slice s.2.1 s.1.length s.2.2.1) (.slice q.2.1 (q.1.map PB.h).length q.2.2.1) (.slice k.2.1 k.1.length k.2.2.1)) 31)::(k.2.2.2++(q.2.2.2++(qb7 q.1++(s.2.2.2++qp1 b14 b7 c own)))))
    (fun k=>qu qx 3 1 k.2.1 k.2.2.1 k.1 k.2.2.2∧(∀x∈k.1,0≤x∧x<n)∧k.1.length≤pks.length) (fun k=>pks.length-k.1.length) ([],none,0,[]) ⟨qu.nil,fun _ h=>(by cases h),Y8⟩ (eF) Ent.refl rfl ?_
   rintro k junk3 ⟨hB3,hk2,hkn⟩
   by_cases hlt3:k.1.length<pks.length
   ·obtain⟨x,hx⟩:∃x,pks[k.1.length]? =some x:=⟨_,z6 hlt3⟩
    have hlt3':(k.1.length:Int)<pks.length:=Y6
    repeat'((try(conv=>whnf));first|(refine q14 Y6 ?_)|(refine qo4 ?_ (fun p hp=> ?_);omega)|(refine qms (enc:=qx) p hB3 (by(repeat(first|exact At.head|apply At.tail|apply At.skip))) (eN) rfl rfl Y6 rfl rfl Y6 (fun a1 c1 D1 hb1=> ?_))|((apply gLd);first|(refine ldE (k:=0) (RdE.ent hP ?_) hx ?_ rfl ?_;rotate_left;rfl;rotate_left;(solve|(exact eB))))|((apply qJ);first|(refine ixE hP hx ?_ ?_;(first|rfl|omega)))|(refine fB ?_)|(apply q0b;(exact eM);exact rfl)|(apply qlK;(first|(solve|repeat(first|with_reducible exact Up.head|with_reducible apply Up.tail|with_reducible apply Up.app))|(repeat(first|exact Up.head|apply Up.tail|apply Up.app)));(solve|((try(conv=>arg 2;whnf));repeat'(first|exact Lis.nil|apply Lis.cons|apply q2M.here|apply q2M.there|apply q1D.done|apply q1D.put|apply q1D.skip)));exact rfl)|(refine qf (fun bk hbk=> ?_)))
    all_goals refine⟨(k.1++ [p],a1,c1,D1),⟨hb1,fun y hy=> ?_,by simp;omega⟩,by simp;omega,?_,?_⟩
    all_goals first|(rcases zz.1 hy with hy|hy;exact hk2 y hy;rw[zf.1 hy];exact hp)|skip
    all_goals simp only[z8,zG,zM,zD]
    all_goals first|exact Ent.cons Ent.refl|exact(eF)
   ·repeat'((try(conv=>whnf));first|(refine q1H Y6 ?_)|(refine q4h rfl ?_)|(apply q0e;(exact eM);exact rfl)|(apply q51;(first|(solve|repeat(first|with_reducible exact Up.head|with_reducible apply Up.tail|with_reducible apply Up.app))|(repeat(first|exact Up.head|apply Up.tail|apply Up.app)));(solve|((try(conv=>arg 2;whnf));repeat'(first|exact Lis.nil|apply Lis.cons|apply q2M.here|apply q2M.there|apply q1D.done|apply q1D.put|apply q1D.skip)));exact rfl))
    refine⟨s.2.1,s.1,s.2.2.1,s.2.2.2,q.2.1,q.1,q.2.2.1,q.2.2.2,k.2.1,k.1,k.2.2.1,k.2.2.2,?_,hB,hB2,hB3,hq2,Y6,hw3,?_,Y6,hk2,?_⟩
    ·rw[zk];rfl
    ·rw[zk] at hlt2 hqn;omega
    ·exact Ent.cons (Ent.of_sub (((((List.Sublist.refl own).cons _).cons _).append_left s.2.2.2).append_left (qb7 q.1)|>.append_left q.2.2.2|>.append_left k.2.2.2))
end
end Pv
open Go Go.Proofs.YtbhbldllneadeaaGreatDoor.Ord
section
variable{n:Nat}
theorem qb{e:EH}{w:Int}(h:toB e w=true):((e.k=1∨e.k=2)∧e.w=w)∨(e.k=4∧(w∈e.rl∨w∈e.wl)):=by
 unfold toB wrB at h;simp only[ZB,zx,decide_eq_true_eq,ZU] at h
 rcases h with (⟨h1,h2⟩|⟨h1,h2⟩)|⟨h1,h2⟩|⟨h1,h2⟩
 ·exact .inl ⟨.inr h1,h2⟩
 ·exact .inr ⟨h1, .inr h2⟩
 ·exact .inl ⟨.inl h1,h2⟩
 ·exact .inr ⟨h1, .inl h2⟩
theorem qoC{l:List EH}{E:List EvM}(h1:1≤n)(hn:n≤16)(h:TrW n E)(hl:l.map EH.m=E)(hle:l.length≤65536)(hev:∀e∈E,(e.k=4→∀w,w∈e.r∨w∈e.wl→w<9)∧(e.k=1∨e.k=2→e.w=9+e.t)):
  (q9b l n).2=0∧frR l n=(-1, -1, -1):=by
 refine qgh h1 hn h hl hle fun x y hxy hy hx3 hy3 ht h44 w hx hyw=> ?_
 exfalso;have hw:=(qlU h1 hn h l hl hle).1.wf;have ev:∀i,i<l.length→((at' l i).k=4→∀w,w∈(at' l i).rl∨w∈(at' l i).wl→w<9)∧((at' l i).k=1∨(at' l i).k=2→(at' l i).w=9+(at' l i).t):=fun i hi=>by
  have hm:(at' l i).m∈E:=by
   rw[←hl];refine zK.2 ⟨_,?_,rfl⟩;unfold at';rw[zh,z6 hi];exact yo _
  exact hev _ hm
 have e1:=ev x Y6;have e2:=ev y hy;have t1:=(hw.kd x Y6).2.2.1;have t2:=(hw.kd y hy).2.2.1
 rcases qb hx with ⟨a1,a2⟩|⟨a1,a2⟩
 ·have b1:=e1.2 a1
  rcases qb hyw with ⟨c1,c2⟩|⟨c1,c2⟩
  ·have b2:=e2.2 c1;exact ht (show(at' l x).t=(at' l y).t by omega)
  ·have b2:=e2.1 c1 w c2;have:0≤(at' l x).t:=t1;omega
 ·rcases qb hyw with ⟨c1,c2⟩|⟨c1,c2⟩
  ·have b1:=e1.1 a1 w a2;have b2:=e2.2 c1;have:0≤(at' l y).t:=t2;omega
  ·exact h44 ⟨a1,c1⟩
end
open Go Go.Proofs.YtbhbldllneadeaaGreatDoor.Ord
theorem qoB{c:Cfg}{il:List Int}{O:Nat}{ps:List (List Ins)}{l:List Nat}(hC:CfO c)(hn1:1≤ps.length)(hn:ps.length≤16)(hps:∀p∈ps,PrO p)(hpl:∀p∈ps,p.length≤64)(hP:∀(u:Nat) p,ps[u]? =some p→∀i∈p,PvP u i)(hil:(il.length:Int)=c.words)(hO:c.orecs=(O:Int))(hw:q4b il)(hl:∀t∈l,t<ps.length)(hlk:l.length≤1000):
  ∃g,qjT c il O ps l g:=by
 obtain⟨g,r,h1,h2,h3⟩:=qiC (P:=fun q _ r=>PvQ ps ps.length c q r) hC hn hps hpl hil hO hw PvQ.zero (fun k q g r t _ _ hp ht=>hp.safe hn ht hP) (fun k q g r t g' r' hk hR hp ht hkk _=>hp.step hC.hcw.2 hk hn hR ht hps hP hkk) hl hlk;have hle:(q10 c il O ps l).E.length≤65536:=by
  have a1:=h3.e.el;have a2:=h2.sl;omega
 exact⟨g,h1,hle,fun es hes=>qoC hn1 hn h3.e.tr hes (by have:=congrArg List.length hes;rw[zk] at this;omega) h3.ev,h3.e.tr.lb⟩
open Go
theorem qnS{f:Ins→Ins}(h:∀x,(f x).op=x.op):∀(l:List Ins) (k:Nat),q1k (l.map f) k=q1k l k
 | [],_=>rfl
 |x::l,k=>by
  rw[zF,q1k,q1k,h,qnS h l]
theorem qo0{f:Ins→Ins}(h:∀x,(f x).op=x.op)(n:Nat):∀(l:List Ins) (j t:Nat),q1L n (l.map f) j t=q1L n l j t
 | [],_,_=>rfl
 |x::l,j,t=>by
  rw[zF,q1L,q1L,h,qnS h l,qo0 h n l]
theorem qo5{g b:Int}{x:Ins}(h:q7P g b x=0):qS x=0:=by
 unfold q7P at h
 split at h
 ·exact h
 ·rename_i h1;exact Decidable.byContradiction h1
theorem qom{f:Ins→Ins}(h:∀x,(f x).op=x.op)(hc:∀x,qS x=0→qS (f x)=0)(hj:∀x,x.op=4∨x.op=5∨x.op=6→f x=x){p:List Ins}(hp:qw p=(0,0)):qw (p.map f)=(0,0):=by
 have key:∀(l:List Ins) (k:Nat) (b:Int),q0i (q0f p) l k b=(0,0)→q0i (q0f (p.map f)) (l.map f) k b=(0,0):=by
  intro l
  induction l with
  |nil=>intro k b hh;exact hh
  |cons x l ih=>
   intro k b hh;rw[q0i] at hh
   split at hh
   ·rename_i h1;exact absurd (congrArg Prod.snd hh) h1
   ·rename_i h1;have h2:q7P (q0f p k b x) b x=0:=Decidable.byContradiction h1;have hx:=qo5 h2;have hfx:=hc x hx;have htg:q0f (p.map f) k b (f x)=q0f p k b x:=by
     unfold q0f q0t q1z;rw[hx,hfx,h,zk,←List.map_drop,←List.map_drop,qnS h]
     by_cases h456:x.op=4∨x.op=5∨x.op=6
     ·rw[hj x h456,qo0 h]
     ·rw[if_neg (by simpa using h456),if_neg (by simpa using h456)]
    have hone:q7P (q0f (p.map f) k b (f x)) b (f x)=0:=by
     rw[htg];unfold q7P q1M at h2 ⊢;rw[hx] at h2;rw[hfx,h];exact h2
    rw[zF,q0i,if_neg (by rw[hone];decide)];have hn:q18 (f x) k b=q18 x k b:=by unfold q18;rw[h]
    rw[hn];exact ih (k+1) _ hh
 unfold qw at hp ⊢;rw[zk]
 split at hp
 ·cases hp
 ·rename_i h1;rw[if_neg h1];exact key p 0 (-1) hp
def pvI(t:Int)(x:Ins):Ins:=
 if x.op=12 then⟨x.op,x.a,7,x.c,9+t⟩ else if x.op=13 then⟨x.op,7,x.b,x.c,9+t⟩ else if x.op=10 then⟨x.op,x.a,7,x.c,x.imm⟩ else if x.op=11 then⟨x.op,7,x.b,x.c,x.imm⟩ else x
theorem qoO(t:Int)(x:Ins):(pvI t x).op=x.op:=by unfold pvI;(repeat' split) <;>rfl
theorem qoX(t:Int)(x:Ins)(h:qS x=0):qS (pvI t x)=0:=by
 unfold pvI
 by_cases h12:x.op=12
 ·rw[if_pos h12];unfold qS at*;rw[h12] at h ⊢;simp[q42,qlX,qlY,qlZ,q5g] at h ⊢;omega
 ·rw[if_neg h12]
  by_cases h13:x.op=13
  ·rw[if_pos h13];unfold qS at*;rw[h13] at h ⊢;simp[q42,qlX,qlY,qlZ,q5g] at h ⊢;omega
  ·rw[if_neg h13]
   by_cases h10:x.op=10
   ·rw[if_pos h10];unfold qS at*;rw[h10] at h ⊢;simp[q42,qlX,qlY,qlZ,q5g] at h ⊢;omega
   ·rw[if_neg h10]
    by_cases h11:x.op=11
    ·rw[if_pos h11];unfold qS at*;rw[h11] at h ⊢;simp[q42,qlX,qlY,qlZ,q5g] at h ⊢;omega
    ·rw[if_neg h11];exact h
theorem qpf(t:Int)(x:Ins)(h:x.op=4∨x.op=5∨x.op=6):pvI t x=x:=by
 unfold pvI;rw[if_neg Y6,if_neg Y6,if_neg Y6,if_neg Y6]
theorem qpe(t:Nat)(x:Ins)(h:Pv.smI x):PvP t (pvI t x):=by
 obtain⟨h1,h2,h3⟩:=h;unfold pvI
 by_cases h12:x.op=12
 ·rw[if_pos h12];exact⟨fun _=>⟨rfl,rfl⟩,fun e=>absurd (show x.op=13 from e) Y6,fun e=>absurd (show x.op=10 from e) Y6,fun e=>absurd (show x.op=11 from e) Y6,fun _=>by dsimp only;omega⟩
 ·rw[if_neg h12]
  by_cases h13:x.op=13
  ·rw[if_pos h13];exact⟨fun e=>absurd (show x.op=12 from e) Y6,fun _=>⟨rfl,rfl⟩,fun e=>absurd (show x.op=10 from e) Y6,fun e=>absurd (show x.op=11 from e) Y6,fun e=>absurd (show x.op=1∨x.op=2∨x.op=3∨x.op=10∨x.op=12∨x.op=17 from e) Y6⟩
  ·rw[if_neg h13]
   by_cases h10:x.op=10
   ·rw[if_pos h10];have:=h3 (.inl h10);exact⟨fun e=>absurd (show x.op=12 from e) Y6,fun e=>absurd (show x.op=13 from e) Y6,fun _=>⟨rfl,by dsimp only;omega,by dsimp only;omega⟩,fun e=>absurd (show x.op=11 from e) Y6,fun _=>by dsimp only;omega⟩
   ·rw[if_neg h10]
    by_cases h11:x.op=11
    ·rw[if_pos h11];have:=h3 (.inr h11);exact⟨fun e=>absurd (show x.op=12 from e) Y6,fun e=>absurd (show x.op=13 from e) Y6,fun e=>absurd (show x.op=10 from e) Y6,fun _=>⟨rfl,by dsimp only;omega,by dsimp only;omega⟩,fun e=>absurd (show x.op=1∨x.op=2∨x.op=3∨x.op=10∨x.op=12∨x.op=17 from e) Y6⟩
    ·rw[if_neg h11];exact⟨fun e=>absurd e Y6,fun e=>absurd e Y6,fun e=>absurd e Y6,fun e=>absurd e Y6,fun _=>by omega⟩
def cfP:Cfg:=⟨12,4,0,0,0,0,0,8,8,0,0,100,false⟩
theorem qpb:CfO cfP:=⟨Y7,Y7,Y7,rfl,Y7,qgE Y7 Y7 Y7⟩
theorem qpj{il:List Int}{qs ps:List (List Ins)}{l:List Nat}(hl:(il.length:Int)=12)(hi:∀x∈il,0≤x∧x≤3)(hn:1≤ps.length∧ps.length≤3)(hps:∀p∈ps,qbx p=(0,0)∧p.length≤14∧∀y∈p,Pv.rngPV false y)(hq:qs.length=ps.length)(hqs:∀(t:Nat) p,ps[t]? =some p→qs[t]? =some (p.map (pvI t)))(hk:l.length≤1000)(hlt:∀t∈l,t<qs.length):qm4 cfP il 4 qs l∧∃g,qjT cfP il 4 qs l g:=by
 have hiw:q4b il:=fun x hx=>by have:=hi x hx;unfold okU;omega
 have hat:∀(t:Nat) q,qs[t]? =some q→∃p,p∈ps∧q=p.map (pvI t):=fun t q h=>by
  have ht:=(z7.1 h).1;rw[hq] at ht;have:=hqs t _ (z6 ht);rw[h] at this;cases this;exact⟨_,yo ht,rfl⟩
 have hpr:∀q∈qs,PrO q∧q.length≤64:=fun q hm=>by
  obtain⟨t,ht,rfl⟩:=ZO hm;obtain⟨p,hp,e⟩:=hat t _ (z6 ht);obtain⟨h1,h2,h3⟩:=hps p hp;rw[e];refine⟨⟨qom (qoO t) (qoX t) (qpf t) ((qeh p).trans h1),fun i hi=> ?_⟩,by rw[zk];omega⟩;obtain⟨y,hy,rfl⟩:=zK.1 hi;rw[qoO];have:=(h3 y hy).2;exact⟨fun e=>absurd (this (.inl e)) Y7,fun e=>absurd (this (.inr e)) Y7⟩
 have hil0:il≠ []:=fun e=>by rw[e] at hl;exact absurd hl Y7
 refine⟨⟨Y7,⟨rfl,rfl,rfl,rfl⟩,Y7,hl,hil0,Y6,hiw,rfl,Y7,Y6,Y6,fun q hm=>(hpr q hm).1.ck,fun q hm=>Zl (hpr q hm).2 Y7,hk,hlt⟩,?_⟩;refine qoB qpb Y6 Y6 (fun q hm=>(hpr q hm).1) (fun q hm=>(hpr q hm).2) (fun t q h i hi=> ?_) hl rfl hiw hlt hk;obtain⟨p,hp,rfl⟩:=hat t q h;obtain⟨y,hy,rfl⟩:=zK.1 hi;exact qpe t y ((hps p hp).2.2 y hy).1
def qpa(ls:List IH)(b:Nat)(i:Nat)(n:Int):Prop:=i≤3→(b:Int)≤n∧n≤b+i*17592186043904∧∀h∈ls.take i,(h.l.length:Int)≤n
theorem qpa.next{ls:List IH}{b i:Nat}{n:Int}{x:IH}(h:qpa ls b i n)(hb:b≤17592186043904)(hx:ls[i]? =some x)(hl:x.l.length≤17592186043904):qpa ls b (i+1) (IntKind.i64.wrap (n+x.l.length)):=fun hi=>by
 obtain⟨h0,h1,h2⟩:=h Y6;rw[qah Y6 Y6];refine⟨Y6,Y6,fun y hy=> ?_⟩;rw[zZ,hx] at hy
 rcases zz.1 hy with hy|hy
 ·have:=h2 y hy;omega
 ·rw[zf.1 hy];omega
section
variable{W0:World}{own:Own}{la pka:Option Addr}{lc pkc:Nat}{ls:List IH}{pks:List Int}
theorem qoF(m:Int)(hL:RdE IH.enc 1 W0 own la ls)(hll:ls.length≤17592186043904)(hQ:∀h∈ls,h.l.length≤17592186043904)(hpl:pks.length≤17592186043904):
  qt Tryz.prog W0 9 [.slice la ls.length lc, .slice pka pks.length pkc, .int .i64 m] own fun v own'=>∃z:Bool,(v= .bool z∧(z=true→ls.length≤3∧(pks.length:Int)≤m∧∀h∈ls,(h.l.length:Int)≤m))∧Ent W0 own' own:=by
 refine sH [] ?_;refine qX (σ:=Nat×Int) (fun y=> [(7, .int .i64 y.2),(8, .int .i64 y.1)]) (fun _=>own)
  (fun y=>y.1≤ls.length∧qpa ls pks.length y.1 y.2) (fun y=>ls.length-y.1) (0,(pks.length:Int)) ⟨zq _,fun _=>⟨zW _,Y8,fun _ h=>(by cases h)⟩⟩ (eF) Ent.refl rfl ?_
 rintro⟨i,n⟩ junk ⟨hi,hS⟩;dsimp only at hi hS ⊢
 by_cases hil:i<ls.length
 ·obtain⟨x,hx⟩:∃x,ls[i]? =some x:=⟨_,z6 hil⟩
  have hxl:=hQ x (zg hx);have hSn:=hS.next hpl hx hxl;obtain⟨xa,xc,xl⟩:=x
  repeat'((try(conv=>whnf));first|(refine fF ?_)|(refine fB ?_)|(refine arw ?_)|((apply gLd);first|(refine q0r hL hx rfl ?_))|((apply qJ);first|((refine ixE hL hx ?_ ?_;(first|rfl|omega)))))
  exact⟨(i+1,_),⟨hil,hSn⟩,(by show ls.length-(i+1)<ls.length-i;omega),(eF),Ent.refl⟩
 ·have hiN:i=ls.length:=Y6;subst hiN
  by_cases hc:(ls.length:Int)≤3
  ·obtain⟨hn0, -,hn2⟩:=hS Y6
   repeat'((try(conv=>whnf));first|(refine fH ?_)|(refine fG ?_)|(refine fJ ?_))
   all_goals exact⟨decide (n≤m),⟨rfl,fun hz=>by
    have hn:n≤m:=of_decide_eq_true hz;exact⟨Y6,Y6,fun h hh=>by have:=hn2 h (by rw[yb Y6];exact hh);omega⟩⟩,(eC)⟩
  ·repeat'((try(conv=>whnf));first|(refine fI ?_)|(refine fG ?_)|(refine fK ?_))
   all_goals exact⟨false,⟨rfl,fun h=>(by cases h)⟩,(eC)⟩
end
def qnR(ps qs:List PB)(i:Nat):Prop:=qs.length=ps.length∧∀(j:Nat) x,ps[j]? =some x→∃y,qs[j]? =some y∧y.ok∧y.h.a=x.h.a∧y.h.cap=x.h.cap∧y.h.p=if j<i then x.h.p.map (pvI j) else x.h.p
theorem qp6{p:List Ins}{k:Nat}{z:Ins}{f:Ins→Ins}(h:p[k]? =some z):((p.take k).map f++p.drop k)[k]? =some z:=by
 have hk:=(z7.1 h).1;rw[zP (by rw[zk,zU];omega),zk,zU,yS Y6,y0,yw,Zy];exact h
theorem qp7{p:List Ins}{k:Nat}{f:Ins→Ins}(h:k≤p.length):((p.take k).map f++p.drop k).length=p.length:=by
 rw[z8,zk,zU,ZJ];omega
theorem qoU{p:List Ins}{k:Nat}{z:Ins}{f:Ins→Ins}(h:p[k]? =some z):((p.take k).map f++p.drop k).set k (f z)=(p.take (k+1)).map f++p.drop (k+1):=by
 have hk:=(z7.1 h).1;have hl:((p.take k).map f).length=k:=by rw[zk,zU];omega
 rw[ZH _ _ Y6,hl,y0,q4q h,Y1,zZ,h,zH,zd];rfl
theorem qoV{p:List Ins}{k:Nat}{z:Ins}{f:Ins→Ins}(h:p[k]? =some z)(e:f z=z):(p.take k).map f++p.drop k=(p.take (k+1)).map f++p.drop (k+1):=by
 rw[q4q h,zZ,h,zH,zd];show _=_++([f z]++_)
 rw[e];rfl
theorem qo6{A B:List PB}{y:PB}:qb7 (A++y::B)=qb7 A++(y.D++qb7 B):=by simp[qb7]
open Go Go.Proofs.YtbhbldllneadeaaGreatDoor.Ord
theorem qnR.zero{ps:List PB}(h:∀x∈ps,x.ok):qnR ps ps 0:=⟨rfl,fun j x hx=>⟨x,hx,h x (zg hx),rfl,rfl,by rw[if_neg (Nat.not_lt_zero _)]⟩⟩
theorem qnR.next{ps A B:List PB}{x y:PB}{D:Own}{i:Nat}(h:qnR ps (A++y::B) i)(hA:A.length=i)(hx:ps[i]? =some x)(hB:qu Ins.enc 40 5 x.h.a x.h.cap (x.h.p.map (pvI i)) D):qnR ps (A++(⟨⟨x.h.a,x.h.cap,x.h.p.map (pvI i)⟩,D⟩:PB)::B) (i+1):=by
 refine⟨by rw[←h.1,z8,z8,zG,zG],fun j z hz=> ?_⟩
 by_cases hj:j=i
 ·subst hj;rw[hx] at hz;cases hz;refine⟨⟨⟨x.h.a,x.h.cap,x.h.p.map (pvI j)⟩,D⟩,by rw[zP Y6,hA,y0];rfl,hB,rfl,rfl,by rw[if_pos Y6]⟩
 ·obtain⟨w,hw,h1,h2,h3,h4⟩:=h.2 j z hz;refine⟨w,?_,h1,h2,h3,?_⟩
  ·by_cases hlt:j<A.length
   ·rw[zy hlt] at hw ⊢;exact hw
   ·rw[zP Y6] at hw ⊢;obtain⟨q,hq⟩:∃q,j-A.length=q+1:=⟨j-A.length-1,Y6⟩
    rw[hq] at hw ⊢;exact hw
  ·rw[h4]
   by_cases hji:j<i
   ·rw[if_pos hji,if_pos Y6]
   ·rw[if_neg hji,if_neg Y6]
theorem qnR.enc{ps qs:List PB}{i:Nat}(h:qnR ps qs i):(qs.map PB.h).map PH.enc=(ps.map PB.h).map PH.enc:=by
 refine Zf fun j=> ?_
 simp only[zI]
 by_cases hj:j<ps.length
 ·obtain⟨x,hx⟩:∃x,ps[j]? =some x:=⟨_,z6 hj⟩
  obtain⟨y,hy,_,h2,h3,h4⟩:=h.2 j x hx;rw[hx,hy];simp only[Zu];unfold PH.enc;have hl:y.h.p.length=x.h.p.length:=by
   rw[h4]
   split
   ·exact zk ..
   ·rfl
  rw[h2,h3,hl]
 ·have:=h.1;rw[zX Y6,zX Y6]
theorem qoA{W0:World}{l:List PB}{x:PB}(h:x∈l):Ent W0 (qb7 l) x.D:=by
 obtain⟨l1,l2,rfl⟩:=ZS h;rw[qo6];exact Ent.right.trans Ent.left
section
variable{W0:World}{own:Own}{la pka:Option Addr}{lc pkc:Nat}{ls:List IH}{pks:List Int}
theorem qnU(hF:qC W0)(hN:q12 W0 0 noneV)(hL:RdE IH.enc 1 W0 own la ls)(hll:ls.length≤17592186043904)(hQ:∀h∈ls,RdE qx 1 W0 own h.a h.l∧h.l.length≤17592186043904)(hP:RdE qx 1 W0 own pka pks)(hpl:pks.length≤17592186043904):
  qE Tryz.prog W0 4 [.slice la ls.length lc, .slice pka pks.length pkc] own (.bool true):=by
 refine qg (sH [] ?_);have haw:=fun own=>qjM (W0:=W0) hF hN own
 have hsm:=qoF (W0:=W0) (own:=own) (lc:=lc) (pka:=pka) (pkc:=pkc) (pks:=pks) 260 hL hll (fun h hh=>(hQ h hh).2) hpl
 repeat'((try(conv=>whnf));first|((apply qe);first|((refine qi hsm (fun z v hv=> ?_);(apply Stop.h)))))
 obtain⟨rfl,hz⟩:=hv;refine Stop.mk ?_;cases z with
 |false=>
  repeat'((try(conv=>whnf));first|(refine fE ?_)|((apply qe);first|((refine qd (haw _) ?_))))
  all_goals exact⟨rfl,(eC)⟩
 |true=>
  obtain⟨h3,h260,hl260⟩:=hz rfl;have hsc:=fun(own':Own) (m:qv own' own)=>Pv.sp_script2V (W0:=W0) (own:=own') (c:=cfP) (lc:=lc) (pkc:=pkc) (2+(ls.length:Int) % 2) 14 false true Y7 Y6 Y7 hL.up (fun h hh=>⟨(hQ h hh).1.up,by have:=hl260 h hh;omega⟩) hP.up Y6
  obtain⟨n,hn⟩:∃n:Nat,2+(ls.length:Int) % 2=n:=⟨(2+(ls.length:Int) % 2).toNat,Y6⟩
  repeat'((try(conv=>whnf));first|(refine fD ?_)|((apply qe);first|(((refine q0w.mk fun w hw=> ?_);refine(hsc _ Y9 w hw).mono ?_;rintro e w' ⟨v,own',he,hs,ia,il,ic,Di,pa,ps,pc,Dp,ka,ks,kc,Dk,rfl,hI,hPs,hKs,hps,hil,hi3,hpn,hkn,hkr,hE⟩;refine⟨_,_,he,hE _ hs,?_⟩;clear he hs hE e w' hw w own';(apply Stop.h))))|(refine fB ?_)|(refine q8A ?_ ?_;omega))
  refine Stop.mk ?_
  repeat'((try(conv=>whnf));first|(refine qf (fun bk hbk=> ?_))|(refine fM ?_))
  have hPR:=hPs.rd (W0:=W0);have hps3:ps.length=n:=Y6;refine qX (σ:=Nat×List PB) (fun s=> [(7, .int .i64 s.1)]) (fun s=>(bk,scP cfP (.slice ia il.length ic) (.slice pa ps.length pc) (.slice ka ks.length kc))::(Dk++(Dp++(qb7 s.2++(Di++own))))) (fun s=>s.1≤n∧qnR ps s.2 s.1) (fun s=>n-s.1) (0,ps) ⟨zq _,qnR.zero fun x hx=>(hps x hx).1⟩ (eF) sbE rfl ?_;rintro⟨i,qs⟩ junk ⟨hi,hM⟩;dsimp only at hi hM ⊢
  by_cases hlt:i<n
  ·have hlt':(i:Int)<2+(ls.length:Int) % 2:=Y6;obtain⟨x,hx⟩:∃x,ps[i]? =some x:=⟨_,z6 Y6⟩
   have hxP:(ps.map PB.h)[i]? =some x.h:=by rw[zI,hx];rfl
   obtain⟨y,hy,hyo,hya,hyc,hyp⟩:=hM.2 i x hx;rw[if_neg (Nat.lt_irrefl _)] at hyp;obtain⟨A,B,rfl,hA⟩:∃A B,qs=A++y::B∧A.length=i:=⟨qs.take i,qs.drop (i+1),by rw[←q4q hy,ye],by have:=(z7.1 hy).1;rw[zU];omega⟩
   have hyB:qu Ins.enc 40 5 x.h.a x.h.cap x.h.p y.D:=by have:=hyo;unfold PB.ok at this;rw[hya,hyc,hyp] at this;exact this
   obtain⟨⟨xa,xcp,xp⟩,xD⟩:=x;dsimp only at hyB hxP hya hyc hyp;have hx64:xp.length≤14:=by have:=(hps _ (zg hx)).2.2.1;dsimp only at this;omega
   rw[qo6];simp only[zd];have hixp:∀{K:Addr→Prop} (_:K ⟨ab pa,ao pa+i*1,none⟩),IxS pa 1 (i:Int) ps.length K:=fun hK=>qp5 hPR hxP (zk ..).symm rfl hK
   repeat'((try(conv=>whnf));first|(refine fF ?_)|(refine hixp ?_)|((apply gLd);first|(refine q0r hPR hxP rfl ?_))|(refine fA ?_))
   refine qX (σ:=Nat×Own) (fun s=> [(9, .int .i64 s.1)]) (fun s=>(bk,scP cfP (.slice ia il.length ic) (.slice pa ps.length pc) (.slice ka ks.length kc))::(Dk++(Dp++(qb7 A++(s.2++(qb7 B++(Di++own))))))) (fun s=>s.1≤xp.length∧qu Ins.enc 40 5 xa xcp ((xp.take s.1).map (pvI i)++xp.drop s.1) s.2) (fun s=>xp.length-s.1) (0,y.D) ⟨zq _,hyB⟩ (eF) sbE rfl ?_;rintro⟨k,D⟩ junk2 ⟨hk,hB⟩;dsimp only at hk hB ⊢
   by_cases hkl:k<xp.length
   ·have hkl':(k:Int)<xp.length:=Y6;obtain⟨z,hz⟩:∃z,xp[k]? =some z:=⟨_,z6 hkl⟩
    have hz1:=qp6 (f:=pvI i) hz;have hBR:=hB.rd (W0:=W0);have hnx:=qoU (f:=pvI i) hz;have hln:=qp7 (f:=pvI i) (Nat.le_of_lt hkl);have hkx:k<((xp.take k).map (pvI i)++xp.drop k).length:=Y6;have hop:z.op=12∨z.op=13∨z.op=10∨z.op=11∨(z.op≠12∧z.op≠13∧z.op≠10∧z.op≠11):=Y6;obtain⟨zo,za,zb,zc,zi⟩:=z;dsimp only at hop;have hms:=qoV (f:=pvI i) hz;generalize (xp.take k).map (pvI i)++xp.drop k=l' at hB hz1 hBR hnx hms hln hkx ⊢;have hixx:∀{K:Addr→Prop} (_:K ⟨ab xa,ao xa+k*5,none⟩),IxS xa 5 (k:Int) xp.length K:=fun hK=>qp5 hBR hz1 hln.symm rfl hK
    rcases hop with rfl|rfl|rfl|rfl|⟨h1,h2,h3,h4⟩
    ·have hz2:(l'.set k ⟨12,za,7,zc,zi⟩)[k]? =some ⟨12,za,7,zc,zi⟩:=Ze hkx
     repeat'((try(conv=>whnf));first|(refine fE ?_)|(refine fF ?_)|(refine hixx ?_)|(refine q3o (k:=4) ⟨12,za,7,zc,9+(i:Int)⟩ hb1 hz2 rfl Y7 rfl rfl (fun D2 hb2=> ?_))|(refine q3o (k:=2) ⟨12,za,7,zc,zi⟩ hB hz1 rfl Y7 rfl rfl (fun D1 hb1=> ?_))|((apply gLd);first|(refine q0r hBR hz1 rfl ?_))|(refine fB ?_))
     all_goals
      rw[yc] at hb2;rw[show pvI (i:Int) ⟨12,za,zb,zc,zi⟩=⟨12,za,7,zc,9+(i:Int)⟩ from rfl] at hnx;exact⟨(k+1,D2),⟨hkl,by rw[←hnx];exact hb2⟩,by simp only;omega,(eF),sbE⟩
    ·have hz2:(l'.set k ⟨13,7,zb,zc,zi⟩)[k]? =some ⟨13,7,zb,zc,zi⟩:=Ze hkx
     repeat'((try(conv=>whnf));first|(refine fE ?_)|(refine fD ?_)|(refine fF ?_)|(refine hixx ?_)|(refine q3o (k:=4) ⟨13,7,zb,zc,9+(i:Int)⟩ hb1 hz2 rfl Y7 rfl rfl (fun D2 hb2=> ?_))|(refine q3o (k:=1) ⟨13,7,zb,zc,zi⟩ hB hz1 rfl Y7 rfl rfl (fun D1 hb1=> ?_))|((apply gLd);first|(refine q0r hBR hz1 rfl ?_))|(refine fB ?_))
     all_goals
      rw[yc] at hb2;rw[show pvI (i:Int) ⟨13,za,zb,zc,zi⟩=⟨13,7,zb,zc,9+(i:Int)⟩ from rfl] at hnx;exact⟨(k+1,D2),⟨hkl,by rw[←hnx];exact hb2⟩,by simp only;omega,(eF),sbE⟩
    ·repeat'((try(conv=>whnf));first|(refine fE ?_)|(refine fD ?_)|(refine fF ?_)|(refine hixx ?_)|(refine q3o (k:=2) ⟨10,za,7,zc,zi⟩ hB hz1 rfl Y7 rfl rfl (fun D1 hb1=> ?_))|((apply gLd);first|(refine q0r hBR hz1 rfl ?_))|(refine fB ?_))
     all_goals
      rw[show pvI (i:Int) ⟨10,za,zb,zc,zi⟩=⟨10,za,7,zc,zi⟩ from rfl] at hnx;exact⟨(k+1,D1),⟨hkl,by rw[←hnx];exact hb1⟩,by simp only;omega,(eF),sbE⟩
    ·repeat'((try(conv=>whnf));first|(refine fE ?_)|(refine fD ?_)|(refine fF ?_)|(refine hixx ?_)|(refine q3o (k:=1) ⟨11,7,zb,zc,zi⟩ hB hz1 rfl Y7 rfl rfl (fun D1 hb1=> ?_))|((apply gLd);first|(refine q0r hBR hz1 rfl ?_))|(refine fB ?_))
     all_goals
      rw[show pvI (i:Int) ⟨11,za,zb,zc,zi⟩=⟨11,7,zb,zc,zi⟩ from rfl] at hnx;exact⟨(k+1,D1),⟨hkl,by rw[←hnx];exact hb1⟩,by simp only;omega,(eF),sbE⟩
    ·have e:pvI (i:Int) ⟨zo,za,zb,zc,zi⟩=⟨zo,za,zb,zc,zi⟩:=by
      unfold pvI;dsimp only;rw[if_neg h1,if_neg h2,if_neg h3,if_neg h4]
     have hm2:=hms e
     repeat'((try(conv=>whnf));first|(refine fF ?_)|(refine fG ?_)|(refine hixx ?_)|((apply gLd);first|(refine q0r hBR hz1 rfl ?_))|(refine fB ?_))
     all_goals exact⟨(k+1,D),⟨hkl,by rw[←hm2];exact hB⟩,by simp only;omega,(eF),sbE⟩
   ·obtain rfl:k=xp.length:=Y6;have hkl':¬(xp.length:Int)<xp.length:=Y6;rw[Z4,ZQ,zC] at hB;have hMn:=hM.next (x:=⟨⟨xa,xcp,xp⟩,xD⟩) hA hx hB
    repeat'((try(conv=>whnf));first|(refine fG ?_)|(refine fB ?_))
    all_goals exact⟨(i+1,A++(⟨⟨xa,xcp,xp.map (pvI i)⟩,D⟩:PB)::B),⟨hlt,hMn⟩,by simp only;omega,(eF),by dsimp only;rw[qo6];simp only[zd];exact sbE⟩
  ·obtain rfl:i=n:=Y6;have hlt':¬(i:Int)<2+(ls.length:Int) % 2:=Y6;have hln:(qs.map PB.h).length=ps.length:=by rw[zk];exact hM.1
   have hpp:∀(t:Nat) p,((ps.map PB.h).map PH.p)[t]? =some p→((qs.map PB.h).map PH.p)[t]? =some (p.map (pvI t)):=fun t p hp=>by
    rw[yE,zI] at hp;obtain⟨x,hx,rfl⟩:=Zc.1 hp;obtain⟨y,hy,_,_,_,hyp⟩:=hM.2 t x hx;rw[if_pos (by have:=(z7.1 hx).1;omega)] at hyp;rw[yE,zI,hy];show some y.h.p=_;rw[hyp];rfl
   have hkl:(ks.map Int.toNat).length=ks.length:=zk ..;have hkk:((ks.map Int.toNat).map fun t=>((t:Nat):Int))=ks:=by
    rw[yE]
    conv=>rhs;rw[←List.map_id ks]
    refine List.map_congr_left fun z hz=> ?_
    show((z.toNat:Nat):Int)=z;have:=(hkr z hz).1;omega
   have hl1:((ps.map PB.h).map PH.p).length=ps.length:=by rw[zk,zk]
   have hl2:((qs.map PB.h).map PH.p).length=ps.length:=by rw[zk];exact hln
   obtain⟨hs,hq⟩:=qpj (il:=il) (qs:=(qs.map PB.h).map PH.p) (ps:=(ps.map PB.h).map PH.p) (l:=ks.map Int.toNat) hil hi3 Y6 (fun p hp=>by
    rw[yE] at hp;obtain⟨x,hx,rfl⟩:=zK.1 hp;obtain⟨_,h1,h2,h3⟩:=hps x hx;exact⟨h1,by show x.h.p.length≤14;omega,h3⟩) Y6 hpp Y6 (fun t ht=>by
    obtain⟨z,hz,rfl⟩:=zK.1 ht;have:=hkr z hz;omega)
   have hPq:=hPR.same hM.enc;have hIR:=hI.rd (W0:=W0);have hKR:=hKs.rd (W0:=W0);have hqt:=fun(own':Own) (m1:qv own' Di) (m2:qv own' Dp) (m3:qv own' (qb7 qs)) (m4:qv own' Dk)=>qlu (W0:=W0) (own:=own') (c:=cfP) (ia:=ia) (ic:=ic) (pa:=pa) (pc:=pc) (ka:=ka) (kc:=kc) (l:=ks.map Int.toNat) hF hN hs hq hIR.up hPq.up (fun h hh=>by
    obtain⟨y,hy,rfl⟩:=zK.1 hh;obtain⟨t,ht,rfl⟩:=ZO hy;obtain⟨w,hw,h1,_⟩:=hM.2 t _ (z6 (by have:=hM.1;omega));rw[z6 ht] at hw;cases hw;exact((h1.rd (W0:=W0)).ent (qoA hy)).up) (by rw[hkk];exact hKR.up)
   rw[hln,hkk] at hqt
   repeat'((try(conv=>whnf));first|(refine fH ?_)|(refine fG ?_)|((apply qe);first|((refine qd (hqt _ Y9 Y9 Y9 Y9) ?_))|((refine qd (haw _) ?_)))|(refine fL ?_))
   all_goals exact⟨rfl,(eC)⟩
end
open Go Go.ChangeShapes Go.WideShapes Go.ChangeAt Go.RowKit
theorem qoo{W:World}(h:laidMetH Tryz.prog [("strongtx/tdrf.none",Rows.laid_strongtx_tdrf_none),("strongtx/isa.forms",Rows.laid_strongtx_isa_forms)] W):qC W:=
 qor (d:=Rows.laid_strongtx_isa_forms) (g:=1) (t:=310) (cs:=qkP) (by kernel_rfl) h (List.Mem.tail _ (List.Mem.head _)) (by kernel_rfl) (by kernel_rfl) (by kernel_rfl) (by kernel_rfl) (by simp[qkP])
theorem qoW{W:World}(h:laidMetH Tryz.prog [("strongtx/tdrf.none",Rows.laid_strongtx_tdrf_none),("strongtx/isa.forms",Rows.laid_strongtx_isa_forms)] W):q12 W 0 Ord.noneV:=
 qor (d:=Rows.laid_strongtx_tdrf_none) (g:=0) (t:=46) (cs:=Ord.noneV) (by kernel_rfl) h (List.Mem.head _) (by kernel_rfl) (by kernel_rfl) (by kernel_rfl) (by kernel_rfl) (by simp[Ord.noneV])
section
variable{H:Type}{enc:TypeId×Value→H}{P:Program}{w:World}{spare:Nat→Bool}{held:Bool}{q:Nat→Bool}
theorem q3{t:TypeId}{ts:List TypeId}{d:DataW H}{ds:List (DataW H)}(h:(DataW.weightsEach P (t::ts) (d::ds)).all q=true):(d.weights P t).all q=true∧(DataW.weightsEach P ts ds).all q=true:=by
 simpa only[DataW.weightsEach,List.all_append,zx] using h
theorem qq{e:TypeId}:∀{E:List (DataW H)} {d:DataW H},(DataW.weightsAll P e E).all q=true→d∈E→(d.weights P e).all q=true
 | [],_,_,hd=>by cases hd
 |c::r,d,h,hd=>by
  simp only[DataW.weightsAll,List.all_append,zx] at h
  rcases zQ.1 hd with rfl|hd
  ·exact h.1
  ·exact qq h.2 hd
theorem qoe{α:Type}{en:α→List Value}{sz:Nat}{Φ:α→Prop}{fuel:Nat}{t e:TypeId}{cs:List Value}{x:DataW H×List MemPlace}(ht:P.underlying t=some (.slice e))(hsz:P.cellsOf e=sz)(hpos:0<sz)
  (hel:∀n cs x,DataW.trod enc P w 0 spare held n e cs=some x→(x.1.weights P e).all q=true→∃y,cs=en y∧Φ y) (h:DataW.trod enc P w 0 spare held fuel t cs=some x) (hw:(x.1.weights P t).all q=true):
  ∃a l cap,cs= [.slice a l.length cap]∧RdE en sz w [] a l∧(∀y∈l,Φ y)∧l.length≤cap∧(l= []∨∃k,q ((l.length+k)*P.bytesOf e)=true):=by
 rcases DataW.trod_slice ht h with ⟨rfl,_⟩|⟨a,len,cap,elems,rest,n,_,rfl,rfl,_,hl,_,hlen,hel',_⟩
 ·exact⟨none,[],0,rfl,RdE.nil,fun _ h=>(by cases h),Y8, .inl rfl⟩
 ·simp only[DataW.weights,ht,List.all_cons,List.all_append,zx,zk] at hw;obtain⟨hw1,hw2,_⟩:=hw;have key:∀i,i<len→∃y,(w.cells? 0 (a.add (i*sz)) sz=some (en y))∧Φ y:=fun i hi=>by
   have:=hel' i hi;rw[hsz] at this;have hi':i<elems.length:=Y6;rw[z6 hi',Option.bind_eq_some_iff] at this;obtain⟨c,hc,hx⟩:=this;obtain⟨y,rfl,hy⟩:=hel _ _ _ hx (qq hw2 (y2 (yo hi')));exact⟨y,hc,hy⟩
  obtain⟨l,hll,hq⟩:=qos len key;have hget:∀{j k:Nat} {y:α} {v:Value},l[j]? =some y→(en y)[k]? =some v→w.cell? ((a.add (j*sz)).add k)=some v∧(en y).length=sz:=fun{j k y v} hy hv=>by
   obtain⟨hc,_⟩:=hq j y hy;obtain⟨_,hlen,hget⟩:=World.cells?_some hc;have hk:=(z7.1 hv).1;exact⟨(hget k Y6).trans hv,hlen⟩
  have hspot:l≠ []→a.spot=none:=fun hne=>by
   cases l with
   |nil=>exact absurd rfl hne
   |cons y r=>
    obtain⟨hc,_⟩:=hq 0 y rfl;obtain⟨_,hlen,hget⟩:=World.cells?_some hc;have h0:=hget 0 hpos;rw[z6 Y6] at h0;rw[Nat.zero_mul] at h0;have e0:(a.add 0).add 0=a:=by simp[Addr.add]
    rw[e0] at h0;unfold World.cell? at h0
    split at h0
    ·split at h0
     ·cases h0
     ·rename_i hs;simpa using hs
    ·cases h0
  refine⟨some a,l,cap,by rw[hll],⟨fun hne=> ?_,fun y hy=> ?_,fun{j k y v} hy hv=> ?_⟩,fun y hy=> ?_,Y6, .inr ⟨rest.length,by rw[hll,←hlen];exact hw1⟩⟩
  ·have:=hspot hne;obtain⟨b,o,s⟩:=a;simp only at this;subst this;rfl
  ·obtain⟨i,hi⟩:=ZY hy;obtain⟨hc,_⟩:=hq i y hi;exact(World.cells?_some hc).2.1
  ·obtain⟨hc,_⟩:=hget hy hv;have hs:=hspot (by intro e;subst e;simp at hy);have he:(a.add (j*sz)).add k=⟨ab (some a),ao (some a)+j*sz+k,none⟩:=by
    obtain⟨b,o,s⟩:=a;simp only at hs;subst hs;rw[qO,qO];rfl
   rw[he] at hc;exact qoR hc
  ·obtain⟨i,hi⟩:=ZY hy;exact(hq i y hi).2
end
section
variable{H:Type}{enc:TypeId×Value→H}{w:World}{spare:Nat→Bool}{held:Bool}{v:Value}{d:DataW H}{p:List MemPlace}
theorem qoM{cs:Array Value}{v x:Value}(h:v.cells=cs)(hc:cs.toList= [x])(hx:∀a,v≠ .agg a):v=x:=by
 unfold Value.cells at h
 split at h
 ·rename_i a;exact absurd rfl (hx a)
 ·subst h;simpa using hc
theorem qo1{P:Program}{w:World}{b0:Nat}{t e:TypeId}{v:Value}(ht:P.underlying t=some (.slice e))(h:Value.okWide P w .any b0 t v):∀a,v≠ .agg a:=by
 intro a e;subst e;simp only[Value.okWide,ht,Cell.okWide,Cell.ok] at h
theorem qoJ{fuel:Nat}{cs:List Value}{x:DataW H×List MemPlace}(h:DataW.trod enc Tryz.prog w 0 spare held fuel 22 cs=some x)(hw:(x.1.weights Tryz.prog 22).all (· ≤reachBytes)=true):
  ∃a l cap,cs= [.slice a (List.length l) cap]∧RdE qx 1 w [] a l∧l.length≤17592186043904:=by
 obtain⟨a,l,cap,e,hr,_,_,hk⟩:=qoe (q:=(· ≤reachBytes)) (en:=qx) (sz:=1) (Φ:=fun _=>True) Tryz.underlying22 (by kernel_rfl) Y6 (fun n cs x h _=>by
  obtain⟨n,rfl,_⟩:=qoG Tryz.underlying3 h;exact⟨n,rfl,trivial⟩) h hw
 refine⟨a,l,cap,e,hr,?_⟩
 rcases hk with rfl|⟨k,hk⟩
 ·simp
 ·have h8:Tryz.prog.bytesOf 3=8:=by kernel_rfl
  rw[h8] at hk;have hk:=of_decide_eq_true hk;have h9:reachBytes=140737488351232:=rfl;rw[h9] at hk;omega
theorem qpd{b0:Nat}(hv:Value.okWide Tryz.prog w .any b0 35 v)(ht:DataW.Trod enc Tryz.prog w 0 spare held 35 v d p)(hw:(d.weights Tryz.prog 35).all (· ≤reachBytes)=true):
  ∃a l cap,v= .slice a (List.length l) cap∧RdE IH.enc 1 w [] a l∧l.length≤17592186043904∧∀h∈l,RdE qx 1 w [] h.a h.l∧h.l.length≤17592186043904:=by
 obtain⟨fuel,h⟩:=ht;obtain⟨a,l,cap,e,hr,hq,_,hk⟩:=qoe (q:=(· ≤reachBytes)) (en:=IH.enc) (sz:=1) (Φ:=fun y:IH=>RdE qx 1 w [] y.a y.l∧y.l.length≤17592186043904) Tryz.underlying35 (by kernel_rfl) Y6 (fun n cs x h hw=>by
  obtain⟨a,l,cap,rfl,hr,hl⟩:=qoJ h hw;exact⟨⟨a,cap,l⟩,rfl,hr,hl⟩) h hw
 refine⟨a,l,cap,qoM rfl e (qo1 Tryz.underlying35 hv),hr,?_,hq⟩
 rcases hk with rfl|⟨k,hk⟩
 ·simp
 ·have h8:Tryz.prog.bytesOf 22=24:=by kernel_rfl
  rw[h8] at hk;have hk:=of_decide_eq_true hk;have h9:reachBytes=140737488351232:=rfl;rw[h9] at hk;omega
end
section
variable{H:Type}{enc:TypeId×Value→H}{w:World}{spare:Nat→Bool}{held:Bool}{v:Value}{d:DataW H}{p:List MemPlace}
theorem qp4{b0:Nat}(hv:Value.okWide Tryz.prog w .any b0 22 v)(ht:DataW.Trod enc Tryz.prog w 0 spare held 22 v d p)(hw:(d.weights Tryz.prog 22).all (· ≤reachBytes)=true):
  ∃a l cap,v= .slice a (List.length l) cap∧RdE qx 1 w [] a l∧l.length≤17592186043904:=by
 obtain⟨fuel,h⟩:=ht;obtain⟨a,l,cap,e,hr,hl⟩:=qoJ h hw;exact⟨a,l,cap,qoM rfl e (qo1 Tryz.underlying22 hv),hr,hl⟩
end
end Go.Proofs.YtbhbldllneadeaaGreatDoor
