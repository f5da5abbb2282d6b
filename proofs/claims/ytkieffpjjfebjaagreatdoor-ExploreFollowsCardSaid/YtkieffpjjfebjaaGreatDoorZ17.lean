/- What the laws share, part 17. No condition. -/
import Derived.Test.YtkieffpjjfebjaaGreatDoorZ16
set_option maxRecDepth 10000
namespace Go.Proofs.YtkieffpjjfebjaaGreatDoor
open Go
section
variable{W0:World}{own:Own}{c:Cfg}{la pka:Option Addr}{lc pkc:Nat}{ls:List IH}{pks:List Int}
theorem qiG(n most:Int)(heap plain:Bool)(hc:0≤c.words∧c.words≤1000000)(hn:1≤n∧n≤1000)(hm:1≤most∧most≤64)
  (hL:RdE IH.enc 1 W0 own la ls) (hQ:∀h∈ls,RdE qM 1 W0 own h.a h.l∧h.l.length≤1000000) (hP:RdE qM 1 W0 own pka pks) (hpl:pks.length≤1000000):
  q0E Tryz.prog W0 18 [c.v, .int .i64 n, .slice la ls.length lc, .int .i64 most, .bool heap, .bool plain, .slice pka pks.length pkc] own fun v own'=>
   ∃ia il ic Di pa ps pc Dp ka ks kc Dk,v=qi0 c ia (List.length il) ic pa (List.length ps) pc ka (List.length ks) kc∧qr q7j 58 1 ia ic il Di∧qr PH.enc 66 1 pa pc (ps.map PB.h) Dp∧qr qM 3 1 ka kc ks Dk∧
    (∀x∈ps,x.ok∧q1v x.h.p=(0,0)∧(x.h.p.length:Int)≤most∧∀y∈x.h.p,qfw heap y)∧(il.length:Int)=c.words∧(∀x∈il,0≤x∧x≤3)∧(ps.length:Int)=n∧ks.length=pks.length∧(∀k∈ks,0≤k∧k<n)∧Ent W0 own' (Dk++(Dp++(q9L ps++(Di++own)))):=by
 refine qa qj q6P (by simp[q1W]) ?_
 repeat'((try(conv=>whnf));first|(refine q4r rfl ?_)|(apply qX;(exact eM);exact rfl)|(apply q5R;(first|(solve|repeat(first|with_reducible exact Up.head|with_reducible apply Up.tail|with_reducible apply Up.app))|(repeat(first|exact Up.head|apply Up.tail|apply Up.app)));(solve|((try(conv=>arg 2;whnf));repeat'(first|exact Lis.nil|apply Lis.cons|apply q2a.here|apply q2a.there|apply q0P.done|apply q0P.put|apply q0P.skip)));exact rfl)|(refine qc (fun bk hbk=> ?_)))
 rename_i b7 h7 b14 h14
 refine q0Z (σ:=List Int×Option Addr×Nat×Own) (fun s=> [(16, .int .i64 s.1.length)]) (fun s=>(bk,fun o=>o=Obj.cells (qiF c (.slice s.2.1 s.1.length s.2.2.1) qiC qiC) 32)::(s.2.2.2++qiq b14 b7 c own))
  (fun s=>qr q7j 58 1 s.2.1 s.2.2.1 s.1 s.2.2.2∧(s.1.length:Int)≤c.words∧∀x∈s.1,0≤x∧x≤3) (fun s=>(c.words-s.1.length).toNat) ([],none,0,[]) ⟨qr.nil,(by simp;omega),fun _ h=>(by cases h)⟩ (eF) Ent.refl rfl ?_
 rintro s junk ⟨hB,hw,hw3⟩
 by_cases hlt:(s.1.length:Int)<c.words
 ·repeat'((try(conv=>whnf));first|(refine q17 (by omega) ?_)|(refine q5r (enc:=q7j) ((s.1.length:Int) % 4) hB (by(repeat(first|exact At.head|apply At.tail|apply At.skip))) (eN) rfl rfl (by omega) rfl rfl (by omega) (fun a1 c1 D1 hb1=> ?_))|(refine fB ?_)|(refine fC ?_)|(apply qH;(exact eM);exact rfl)|(apply qbO;(first|(solve|repeat(first|with_reducible exact Up.head|with_reducible apply Up.tail|with_reducible apply Up.app))|(repeat(first|exact Up.head|apply Up.tail|apply Up.app)));(solve|((try(conv=>arg 2;whnf));repeat'(first|exact Lis.nil|apply Lis.cons|apply q2a.here|apply q2a.there|apply q0P.done|apply q0P.put|apply q0P.skip)));exact rfl)|(refine qc (fun bk hbk=> ?_))|(refine q9M ?_ ?_;omega))
  refine⟨(s.1++ [(s.1.length:Int) % 4],a1,c1,D1),⟨hb1,(by simp;omega),fun x hx=> ?_⟩,by simp;omega,?_,?_⟩
  ·rcases List.mem_append.1 hx with hx|hx
   ·exact hw3 x hx
   ·rw[List.mem_singleton.1 hx];omega
  ·simp only[List.length_append,List.length_cons,List.length_nil,Nat.zero_add];exact(eF)
  ·simp only[List.length_append,List.length_cons,List.length_nil,Nat.zero_add];exact eB
 ·repeat'((try(conv=>whnf));first|(refine q2j (by omega) ?_)|(apply qH;(exact eM);exact rfl))
  refine q0Z (σ:=List PB×Option Addr×Nat×Own) (fun q=> [(17, .int .i64 (q.1.map PB.h).length)]) (fun q=>(bk,fun o=>o=Obj.cells (qiF c (.slice s.2.1 s.1.length s.2.2.1) (.slice q.2.1 (q.1.map PB.h).length q.2.2.1) qiC) 32)::(q.2.2.2++(q9L q.1++(s.2.2.2++qiq b14 b7 c own))))
   (fun q=>qr PH.enc 66 1 q.2.1 q.2.2.1 (q.1.map PB.h) q.2.2.2∧(∀x∈q.1,x.ok∧q1v x.h.p=(0,0)∧(x.h.p.length:Int)≤most∧∀y∈x.h.p,qfw heap y)∧((q.1.map PB.h).length:Int)≤n) (fun q=>(n-(q.1.map PB.h).length).toNat) ([],none,0,[]) ⟨qr.nil,fun _ h=>(by cases h),by simp;omega⟩ (eF) Ent.refl rfl ?_
  rintro q junk2 ⟨hB2,hq2,hqn⟩
  by_cases hlt2:((q.1.map PB.h).length:Int)<n
  ·have hfin:∀a1 c1 D1 p1 a3 c3 D3 (h':Bool),(h'=true→heap=true)→qr Ins.enc 69 5 a1 c1 p1 D1→(q1v p1=(0,0)∧(p1.length:Int)≤most∧∀y∈p1,qfw h' y)→qr PH.enc 66 1 a3 c3 (q.1.map PB.h++ [⟨a1,c1,p1⟩]) D3→
     qr PH.enc 66 1 a3 c3 ((q.1++ [(⟨⟨a1,c1,p1⟩,D1⟩:PB)]).map PB.h) D3∧(∀x∈q.1++ [(⟨⟨a1,c1,p1⟩,D1⟩:PB)],x.ok∧q1v x.h.p=(0,0)∧(x.h.p.length:Int)≤most∧∀y∈x.h.p,qfw heap y)∧(((q.1++ [(⟨⟨a1,c1,p1⟩,D1⟩:PB)]).map PB.h).length:Int)≤n:=fun a1 c1 D1 p1 a3 c3 D3 h' hh h1 h2 h3=>by
    refine⟨by rw[List.map_append];exact h3,fun x hx=> ?_,by rw[List.map_append,List.length_append];simp only[List.map_cons,List.map_nil,List.length_cons,List.length_nil];omega⟩
    rcases List.mem_append.1 hx with hx|hx
    ·exact hq2 x hx
    ·rw[List.mem_singleton.1 hx];exact⟨h1,h2.1,h2.2.1,fun y hy=>⟨(h2.2.2 y hy).1,fun h=>hh ((h2.2.2 y hy).2 h)⟩⟩
   by_cases ht:(q.1.map PB.h).length<ls.length
   ·obtain⟨x,hx⟩:∃x,ls[(q.1.map PB.h).length]? =some x:=⟨_,List.getElem?_eq_getElem ht⟩
    obtain⟨hx1,hx2⟩:=hQ x (List.mem_of_getElem? hx)
    have ht':((q.1.map PB.h).length:Int)<ls.length:=by omega
    cases heap
    all_goals
     repeat'((try(conv=>whnf));first|(refine qC ?_)|(refine q2q ?_)|(refine q17 (by omega) ?_)|(apply q6y (fun _=>q8f _ _ c))|(refine qcX (q8e (l:=x.l) (lc:=x.cap) most _ plain (hx1.ent (eB)) hx2 hm) (fun a1 c1 D1 p1 hb1 hp1=> ?_))|(refine q5r (enc:=PH.enc) ⟨a1,c1,p1⟩ hB2 (by(repeat(first|exact At.head|apply At.tail|apply At.skip))) (eN) rfl rfl (by omega) rfl rfl (by omega) (fun a3 c3 D3 hb3=> ?_))|((with_reducible show Ld _ _ _ _);first|(refine ldE (k:=0) (RdE.ent hL ?_) hx ?_ rfl ?_;rotate_left;rfl;rotate_left;(solve|(exact eB))))|((with_reducible show IxS _ _ _ _ _);first|(refine ixE hL hx ?_ ?_;(first|rfl|omega)))|(refine fB ?_)|(apply qH;(exact eM);exact rfl)|(apply qX;(exact eM);exact rfl)|(apply qbO;(first|(solve|repeat(first|with_reducible exact Up.head|with_reducible apply Up.tail|with_reducible apply Up.app))|(repeat(first|exact Up.head|apply Up.tail|apply Up.app)));(solve|((try(conv=>arg 2;whnf));repeat'(first|exact Lis.nil|apply Lis.cons|apply q2a.here|apply q2a.there|apply q0P.done|apply q0P.put|apply q0P.skip)));exact rfl)|(refine qc (fun bk hbk=> ?_))|(refine q4T.mk ?_ ?_))
    all_goals refine⟨(q.1++ [(⟨⟨a1,c1,p1⟩,D1⟩:PB)],a3,c3,D3),hfin a1 c1 D1 p1 a3 c3 D3 _ (by simp) hb1 hp1 hb3,by rw[List.map_append,List.length_append];simp only[List.map_cons,List.map_nil,List.length_cons,List.length_nil];omega,?_,?_⟩
    all_goals simp only[q72,List.map_append,List.length_append,List.map_cons,List.map_nil,List.length_cons,List.length_nil,Nat.zero_add]
    all_goals first|exact qb3|exact(eF)
   ·have hx1:RdE qM 1 W0 own none []:=RdE.nil
    cases heap
    all_goals
     repeat'((try(conv=>whnf));first|(refine qC ?_)|(refine q2q ?_)|(refine q17 (by omega) ?_)|(refine q2j (by omega) ?_)|(apply q6y (fun _=>q8f _ _ c))|(refine qcX (q8e (la:=none) (l:= []) (lc:=0) most _ plain (hx1.ent (eB)) (by simp) hm) (fun a1 c1 D1 p1 hb1 hp1=> ?_))|(refine q5r (enc:=PH.enc) ⟨a1,c1,p1⟩ hB2 (by(repeat(first|exact At.head|apply At.tail|apply At.skip))) (eN) rfl rfl (by omega) rfl rfl (by omega) (fun a3 c3 D3 hb3=> ?_))|(refine fB ?_)|(apply qH;(exact eM);exact rfl)|(apply qX;(exact eM);exact rfl)|(apply qbO;(first|(solve|repeat(first|with_reducible exact Up.head|with_reducible apply Up.tail|with_reducible apply Up.app))|(repeat(first|exact Up.head|apply Up.tail|apply Up.app)));(solve|((try(conv=>arg 2;whnf));repeat'(first|exact Lis.nil|apply Lis.cons|apply q2a.here|apply q2a.there|apply q0P.done|apply q0P.put|apply q0P.skip)));exact rfl)|(refine qc (fun bk hbk=> ?_))|(refine q4T.mk ?_ ?_))
    all_goals refine⟨(q.1++ [(⟨⟨a1,c1,p1⟩,D1⟩:PB)],a3,c3,D3),hfin a1 c1 D1 p1 a3 c3 D3 _ (by simp) hb1 hp1 hb3,by rw[List.map_append,List.length_append];simp only[List.map_cons,List.map_nil,List.length_cons,List.length_nil];omega,?_,?_⟩
    all_goals simp only[q72,List.map_append,List.length_append,List.map_cons,List.map_nil,List.length_cons,List.length_nil,Nat.zero_add]
    all_goals first|exact qb3|exact(eF)
  ·repeat'((try(conv=>whnf));first|(refine q2j (by omega) ?_))
   refine q0Z (σ:=List Int×Option Addr×Nat×Own) (fun k=> [(19, .int .i64 k.1.length)]) (fun k=>(bk,fun o=>o=Obj.cells (qiF c (.slice s.2.1 s.1.length s.2.2.1) (.slice q.2.1 (q.1.map PB.h).length q.2.2.1) (.slice k.2.1 k.1.length k.2.2.1)) 32)::(k.2.2.2++(q.2.2.2++(q9L q.1++(s.2.2.2++qiq b14 b7 c own)))))
    (fun k=>qr qM 3 1 k.2.1 k.2.2.1 k.1 k.2.2.2∧(∀x∈k.1,0≤x∧x<n)∧k.1.length≤pks.length) (fun k=>pks.length-k.1.length) ([],none,0,[]) ⟨qr.nil,fun _ h=>(by cases h),by simp⟩ (eF) Ent.refl rfl ?_
   rintro k junk3 ⟨hB3,hk2,hkn⟩
   by_cases hlt3:k.1.length<pks.length
   ·obtain⟨x,hx⟩:∃x,pks[k.1.length]? =some x:=⟨_,List.getElem?_eq_getElem hlt3⟩
    have hlt3':(k.1.length:Int)<pks.length:=by omega
    repeat'((try(conv=>whnf));first|(refine q17 (by omega) ?_)|(refine qab ?_ (fun p hp=> ?_);omega)|(refine q5r (enc:=qM) p hB3 (by(repeat(first|exact At.head|apply At.tail|apply At.skip))) (eN) rfl rfl (by omega) rfl rfl (by omega) (fun a1 c1 D1 hb1=> ?_))|((with_reducible show Ld _ _ _ _);first|(refine ldE (k:=0) (RdE.ent hP ?_) hx ?_ rfl ?_;rotate_left;rfl;rotate_left;(solve|(exact eB))))|((with_reducible show IxS _ _ _ _ _);first|(refine ixE hP hx ?_ ?_;(first|rfl|omega)))|(refine fB ?_)|(apply qH;(exact eM);exact rfl)|(apply qbO;(first|(solve|repeat(first|with_reducible exact Up.head|with_reducible apply Up.tail|with_reducible apply Up.app))|(repeat(first|exact Up.head|apply Up.tail|apply Up.app)));(solve|((try(conv=>arg 2;whnf));repeat'(first|exact Lis.nil|apply Lis.cons|apply q2a.here|apply q2a.there|apply q0P.done|apply q0P.put|apply q0P.skip)));exact rfl)|(refine qc (fun bk hbk=> ?_)))
    all_goals refine⟨(k.1++ [p],a1,c1,D1),⟨hb1,fun y hy=> ?_,by simp;omega⟩,by simp;omega,?_,?_⟩
    all_goals first|(rcases List.mem_append.1 hy with hy|hy;exact hk2 y hy;rw[List.mem_singleton.1 hy];exact hp)|skip
    all_goals simp only[List.length_append,List.length_cons,List.length_nil,Nat.zero_add]
    all_goals first|exact Ent.cons Ent.refl|exact(eF)
   ·repeat'((try(conv=>whnf));first|(refine q2j (by omega) ?_)|(refine q4r rfl ?_)|(apply qX;(exact eM);exact rfl)|(apply q5R;(first|(solve|repeat(first|with_reducible exact Up.head|with_reducible apply Up.tail|with_reducible apply Up.app))|(repeat(first|exact Up.head|apply Up.tail|apply Up.app)));(solve|((try(conv=>arg 2;whnf));repeat'(first|exact Lis.nil|apply Lis.cons|apply q2a.here|apply q2a.there|apply q0P.done|apply q0P.put|apply q0P.skip)));exact rfl))
    refine⟨s.2.1,s.1,s.2.2.1,s.2.2.2,q.2.1,q.1,q.2.2.1,q.2.2.2,k.2.1,k.1,k.2.2.1,k.2.2.2,?_,hB,hB2,hB3,hq2,by omega,hw3,?_,by omega,hk2,?_⟩
    ·rw[List.length_map];rfl
    ·rw[List.length_map] at hlt2 hqn;omega
    ·exact Ent.cons (Ent.of_sub (((((List.Sublist.refl own).cons _).cons _).append_left s.2.2.2).append_left (q9L q.1)|>.append_left q.2.2.2|>.append_left k.2.2.2))
end
end Go.Proofs.YtkieffpjjfebjaaGreatDoor
