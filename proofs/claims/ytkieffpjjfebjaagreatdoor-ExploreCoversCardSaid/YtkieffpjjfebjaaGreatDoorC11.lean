/- What the laws share, part 11. No condition. -/
import Derived.Shelf.Sort.Plain
import Derived.Shelf.Slices.In.SortNone
import Derived.Shelf.Slices.CompactI
import Derived.Ground.Names2Prog
import Derived.Test.YtkieffpjjfebjaaGreatDoorProg
import Derived.Test.YtkieffpjjfebjaaGreatDoorC10
set_option maxHeartbeats 16000000
set_option maxRecDepth 10000
namespace Go.Proofs.YtkieffpjjfebjaaGreatDoor
open Go
section
variable{W0:World}{Kp:Own}{g:DP}{c:Cfg}{ps:List PH}{s:GS}
theorem qqC{e b:Nat×(Obj→Prop)}{A B X Z:Own}:Ent W0 (e::(B++(X++(A++(b::Z))))) (b::(e::(A++(B++(X++Z))))):=qo []
theorem qqD{e b:Nat×(Obj→Prop)}{A B X Z:Own}:Ent W0 (B++(X++(e::(A++(b::Z))))) (b::(e::(A++(B++(X++Z))))):=qo []
theorem qqE{e b:Nat×(Obj→Prop)}{A B X Z:Own}:Ent W0 (B++(X++(A++(e::(b::Z))))) (b::(e::(A++(B++(X++Z))))):=qo []
theorem qqF{a b:Nat×(Obj→Prop)}{D4 D1 D2 X Z:Own}:Ent W0 (D4++(a::(b::(D1++(D2++(X++Z)))))) (a::(b::(D1++(D4++(D2++(X++([]++([]++Z)))))))):=qo []
theorem qrq{α:Type}{enc:α→List Value}{T:TypeId}{sz:Nat}{a:Option Addr}:qr enc T sz a 0 [] []:=⟨fun _ h=>(by cases h), .inl ⟨rfl,rfl,rfl⟩⟩
theorem qqG{bk b0 b2 b3:Nat×(Obj→Prop)}{D1 D2 D4 D3 D5 X S Z:Own}:Ent W0 (bk::(D3++(b0::(b2::(b3::(D1++(D4++(D2++(X++(D5++(S++Z))))))))))) (b2::(b3::(D1++(D4++(D2++(X++(D5++((S++D3)++Z)))))))):=qo [bk,b0]
theorem qoz(h:g.ok W0 Kp ps s)(hd:s.d.length≤500000)(hT:s.T.length≤500000)(hE:s.E.length≤500000)(hO:s.O.length≤500000)(hOl:∀l∈s.O,l.length≤500000)(hin:∀e∈s.E,e.r.length≤500000∧e.wl.length≤500000)(q:Own):
  q0E Tryz.prog W0 46 [.pointer (some ⟨g.rb,0,none⟩)] (g.O c ps.length s++q) fun v own'=>∃r:RG,
   (v=r.v s∧r.ok W0 s)∧Ent W0 own' (r.D++(g.O c ps.length s++q)):=by
 have hEl:g.L.length=s.E.length:=by rw[←h.em,List.length_map]
 have hSl:g.S.length=s.O.length:=by rw[←h.ol,List.length_map]
 have hOR:=h.o.rd (W0:=W0)
 have hTR:=h.t.rd (W0:=W0)
 refine qa qj qmo (by simp[qb]) ?_
 have hcd:=fun(own':Own) [qt own' g.dD]=>qmn (cap:=g.dc) (RdE.up (own:=own') (h.d.rd (W0:=W0))) (by omega)
 have hce:=fun(own':Own) (e1:qt own' g.eD) (e2:qt own' g.X)=>qnD (ec:=g.ec) (RdE.up (own:=own') (h.e.rd (W0:=W0))) (by omega) (fun e he=>⟨⟨(h.ev e he).1.up,(h.ev e he).2.up⟩,by have:=hin e.m (by rw[←h.em];exact List.mem_map_of_mem he);unfold EH.m at this;dsimp only at this;omega⟩)
 repeat'((try(conv=>whnf));first|(refine qc (fun b2 h2=> ?_);(apply Stop.h)))
 refine Stop.mk ?_
 refine q4H (σ:=Nat×(Option Addr×Nat×Own)×(List EH×Own×Option Addr×Nat×Own)) 65512 (fun y=> [(3, .pointer (some ⟨y.1,0,none⟩))])
  (fun y=>(b2,fun o=>o=Obj.cells #[.slice none 0 0, .slice none 0 0, .slice none 0 0, .slice none 0 0] 52 (0,0))::((y.1,fun o=>o=Obj.cells #[.slice y.2.1.1 s.d.length y.2.1.2.1, .slice none 0 0, .slice y.2.2.2.2.1 y.2.2.1.length y.2.2.2.2.2.1, .slice none 0 0] 52 (0,0))::(y.2.1.2.2++(y.2.2.2.2.2.2++(y.2.2.2.1++(g.O c ps.length s++q))))))
  (fun y=>qr q7j 58 1 y.2.1.1 y.2.1.2.1 s.d y.2.1.2.2∧y.2.2.1.map EH.m=g.L.map EH.m∧qr EH.enc 116 6 y.2.2.2.2.1 y.2.2.2.2.2.1 y.2.2.1 y.2.2.2.2.2.2∧∀e∈y.2.2.1,RdE qM 1 W0 y.2.2.2.1 e.ra e.rl∧RdE qM 1 W0 y.2.2.2.1 e.wa e.wl) rfl ?_ ?_
 ·repeat'((try(conv=>whnf));first|(refine qc (fun b3 h3=> ?_))|((with_reducible show qf _ _ _ _ _ _);first|((refine qZ (hcd _) ?_ ?_ (fun y v hv=> ?_);(exact rfl);(exact rfl);(obtain⟨a1,c1,D1⟩:=y;obtain⟨rfl,hB⟩:=hv;dsimp only at hB)))|((refine qZ (hce _ inferInstance inferInstance) ?_ ?_ (fun y v hv=> ?_);(exact rfl);(exact rfl);(obtain⟨L2,X2,a2,c2,D2⟩:=y;obtain⟨rfl,hm2,hB2,hX2⟩:=hv;dsimp only at hm2 hB2 hX2))))|(refine fA ?_)|(refine fM ?_)|(refine q4T.mk ?_ ?_))
  all_goals
   refine⟨(b3,(a1,c1,D1),(L2,X2,a2,c2,D2)),⟨hB,hm2,hB2,hX2⟩,(eF),?_⟩
   first|exact qqC|exact qqD|exact qqE
 ·rintro⟨b3,⟨a1,c1,D1⟩,⟨L2,X2,a2,c2,D2⟩⟩ junk ⟨hB1,hm2,hB2,hX2⟩
  dsimp only at hB1 hm2 hB2 hX2 ⊢
  repeat'((try(conv=>whnf));first|(refine q7m (enc:=Thr.enc) (l:= []) (l2:=s.T) qr.nil (At.head (D:= []) (r:=_)) (RdE.up hTR) rfl rfl (by omega) (fun _ _=>rfl) (fun _=>by simp;omega) (fun a4 c4 D4 hb4=> ?_);(rw[List.length_nil,Nat.zero_add s.T.length]);(apply Stop.h))|(refine fA ?_))
  rw[List.nil_append] at hb4
  refine Stop.mk ?_
  repeat'((try(conv=>whnf));first|(refine fN ?_))
  refine q0Z (σ:=Nat×List ObS×Option Addr×Nat×Own) (fun y=> [(4, .int .i64 y.1)])
   (fun y=>(b2,fun o=>o=Obj.cells #[.slice none 0 0, .slice none 0 0, .slice none 0 0, .slice none 0 0] 52 (0,0))::((b3,fun o=>o=Obj.cells #[.slice a1 s.d.length c1, .slice a4 s.T.length c4, .slice a2 L2.length c2, .slice y.2.2.1 y.2.1.length y.2.2.2.1] 52 (0,0))::(D1++(D4++(D2++(X2++(y.2.2.2.2++(q5q y.2.1++(g.O c ps.length s++q)))))))))
   (fun y=>y.1≤g.S.length∧y.2.1.map ObS.l=(g.S.take y.1).map ObS.l∧qr ObS.enc 124 1 y.2.2.1 y.2.2.2.1 y.2.1 y.2.2.2.2∧∀x∈y.2.1,qr ObM.enc 127 3 x.a x.cap x.l x.D)
   (fun y=>g.S.length-y.1) (0,[],none,0,[]) ⟨Nat.zero_le _,rfl,qr.nil,fun _ h=>by cases h⟩ (eF) ?_ rfl ?_
  ·exact qqF
  ·rintro⟨j,S',oa,oc,oD⟩ junk ⟨hj,hmS,hBS,hSS⟩
   dsimp only at hj hmS hBS hSS ⊢
   have hllS:=qfi hmS hj
   by_cases hjl:j<g.S.length
   ·obtain⟨x,hx⟩:∃x,g.S[j]? =some x:=⟨_,List.getElem?_eq_getElem hjl⟩
    have hxm:=List.mem_of_getElem? hx
    have hxB:=(h.os x hxm).rd (W0:=W0)
    have hxl:=hOl x.l (by rw[←h.ol];exact List.mem_map_of_mem hxm)
    have hsp:=q3k hx
    obtain⟨xa,xc,xl,xD⟩:=x
    dsimp only at hxB hxl hsp
    dsimp only[DP.O]
    rw[hsp]
    repeat'((try(conv=>whnf));first|(refine fF ?_)|(refine q7m (enc:=ObM.enc) (l:= []) (l2:=xl) qrq (At.head (D:= []) (r:=_)) (RdE.up hxB) rfl rfl (by omega) (fun _ _=>rfl) (fun _=>by simp;omega) (fun a3 c3 D3 hb3=> ?_);(rw[List.length_nil,Nat.zero_add xl.length]);(rw[List.nil_append] at hb3))|(apply q69 (enc:=ObS.enc) (T:=124) ⟨a3,c3,xl,D3⟩ hBS;(exact rfl);(exact rfl);(omega);(exact rfl);(exact rfl);(omega);intro a9 c9 D5 hb5)|((with_reducible show Ld _ _ _ _);first|(refine q1M hOR hx rfl ?_))|((with_reducible show IxS _ _ _ _ _);first|((refine ixE hOR hx ?_ ?_;(first|rfl|omega))))|(refine fB ?_)|(refine fA ?_)|(refine fN ?_)|(refine qc (fun bk hbk=> ?_))|(refine q4T.mk ?_ ?_))
    all_goals
     refine⟨(j+1,S'++ [⟨a3,c3,xl,D3⟩],a9,c9,D5),⟨hjl,qbQ hmS hx rfl,hb5,fun e he=> ?_⟩,(by show g.S.length-(j+1)<g.S.length-j;omega),(eF),?_⟩
     ·rcases List.mem_append.1 he with he|he
      ·exact hSS e he
      ·rw[List.mem_singleton.1 he]
       exact hb3
     ·have hlen:(S'++ [(⟨a3,c3,xl,D3⟩:ObS)]).length=S'.length+1:=by simp
      dsimp only
      rw[hlen,qbq]
      exact qqG
   ·have hjN:j=g.S.length:=by omega
    subst hjN
    rw[List.take_length] at hmS
    repeat'((try(conv=>whnf));first|(refine fG ?_)|(refine fA ?_)|(refine fL ?_)|(refine fM ?_))
    exact⟨⟨a1,c1,D1,a4,c4,D4,a2,c2,D2,L2,X2,oa,oc,oD,S'⟩,⟨rfl,⟨hB1,hb4,hB2,by rw[hm2,h.em],hX2,hBS,hSS,by rw[hmS,h.ol]⟩⟩,qjf⟩
end
open Go
section
variable{W0:World}{own:Own}{c:Cfg}{ia pa ka:Option Addr}{ic pc kc:Nat}{ps:List PH}{il ks:List Int}
abbrev ScE(b:Nat)(c:Cfg)(i p k:Value):Nat×(Obj→Prop):=(b,fun o=>o=Obj.cells (qiF c i p k) 32 (0,0))
theorem qqI{e b d:Nat×(Obj→Prop)}{A B Z:Own}:Ent W0 (e::(B++(A++(b::(d::Z))))) (b::(d::(e::(A++(B++Z))))):=qo []
theorem qqJ{e b d:Nat×(Obj→Prop)}{A B Z:Own}:Ent W0 (B++(e::(A++(b::(d::Z))))) (b::(d::(e::(A++(B++Z))))):=qo []
theorem qqK{e b d:Nat×(Obj→Prop)}{A B Z:Own}:Ent W0 (B++(A++(e::(b::(d::Z))))) (b::(d::(e::(A++(B++Z))))):=qo []
theorem qqL{e b1 b2:Nat×(Obj→Prop)}{A B kD L Z:Own}:Ent W0 (b1::(b2::(e::(kD++(L++(A++(B++Z))))))) (kD++(L++(A++(B++Z)))):=qo [b1,b2,e]
theorem qqM{bk e b1 b2:Nat×(Obj→Prop)}{A B D3 D8 L Z:Own}:Ent W0 (bk::(D3++(b1::(b2::(e::(D8++(L++(A++(B++Z))))))))) (b1::(b2::(e::(D8++((L++D3)++(A++(B++Z))))))):=qo [bk]
theorem qnE(hI:RdE q7j 1 W0 own ia il)(hil:il.length≤1000000)(hP:RdE PH.enc 1 W0 own pa ps)(hpl:ps.length≤1000)(hQ:∀h∈ps,RdE Ins.enc 5 W0 own h.a h.p∧h.p.length≤1000000)(hK:RdE qM 1 W0 own ka ks)(hkl:ks.length≤1000000):
  q0E Tryz.prog W0 22 [qi0 c ia il.length ic pa ps.length pc ka ks.length kc] own fun v own'=>∃y:(Option Addr×Nat×Own)×(Option Addr×Nat×Own)×List PB×(Option Addr×Nat×Own),
   (v=qi0 c y.1.1 il.length y.1.2.1 y.2.2.2.1 (y.2.2.1.map PB.h).length y.2.2.2.2.1 y.2.1.1 ks.length y.2.1.2.1∧(y.2.2.1.map PB.h).map PH.p=ps.map PH.p∧qr PH.enc 66 1 y.2.2.2.1 y.2.2.2.2.1 (y.2.2.1.map PB.h) y.2.2.2.2.2∧∀x∈y.2.2.1,x.ok)∧
   Ent W0 own' (y.2.2.2.2.2++(q9L y.2.2.1++(y.1.2.2++(y.2.1.2.2++own)))):=by
 refine qa qj qmL (by simp[qlQ]) ?_
 have hcw:=fun(own':Own) [qt own' own]=>qmn (cap:=ic) (RdE.up (own:=own') hI) (by omega)
 have hci:=fun(own':Own) [qt own' own]=>qmM (cap:=kc) (RdE.up (own:=own') hK) (by omega)
 repeat'((try(conv=>whnf));first|(refine qc (fun b1 h1=> ?_);(apply Stop.h)))
 refine Stop.mk ?_
 repeat'((try(conv=>whnf));first|(refine qc (fun b2 h2=> ?_);(apply Stop.h)))
 refine Stop.mk ?_
 refine q4H (σ:=Nat×(Option Addr×Nat×Own)×(Option Addr×Nat×Own)) 16360 (fun y=> [(3, .pointer (some ⟨y.1,0,none⟩))])
  (fun y=>ScE b2 ⟨0,0,0,0,0,0,0,0,0,0,0,0,false⟩ (.slice none 0 0) (.slice none 0 0) (.slice none 0 0)::(ScE b1 c (.slice ia il.length ic) (.slice pa ps.length pc) (.slice ka ks.length kc)::(ScE y.1 c (.slice y.2.1.1 il.length y.2.1.2.1) (.slice none 0 0) (.slice y.2.2.1 ks.length y.2.2.2.1)::(y.2.1.2.2++(y.2.2.2.2++own)))))
  (fun y=>qr q7j 58 1 y.2.1.1 y.2.1.2.1 il y.2.1.2.2) rfl ?_ ?_
 ·repeat'((try(conv=>whnf));first|(refine qc (fun b3 h3=> ?_))|((with_reducible show qf _ _ _ _ _ _);first|((refine qZ (hcw _) ?_ ?_ (fun y v hv=> ?_);(exact rfl);(exact rfl);(obtain⟨a1,c1,D1⟩:=y;obtain⟨rfl,hB⟩:=hv;dsimp only at hB)))|((refine qZ (hci _) ?_ ?_ (fun y v hv=> ?_);(exact rfl);(exact rfl);(obtain⟨a2,c2,D2⟩:=y;obtain⟨rfl,hB2⟩:=hv;dsimp only at hB2))))|(refine fA ?_)|(refine fQ ?_)|(refine fM ?_)|(refine q4T.mk ?_ ?_))
  all_goals
   refine⟨(b3,(a1,c1,D1),(a2,c2,D2)),hB,(eF),?_⟩
   first|exact qqI|exact qqJ|exact qqK
 ·rintro⟨b3,⟨a1,c1,D1⟩,⟨a2,c2,D2⟩⟩ junk _
  dsimp only
  refine q0Z (σ:=Nat×List PB×(Option Addr×Nat×Own)) (fun y=> [(4, .int .i64 y.1)])
   (fun y=>ScE b2 ⟨0,0,0,0,0,0,0,0,0,0,0,0,false⟩ (.slice none 0 0) (.slice none 0 0) (.slice none 0 0)::(ScE b1 c (.slice ia il.length ic) (.slice pa ps.length pc) (.slice ka ks.length kc)::(ScE b3 c (.slice a1 il.length c1) (.slice y.2.2.1 (y.2.1.map PB.h).length y.2.2.2.1) (.slice a2 ks.length c2)::(y.2.2.2.2++(q9L y.2.1++(D1++(D2++own)))))))
   (fun y=>y.1≤ps.length∧(y.2.1.map PB.h).map PH.p=(ps.take y.1).map PH.p∧qr PH.enc 66 1 y.2.2.1 y.2.2.2.1 (y.2.1.map PB.h) y.2.2.2.2∧(∀x∈y.2.1,x.ok))
   (fun y=>ps.length-y.1) (0,[],(none,0,[])) ⟨Nat.zero_le _,rfl,qr.nil,(fun _ h=>(by cases h))⟩ (eF) Ent.refl rfl ?_
  rintro⟨i,ys,⟨ka',kc',kD⟩⟩ junk ⟨hi,hm,hBk,hys⟩
  dsimp only at hi hm hBk hys ⊢
  have hyl:(ys.map PB.h).length=i:=qfi hm hi
  by_cases hil:i<ps.length
  ·obtain⟨x,hx⟩:∃x,ps[i]? =some x:=⟨_,List.getElem?_eq_getElem hil⟩
   obtain⟨hxP,hxl⟩:=hQ x (List.mem_of_getElem? hx)
   obtain⟨xa,xc,xp⟩:=x
   dsimp only at hxP hxl
   have hci:=fun(own':Own) [qt own' own]=>qnt (cap:=xc) (RdE.up (own:=own') hxP) (by omega)
   repeat'((try(conv=>whnf));first|(refine fF ?_)|(apply q69 (enc:=PH.enc) (T:=66) ⟨a3,c3,xp⟩ hBk;(exact rfl);(exact rfl);(omega);(exact rfl);(exact rfl);(omega);intro a8 c8 D8 hb8)|((with_reducible show Ld _ _ _ _);first|(refine q1M hP hx rfl ?_))|((with_reducible show IxS _ _ _ _ _);first|((refine ixE hP hx ?_ ?_;(first|rfl|omega))))|((with_reducible show qf _ _ _ _ _ _);first|((refine qZ (hci _) ?_ ?_ (fun y v hv=> ?_);(exact rfl);(exact rfl);(obtain⟨a3,c3,D3⟩:=y;obtain⟨rfl,hB3⟩:=hv;dsimp only at hB3))))|(refine fB ?_)|(refine fA ?_)|(refine fN ?_)|(refine qc (fun bk hbk=> ?_))|(refine q4T.mk ?_ ?_))
   all_goals
    have hsn:ys.map PB.h++ [⟨a3,c3,xp⟩]=(ys++ [(⟨⟨a3,c3,xp⟩,D3⟩:PB)]).map PB.h:=by simp
    rw[hsn] at hb8
    refine⟨(i+1,ys++ [⟨⟨a3,c3,xp⟩,D3⟩],(a8,c8,D8)),⟨hil,by rw[←hsn];exact qbQ hm hx rfl,hb8,fun x hx=> ?_⟩,(by show ps.length-(i+1)<ps.length-i;omega),(eF),?_⟩
    ·rcases List.mem_append.1 hx with hx|hx
     ·exact hys x hx
     ·rw[List.mem_singleton.1 hx];exact hB3
    ·have e1:((ys++ [(⟨⟨a3,c3,xp⟩,D3⟩:PB)]).map PB.h).length=(ys.map PB.h).length+1:=by simp
     dsimp only
     rw[e1,q72]
     exact qqM
  ·have hiN:i=ps.length:=by omega
   subst hiN
   rw[List.take_length] at hm
   repeat'((try(conv=>whnf));first|(refine fG ?_)|(refine fA ?_)|(refine fL ?_)|(refine fM ?_))
   exact⟨((a1,c1,D1),(a2,c2,D2),ys,(ka',kc',kD)),⟨rfl,hm,hBk,hys⟩,qqL⟩
end
open Go
section
variable{W0:World}{own:Own}{c:Cfg}{ia pa ka:Option Addr}{ic pc kc:Nat}{ps:List PH}{il ks:List Int}
theorem qqN{g b:Nat×(Obj→Prop)}{D0 D1 D2 D3 kD L Z:Own}:Ent W0 (g::(D3++(D2++(kD++(L++(D1++(D0++(b::Z)))))))) (b::(g::(D2++(D3++(kD++(L++Z)))))):=qo (D1++D0)
theorem qqO{x y b g:Nat×(Obj→Prop)}{D2 D3 T O kD L Z:Own}:Ent W0 (x::(y::(b::(g::(D2++(D3++(T++(O++(kD++(L++Z)))))))))) (b::(g::(D2++(D3++(T++(O++(kD++(L++Z)))))))):=qo [x,y]
theorem qqP{b g:Nat×(Obj→Prop)}{D2 D3 T O kD L Z:Own}:Ent W0 (b::(g::(D2++(D3++(T++(O++(kD++(L++Z)))))))) ((g::(D2++(D3++(T++([]++(O++([]++ [])))))))++((kD++L)++Z)):=qo [b]
theorem qp3(hI:RdE q7j 1 W0 own ia il)(hil:il.length≤1000000)(hP:RdE PH.enc 1 W0 own pa ps)(hpl:ps.length≤16)(hQ:∀h∈ps,RdE Ins.enc 5 W0 own h.a h.p∧h.p.length≤64)(hK:RdE qM 1 W0 own ka ks)(hkl:ks.length≤1000000):
  q0E Tryz.prog W0 44 [qi0 c ia il.length ic pa ps.length pc ka ks.length kc] own fun v own'=>∃y:DP×List PB×Own,
   (v= .pointer (some ⟨y.1.rb,0,none⟩)∧y.1.ok W0 (y.2.2++q9L y.2.1) (y.2.1.map PB.h) (q7G c il (ps.map PH.p))∧(y.2.1.map PB.h).map PH.p=ps.map PH.p)∧
   Ent W0 own' (y.1.O c (y.2.1.map PB.h).length (q7G c il (ps.map PH.p))++((y.2.2++q9L y.2.1)++own)):=by
 refine qa qj qns (by simp[qmg]) ?_
 have hbd:=q6w c
 have hts:=fun(own':Own) [qt own' own]=>qnE (c:=c) (ic:=ic) (pc:=pc) (kc:=kc) (own:=own') (RdE.up hI) hil (RdE.up hP) (by omega) (fun h hh=>⟨(hQ h hh).1.up,by have:=(hQ h hh).2;omega⟩) (RdE.up hK) hkl
 have hcw:=fun(own':Own) [qt own' own]=>qmn (cap:=ic) (RdE.up (own:=own') hI) (by omega)
 have hbl:=fun own=>q8f W0 own c
 repeat'((try(conv=>whnf));first|(refine qc (fun b1 h1=> ?_);(apply Stop.h)))
 refine Stop.mk ?_
 refine q4H (σ:=Nat×Value×Value×(List PB×Option Addr×Nat×Own)×(Option Addr×Nat×Own)×(Option Addr×Nat×Own)) 65512 (fun y=> [(3, .pointer (some ⟨y.1,0,none⟩))])
  (fun y=>ScE b1 c (.slice ia il.length ic) (.slice pa ps.length pc) (.slice ka ks.length kc)::((y.1,fun o=>o=Obj.cells (cfL c [y.2.1, .slice y.2.2.2.1.2.1 (y.2.2.2.1.1.map PB.h).length y.2.2.2.1.2.2.1,y.2.2.1, .slice y.2.2.2.2.1.1 il.length y.2.2.2.2.1.2.1, .slice y.2.2.2.2.2.1 (qy c).toNat y.2.2.2.2.2.2.1, .slice none 0 0, .slice none 0 0, .slice none 0 0, .int .i64 0]).toArray 106 (0,0))::(y.2.2.2.2.1.2.2++(y.2.2.2.2.2.2.2++(y.2.2.2.1.2.2.2++(q9L y.2.2.2.1.1++own))))))
  (fun y=>(y.2.2.2.1.1.map PB.h).map PH.p=ps.map PH.p∧qr PH.enc 66 1 y.2.2.2.1.2.1 y.2.2.2.1.2.2.1 (y.2.2.2.1.1.map PB.h) y.2.2.2.1.2.2.2∧(∀x∈y.2.2.2.1.1,x.ok)∧qr q7j 58 1 y.2.2.2.2.1.1 y.2.2.2.2.1.2.1 il y.2.2.2.2.1.2.2∧qr qmx 4 1 y.2.2.2.2.2.1 y.2.2.2.2.2.2.1 (List.replicate (qy c).toNat false) y.2.2.2.2.2.2.2) rfl ?_ ?_
 ·repeat'((try(conv=>whnf));first|(refine mkE (enc:=qmx) false rfl rfl (by omega) (fun a3 c3 D3 hb3=> ?_))|(refine qc (fun gb hgb=> ?_))|((with_reducible show qf _ _ _ _ _ _);first|((refine qZ (hts _) ?_ ?_ (fun y v hv=> ?_);(exact rfl);(exact rfl);(obtain⟨⟨a1,c1,D1⟩,⟨a0,c0,D0⟩,ys,⟨a5,c5,kD⟩⟩:=y;obtain⟨rfl,hpp,hBk,hys⟩:=hv;dsimp only at hpp hBk hys)))|((refine qZ (hcw _) ?_ ?_ (fun y v hv=> ?_);(exact rfl);(exact rfl);(obtain⟨a2,c2,D2⟩:=y;obtain⟨rfl,hB2⟩:=hv;dsimp only at hB2))))|((with_reducible show q0b _ _ _ _ _ _);first|((refine qq (fun ex=>hbl _) ?_ ?_ ?_;(exact rfl);(exact rfl))))|(refine fA ?_)|(refine fL ?_)|(refine fQ ?_)|(refine q4T.mk ?_ ?_))
  all_goals
   refine⟨(gb, .slice a1 il.length c1, .slice a0 ks.length c0,(ys,a5,c5,kD),(a2,c2,D2),(a3,c3,D3)),⟨hpp,hBk,hys,hB2,hb3⟩,(eF),?_⟩
   exact qqN
 ·rintro⟨gb,iv,kv,⟨ys,a5,c5,kD⟩,⟨a2,c2,D2⟩,⟨a3,c3,D3⟩⟩ junk ⟨hpp,hBk,hys,hB2,hb3⟩
  dsimp only at hpp hBk hys hB2 hb3 ⊢
  refine q0Z (σ:=Nat×(Option Addr×Nat×Own)×(Option Addr×Nat×Own)) (fun y=> [(4, .int .i64 y.1)])
   (fun y=>ScE b1 c (.slice ia il.length ic) (.slice pa ps.length pc) (.slice ka ks.length kc)::((gb,fun o=>o=Obj.cells (cfL c [iv, .slice a5 (ys.map PB.h).length c5,kv, .slice a2 il.length c2, .slice a3 (qy c).toNat c3, .slice y.2.1.1 ((ps.take y.1).map fun h=>qcD h.p).length y.2.1.2.1, .slice none 0 0, .slice y.2.2.1 (List.replicate y.1 (⟨none,0,[],[]⟩:ObS)).length y.2.2.2.1, .int .i64 0]).toArray 106 (0,0))::(D2++(D3++(y.2.1.2.2++(y.2.2.2.2++(kD++(q9L ys++own))))))))
   (fun y=>y.1≤ps.length∧qr Thr.enc 61 11 y.2.1.1 y.2.1.2.1 ((ps.take y.1).map fun h=>qcD h.p) y.2.1.2.2∧qr ObS.enc 124 1 y.2.2.1 y.2.2.2.1 (List.replicate y.1 (⟨none,0,[],[]⟩:ObS)) y.2.2.2.2)
   (fun y=>ps.length-y.1) (0,(none,0,[]),(none,0,[])) ⟨Nat.zero_le _,qr.nil,qr.nil⟩ (eF) ?_ rfl ?_
  ·exact Ent.refl
  rintro⟨i,⟨ta,tc,tD⟩,⟨oa,oc,oD⟩⟩ junk ⟨hi,hBt,hBo⟩
  dsimp only at hi hBt hBo ⊢
  have htl:((ps.take i).map fun h=>qcD h.p).length=i:=by simp;omega
  have hol:(List.replicate i (⟨none,0,[],[]⟩:ObS)).length=i:=by simp
  by_cases hil:i<ps.length
  ·obtain⟨x,hx⟩:∃x,ps[i]? =some x:=⟨_,List.getElem?_eq_getElem hil⟩
   obtain⟨xa,xc,xp⟩:=x
   have hthr:∀b:Bool,b=decide (xp.length=0)→ [.int .i64 0, .int .u64 0, .int .u64 0, .int .u64 0, .int .u64 0, .int .u64 0, .int .u64 0, .int .u64 0, .int .u64 0, .int .i64 0, .bool b]=(qcD xp).enc:=fun b hb=>by rw[hb];rfl
   repeat'((try(conv=>whnf));first|(refine fF ?_)|(apply q69 (enc:=Thr.enc) (T:=61) (qcD xp) hBt;(refine hthr _ ?_;simp);(exact rfl);(omega);(exact rfl);(exact rfl);(omega);intro a9 c9 D9 hb9)|(apply q69 (enc:=ObS.enc) (T:=124) ⟨none,0,[],[]⟩ hBo;(exact rfl);(exact rfl);(omega);(exact rfl);(exact rfl);(omega);intro a8 c8 D8 hb8)|((with_reducible show Ld _ _ _ _);first|(refine q1M hP hx rfl ?_))|((with_reducible show IxS _ _ _ _ _);first|((refine ixE hP hx ?_ ?_;(first|rfl|omega))))|(refine fB ?_)|(refine fA ?_)|(refine fN ?_)|(refine qc (fun bk hbk=> ?_)))
   all_goals
    have htk:((ps.take i).map fun h=>qcD h.p)++ [qcD xp]=(ps.take (i+1)).map fun h=>qcD h.p:=by
     rw[List.take_add_one,hx];simp
    have hrp:List.replicate i (⟨none,0,[],[]⟩:ObS)++ [⟨none,0,[],[]⟩]=List.replicate (i+1) ⟨none,0,[],[]⟩:=List.replicate_succ'.symm
    have e1:((ps.take (i+1)).map fun h=>qcD h.p).length=((ps.take i).map fun h=>qcD h.p).length+1:=by rw[←htk];simp
    have e2:(List.replicate (i+1) (⟨none,0,[],[]⟩:ObS)).length=(List.replicate i (⟨none,0,[],[]⟩:ObS)).length+1:=by simp
    rw[htk] at hb9
    rw[hrp] at hb8
    refine⟨(i+1,(a9,c9,D9),(a8,c8,D8)),⟨hil,hb9,hb8⟩,(by show ps.length-(i+1)<ps.length-i;omega),(eF),?_⟩
    dsimp only
    rw[e1,e2]
    exact qqO
  ·have hiN:i=ps.length:=by omega
   subst hiN
   rw[List.take_length] at hBt ⊢
   repeat'((try(conv=>whnf));first|(refine fG ?_)|(refine fA ?_))
   have hT:(q7G c il (ps.map PH.p)).T=ps.map fun h=>qcD h.p:=by simp[q7G,qcD]
   have hz:q5q (List.replicate ps.length (⟨none,0,[],[]⟩:ObS))= []:=by simp[q5q]
   have hk:(q7G c il (ps.map PH.p)).tk.length=(qy c).toNat:=by simp[q7G]
   refine⟨(⟨gb,iv,a5,c5,kv,a2,c2,D2,a3,c3,D3,ta,tc,tD,none,0,[],[],[],oa,oc,oD,List.replicate ps.length ⟨none,0,[],[]⟩⟩,ys,kD),⟨rfl,⟨hB2,hb3,RdE.up (hBk.rd (W0:=W0)),?_,hT ▸ hBt,qr.nil,rfl,(fun _ h=>(by cases h)),hBo,?_,?_⟩,hpp⟩,?_⟩
   ·intro h hh
    obtain⟨x,hx,rfl⟩:=List.mem_map.1 hh
    exact qhO hx ((hys x hx).rd (W0:=W0))
   ·intro x hx
    rw[List.eq_of_mem_replicate hx]
    exact qr.nil
   ·simp only[q7G,List.map_map,List.map_replicate]
    exact(List.map_const' ..).symm
   ·dsimp only[DP.O,DP.cells]
    rw[hT,hz,hk]
    exact qqP
end
open Go
section
variable{W0:World}{own:Own}{c:Cfg}{ia pa ka:Option Addr}{ic pc kc:Nat}{ps:List PH}{il ks:List Int}{ca:Option Addr}{cc:Nat}{cl:List CH}
theorem qpB(c:Cfg)(ia pa ka:Option Addr)(il ic pn pc kn kc:Nat)(own:Own):qD Tryz.prog W0 40 [qi0 c ia il ic pa pn pc ka kn kc] own (qi0 c ia il ic pa pn pc none 0 0):=by
 refine qe (qa qj qnp (by simp[qmd]) ?_)
 repeat'((try(conv=>whnf));first|(refine fL ?_)|(refine fN ?_)|(refine fM ?_)|(refine qc (fun bk hbk=> ?_)))
 all_goals exact⟨rfl,(eC)⟩
theorem qog{a b:Nat×(Obj→Prop)}{A Z:Own}:Ent W0 (a::(b::(A++Z))) (A++([a,b]++Z)):=qo []
theorem qpk{a b:Nat×(Obj→Prop)}{A Z:Own}:Ent W0 (A++([a,b]++Z)) (a::(b::(A++Z))):=qo []
theorem qpl{a b:Nat×(Obj→Prop)}{A B Z:Own}:Ent W0 (A++([a,b]++(B++Z))) Z:=qo (a::b::(A++B))
theorem qqd(hI:RdE q7j 1 W0 own ia il)(hil:il.length≤500000)(hw:∀x∈il,okU x)(hP:RdE PH.enc 1 W0 own pa ps)(hQ:∀h∈ps,RdE Ins.enc 5 W0 own h.a h.p)(hK:RdE qM 1 W0 own ka ks)(hkl:ks.length≤1000000)
  (hC:RdE CH.enc 3 W0 own ca cl) (hA:∀x∈cl,RdE qM 1 W0 own x.a x.ad∧x.ad.length≤x.ac∧∀a∈x.ad,a≤9223372036854775807) (hcl:cl.length≤5000):
  q0E Tryz.prog W0 19 [qi0 c ia il.length ic pa ps.length pc ka ks.length kc, .slice ca cl.length cc] own fun v own'=>
   ((∃k e:Int,v= .tuple #[qrb, .int .i64 k, .int .i64 e]∧(((csM c il.length ps []).2.2≠0∧k=0∧e=(csM c il.length ps []).2.2)∨(csM c il.length ps []=(0,0,0)∧e=70∧∃j:Nat,k=j∧qce c (ps.map PH.p) (cl.map CH.m) 0 (q7G c il (ps.map PH.p))= .inr j)))∧Ent W0 own' own)∨
   ∃y:RG×GS,(v= .tuple #[y.1.v y.2, .int .i64 0, .int .i64 0]∧csM c il.length ps []=(0,0,0)∧qce c (ps.map PH.p) (cl.map CH.m) 0 (q7G c il (ps.map PH.p))= .inl y.2∧y.1.ok W0 y.2)∧Ent W0 own' (y.1.D++own):=by
 refine qa qj qnz (by simp[qmj]) ?_
 have hcs:=fun(own':Own) [qt own' own]=>qr6 (c:=c) (ia:=ia) (il:=il.length) (ic:=ic) (pc:=pc) (ka:=none) (ks:= []) (kc:=0) (own:=own') (RdE.up hP) (fun h hh=>RdE.up (hQ h hh)) RdE.nil
 have hba:=fun own'=>qpB (W0:=W0) c ia pa ka il.length ic ps.length pc ks.length kc own'
 by_cases he:(csM c il.length ps []).2.2≠0
 ·generalize csM c il.length ps []=z at*
  obtain⟨zt,za,ze⟩:=z
  dsimp only at he
  repeat'((try(conv=>whnf));first|(refine fF ?_)|((with_reducible show qf _ _ _ _ _ _);first|((refine qh (hba _) ?_ ?_ ?_;(exact rfl);exact rfl))|((refine qh (hcs _) ?_ ?_ ?_;(exact rfl);exact rfl)))|(refine fO ?_)|(refine fL ?_)|(refine fM ?_)|(refine qc (fun bk hbk=> ?_)))
  all_goals exact .inl ⟨⟨0,ze,rfl, .inl ⟨he,rfl,rfl⟩⟩,(eC)⟩
 ·obtain⟨h0,hc0,hpl,hiw,hck⟩:=qh1 (show(csM c il.length ps []).2.2=0 by omega)
  have hnw:=fun b2 b4=>qp3 (own:= [(b4,fun o=>o=Obj.cells #[.slice none 0 0, .slice none 0 0, .slice none 0 0, .slice none 0 0] 52 (0,0)),(b2,fun o=>o=Obj.cells (qiF c (.slice ia il.length ic) (.slice pa ps.length pc) (.slice ka ks.length kc)) 32 (0,0))]++own) (c:=c) (ic:=ic) (pc:=pc) (ka:=ka) (ks:=ks) (kc:=kc) (RdE.up hI) (by omega) (RdE.up hP) hpl.2 (fun h hh=>⟨RdE.up (hQ h hh),q6A (hck h hh)⟩) (RdE.up hK) hkl
  have hG0:GOk c (ps.map PH.p) (q7G c il (ps.map PH.p)):=qgw hc0 hiw hw fun p hp=>by obtain⟨x,hx,rfl⟩:=List.mem_map.1 hp;exact hck x hx
  have hn0:(q7G c il (ps.map PH.p)).n=0:=rfl
  have hc1:=hC
  rw[h0] at hcs ⊢
  generalize q7G c il (ps.map PH.p)=s0 at*
  repeat'((try(conv=>whnf));first|(refine qc (fun b2 h2=> ?_);(apply Stop.h)))
  refine Stop.mk ?_
  repeat'((try(conv=>whnf));first|(refine qc (fun b4 h4=> ?_);(apply Stop.h)))
  refine Stop.mk ?_
  repeat'((try(conv=>whnf));first|(refine fD ?_)|((with_reducible show qf _ _ _ _ _ _);first|((refine qh (hba _) ?_ ?_ ?_;(exact rfl);exact rfl))|((refine qh (hcs _) ?_ ?_ ?_;(exact rfl);exact rfl))|((refine qm (hnw b2 b4) ?_ ?_ ?_ (fun y v hv=> ?_);(exact qqv);(exact rfl);(exact rfl);(apply Stop.h))))|(refine fO ?_)|(refine fL ?_))
  obtain⟨g,ys,kD⟩:=y
  obtain⟨rfl,hok,hpp⟩:=hv
  dsimp only at hok hpp ⊢
  generalize hPe:ps.map PH.p=P at*
  refine Stop.mk ?_
  refine q0Z (σ:=Nat×DP×GS) (fun y=> [(11, .int .i64 y.1)])
   (fun y=>(b4,fun o=>o=Obj.cells #[.slice none 0 0, .slice none 0 0, .slice none 0 0, .slice none 0 0] 52 (0,0))::((b2,fun o=>o=Obj.cells (qiF c (.slice ia il.length ic) (.slice pa ps.length pc) (.slice ka ks.length kc)) 32 (0,0))::(y.2.1.O c (ys.map PB.h).length y.2.2++((kD++q9L ys)++own))))
   (fun y=>y.1≤cl.length∧y.2.1.ok W0 (kD++q9L ys) (ys.map PB.h) y.2.2∧y.2.1.rb=g.rb∧GOk c P y.2.2∧y.2.2.n=y.1∧qce c P (cl.map CH.m) 0 s0=qce c P ((cl.drop y.1).map CH.m) y.1 y.2.2)
   (fun y=>cl.length-y.1) (0,g,s0) ⟨Nat.zero_le _,hok,rfl,hG0,hn0,rfl⟩ (eF) ?_ rfl ?_
  ·exact qqw
  ·rintro⟨k,g1,s1⟩ junk ⟨hk,hok1,hgb,hG1,hn1,hrun⟩
   dsimp only at hk hok1 hgb hG1 hn1 hrun ⊢
   by_cases hkl:k<cl.length
   ·obtain⟨x,hx⟩:∃x,cl[k]? =some x:=⟨_,List.getElem?_eq_getElem hkl⟩
    obtain⟨hxA,hxl,hxr⟩:=hA x (List.mem_of_getElem? hx)
    obtain⟨xt,xf,xa,xad,xac⟩:=x
    dsimp only at hxA hxl hxr
    rw[q4I hx] at hrun
    simp only[List.map_cons,qce] at hrun
    have hG1':=hG1
    rw[←hpp] at hG1'
    have hdo:=qpQ (c:=c) hok1 hG1' (by omega) xt xf hxA hxl hxr ([(b4,fun o=>o=Obj.cells #[.slice none 0 0, .slice none 0 0, .slice none 0 0, .slice none 0 0] 52 (0,0)),(b2,fun o=>o=Obj.cells (qiF c (.slice ia il.length ic) (.slice pa ps.length pc) (.slice ka ks.length kc)) 32 (0,0))]++((kD++q9L ys)++own))
    rw[hpp] at hdo
    have hdk:=qeY hG1 (ch:=⟨xt,xf,xad⟩) hxr
    rw[hgb] at hdo
    by_cases hz:(doM c P s1 ⟨xt,xf,xad⟩).1=0
    ·have hdn:=qrs hz
     rw[if_pos hz] at hrun
     generalize doM c P s1 ⟨xt,xf,xad⟩=z at*
     obtain⟨zc,s2⟩:=z
     dsimp only at hz hdo hdk hrun hdn
     subst hz
     repeat'((try(conv=>whnf));first|(refine fD ?_)|(refine fF ?_)|((with_reducible show IxS _ _ _ _ _);first|((refine ixE hc1 hx ?_ ?_;(first|rfl|omega))))|((with_reducible show LdN _ _ _ _ _);first|(refine q2e hc1 hx rfl ?_))|((with_reducible show qf _ _ _ _ _ _);first|((refine qm hdo ?_ ?_ ?_ (fun g2 v hg2=> ?_);(exact qog);(exact rfl);(exact rfl);(obtain⟨rfl,hok2,hgb2⟩:=hg2))))|(refine fB ?_))
     exact⟨(k+1,g2,s2),⟨hkl,hok2,hgb2,hdk,hdn.trans (by rw[hn1]),hrun⟩,(by show cl.length-(k+1)<cl.length-k;omega),(eF),qpk⟩
    ·have hdc:=qpY hz
     rw[if_neg hz] at hrun
     rw[hdc] at hdo
     dsimp only at hdo
     repeat'((try(conv=>whnf));first|(refine fE ?_)|(refine fF ?_)|((with_reducible show IxS _ _ _ _ _);first|((refine ixE hc1 hx ?_ ?_;(first|rfl|omega))))|((with_reducible show LdN _ _ _ _ _);first|(refine q2e hc1 hx rfl ?_))|((with_reducible show qf _ _ _ _ _ _);first|((refine qm hdo ?_ ?_ ?_ (fun g2 v hg2=> ?_);(exact qog);(exact rfl);(exact rfl);(obtain⟨rfl,hok2,hgb2⟩:=hg2))))|(refine fL ?_)|(refine fM ?_))
     exact .inl ⟨⟨k,70,rfl, .inr ⟨rfl,rfl,k,rfl,hrun⟩⟩,qpl⟩
   ·have hkN:k=cl.length:=by omega
    subst hkN
    rw[List.drop_length] at hrun
    have hPl:P.length≤16:=by rw[←hPe,List.length_map];exact hpl.2
    have hsz:=hG1.sz (by omega) hPl
    have hrs:=fun q=>qoz (c:=c) hok1 hsz.d hsz.t hsz.e hsz.o hsz.ol hsz.ev q
    rw[hgb] at hrs
    have hrk:=qG (E:= [(b4,fun o=>o=Obj.cells #[.slice none 0 0, .slice none 0 0, .slice none 0 0, .slice none 0 0] 52 (0,0)),(b2,fun o=>o=Obj.cells (qiF c (.slice ia il.length ic) (.slice pa ps.length pc) (.slice ka ks.length kc)) 32 (0,0))]) (q:=(kD++q9L ys)++own) (D:=g1.O c (ys.map PB.h).length s1) (O:=fun r:RG=>r.D++g1.O c (ys.map PB.h).length s1) (R:=fun r v=>v=r.v s1∧r.ok W0 s1) (fun q=>by simpa only[List.append_assoc] using hrs q)
    repeat'((try(conv=>whnf));first|(refine fG ?_)|((with_reducible show qf _ _ _ _ _ _);first|((refine qm hrk ?_ ?_ ?_ (fun r v hr=> ?_);(exact qqt);(exact rfl);(exact rfl);(obtain⟨rfl,hrok⟩:=hr))))|(refine fL ?_)|(refine fM ?_))
    exact .inr ⟨(r,s1),⟨rfl,rfl,hrun,hrok⟩,qqu⟩
end
open Go
section
variable{W0:World}{own:Own}{a:Option Addr}{l:List Int}{cap:Nat}
theorem qr5(hR:RdE qM 1 W0 own a l)(j:Nat):qD Tryz.prog W0 49 [.slice a l.length cap, .int .i64 j] own (.int .i64 (l.getD j 0)):=by
 refine qe (qa qj qot (by simp[qmO]) ?_)
 rw[List.getD_eq_getElem?_getD]
 by_cases hj:j<l.length
 ·obtain⟨x,hx⟩:∃x,l[j]? =some x:=⟨_,List.getElem?_eq_getElem hj⟩
  repeat'((try(conv=>whnf));first|(refine fH ?_)|(refine fF ?_)|((with_reducible show Ld _ _ _ _);first|(refine q1M hR hx rfl ?_))|((with_reducible show IxS _ _ _ _ _);first|((refine ixE hR hx ?_ ?_;(first|rfl|omega)))))
  all_goals exact⟨by rw[hx];rfl,(eC)⟩
 ·repeat'((try(conv=>whnf));first|(refine fH ?_)|(refine fG ?_))
  all_goals exact⟨by rw[List.getElem?_eq_none (by omega)];rfl,(eC)⟩
end
open Go
section
variable{W0:World}{Kp K:Own}{g:DP}{c:Cfg}{ps:List PH}{P:List (List Ins)}{s:GS}{rb:Nat}
theorem qqe(hrb:g.rb=rb)(h:g.ok W0 Kp ps s)(hG:GOk c P s)(hP:ps.map PH.p=P)(hn:s.n≤5000)(t f:Int){aa:Option Addr}{ad:List Int}{ac:Nat}(hA:RdE qM 1 W0 K aa ad)(hal:ad.length≤ac)(had:∀a∈ad,a≤9223372036854775807)(q:Own) [ek:qt q Kp] [ek2:qt q K]:
  q0E Tryz.prog W0 45 [.pointer (some ⟨rb,0,none⟩),chV t f aa ad.length ac] (g.O c ps.length s++q) fun v own'=>∃g':DP,
   (v= .int .i64 (doM c P s ⟨t,f,ad⟩).1∧g'.ok W0 Kp ps (doM c P s ⟨t,f,ad⟩).2∧g'.rb=rb)∧Ent W0 own' (g'.O c ps.length (doM c P s ⟨t,f,ad⟩).2++q):=by
 subst hrb;subst hP
 exact qpQ (c:=c) h hG hn t f hA hal had q
end
open Go
def gs0:GS:=⟨[],[],[],[],[],0⟩
def rg0:RG:=⟨none,0,[],none,0,[],none,0,[],[],[],none,0,[],[]⟩
theorem qpO{W0:World}:rg0.ok W0 gs0:=⟨qr.nil,qr.nil,qr.nil,rfl,(fun _ h=>(by cases h)),qr.nil,(fun _ h=>(by cases h)),rfl⟩
def qrx:GS ⊕ Nat→GS×Int×Int
 | .inl s=>(s,0,0)
 | .inr j=>(gs0,j,70)
def qnJ(c:Cfg)(il:List Int)(ps:List PH)(cl:List ChM):GS×Int×Int:=
 if(csM c il.length ps []).2.2≠0 then(gs0,0,(csM c il.length ps []).2.2) else qrx (qce c (ps.map PH.p) cl 0 (q7G c il (ps.map PH.p)))
section
variable{W0:World}{own:Own}{c:Cfg}{ia pa ka:Option Addr}{ic pc kc:Nat}{ps:List PH}{il ks:List Int}{ca:Option Addr}{cc:Nat}{cl:List CH}
theorem qq7{W0:World}{v:Value}{own':Own}
  (h:((∃k e:Int,v= .tuple #[qrb, .int .i64 k, .int .i64 e]∧(((csM c il.length ps []).2.2≠0∧k=0∧e=(csM c il.length ps []).2.2)∨(csM c il.length ps []=(0,0,0)∧e=70∧∃j:Nat,k=j∧qce c (ps.map PH.p) (cl.map CH.m) 0 (q7G c il (ps.map PH.p))= .inr j)))∧Ent W0 own' own)∨
   ∃y:RG×GS,(v= .tuple #[y.1.v y.2, .int .i64 0, .int .i64 0]∧csM c il.length ps []=(0,0,0)∧qce c (ps.map PH.p) (cl.map CH.m) 0 (q7G c il (ps.map PH.p))= .inl y.2∧y.1.ok W0 y.2)∧Ent W0 own' (y.1.D++own)):
  ∃y:RG,(v= .tuple #[y.v (qnJ c il ps (cl.map CH.m)).1, .int .i64 (qnJ c il ps (cl.map CH.m)).2.1, .int .i64 (qnJ c il ps (cl.map CH.m)).2.2]∧y.ok W0 (qnJ c il ps (cl.map CH.m)).1)∧Ent W0 own' (y.D++own):=by
 rcases h with ⟨⟨k,e,rfl,h⟩,hE⟩|⟨⟨y,s⟩,⟨rfl,h0,hr,hy⟩,hE⟩
 ·refine⟨rg0,?_,hE⟩
  rcases h with ⟨hne,rfl,rfl⟩|⟨h0,rfl,j,rfl,hr⟩
  ·unfold qnJ
   rw[if_pos hne]
   exact⟨rfl,qpO⟩
  ·unfold qnJ
   rw[if_neg (by rw[h0];simp),hr]
   exact⟨rfl,qpO⟩
 ·refine⟨y,?_,hE⟩
  unfold qnJ
  rw[if_neg (by rw[h0];simp),hr]
  exact⟨rfl,hy⟩
theorem qpA(hI:RdE q7j 1 W0 own ia il)(hil:il.length≤500000)(hw:∀x∈il,okU x)(hP:RdE PH.enc 1 W0 own pa ps)(hQ:∀h∈ps,RdE Ins.enc 5 W0 own h.a h.p)(hK:RdE qM 1 W0 own ka ks)(hkl:ks.length≤1000000)
  (hC:RdE CH.enc 3 W0 own ca cl) (hA:∀x∈cl,RdE qM 1 W0 own x.a x.ad∧x.ad.length≤x.ac∧∀a∈x.ad,a≤9223372036854775807) (hcl:cl.length≤5000):
  q0E Tryz.prog W0 19 [qi0 c ia il.length ic pa ps.length pc ka ks.length kc, .slice ca cl.length cc] own fun v own'=>
   ∃y:RG,(v= .tuple #[y.v (qnJ c il ps (cl.map CH.m)).1, .int .i64 (qnJ c il ps (cl.map CH.m)).2.1, .int .i64 (qnJ c il ps (cl.map CH.m)).2.2]∧y.ok W0 (qnJ c il ps (cl.map CH.m)).1)∧Ent W0 own' (y.D++own):=by
 have h:=qqd (c:=c) (ic:=ic) (pc:=pc) (kc:=kc) (cc:=cc) hI hil hw hP hQ hK hkl hC hA hcl
 intro w hs
 refine(h w hs).mono fun _ _ ⟨v,o,a,b,hv⟩=>⟨v,o,a,b,qq7 hv⟩
end
section
variable{W0:World}{own:Own}{m:MS}{st:Bool}{ca:Option Addr}{cc:Nat}{cl:List CH}
theorem MS.ok.ilu(h:m.ok st):∀x∈m.il,okU x:=fun x hx=>by have:=h.iw x hx;exact⟨by omega,by omega⟩
theorem MS.ok.il5(h:m.ok st):m.il.length≤500000:=by
 have h1:=h.il
 have h2:=(q1R h.c0).1
 unfold okW at h2
 omega
end
open Go
theorem qod{n:Nat}{ρ:Int→Int}(hρ:∀a b,ρ a=ρ b→a=b)(hr:∀t,(0≤ρ t∧ρ t<n)↔(0≤t∧t<n)):∀(l l':List EH) (i:Nat) (pa pa':Int) (last last':List Int),qgC ρ l l'→l.Pairwise (fun a b=>a.ev≤b.ev)→l'.Pairwise (fun a b=>a.ev≤b.ev)→(∀e∈l,i=0∨pa≤e.ev)→(∀e∈l',i=0∨pa'≤e.ev)→
  last.length=n→last'.length=n→(∀t:Int,0≤t→t<n→last'.getD (ρ t).toNat 0=last.getD t.toNat 0)→qaT n l' i pa' last'=qaT n l i pa last
 | [],[],_,_,_,_,_,_,_,_,_,_,_,_,_=>rfl
 |e::l,e'::l',i,pa,pa',last,last',⟨⟨h1,h2,h3,h4,h5⟩,h⟩,hs,hs',hp,hp',hl,hl',hla=>by
  have hf:q1m n (i==0) pa' (last'.getD e'.t.toNat 0) e'=q1m n (i==0) pa (last.getD e.t.toNat 0) e:=by
   unfold q1m
   rw[h1,h2,h3,h4,h5]
   have ha:((i==0)=true∨pa≤e.ev):=by
    rcases hp e List.mem_cons_self with h|h
    ·exact .inl (by rw[h];rfl)
    ·exact .inr h
   have hb:((i==0)=true∨pa'≤e'.ev):=by
    rcases hp' e' List.mem_cons_self with h|h
    ·exact .inl (by rw[h];rfl)
    ·exact .inr h
   by_cases ht:0≤e.t∧e.t<n
   ·rw[hla e.t ht.1 ht.2]
    have:=(hr e.t).2 ht
    congr 3
    apply decide_eq_decide.2
    constructor
    ·rintro⟨_,_,a,b,_,c⟩;exact⟨ht.1,ht.2,a,b,ha,c⟩
    ·rintro⟨_,_,a,b,_,c⟩;exact⟨this.1,this.2,a,b,hb,c⟩
   ·have hn:¬(0≤ρ e.t∧ρ e.t<n):=fun h=>ht ((hr e.t).1 h)
    rw[decide_eq_false (p:=0≤e.t∧_) fun h=>ht ⟨h.1,h.2.1⟩,decide_eq_false (p:=0≤ρ e.t∧_) fun h=>hn ⟨h.1,h.2.1⟩]
    simp
  unfold qaT
  rw[hf]
  split
  ·rename_i hfit
   have hin:0≤e.t∧e.t<n:=by
    unfold q1m at hfit
    simp only[Bool.and_eq_true,decide_eq_true_eq] at hfit
    exact⟨hfit.1.1.1.1,hfit.1.1.1.2.1⟩
   rw[List.pairwise_cons] at hs hs'
   refine qod hρ hr l l' (i+1) e.ev e'.ev _ _ h hs.2 hs'.2 (fun x hx=> .inr (hs.1 x hx)) (fun x hx=> .inr (hs'.1 x hx)) (by rw[List.length_set];exact hl) (by rw[List.length_set];exact hl') fun t h0 hn=> ?_
   have hre:=(hr e.t).2 hin
   have hrt:=(hr t).2 ⟨h0,hn⟩
   rw[h1,h2,List.getD_eq_getElem?_getD,List.getD_eq_getElem?_getD]
   by_cases ht:t=e.t
   ·subst ht
    rw[List.getElem?_set_self (by omega),List.getElem?_set_self (by omega)]
   ·have hne:ρ e.t≠ρ t:=fun e2=>ht (hρ _ _ e2).symm
    rw[List.getElem?_set_ne (by omega),List.getElem?_set_ne (by omega)]
    have:=hla t h0 hn
    rw[List.getD_eq_getElem?_getD,List.getD_eq_getElem?_getD] at this
    exact this
  ·rfl
theorem qqR{n:Nat}{ρ:Int→Int}(hρ:∀a b,ρ a=ρ b→a=b)(hr:∀t,(0≤ρ t∧ρ t<n)↔(0≤t∧t<n)){l l':List EH}(h:qgC ρ l l')(hs:l.Pairwise (fun a b=>a.ev≤b.ev))(hs':l'.Pairwise (fun a b=>a.ev≤b.ev)):Ord.frR l' n=Ord.frR l n:=by
 have hc:q7q l' n=q7q l n:=by
  unfold q7q
  rw[h.len,Int.toNat_natCast,qod hρ hr l l' 0 0 0 (List.replicate n 0) (List.replicate n 0) h hs hs' (fun _ _=> .inl rfl) (fun _ _=> .inl rfl) List.length_replicate List.length_replicate fun t h0 hn=>by
   have:=(hr t).2 ⟨h0,hn⟩
   rw[List.getD_eq_getElem?_getD,List.getD_eq_getElem?_getD,List.getElem?_replicate,List.getElem?_replicate,if_pos (by omega),if_pos (by omega)]]
 unfold Ord.frR
 rw[hc,(h.sim hρ).frst]
theorem qpM{E:List EvM}(h:E.Pairwise (fun a b=>a.ev≤b.ev)):(E.map evH).Pairwise (fun a b=>a.ev≤b.ev):=List.pairwise_map.2 h
theorem qpN:∀E E':List EvM,E'.map evZ=E.map evZ→qgC id (E.map evH) (E'.map evH)
 | [],[],_=>trivial
 | [],_::_,h=>by cases h
 |_::_,[],h=>by cases h
 |e::E,e'::E',h=>by
  simp only[List.map_cons,List.cons.injEq] at h
  obtain⟨ev,t,k,w,r,wl⟩:=e
  obtain⟨ev',t',k',w',r',wl'⟩:=e'
  have h1:=h.1
  unfold evZ at h1
  simp only[EvM.mk.injEq,true_and] at h1
  obtain⟨rfl,rfl,rfl,rfl,rfl⟩:=h1
  exact⟨⟨rfl,rfl,rfl,rfl,rfl⟩,qpN E E' h.2⟩
theorem qqX{n:Nat}{s s':GS}(h:EqS s s')(h1:EvS s)(h2:EvS s'):rcC n s'.E=rcC n s.E:=by
 rw[qjI,qjI,qqR (ρ:=id) (fun _ _ h=>h) (fun _=>Iff.rfl) (qpN s.E s'.E h.E) (qpM h1.st) (qpM h2.st)]
section
variable{W0:World}{own:Own}{la:Option Addr}{lc:Nat}{ls:List IH}
theorem qqc(hL:RdE IH.enc 1 W0 own la ls)(hll:ls.length≤17592186043904)(hQ:∀h∈ls,h.l.length≤17592186043904):
  q0E Tryz.prog W0 9 [.slice la ls.length lc] own fun v own'=>∃z:Bool,(v= .bool z∧(z=false→ls.length≤3∧∀h∈ls,h.l.length≤24))∧Ent W0 own' own:=by
 refine qa qj qnn (by simp[qmb]) ?_
 refine q0Z (σ:=Nat×Int) (fun y=> [(3, .int .i64 y.2),(4, .int .i64 y.1)]) (fun _=>own)
  (fun y=>y.1≤ls.length∧qks ls y.1 y.2) (fun y=>ls.length-y.1) (0,0) ⟨Nat.zero_le _,fun _=>⟨Int.le_refl _,by simp,fun _ h=>(by cases h)⟩⟩ (eF) Ent.refl rfl ?_
 rintro⟨i,n⟩ junk ⟨hi,hS⟩
 dsimp only at hi hS ⊢
 by_cases hil:i<ls.length
 ·obtain⟨x,hx⟩:∃x,ls[i]? =some x:=⟨_,List.getElem?_eq_getElem hil⟩
  have hxl:=hQ x (List.mem_of_getElem? hx)
  have hSn:=hS.next hx hxl
  obtain⟨xa,xc,xl⟩:=x
  repeat'((try(conv=>whnf));first|(refine fF ?_)|(refine fB ?_)|(refine arw ?_)|((with_reducible show Ld _ _ _ _);first|(refine q1M hL hx rfl ?_))|((with_reducible show IxS _ _ _ _ _);first|((refine ixE hL hx ?_ ?_;(first|rfl|omega)))))
  exact⟨(i+1,_),⟨hil,hSn⟩,(by show ls.length-(i+1)<ls.length-i;omega),(eF),Ent.refl⟩
 ·have hiN:i=ls.length:=by omega
  subst hiN
  by_cases hc:(3:Int)<ls.length
  ·repeat'((try(conv=>whnf));first|(refine fI ?_)|(refine fG ?_)|(refine fJ ?_))
   all_goals exact⟨true,⟨rfl,fun h=>(by cases h)⟩,(eC)⟩
  ·obtain⟨hn0, -,hn2⟩:=hS (by omega)
   repeat'((try(conv=>whnf));first|(refine fH ?_)|(refine fG ?_)|(refine fK ?_))
   all_goals exact⟨decide (24<n),⟨rfl,fun hz=>by
    have hn:¬24<n:=of_decide_eq_false hz
    exact⟨by omega,fun h hh=>by have:=hn2 h (by rw[List.take_of_length_le (by omega)];exact hh);omega⟩⟩,(eC)⟩
end
open Go
abbrev qoW(w o:Int):Cfg:=⟨1+qbu w 12,1+qbu o 12,0,0,0,0,0,16,32,0,0,1000,false⟩
theorem qq5(w o:Int):qL (qoW w o)=0:=by
 have h1:=qbv w (n:=12) (by omega)
 have h2:=qbv o (n:=12) (by omega)
 exact(cm0 (by unfold okW;dsimp only;omega) (by unfold okH okC nB nW;dsimp only;omega) (by unfold okL;dsimp only;omega) (by unfold okK;dsimp only;omega)).symm
structure MS.cl(m:MS):Prop where
 i:qr q7j 58 1 m.ia m.ic m.il m.Di
 p:qr PH.enc 66 1 m.pa m.pc (m.ps.map PB.h) m.Dp
 q:∀x∈m.ps,x.ok∧qx x.h.p=(0,0)
 na:∀x∈m.ps,∀y∈x.h.p,y.op≠14∧y.op≠15
 len:∀x∈m.ps,x.h.p.length≤6
 il:(m.il.length:Int)=m.c.words
 iw:∀x∈m.il,0≤x∧x≤3
 pl:m.ps.length=2∨m.ps.length=3
 cw:1≤m.c.words∧m.c.words≤12
 c0:qL m.c=0
 cs:m.c.strong=false
section
variable{W0:World}{own:Own}{la:Option Addr}{lc:Nat}{ls:List IH}
theorem qpx(w o:Int):qD Tryz.prog W0 24 [.int .i64 w, .int .i64 o] own (qoW w o).v:=by
 refine qe (qa qj qno (by simp[qmc]) ?_)
 have hw:=qbv w (n:=12) (by omega)
 have ho:=qbv o (n:=12) (by omega)
 have p1:=fun q=>qbG W0 q w 12 (by omega)
 have p2:=fun q=>qbG W0 q o 12 (by omega)
 repeat'((try(conv=>whnf));first|((with_reducible show qf _ _ _ _ _ _);first|((refine qh (p1 _) ?_ ?_ ?_;(exact rfl);exact rfl))|((refine qh (p2 _) ?_ ?_ ?_;(exact rfl);exact rfl)))|(refine fB ?_)|(refine fL ?_)|(refine fM ?_)|(refine qc (fun bk hbk=> ?_)))
 all_goals exact⟨rfl,(eC)⟩
theorem qov{c:Cfg}(h0:qL c=0)(hcs:c.strong=false)(hcw:1≤c.words∧c.words≤12)(n:Int)(hn:n=2∨n=3)(hL:RdE IH.enc 1 W0 own la ls)(hQ:∀h∈ls,RdE qM 1 W0 own h.a h.l∧h.l.length≤1000000):
  q0E Tryz.prog W0 18 [c.v, .int .i64 n, .slice la ls.length lc, .int .i64 (8-n), .bool false, .bool true, .slice none 0 0] own fun v own'=>∃m:MS,(v=m.v∧m.cl∧m.c=c)∧Ent W0 own' (m.O++own):=fun w hw=>by
 refine(qiG (c:=c) (pka:=none) (pks:= []) (pkc:=0) n (8-n) false true (by omega) (by omega) (by omega) hL hQ RdE.nil (by simp) w hw).mono fun _ _ ⟨v,o,a,b,ia,il,ic,Di,pa,ps,pc,Dp,ka,ks,kc,Dk,hv,hI,hP,hK,hp,hl,hw,hpl,hkl,_,hE⟩=> ?_
 have hk0:ks= []:=List.eq_nil_of_length_eq_zero hkl
 subst hk0
 refine⟨v,o,a,b,⟨c,ia,il,ic,Di,pa,ps,pc,Dp,ka,kc,Dk⟩,⟨hv,⟨hI,hP,fun x hx=>⟨(hp x hx).1,by rw[qeS];exact(hp x hx).2.1⟩,fun x hx y hy=> ?_,fun x hx=>by have:=(hp x hx).2.2.1;omega,hl,hw,(by show ps.length=2∨ps.length=3;omega),hcw,h0,hcs⟩,rfl⟩,?_⟩
 ·have:=((hp x hx).2.2.2 y hy).2
  exact⟨fun h=>(by have:=this (.inl h);cases this),fun h=>(by have:=this (.inr h);cases this)⟩
 ·simpa only[MS.O,List.append_assoc] using hE
theorem qqs{x y z:Nat×(Obj→Prop)}{A Z:Own}:Ent W0 (x::(A++(y::(z::Z)))) (A++Z):=qo [x,y,z]
theorem qoY(w o:Int)(hL:RdE IH.enc 1 W0 own la ls)(hll:ls.length≤3)(hQ:∀h∈ls,RdE qM 1 W0 own h.a h.l∧h.l.length≤24):
  q0E Tryz.prog W0 11 [.int .i64 w, .int .i64 o, .slice la ls.length lc] own fun v own'=>∃m:MS,(v=m.v∧m.cl∧m.c=qoW w o)∧Ent W0 own' (m.O++own):=by
 refine qa qj qmZ (by simp[qlZ]) ?_
 have hw:=qbv w (n:=12) (by omega)
 have hro:=fun q=>qpx (W0:=W0) (own:=q) w o
 have hsc:=fun(own':Own) [qt own' own]=>qov (lc:=lc) (own:=own') (c:=qoW w o) (qq5 w o) rfl (by dsimp only;omega) (2+(ls.length:Int) % 2) (by omega) hL.up (fun h hh=>⟨(hQ h hh).1.up,by have:=(hQ h hh).2;omega⟩)
 generalize qoW w o=c at*
 repeat'((try(conv=>whnf));first|((with_reducible show qf _ _ _ _ _ _);first|((refine qh (hro _) ?_ ?_ ?_;(exact rfl);exact rfl))|((refine qm (hsc _) Ent.refl ?_ ?_ (fun m v hv=> ?_);(exact rfl);(exact rfl);(obtain⟨rfl,hm,hc⟩:=hv))))|(refine fB ?_)|(refine fL ?_)|(refine fM ?_)|(refine qc (fun bk hbk=> ?_))|(refine q9M ?_ ?_;omega))
 all_goals exact⟨m,⟨rfl,hm,hc⟩,qqs⟩
end
end Go.Proofs.YtkieffpjjfebjaaGreatDoor
