/- What the laws share, part 4. No condition. -/
import Derived.Test.YtkieffpjjfebjaaGreatDoorR3
set_option maxHeartbeats 16000000
set_option maxRecDepth 100000
namespace Go.Proofs.YtkieffpjjfebjaaGreatDoor
open Go
theorem qmL{p:List Ins}{k:Nat}{x:Ins}(hx:p[k]? =some x)(h:(p.take k).any alI=false)(hn:¬(x.op=14∨x.op=15)):(p.take (k+1)).any alI=false:=by
 rw[List.take_add_one,hx,List.any_append,h]
 unfold alI
 simp only[Option.toList,List.any_cons,List.any_nil]
 simpa using hn
theorem qmz{ps:List PH}{k:Nat}{x:PH}(hx:ps[k]? =some x)(h:alQ (ps.take k)=false)(hn:x.p.any alI=false):alQ (ps.take (k+1))=false:=by
 unfold alQ at*
 rw[List.take_add_one,hx,List.any_append,h]
 simp[hn]
theorem qmU{ps:List PH}{k j:Nat}{h:PH}{x:Ins}(hh:ps[k]? =some h)(hx:h.p[j]? =some x)(hn:x.op=14∨x.op=15):alQ ps=true:=by
 unfold alQ
 rw[List.any_eq_true]
 refine⟨h,List.mem_of_getElem? hh,?_⟩
 rw[List.any_eq_true]
 refine⟨x,List.mem_of_getElem? hx,?_⟩
 unfold alI
 rcases hn with hn|hn <;>simp[hn]
section
variable{W0:World}{own:Own}{c:Cfg}{ia pa ka:Option Addr}{ic pc kc:Nat}{ps:List PH}{il ks:List Int}{fa:Option Addr}{fc:Nat}{fo:List Int}
theorem qmh(k:Int):qD Tryz.prog W0 41 [.int .i64 k] own (.bool (decide (3≤k∧k≤6))):=by
 refine qe (qa qj qlX (by simp[qW]) ?_)
 by_cases h3:k=3
 ·subst h3
  repeat'((try(conv=>whnf));first|(refine fI ?_))
  all_goals exact⟨rfl,(eC)⟩
 ·by_cases h4:k=4
  ·subst h4
   repeat'((try(conv=>whnf));first|(refine fH ?_)|(refine fI ?_))
   all_goals exact⟨rfl,(eC)⟩
  ·by_cases h5:k=5
   ·subst h5
    repeat'((try(conv=>whnf));first|(refine fH ?_)|(refine fI ?_))
    all_goals exact⟨rfl,(eC)⟩
   ·by_cases h6:k=6
    ·subst h6
     repeat'((try(conv=>whnf));first|(refine fH ?_))
     all_goals exact⟨rfl,(eC)⟩
    ·have hd:decide (3≤k∧k≤6)=false:=decide_eq_false (by omega)
     rw[hd]
     repeat'((try(conv=>whnf));first|(refine fH ?_)|(refine fK ?_))
     all_goals exact⟨by rw[decide_eq_false h6];rfl,(eC)⟩
theorem qml(hP:RdE PH.enc 1 W0 own pa ps)(hpl:ps.length≤1000000)(hQ:∀h∈ps,RdE Ins.enc 5 W0 own h.a h.p)(hfo:RdE qM 1 W0 own fa fo)(lim:Int):
  qD Tryz.prog W0 16 [qhi c ia il.length ic pa ps.length pc ka ks.length kc, .slice fa fo.length fc, .int .i64 lim] own (.int .i64 (qfB c il.length ps fo lim)):=by
 refine qe (qa qj qm5 (by simp[qlP]) ?_)
 have hba:=fun own'=>qmC (W0:=W0) c ia pa ka il.length ic ps.length pc ks.length kc own'
 have hcs:=fun(own':Own) [qt own' own]=>qmY (c:=c) (ia:=ia) (il:=il.length) (ic:=ic) (pc:=pc) (ka:=none) (ks:= []) (kc:=0) (own:=own') hP.up (fun h hh=>(hQ h hh).up) RdE.nil
 unfold qfB
 by_cases h0:(csM c il.length ps []).2.2=0
 ·rw[if_neg (by omega)]
  have hck:=(qh6 h0).2.2.2.2
  generalize csM c il.length ps []=z at*
  obtain⟨z1,z2,z3⟩:=z
  dsimp only at h0 hcs
  subst h0
  have hpl2:∀h∈ps,h.p.length≤64:=fun h hh=>q6K (hck h hh)
  obtain⟨q0,q1,q2,q3,q4,q5,q6,q7,q8,q9,q10,q11,st⟩:=c
  dsimp only at*
  cases st with
  |true=>
   rw[if_pos (.inl rfl)]
   repeat'((try(conv=>whnf));first|(refine fE ?_)|(refine fD ?_)|(refine qc (fun b3 h3=> ?_))|((with_reducible show qg _ _ _ _ _ _);first|((refine qh (hba _) ?_ ?_ ?_;(exact rfl);exact rfl))|((refine qh (hcs _) ?_ ?_ ?_;(exact rfl);exact rfl)))|(refine fO ?_)|(refine fA ?_)|(refine fL ?_))
   all_goals exact⟨rfl,(eC)⟩
  |false=>
   repeat'((try(conv=>whnf));first|(refine fD ?_)|(refine qc (fun b3 h3=> ?_))|((with_reducible show qg _ _ _ _ _ _);first|((refine qh (hba _) ?_ ?_ ?_;(exact rfl);exact rfl))|((refine qh (hcs _) ?_ ?_ ?_;(exact rfl);exact rfl)))|(refine fO ?_)|(refine fA ?_)|(refine fL ?_))
   refine q1L (σ:=Nat) (fun i=> [(10, .int .i64 i)]) (fun i=>i≤ps.length∧alQ (ps.take i)=false) (fun i=>ps.length-i) 0 ⟨Nat.zero_le _,rfl⟩ (eF) rfl ?_
   rintro i junk ⟨hi,hI⟩
   by_cases hin:i<ps.length
   ·obtain⟨x,hx⟩:∃x,ps[i]? =some x:=⟨_,List.getElem?_eq_getElem hin⟩
    have hxm:=List.mem_of_getElem? hx
    have hxl:=hpl2 x hxm
    have hxR:=hQ x hxm
    have hay:=fun j y=>qmU (ps:=ps) (k:=i) (j:=j) (x:=y) hx
    have hat:=fun h=>qmz (k:=i) hx hI h
    obtain⟨xa,xc,xp⟩:=x
    dsimp only at hxl hxR hay hat
    have hin':(i:Int)<ps.length:=by omega
    repeat'((try(conv=>whnf));first|(refine fF ?_)|(refine fA ?_))
    refine q1L (σ:=Nat) (fun j=> [(11, .int .i64 j)]) (fun j=>j≤xp.length∧(xp.take j).any alI=false) (fun j=>xp.length-j) 0 ⟨Nat.zero_le _,rfl⟩ (eF) rfl ?_
    rintro j junk2 ⟨hj,hJ⟩
    by_cases hjn:j<xp.length
    ·obtain⟨y,hy⟩:∃y,xp[j]? =some y:=⟨_,List.getElem?_eq_getElem hjn⟩
     have hal:=fun h=>qmL hy hJ h
     have hye:=hay j y hy
     have hjn':(j:Int)<xp.length:=by omega
     obtain⟨o1,o2,o3,o4,o5⟩:=y
     dsimp only at hal hye
     by_cases ho:o1=14∨o1=15
     ·have haq:=hye ho
      rw[if_pos (.inr haq)]
      rcases ho with rfl|rfl
      all_goals
       repeat'((try(conv=>whnf));first|(refine fH ?_)|(refine fI ?_)|(refine fE ?_)|(refine fF ?_)|((with_reducible show Ld _ _ _ _);first|(refine q1N hP hx rfl ?_)|(refine q1N hxR hy rfl ?_))|((with_reducible show IxS _ _ _ _ _);first|((refine ixE hP hx ?_ ?_;(first|rfl|omega)))|((refine ixE hxR hy ?_ ?_;(first|rfl|omega))))|(refine fA ?_))
      all_goals exact⟨rfl,(eC)⟩
     ·have ho1:¬o1=14:=fun h=>ho (.inl h)
      have ho2:¬o1=15:=fun h=>ho (.inr h)
      repeat'((try(conv=>whnf));first|(refine fH ?_)|(refine fF ?_)|(refine fG ?_)|(refine fK ?_)|((with_reducible show Ld _ _ _ _);first|(refine q1N hP hx rfl ?_)|(refine q1N hxR hy rfl ?_))|((with_reducible show IxS _ _ _ _ _);first|((refine ixE hP hx ?_ ?_;(first|rfl|omega)))|((refine ixE hxR hy ?_ ?_;(first|rfl|omega))))|(refine fB ?_)|(refine fA ?_))
      all_goals exact⟨j+1,⟨hjn,hal ho⟩,(by show xp.length-(j+1)<xp.length-j;omega),(eF),Ent.refl⟩
    ·have hjN:j=xp.length:=by omega
     subst hjN
     have hjn':¬((xp.length:Nat):Int)<xp.length:=by omega
     rw[List.take_length] at hJ
     repeat'((try(conv=>whnf));first|(refine fG ?_)|((with_reducible show Ld _ _ _ _);first|(refine q1N hP hx rfl ?_))|((with_reducible show IxS _ _ _ _ _);first|((refine ixE hP hx ?_ ?_;(first|rfl|omega))))|(refine fB ?_)|(refine fA ?_))
     all_goals exact⟨i+1,⟨hin,hat hJ⟩,(by show ps.length-(i+1)<ps.length-i;omega),(eF),Ent.refl⟩
   ·have hiN:i=ps.length:=by omega
    subst hiN
    rw[List.take_length] at hI
    have hin':¬((ps.length:Nat):Int)<ps.length:=by omega
    rw[hI,if_neg (by simp)]
    by_cases h2:lim<1∨100000<lim∨(4:Int)<fo.length
    ·rw[if_pos h2]
     repeat'((try(conv=>whnf));first|(refine fH ?_)|(refine fI ?_)|(refine fE ?_)|(refine fF ?_)|(refine fG ?_)|(refine fA ?_)|(apply q4F;(exact rfl);(exact rfl);all_goals intro hc))
     all_goals first|exact⟨rfl,(eC)⟩|(exfalso;omega)
    ·rw[if_neg h2]
     have h2':(fo.length:Int)≤4:=by omega
     repeat'((try(conv=>whnf));first|(refine fH ?_)|(refine fG ?_)|(refine fK ?_)|(refine fA ?_))
     refine q1L (σ:=Nat) (fun i=> [(13, .int .i64 i)]) (fun i=>i≤fo.length∧foB (fo.take i)=true) (fun i=>fo.length-i) 0 ⟨Nat.zero_le _,rfl⟩ (eF) rfl ?_
     rintro k junk3 ⟨hk,hK⟩
     by_cases hkn:k<fo.length
     ·obtain⟨x,hx⟩:∃x,fo[k]? =some x:=⟨_,List.getElem?_eq_getElem hkn⟩
      have hkn':(k:Int)<fo.length:=by omega
      have hfc:=fun own=>qmh (W0:=W0) (own:=own) x
      by_cases hk2:3≤x∧x≤6
      ·rw[decide_eq_true hk2] at hfc
       repeat'((try(conv=>whnf));first|(refine fD ?_)|(refine fF ?_)|((with_reducible show Ld _ _ _ _);first|(refine q1N hfo hx rfl ?_))|((with_reducible show IxS _ _ _ _ _);first|((refine ixE hfo hx ?_ ?_;(first|rfl|omega))))|((with_reducible show qg _ _ _ _ _ _);first|((refine qh (hfc _) ?_ ?_ ?_;(exact rfl);exact rfl)))|(refine fB ?_))
       all_goals exact⟨k+1,⟨hkn,qgM hx hK hk2⟩,(by show fo.length-(k+1)<fo.length-k;omega),(eF),Ent.refl⟩
      ·rw[qjO hx hk2]
       rw[decide_eq_false hk2] at hfc
       repeat'((try(conv=>whnf));first|(refine fE ?_)|(refine fF ?_)|((with_reducible show Ld _ _ _ _);first|(refine q1N hfo hx rfl ?_))|((with_reducible show IxS _ _ _ _ _);first|((refine ixE hfo hx ?_ ?_;(first|rfl|omega))))|((with_reducible show qg _ _ _ _ _ _);first|((refine qh (hfc _) ?_ ?_ ?_;(exact rfl);exact rfl))))
       all_goals exact⟨rfl,(eC)⟩
     ·have hkN:k=fo.length:=by omega
      subst hkN
      have hkn':¬((fo.length:Nat):Int)<fo.length:=by omega
      rw[List.take_length] at hK
      rw[hK]
      repeat'((try(conv=>whnf));first|(refine fG ?_))
      all_goals exact⟨rfl,(eC)⟩
 ·rw[if_pos h0]
  generalize csM c il.length ps []=z at*
  obtain⟨z1,z2,z3⟩:=z
  dsimp only at h0 hcs ⊢
  repeat'((try(conv=>whnf));first|(refine fF ?_)|(refine qc (fun b3 h3=> ?_))|((with_reducible show qg _ _ _ _ _ _);first|((refine qh (hba _) ?_ ?_ ?_;(exact rfl);exact rfl))|((refine qh (hcs _) ?_ ?_ ?_;(exact rfl);exact rfl)))|(refine fO ?_)|(refine fL ?_))
  all_goals exact⟨rfl,(eC)⟩
end
open Go
section
variable{W0:World}{own:Own}{la:Option Addr}{lc:Nat}{ls:List IH}
theorem qmO(hL:RdE IH.enc 1 W0 own la ls)(hll:ls.length≤17592186043904)(hQ:∀h∈ls,h.l.length≤17592186043904):
  q0E Tryz.prog W0 9 [.slice la ls.length lc] own fun v own'=>∃z:Bool,(v= .bool z∧(z=false→ls.length≤3∧∀h∈ls,h.l.length≤24))∧Ent W0 own' own:=by
 refine qa qj qm3 (by simp[qlN]) ?_
 refine q0Z (σ:=Nat×Int) (fun y=> [(3, .int .i64 y.2),(4, .int .i64 y.1)]) (fun _=>own)
  (fun y=>y.1≤ls.length∧qku ls y.1 y.2) (fun y=>ls.length-y.1) (0,0) ⟨Nat.zero_le _,fun _=>⟨Int.le_refl _,by simp,fun _ h=>(by cases h)⟩⟩ (eF) Ent.refl rfl ?_
 rintro⟨i,n⟩ junk ⟨hi,hS⟩
 dsimp only at hi hS ⊢
 by_cases hil:i<ls.length
 ·obtain⟨x,hx⟩:∃x,ls[i]? =some x:=⟨_,List.getElem?_eq_getElem hil⟩
  have hxl:=hQ x (List.mem_of_getElem? hx)
  have hSn:=hS.next hx hxl
  obtain⟨xa,xc,xl⟩:=x
  repeat'((try(conv=>whnf));first|(refine fF ?_)|(refine fB ?_)|(refine arw ?_)|((with_reducible show Ld _ _ _ _);first|(refine q1N hL hx rfl ?_))|((with_reducible show IxS _ _ _ _ _);first|((refine ixE hL hx ?_ ?_;(first|rfl|omega)))))
  exact⟨(i+1,_),⟨hil,hSn⟩,(by show ls.length-(i+1)<ls.length-i;omega),(eF),Ent.refl⟩
 ·have hiN:i=ls.length:=by omega
  subst hiN
  by_cases hc:(3:Int)<ls.length
  ·repeat'((try(conv=>whnf));first|(refine fI ?_)|(refine fG ?_)|(refine fJ ?_))
   all_goals exact⟨true,⟨rfl,fun h=>(by cases h)⟩,(eC)⟩
  ·obtain⟨hn0, -,hn2⟩:=hS (by omega)
   repeat'((try(conv=>whnf));first|(refine fH ?_)|(refine fG ?_)|(refine fK ?_))
   all_goals exact⟨decide (24<n),⟨rfl,fun hz=>by
    have hn:¬24<n:=of_decide_eq_false hz
    exact⟨by omega,fun h hh=>by have:=hn2 h (by rw[List.take_of_length_le (by omega)];exact hh);omega⟩⟩,(eC)⟩
end
open Go
theorem qmH{c:Cfg}{il:List Int}{ps:List PH}{fo:List Int}{lim:Int}(h:qfB c il.length ps fo lim≠0):(q5E c il ps fo lim).2=qfB c il.length ps fo lim:=by
 unfold q5E
 rw[if_pos h]
section
variable{W0:World}{own:Own}{la:Option Addr}{lc:Nat}{ls:List IH}{pa:Option Addr}{pc:Nat}{pl:List CH}{c2:Cfg}{ia2 pa2 ka2:Option Addr}{ic2 pc2 kc2:Nat}{ps2:List PH}{il2 ks2:List Int}{fa:Option Addr}{fc:Nat}{fo:List Int}
theorem qmi{c:Cfg}(hg:qm6 c)(st:Bool)(hL:RdE IH.enc 1 W0 own la ls)(hQ:∀h∈ls,RdE qM 1 W0 own h.a h.l∧h.l.length≤1000000):
  q0E Tryz.prog W0 18 [({c with strong:=st}:Cfg).v, .int .i64 2, .slice la ls.length lc, .int .i64 7, .bool true, .bool true, .slice none 0 0] own fun v own'=>∃m:MS,(v=m.v∧m.ok st)∧Ent W0 own' (m.O++own):=fun w hw=>by
 have hgu:=hg
 unfold qm6 at hgu
 refine(qiz (c:={c with strong:=st}) (pka:=none) (pks:= []) (pkc:=0) 2 7 true true (by dsimp only;omega) (by omega) (by omega) hL hQ RdE.nil (by simp) w hw).mono fun _ _ ⟨v,o,a,b,ia,il,ic,Di,pa,ps,pc,Dp,ka,ks,kc,Dk,hv,hI,hP,hK,hp,hl,hw,hpl,hkl,_,hE⟩=> ?_
 have hk0:ks= []:=List.eq_nil_of_length_eq_zero hkl
 subst hk0
 refine⟨v,o,a,b,⟨{c with strong:=st},ia,il,ic,Di,pa,ps,pc,Dp,ka,kc,Dk⟩,⟨hv,⟨hI,hP,hK,fun x hx=>⟨(hp x hx).1,by rw[qfO];exact(hp x hx).2.1⟩,hl,hw,(by show ps.length=2∨ps.length=3;omega),by dsimp only;omega,qmf hg st,rfl⟩⟩,?_⟩
 simpa only[MS.O,List.append_assoc] using hE
theorem qmq(hF:q0B W0)(hN:q1C W0 0 Ord.noneV)(n0 n1 n2 n3 n4:Int)(hh:qmT [n0,n1,n2,n3,n4])(hL:RdE IH.enc 1 W0 own la ls)(hll:ls.length≤17592186043904)(hQ:∀h∈ls,RdE qM 1 W0 own h.a h.l∧h.l.length≤17592186043904)
  (hI2:RdE q7i 1 W0 own ia2 il2) (hw2:∀x∈il2,0≤x∧x≤18446744073709551615) (hP2:RdE PH.enc 1 W0 own pa2 ps2) (hQ2:∀h∈ps2,RdE Ins.enc 5 W0 own h.a h.p) (hfo:RdE qM 1 W0 own fa fo) (lim:Int) (st:Bool):
  qD Tryz.prog W0 4 [qhi c2 ia2 il2.length ic2 pa2 ps2.length pc2 ka2 ks2.length kc2, .agg #[.int .i64 n0, .int .i64 n1, .int .i64 n2, .int .i64 n3, .int .i64 n4], .slice la ls.length lc, .slice fa fo.length fc, .int .i64 lim, .bool st] own (.bool true):=by
 refine qe (qa qj qlR (by simp[qb]) ?_)
 have haw:=fun own=>qka (W0:=W0) (own:=own) hF hN
 have hlo:=fun(own':Own) [qt own' own]=>qmO (lc:=lc) (own:=own') hL.up hll (fun h hh=>(hQ h hh).2)
 repeat'((try(conv=>whnf));first|(refine qc (fun b6 h6=> ?_);(apply Stop.h)))
 refine Stop.mk ?_
 repeat'((try(conv=>whnf));first|(refine qc (fun b7 h7=> ?_);(apply Stop.h)))
 refine Stop.mk ?_
 repeat'((try(conv=>whnf));first|((with_reducible show qg _ _ _ _ _ _);first|((refine qm (hlo _) Ent.refl ?_ ?_ (fun z v hv=> ?_);(exact rfl);(exact rfl);(apply Stop.h)))))
 obtain⟨rfl,hz⟩:=hv
 refine Stop.mk ?_
 cases z with
 |true=>
  repeat'((try(conv=>whnf));first|(refine fI ?_)|(refine fE ?_)|((with_reducible show qg _ _ _ _ _ _);first|((refine qh (haw _) ?_ ?_ ?_;(exact rfl);exact rfl))))
  all_goals exact⟨rfl,(eC)⟩
 |false=>
  obtain⟨hl3,hl24⟩:=hz rfl
  by_cases hb:(ps2.length:Int)≤20∧(il2.length:Int)≤80∧(fo.length:Int)≤8
  ·obtain⟨hp20,hi80,hf8⟩:=hb
   have hex:=fun(own':Own) [qt own' own]=>qcd (c:=c2) (ic:=ic2) (pc:=pc2) (ka:=ka2) (ks:=ks2) (kc:=kc2) (fc:=fc) (own:=own') hF hN (hI2.up) (by omega) hw2 hP2.up (by omega) (fun x hx=>(hQ2 x hx).up) hfo.up lim
   have hag:=fun(own':Own) [qt own' own]=>qml (c:=c2) (ia:=ia2) (il:=il2) (ic:=ic2) (pc:=pc2) (ka:=ka2) (ks:=ks2) (kc:=kc2) (fc:=fc) (own:=own') hP2.up (by omega) (fun x hx=>(hQ2 x hx).up) hfo.up lim
   have her:=fun h=>qmH (c:=c2) (il:=il2) (ps:=ps2) (fo:=fo) (lim:=lim) h
   generalize q5E c2 il2 ps2 fo lim=R at*
   obtain⟨⟨r1,r2,r3,r4⟩,e1⟩:=R
   dsimp only at hex her
   generalize qfB c2 il2.length ps2 fo lim=f1 at*
   have hsc:=fun(own':Own) [qt own' own] (c:Cfg) (hg:qm6 c)=>qmi (lc:=lc) (own:=own') hg st hL.up (fun h hh=>⟨(hQ h hh).1.up,by have:=hl24 h hh;omega⟩)
   repeat'((try(conv=>whnf));first|(refine fH ?_)|(refine fG ?_)|(refine fK ?_)|((with_reducible show qg _ _ _ _ _ _);first|((refine qm (hex _) Ent.refl ?_ ?_ (fun y v hv=> ?_);(exact rfl);(exact rfl);(apply Stop.h))))|(refine fA ?_)|(refine fL ?_))
   obtain⟨rfl, -⟩:=hv
   refine Stop.mk ?_
   repeat'((try(conv=>whnf));first|(refine qc (fun b13 h13=> ?_);(apply Stop.h))|(refine fO ?_))
   refine Stop.mk ?_
   repeat'((try(conv=>whnf));first|((with_reducible show qg _ _ _ _ _ _);first|((refine qh (hag _) ?_ ?_ ?_;(exact rfl);exact rfl))|((refine qn0 hh ?_ ?_ (fun c hg=> ?_);(exact rfl);(exact rfl);(apply Stop.h))))|(refine ix0 rfl ?_)|(refine ix1 rfl ?_)|(refine ix2 rfl ?_)|(refine ix3 rfl ?_)|(refine fP ?_)|(refine fA ?_)|(refine fL ?_)|(refine fM ?_))
   refine Stop.mk ?_
   repeat'((try(conv=>whnf));first|(refine qc (fun b16 h16=> ?_);(apply Stop.h)))
   refine Stop.mk ?_
   repeat'((try(conv=>whnf));first|((with_reducible show qg _ _ _ _ _ _);first|((refine qm (hsc _ c hg) Ent.refl ?_ ?_ (fun m v hv=> ?_);(exact rfl);(exact rfl);(apply Stop.h))))|(refine fL ?_)|(refine fN ?_)|(refine fM ?_))
   obtain⟨rfl,hm⟩:=hv
   refine Stop.mk ?_
   have hxm:=fun(own':Own) [qt own' m.O] [qt own' own]=>qcd (ks:= []) (c:=m.c) (ic:=m.ic) (pc:=m.pc) (ka:=m.ka) (kc:=m.kc) (fc:=fc) (own:=own') hF hN (hm.ri.up (W0:=W0)) hm.il5 hm.ilu hm.rp.up (by have:=hm.pl;rw[List.length_map];omega) (fun x hx=>(hm.rq x hx).up) hfo.up lim
   have ham:=fun(own':Own) [qt own' m.O] [qt own' own]=>qml (ks:= []) (c:=m.c) (ia:=m.ia) (il:=m.il) (ic:=m.ic) (pc:=m.pc) (ka:=m.ka) (kc:=m.kc) (fc:=fc) (own:=own') (hm.rp.up (W0:=W0)) (by have:=hm.pl;rw[List.length_map];omega) (fun x hx=>(hm.rq x hx).up) hfo.up lim
   have hem:=fun h=>qmH (c:=m.c) (il:=m.il) (ps:=m.ps.map PB.h) (fo:=fo) (lim:=lim) h
   rw[List.length_map] at hxm ham
   generalize q5E m.c m.il (m.ps.map PB.h) fo lim=R at*
   obtain⟨⟨q1,q2,q3,q4⟩,e2⟩:=R
   dsimp only at hxm hem
   generalize qfB m.c m.il.length (m.ps.map PB.h) fo lim=f2 at*
   repeat'((try(conv=>whnf));first|(refine qc (fun b17 h17=> ?_);(apply Stop.h)))
   refine Stop.mk ?_
   by_cases hf2:f2=0
   ·repeat'((try(conv=>whnf));first|(refine fI ?_)|(refine fE ?_)|(refine fJ ?_)|((with_reducible show qg _ _ _ _ _ _);first|((refine qh (ham _) ?_ ?_ ?_;(exact rfl);exact rfl))|((refine qh (haw _) ?_ ?_ ?_;(exact rfl);exact rfl)))|(refine fL ?_)|(refine fM ?_))
    all_goals exact⟨rfl,(eC)⟩
   ·by_cases hf1:f1=0
    ·repeat'((try(conv=>whnf));first|(refine fH ?_)|(refine fF ?_)|(refine fK ?_)|((with_reducible show qg _ _ _ _ _ _);first|((refine qh (ham _) ?_ ?_ ?_;(exact rfl);exact rfl))|((refine qh (haw _) ?_ ?_ ?_;(exact rfl);exact rfl)))|(refine fL ?_)|(refine fM ?_))
     all_goals exact⟨rfl,(eC)⟩
    ·obtain rfl:=her hf1
     obtain rfl:=hem hf2
     repeat'((try(conv=>whnf));first|(refine fH ?_)|(refine fG ?_)|(refine fK ?_)|((with_reducible show qg _ _ _ _ _ _);first|((refine qh (ham _) ?_ ?_ ?_;(exact rfl);exact rfl))|((refine qm (hxm _) Ent.refl ?_ ?_ (fun y v hv=> ?_);(exact rfl);(exact rfl);(apply Stop.h))))|(refine fL ?_)|(refine fM ?_))
     obtain⟨rfl, -⟩:=hv
     refine Stop.mk ?_
     repeat'((try(conv=>whnf));first|(refine fH ?_)|(refine fJ ?_)|((with_reducible show qg _ _ _ _ _ _);first|((refine qh (ham _) ?_ ?_ ?_;(exact rfl);exact rfl))|((refine qh (haw _) ?_ ?_ ?_;(exact rfl);exact rfl)))|(refine fO ?_)|(refine fL ?_)|(refine fM ?_)|(refine qc (fun bk hbk=> ?_)))
     all_goals exact⟨rfl,(eC)⟩
  ·by_cases h1:(ps2.length:Int)≤20
   ·by_cases h2:(il2.length:Int)≤80
    ·have h3:(fo.length:Int)>8:=by omega
     have h1':¬(ps2.length:Int)>20:=by omega
     have h2':¬(il2.length:Int)>80:=by omega
     repeat'((try(conv=>whnf));first|(refine fH ?_)|(refine fF ?_)|(refine fK ?_)|((with_reducible show qg _ _ _ _ _ _);first|((refine qh (haw _) ?_ ?_ ?_;(exact rfl);exact rfl)))|(refine fA ?_))
     all_goals exact⟨rfl,(eC)⟩
    ·have h1':¬(ps2.length:Int)>20:=by omega
     have h2':(il2.length:Int)>80:=by omega
     repeat'((try(conv=>whnf));first|(refine fH ?_)|(refine fI ?_)|(refine fE ?_)|(refine fJ ?_)|(refine fK ?_)|((with_reducible show qg _ _ _ _ _ _);first|((refine qh (haw _) ?_ ?_ ?_;(exact rfl);exact rfl)))|(refine fA ?_))
     all_goals exact⟨rfl,(eC)⟩
   ·have h1':(ps2.length:Int)>20:=by omega
    repeat'((try(conv=>whnf));first|(refine fH ?_)|(refine fI ?_)|(refine fE ?_)|(refine fJ ?_)|((with_reducible show qg _ _ _ _ _ _);first|((refine qh (haw _) ?_ ?_ ?_;(exact rfl);exact rfl)))|(refine fA ?_))
    all_goals exact⟨rfl,(eC)⟩
end
open Go Go.ChangeShapes Go.WideShapes Go.ChangeAt Go.RowKit
theorem qmu{W:World}(h:laidMetH Tryz.prog [("strongtx/tdrf.none",Rows.laid_strongtx_tdrf_none),("strongtx/isa.forms",Rows.laid_strongtx_isa_forms)] W):q0B W:=
 qmw (d:=Rows.laid_strongtx_isa_forms) (g:=2) (t:=240) (cs:=qiU) (by kernel_rfl) h (List.Mem.tail _ (List.Mem.head _)) (by kernel_rfl) (by kernel_rfl) (by kernel_rfl) (by kernel_rfl) (by simp[qiU])
theorem qmM{W:World}(h:laidMetH Tryz.prog [("strongtx/tdrf.none",Rows.laid_strongtx_tdrf_none),("strongtx/isa.forms",Rows.laid_strongtx_isa_forms)] W):q1C W 0 Ord.noneV:=
 qmw (d:=Rows.laid_strongtx_tdrf_none) (g:=0) (t:=56) (cs:=Ord.noneV) (by kernel_rfl) h (List.Mem.head _) (by kernel_rfl) (by kernel_rfl) (by kernel_rfl) (by kernel_rfl) (by simp[Ord.noneV])
end Go.Proofs.YtkieffpjjfebjaaGreatDoor
