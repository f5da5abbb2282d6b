/- What the laws share, part 7. No condition. -/
import Derived.Test.YtkieffpjjfebjaaGreatDoorF6
set_option maxHeartbeats 16000000
set_option maxRecDepth 100000
namespace Go.Proofs.YtkieffpjjfebjaaGreatDoor
open Go
section
variable{W0:World}{own:Own}{a b:Option Addr}{c1 c2:Nat}
theorem qoh{L:List ChM}(h1:RdE q8x 3 W0 own a L)(h2:RdE q8x 3 W0 own b L)(hl:L.length≤9223372036854775807):qD Tryz.prog W0 15 [.slice a L.length c1, .slice b L.length c2] own (.bool true):=by
 refine qe (qa qj qnk (by simp[qmc]) ?_)
 have hki:=fun own'=>qpz (W0:=W0) (own:=own') (a:=none) (b:=none) (c1:=0) (c2:=0) (L:= []) RdE.nil RdE.nil (Nat.zero_le _)
 repeat'((try(conv=>whnf));first|(refine fG ?_))
 refine q1N (σ:=Nat) (fun i=> [(5, .int .i64 i)]) (fun i=>i≤L.length) (fun i=>L.length-i) 0 (by omega) (eF) rfl ?_
 intro i junk hi
 by_cases hlt:i<L.length
 ·obtain⟨x,hx⟩:∃x,L[i]? =some x:=⟨_,List.getElem?_eq_getElem hlt⟩
  have hlt':(i:Int)<L.length:=by omega
  repeat'((try(conv=>whnf));first|(refine fH ?_)|(refine fD ?_)|(refine fF ?_)|(refine fK ?_)|((refine zA ?_);first|(refine q1M h1 hx rfl ?_)|(refine qgp h1 hx rfl ?_)|(refine q1M h2 hx rfl ?_)|(refine qgp h2 hx rfl ?_))|((refine zC ?_);first|((refine ixE h1 hx ?_ ?_;(first|rfl|omega)))|((refine ixE h2 hx ?_ ?_;(first|rfl|omega))))|((with_reducible show q0b _ _ _ _ _ _);first|((refine q6y hki ?_)))|(refine fB ?_))
  all_goals exact⟨i+1,by omega,by omega,(eF),(eC)⟩
 ·have hlt':¬(i:Int)<L.length:=by omega
  repeat'((try(conv=>whnf));first|(refine fG ?_))
  all_goals exact⟨rfl,(eC)⟩
end
section
variable{W0:World}{own:Own}{la:Option Addr}{lc:Nat}{ls:List IH}{fa:Option Addr}{fc:Nat}{fl:List Int}
theorem qrf{b:Nat}:RdE qM 1 W0 [(b,fun o=>o=Obj.cells #[.int .i64 3, .int .i64 4, .int .i64 5, .int .i64 6] 3 (0,0))] (some ⟨b,0,none⟩) [3,4,5,6]:=q4E (by(repeat(first|exact List.Mem.head _|apply List.Mem.tail))) (fun _ _=>rfl) rfl
theorem qpu{p:Nat}(h:p<4):∃v:Int,([3,4,5,6]:List Int)[p]? =some v∧3≤v∧v≤6:=by
 have:p=0∨p=1∨p=2∨p=3:=by omega
 rcases this with rfl|rfl|rfl|rfl
 ·exact⟨3,rfl,by omega⟩
 ·exact⟨4,rfl,by omega⟩
 ·exact⟨5,rfl,by omega⟩
 ·exact⟨6,rfl,by omega⟩
theorem qoE(hF:q0A W0)(hN:q1s W0 0 Ord.noneV)(w o:Int)(hL:RdE IH.enc 1 W0 own la ls)(hll:ls.length≤17592186043904)(hQ:∀h∈ls,RdE qM 1 W0 own h.a h.l∧h.l.length≤17592186043904)(hfl:RdE qM 1 W0 own fa fl)(lim:Int):
  qD Tryz.prog W0 3 [.int .i64 w, .int .i64 o, .slice la ls.length lc, .slice fa fl.length fc, .int .i64 lim] own (.bool true):=by
 refine qe (qa qj qmy (by simp[qlN]) ?_)
 have haw:=fun own=>qkm (W0:=W0) (own:=own) hF hN
 have hlo:=fun(own':Own) [qt own' own]=>qqd (lc:=lc) (own:=own') hL.up hll (fun h hh=>(hQ h hh).2)
 repeat'((try(conv=>whnf));first|((refine zB ?_);first|((refine qm (hlo _) Ent.refl ?_ ?_ (fun z v hv=> ?_);(exact rfl);(exact rfl);(apply Stop.h)))))
 obtain⟨rfl,hz⟩:=hv
 refine Stop.mk ?_
 by_cases hb:z=false∧(fl.length:Int)≤2
 ·obtain⟨rfl,hf2⟩:=hb
  obtain⟨hl3,hl24⟩:=hz rfl
  have hf2':¬(fl.length:Int)>2:=by omega
  have hcl:=fun(own':Own) [qt own' own]=>qp4 (lc:=lc) (own:=own') w o hL.up hl3 (fun h hh=>⟨(hQ h hh).1.up,hl24 h hh⟩)
  repeat'((try(conv=>whnf));first|(refine fH ?_)|(refine fG ?_)|((refine zB ?_);first|((refine qm (hcl _) Ent.refl ?_ ?_ (fun m v hv=> ?_);(exact rfl);(exact rfl);(apply Stop.h)))))
  obtain⟨rfl,hm, -⟩:=hv
  refine Stop.mk ?_
  repeat'((try(conv=>whnf));first|(refine qc (fun b11 h11=> ?_);(apply Stop.h)))
  refine Stop.mk ?_
  repeat'((try(conv=>whnf));first|(refine fM ?_))
  refine q0Z (σ:=List Int×Option Addr×Nat×Own) (fun y=> [(13, .int .i64 y.1.length),(12, .slice y.2.1 y.1.length y.2.2.1)])
   (fun y=>(b11,fun o=>o=Obj.cells (qiF m.c (.slice m.ia m.il.length m.ic) (.slice m.pa m.ps.length m.pc) (.slice m.ka 0 m.kc)) 32 (0,0))::(y.2.2.2++(m.O++own)))
   (fun y=>y.1.length≤fl.length∧(∀k∈y.1,3≤k∧k≤6)∧qr qM 3 1 y.2.1 y.2.2.1 y.1 y.2.2.2) (fun y=>fl.length-y.1.length) ([],none,0,[]) ⟨Nat.zero_le _,fun _ h=>(by cases h),qr.nil⟩ (eF) Ent.refl rfl ?_
  rintro⟨cs,ca,cc,cD⟩ junk ⟨hcl1,hck,hcB⟩
  dsimp only at hcl1 hck hcB ⊢
  by_cases hlt:cs.length<fl.length
  ·obtain⟨x,hx⟩:∃x,fl[cs.length]? =some x:=⟨_,List.getElem?_eq_getElem hlt⟩
   have hlt':(cs.length:Int)<fl.length:=by omega
   have hpb:=qbv x (n:=4) (by omega)
   have hpp:=fun q=>qbG W0 q x 4 (by omega)
   obtain⟨p,hp⟩:=Int.eq_ofNat_of_zero_le hpb.1
   rw[hp] at hpb
   simp only[hp] at hpp
   obtain⟨v,hv,hv36⟩:=qpu (p:=p) (by omega)
   have hlen:(cs++ [v]).length=cs.length+1:=by simp
   repeat'((try(conv=>whnf));first|(refine fF ?_)|(refine qc (fun b38 hb38=> ?_);(dsimp only[List.set]))|(refine qqj (qrf (W0:=W0) (b:=b38)) hv rfl ?_ ?_;(exact rfl))|(apply q69 (enc:=qM) (T:=3) v hcB;(exact rfl);(exact rfl);(omega);(exact rfl);(exact rfl);(omega);intro a2 c2 D2 hb2)|((refine zA ?_);first|(refine q1M hfl hx rfl ?_)|(refine q1M qrf hv rfl ?_))|((refine zC ?_);first|((refine ixE hfl hx ?_ ?_;(first|rfl|omega))))|((refine zB ?_);first|((refine qh (hpp _) ?_ ?_ ?_;(exact rfl);exact rfl)))|(refine fB ?_))
   all_goals
    refine⟨(cs++ [v],a2,c2,D2),⟨(by show(cs++ [v]).length≤fl.length;omega),fun k hk=> ?_,hb2⟩,(by show fl.length-(cs++ [v]).length<fl.length-cs.length;omega),?_,Ent.drop.trans Ent.drop⟩
    ·rcases List.mem_append.1 hk with hk|hk
     ·exact hck k hk
     ·rw[List.mem_singleton.1 hk];exact hv36
    ·dsimp only
     rw[hlen]
     exact(eF)
  ·have hlt':¬(cs.length:Int)<fl.length:=by omega
   have hpb:=qbv lim (n:=60) (by omega)
   have hpp:=fun q=>qbG W0 q lim 60 (by omega)
   generalize qbu lim 60=p at*
   have hex:=fun(own':Own) [qt own' m.O] [qt own' cD]=>qqP (own:=own') (fc:=cc) hF hN hm (hcB.rd.up) (1+p)
   have hrx:=fun(own':Own) [qt own' m.O] [qt own' cD]=>qoi (W0:=W0) (own:=own') (fc:=cc) hm hck (by omega) (lim:=1+p) (by omega) (hcB.rd.up)
   have hA:=hm.ans (fo:=cs) (lim:=1+p) (by omega) hck (by omega)
   have hfln:(q5x m.c m.il (m.ps.map PB.h) cs (1+p)).1.found.length≤5000:=by
    cases hr:(q5x m.c m.il (m.ps.map PB.h) cs (1+p)).1.racy with
    |false=>rw[hA.n hr];exact Nat.zero_le _
    |true=>
     rcases hA.e with he|he
     ·obtain⟨s',hLf, -⟩:=hA.r he hr
      exact(qpt hm hck hLf).2.2.1
     ·rw[he.2];exact Nat.zero_le _
   clear hA
   generalize q5x m.c m.il (m.ps.map PB.h) cs (1+p)=R at*
   obtain⟨⟨runs,racy,many,found⟩,re⟩:=R
   dsimp only at hex hrx hfln
   repeat'((try(conv=>whnf));first|(refine fG ?_)|((refine zB ?_);first|((refine qh (hpp _) ?_ ?_ ?_;(exact rfl);exact rfl))|((refine qm (hex _) Ent.refl ?_ ?_ (fun y v hv=> ?_);(exact rfl);(exact rfl);(apply Stop.h))))|(refine fB ?_)|(refine fL ?_))
   obtain⟨rfl,hy⟩:=hv
   obtain⟨ya,yc,yD⟩:=y
   dsimp only at hy
   refine Stop.mk ?_
   repeat'((try(conv=>whnf));first|(refine qc (fun b15 h15=> ?_);(apply Stop.h))|(refine fO ?_))
   refine Stop.mk ?_
   repeat'((try(conv=>whnf));first|((refine zB ?_);first|((refine qm (hrx _) Ent.refl ?_ ?_ (fun y v hv=> ?_);(exact rfl);(exact rfl);(apply Stop.h))))|(refine fL ?_)|(refine fM ?_))
   obtain⟨rfl,hy2⟩:=hv
   obtain⟨za,zc,zD⟩:=y
   dsimp only at hy2
   refine Stop.mk ?_
   repeat'((try(conv=>whnf));first|(refine qc (fun b17 h17=> ?_);(apply Stop.h))|(refine fO ?_))
   refine Stop.mk ?_
   have hkc:=fun(own':Own) [qt own' yD] [qt own' zD]=>qoh (own:=own') (c1:=yc) (c2:=zc) (hy.up) (hy2.up) (by omega)
   cases racy
   all_goals
    repeat'((try(conv=>whnf));first|(refine fH ?_)|(refine fJ ?_)|((refine zB ?_);first|((refine qh (hkc _) ?_ ?_ ?_;(exact rfl);exact rfl))|((refine qh (haw _) ?_ ?_ ?_;(exact rfl);exact rfl)))|(refine fA ?_)|(refine fM ?_))
   all_goals exact⟨rfl,(eC)⟩
 ·cases z with
  |true=>
   repeat'((try(conv=>whnf));first|(refine fI ?_)|(refine fE ?_)|((refine zB ?_);first|((refine qh (haw _) ?_ ?_ ?_;(exact rfl);exact rfl))))
   all_goals exact⟨rfl,(eC)⟩
  |false=>
   have hf2:(fl.length:Int)>2:=by
    have:¬(fl.length:Int)≤2:=fun h=>hb ⟨rfl,h⟩
    omega
   repeat'((try(conv=>whnf));first|(refine fH ?_)|(refine fF ?_)|((refine zB ?_);first|((refine qh (haw _) ?_ ?_ ?_;(exact rfl);exact rfl))))
   all_goals exact⟨rfl,(eC)⟩
end
open Go Go.ChangeShapes Go.WideShapes Go.ChangeAt Go.RowKit
theorem qoS{W:World}(h:laidMetH Tryz.prog [("strongtx/tdrf.none",Rows.laid_strongtx_tdrf_none),("strongtx/isa.forms",Rows.laid_strongtx_isa_forms)] W):q0A W:=
 qoU (d:=Rows.laid_strongtx_isa_forms) (g:=2) (t:=240) (cs:=qjp) (by kernel_rfl) h (List.Mem.tail _ (List.Mem.head _)) (by kernel_rfl) (by kernel_rfl) (by kernel_rfl) (by kernel_rfl) (by simp[qjp])
theorem qq5{W:World}(h:laidMetH Tryz.prog [("strongtx/tdrf.none",Rows.laid_strongtx_tdrf_none),("strongtx/isa.forms",Rows.laid_strongtx_isa_forms)] W):q1s W 0 Ord.noneV:=
 qoU (d:=Rows.laid_strongtx_tdrf_none) (g:=0) (t:=56) (cs:=Ord.noneV) (by kernel_rfl) h (List.Mem.head _) (by kernel_rfl) (by kernel_rfl) (by kernel_rfl) (by kernel_rfl) (by simp[Ord.noneV])
end Go.Proofs.YtkieffpjjfebjaaGreatDoor
