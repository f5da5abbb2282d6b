/- What the laws share, part 29. No condition. -/
import Derived.Test.YtkieffpjjfebjaaGreatDoorZ28
set_option maxHeartbeats 64000000
set_option maxRecDepth 10000
namespace Go.Proofs.YtkieffpjjfebjaaGreatDoor
open Go
theorem q9K:okF Tryz.prog 30=true:=by kernel_rfl
theorem qjD:okF Tryz.prog 26=true:=by kernel_rfl
section
variable{W0:World}
theorem qgf{v m:Nat×(Obj→Prop)}{F G q:Own}:Ent W0 (v::(m::(F++(G++q)))) (G++(v::(m::(F++q)))):=qo []
theorem qhj{b v m:Nat×(Obj→Prop)}{F G q:Own}:Ent W0 (b::(G++(v::(m::(F++q))))) (v::(m::(F++(G++q)))):=qo [b]
theorem qjh{b:Nat×(Obj→Prop)}{G Q:Own}:Ent W0 (b::(G++Q)) (G++Q):=Ent.drop
theorem qji{b16 v m:Nat×(Obj→Prop)}{B D1 A F q:Own}:Ent W0 (b16::(B++(D1++(A++(v::(m::(F++q))))))) (v::(m::(F++(B++(D1++(A++(b16::q))))))):=qo []
theorem qdb{l:Nat×(Obj→Prop)}{v m b16:Nat×(Obj→Prop)}{F B y D1 A G q:Own}(h:∀r,Ent W0 (B++(A++r)) (G++r)):Ent W0 (l::(v::(m::(F++(B++(y++(D1++(A++(b16::q))))))))) (v::(m::(F++(G++(y++q))))):=
 ((qo ([l,b16]++D1) fun a=>by simp only[q2k,q51,q6C];omega:Ent W0 _ (B++(A++(v::(m::(F++(y++q))))))).trans (h _)).trans (qo [])
theorem qdc{v m:Nat×(Obj→Prop)}{F G y q:Own}:Ent W0 (v::(m::(F++(G++(y++q))))) (v::(m::(F++(G++q)))):=qo y
theorem qgg{b16 v m:Nat×(Obj→Prop)}{Dc B D1 A F q:Own}:Ent W0 (Dc++(b16::(B++(D1++(A++(v::(m::(F++q)))))))) (v::(m::(F++(B++([]++(Dc++(D1++(A++q)))))))):=qo [b16]
theorem qgh{v m:Nat×(Obj→Prop)}{F B R:Own}:Ent W0 (v::(m::(F++(B++R)))) (B++(v::(m::(F++R)))):=qo []
theorem qgi{c v m:Nat×(Obj→Prop)}{F B R:Own}:Ent W0 (c::(v::(m::(F++(B++R))))) (B++(c::(v::(m::(F++R))))):=qo []
theorem qgj{c:Nat×(Obj→Prop)}{N A Q:Own}:Ent W0 (c::(N++(A++Q))) (N++(c::(A++Q))):=qo []
theorem qd8{c:Nat×(Obj→Prop)}{N A Q:Own}:Ent W0 (N++(A++(c::Q))) (N++(c::(A++Q))):=qo []
theorem qd9{l c v m:Nat×(Obj→Prop)}{D5 N A F R:Own}:Ent W0 (D5++(l::(N++(c::(A++(v::(m::(F++R)))))))) (v::(m::(F++(N++(D5++(A++(l::(c::R)))))))):=qo []
theorem qda{l c v m:Nat×(Obj→Prop)}{D5 N A B F y Fy R:Own}(h:∀r,Ent W0 (N++(A++r)) (B++r)):Ent W0 (v::(m::(F++(N++(y++(D5++(A++(l::(c::(Fy++R)))))))))) (v::(m::(F++(B++(y++R))))):=
 ((qo ([l,c]++(D5++Fy)) fun a=>by simp only[q2k,q51,q6C];omega:Ent W0 _ (N++(A++(v::(m::(F++(y++R))))))).trans (h _)).trans (qo [])
theorem q5v{v m:Nat×(Obj→Prop)}{F B y Dc D1 A G q:Own}(h:∀r,Ent W0 (B++(A++r)) (G++r)):Ent W0 (v::(m::(F++(B++(y++(Dc++(D1++(A++q)))))))) (v::(m::(F++(G++(y++q))))):=
 ((qo (Dc++D1) fun a=>by simp only[q2k,q51];omega:Ent W0 _ (B++(A++(v::(m::(F++(y++q))))))).trans (h _)).trans (qo [])
end
theorem qdu{T:TypeId}{b:Nat}{w:Int}:qr qM T 1 (some ⟨b,0,none⟩) 1 [w] [(b,fun o=>o=Obj.cells #[.int .i64 w] T)]:=q8q (l:= [w]) fun _ _=>rfl
theorem qkz{α:Type}{enc:α→List Value}{sz:Nat}{W0:World}{own own':Own}{l:List α}{a:Option Addr}{T:TypeId}{bytes cap m n:Nat}{zs:List Value}{D:Own}{C:Own→Own}{a2:Option Addr}{l2:List α}{K:Value→Own→Prop}(hB:qr enc T sz a cap l D)(hx:RdE enc sz W0 own' a2 l2) [mm:AtC D own C] [me:qt own own'](hm:m=l2.length)(hn:n=l.length)
  (hz:zs.length=sz) (hs:0<sz) (h1:∀x∈l2,(enc x).all q4A=true) (hb:(l.length+l2.length)*bytes≤140737488355328)
  (hk:∀a' cap' D',qr enc T sz a' cap' (l++l2) D'→K (.slice a' (l++l2).length cap') (C D')):qcz W0 own T sz bytes zs a n cap a2 m K:=by
 subst hn
 refine qiO hB hx hm hz hs h1 (fun _=>hb) fun a' cap' D' h=> ?_
 rw[←List.length_append]
 exact hk a' cap' D' h
theorem qlC{l:List Int}:∀x∈l,(qM x).all q4A=true:=fun _ _=>rfl
section
variable{α:Type}{enc:α→List Value}{sz:Nat}{W0:World}{own own':Own}{a:Option Addr}{l:List α}
theorem qky{T:TypeId}{bytes cap m:Nat}{zs:List Value}{a2:Option Addr}{l2:List α}{K:Value→Own→Prop}(hR:RdE enc sz W0 own a l)(hcap:cap<l.length+l2.length)(hx:RdE enc sz W0 own a2 l2)(hm:m=l2.length)
  (hz:zs.length=sz) (hs:0<sz) (h1:∀x∈l2,(enc x).all q4A=true) (hb:(l.length+l2.length)*bytes≤140737488355328)
  (hk:∀a' cap' D',qr enc T sz a' cap' (l++l2) D'→K (.slice a' (l.length+l2.length) cap') (D'++own)):qcz W0 own T sz bytes zs a l.length cap a2 m K:=by
 subst hm
 have holds:∀{a:Option Addr} {l:List α},RdE enc sz W0 own a l→Kn W0 own (Holds a (l.map enc).flatten):=fun{a l} h w hw ad had j v hj=>by
  have hlt:=(List.getElem?_eq_some_iff.1 hj).1
  rw[q03 l h.wid] at hlt
  have hj1:j/sz<l.length:=Nat.div_lt_of_lt_mul (by rwa[Nat.mul_comm])
  have hj2:j % sz<sz:=Nat.mod_lt _ hs
  have hx':l[j/sz]? =some l[j/sz]:=List.getElem?_eq_getElem hj1
  have hwd:=h.wid _ (List.mem_of_getElem? hx')
  have hv':(enc l[j/sz])[j % sz]? =some (enc l[j/sz])[j % sz]:=List.getElem?_eq_getElem (by omega)
  have he:j/sz*sz+j % sz=j:=Nat.div_add_mod' j sz
  have hf:=q3t l h.wid hx' hv'
  rw[he,hj] at hf
  have hS:=h.isS (fun e=>by subst e;simp at hj1)
  rw[hS] at had
  have had:=Option.some.inj had
  rw[←had,qI]
  have hc:=h.cell hx' hv' w hw
  have e2:ao a+j/sz*sz+j % sz=ao a+j:=by omega
  rw[e2] at hc
  rw[hc,hf]
 have wid2:∀x∈l++l2,(enc x).length=sz:=fun x h=>(List.mem_append.1 h).elim (hR.wid x) (hx.wid x)
 refine⟨(l.map enc).flatten,(l2.map enc).flatten,q03 l hR.wid,q03 l2 hx.wid,fun e=> ?_,fun e=> ?_,fun v hv=> ?_,holds hR,holds hx,fun hfit=> ?_,fun hgr=>⟨hb,fun b c' hb' hc'=> ?_⟩⟩
 ·cases l with
  |nil=>rfl
  |cons x r=>have:=hR.isS (by simp);rw[e] at this;cases this
 ·cases l2 with
  |nil=>rfl
  |cons x r=>have:=hx.isS (by simp);rw[e] at this;cases this
 ·obtain⟨cs,hcs,hv⟩:=List.mem_flatten.1 hv
  obtain⟨x,hx',rfl⟩:=List.mem_map.1 hcs
  exact List.all_eq_true.1 (h1 x hx') v hv
 ·omega
 ·refine⟨_,Ent.refl,?_⟩
  refine hk (some ⟨b,0,none⟩) c' [_] ⟨wid2, .inr ⟨b,(List.replicate (c'-(l.length+l2.length)) zs).flatten,rfl,?_,?_,by simpa using hc'⟩⟩
  ·rw[List.map_append,List.flatten_append]
  ·simp only[List.length_append,List.length_flatten,List.map_replicate,List.sum_replicate_nat,hz]
   rw[←Nat.add_mul]
   congr 1
   omega
theorem qg4{T T2:TypeId}{bytes cap bt:Nat}{zs:List Value}{ys:Array Value}{K:Value→Own→Prop}(x:α)(hR:RdE enc sz W0 own' a l)(hcap:cap=l.length) [me:qt own own'] [m2:q3X bt (fun o=>o=Obj.cells ys T2) own](hy:ys.toList=enc x)
  (hz:zs.length=sz) (hs:0<sz) (hw:(enc x).length=sz) (h1:(enc x).all q4A=true) (hb:(l.length+1)*bytes≤140737488355328)
  (hk:∀a' cap' D',qr enc T sz a' cap' (l++ [x]) D'→K (.slice a' (l.length+1) cap') (D'++own)):qcz W0 own T sz bytes zs a l.length cap (some ⟨bt,0,none⟩) 1 K:=
 qky (l2:= [x]) (hR.ent (me.h W0)) (by rw[hcap];simp) (q4E m2.h (fun y hy=>by rw[List.mem_singleton.1 hy];exact hw) (by simpa using hy)) rfl hz hs (fun y hy=>by rw[List.mem_singleton.1 hy];exact h1) hb hk
end
section
variable{W0:World}{Kp Kf:Own}{c:Cfg}{ps:List PH}{P:List (List Ins)}{N:Nat}{lim:Int}{e:EB}{fo:List Int}{foa:Option Addr}{foc:Nat}
abbrev qkt(W0:World)(c:Cfg)(np:Nat)(N:Nat)(lim:Int)(e:EB)(foa:Option Addr)(fol foc:Nat)(g:GP)(s:GS)(q:Own)(R:SS)(own':Own):Prop:=
 ∃y:Option Addr×Nat×Own,(RdE q8x 3 W0 y.2.2 y.1 R.found∧(R.racy=false→y.1=none∧y.2.1=0))∧Ent W0 own' (vB e.vb R y.1 y.2.1::(mB e.mb R::(e.F N lim foa fol foc++(g.O c np s++(y.2.2++q)))))
theorem qbJ(hF:q0A W0)(hN:q1s W0 0 Ord.noneV)(hna:qfn P)(hP:ps.map PH.p=P)(hP16:P.length≤16)(hPN:P.length=N)(hfo:∀k∈fo,3≤k∧k≤6)(hfl:fo.length≤4)(hlim:lim≤100000)(hFo:RdE qM 1 W0 Kf foa fo):
  ∀(n:Nat) (s:GS) (l:List ChM) (x:SS) (g:GP) (Y:Own) (la:Option Addr) (lc:Nat) (K q:Own) (_:g.ok W0 Kp ps s) (_:g.ev W0 Y) (_:GOk c P s) (_:q1n P s<n) (_:s.n+q1n P s≤1024) (_:l.length≤s.n) (_:RdE q8x 3 W0 K la l) (_:x.stop=false) (_:x.found= []) (_:(x.runs:Int)≤lim) (_:qt q Kp) (_:qt q K) (_:qt q Kf),
   q0E Tryz.prog W0 30 [.pointer (some ⟨g.gb,0,none⟩), .slice la l.length lc, .pointer (some ⟨e.tb,0,none⟩), .pointer (some ⟨e.ib,0,none⟩), .pointer (some ⟨e.fb,0,none⟩), .pointer (some ⟨e.mb,0,none⟩), .pointer (some ⟨e.vb,0,none⟩), .pointer (some ⟨e.nb,0,none⟩)]
    (vB e.vb x none 0::(mB e.mb x::(e.F N lim foa fo.length foc++(g.O c ps.length s++q)))) fun _ own'=>qkt W0 c ps.length N lim e foa fo.length foc g s q (q7L (rcC N) c P fo lim n s l x) own'
 |0,_,_,_,_,_,_,_,_,_,_,_,_,hm,_,_,_,_,_,_,_,_,_=>absurd hm (by omega)
 |n+1,s,l,x,g,Y,la,lc,K,q,h,hv,hG,hm,hsn,hl,hL,hx,hfd,hru,i1,i2,i3=>by
  have ih:=qbJ hF hN hna hP hP16 hPN hfo hfl hlim hFo n
  refine qa qj q45 (by simp[q0p]) ?_
  have hTl:s.T.length=N:=hG.tl.trans hPN
  have hz:=hG.sz (by omega) hP16
  have hfn:=fun(x1:SS) (h1:x1.found= []∧x1.racy=false) (h2:x1.runs≤100000)=>qe0 (N:=N) (lim:=lim) (e:=e) (foa:=foa) (fol:=fo.length) (foc:=foc) hN h hv hG (by omega) hP16 h1 h2 (lc:=lc) hL (by omega) q
  have hnx:=fun(Q:Own) [qt Q Kp] (t:Nat)=>qfM (c:=c) h hG hP t Q
  have hcl:=fun(Q:Own)=>q7c (c:=c) h hv hz Q
  have hve:=qgL (rcC N) c P fo lim n s l x
  rw[hTl] at hve
  generalize q7L (rcC N) c P fo lim (n+1) s l x=R at*
  repeat'((try(conv=>whnf));first|(refine fA ?_))
  refine q0Z (σ:=Nat×Bool×SS) (fun y=> [(23, .int .i64 y.1),(10, .bool y.2.1)]) (fun y=>vB e.vb y.2.2 none 0::(mB e.mb y.2.2::(e.F N lim foa fo.length foc++(g.O c ps.length s++q))))
   (fun y=>y.1≤N∧y.2.2.stop=false∧y.2.2.found= []∧(y.2.2.runs:Int)≤lim∧(y.2.1=true→y.2.2=x∧∀u,u<y.1→dnB s u=true)∧(y.2.1=false→q6E s=false)∧(List.range N).foldl (q7J (rcC N) c P fo lim n s l) x=((List.range N).drop y.1).foldl (q7J (rcC N) c P fo lim n s l) y.2.2)
   (fun y=>N-y.1) (0,true,x) ⟨Nat.zero_le _,hx,hfd,hru,fun _=>⟨rfl,fun u hu=>absurd hu (by omega)⟩,fun h=>(by cases h),rfl⟩ (eF) Ent.refl rfl ?_
  rintro⟨t,dn,x1⟩ junk ⟨ht,hx1,hfd1,hru1,hdt,hdf,hfold⟩
  dsimp only at ht hx1 hfd1 hru1 hdt hdf hfold ⊢
  by_cases htN:t<N
  ·rw[qcb htN,List.foldl_cons] at hfold
   obtain⟨hx1r,hx1m⟩:=q5T hx1
   have hnx1:=fun(Q:Own) [qt Q Kp]=>hnx Q t
   cases hd:dnB s t with
   |true=>
    have hn0:=(q8W hG).2 hd
    rw[hn0] at hnx1
    have hst:q7J (rcC N) c P fo lim n s l x1 t=x1:=by unfold q7J;rw[if_neg (by rw[hx1];simp),if_pos hd]
    rw[hst] at hfold
    repeat'((try(conv=>whnf));first|(refine q5s ?_ ?_;exact rfl)|(apply qaR;(exact rfl);omega)|((with_reducible show qf _ _ _ _ _ _);first|((refine q3s (hnx1 _) qgf ?_ ?_ ?_;(exact rfl);(exact rfl))))|(refine ari ?_ ?_;omega)|(refine fO ?_)|(refine fM ?_)|(refine qc (fun bk hbk=> ?_)))
    all_goals exact⟨(t+1,dn,x1),⟨htN,hx1,hfd1,hru1,fun h2=>⟨(hdt h2).1,fun u hu=>by by_cases hut:u<t;exact(hdt h2).2 u hut;rw[show u=t by omega];exact hd⟩,hdf,hfold⟩,(by show N-(t+1)<N-t;omega),(eF),qhj⟩
   |false=>
    obtain⟨i,hi⟩:=qh2 hG hd
    rw[hi] at hnx1
    have hnd:q6E s=false:=qfo (by omega) hd
    rw[if_neg (by rw[hnd];simp)] at hve
    clear hdt hdf
    obtain⟨a1,a2,a3,a4,a5⟩:=qg3 (t:=t) hna 64 s l hG
    have aln:=qiM (c:=c) hna t 64 s l hG hl
    have hadv:=fun(g1:GP) (h1:g1.ok W0 Kp ps s) (h2:g1.ev W0 g.X) (Q:Own) [qt Q Kp] [qt Q K]=>qcj (c:=c) hF h1 h2 hG hna hP (by omega) t (lc:=lc) hL (by omega) Q
    have hstep:q7J (rcC N) c P fo lim n s l x1 t=if dnB (q1t c P t 64 s l).1 t then q7L (rcC N) c P fo lim n (q1t c P t 64 s l).1 (q1t c P t 64 s l).2 x1 else(q52 fo (nxM P (q1t c P t 64 s l).1 t)).foldl (q5S (rcC N) c P fo lim n (q1t c P t 64 s l).1 (q1t c P t 64 s l).2 t) x1:=by
     conv=>lhs;unfold q7J
     rw[if_neg (by rw[hx1];simp),if_neg (by rw[hd];simp)]
    rw[hstep] at hfold
    have hne:dnB (q1t c P t 64 s l).1 t=true→q1n P (q1t c P t 64 s l).1<n:=fun hdd=>by
     rcases a4 with a4|a4
     ·rw[a4] at hdd;rw[hd] at hdd;cases hdd
     ·omega
    have hmn:q1n P (q1t c P t 64 s l).1≤q1n P s:=by
     rcases a4 with a4|a4
     ·rw[a4];exact Nat.le_refl _
     ·omega
    clear hstep a3 a4 a5
    generalize q1t c P t 64 s l=av at*
    obtain⟨s2,l2⟩:=av
    dsimp only at a1 a2 aln hadv hfold hne hmn
    have hnx2:=fun(g1:GP) (h1:g1.ok W0 Kp ps s2) (Q:Own) [qt Q Kp]=>qfM (c:=c) h1 a1 hP t Q
    have hiv:(some i:Option Ins).isSome=true:=rfl
    --the copy,its local instructions,its next instruction
    repeat'((try(conv=>whnf));first|(apply qaR;(exact rfl);omega)|(refine qc (fun b12 hb12=> ?_);(apply Stop.h))|((with_reducible show qf _ _ _ _ _ _);first|((refine q3s (hnx1 _) qgf ?_ ?_ ?_;(exact rfl);(exact rfl))))|(refine fO ?_))
    refine Stop.mk ?_
    repeat'((try(conv=>whnf));first|(refine fD ?_)|((with_reducible show qf _ _ _ _ _ _);first|((refine qm (hcl _) qjh ?_ ?_ (fun g1 v hv=> ?_);(exact rfl);(exact rfl);(apply Stop.h))))|(refine fM ?_))
    obtain⟨rfl,hok1,hev1⟩:=hv
    refine Stop.mk ?_
    repeat'((try(conv=>whnf));first|((with_reducible show qf _ _ _ _ _ _);first|((refine qm (hadv g1 hok1 hev1 _) Ent.refl ?_ ?_ (fun y v hv=> ?_);(exact rfl);(exact rfl);(apply Stop.h)))))
    obtain⟨g2,ba,bc,D1⟩:=y
    obtain⟨rfl,hok2,hev2,hgb2,hB1⟩:=hv
    dsimp only at hok2 hev2 hgb2 hB1 ⊢
    rw[←hgb2]
    have hback:∀r,Ent W0 (g2.O c ps.length s2++(g.A c ps.length s++r)) (g.O c ps.length s++r):=fun r=>GP.back hev2.2
    have hnx4:=fun(Q:Own) [qt Q Kp]=>hnx2 g2 hok2 Q
    refine Stop.mk ?_
    cases hd2:dnB s2 t with
    |true=>
     rw[if_pos hd2] at hfold
     rw[(q8W a1).2 hd2] at hnx4
     have hvi:=fun(Q:Own) (j1:qt Q Kp) (j2:qt Q D1) (j3:qt Q Kf)=>ih s2 l2 x1 g2 g.X ba bc D1 Q hok2 hev2 a1 (hne hd2) (by omega) aln hB1.rd hx1 hfd1 hru1 j1 j2 j3
     have hr3:=q9c (rc:=rcC N) (c:=c) (P:=P) (fo:=fo) (n:=n) (s:=s2) (l:=l2) hx1 hru1
     have hf3:=q7h (rc:=rcC N) (c:=c) (P:=P) (fo:=fo) (lim:=lim) (n:=n) (s:=s2) (l:=l2) hx1 hfd1
     generalize q7L (rcC N) c P fo lim n s2 l2 x1=R3 at*
     obtain⟨xr,xc,xm,xf⟩:=R3
     dsimp only at hr3 hf3
     repeat'((try(conv=>whnf));first|(refine q5s ?_ ?_;exact rfl)|(refine q6u.mk ⟨q9K,?_⟩)|((with_reducible show qf _ _ _ _ _ _);first|((refine q3s (hnx4 _) Ent.refl ?_ ?_ ?_;(exact rfl);(exact rfl)))|((refine qm (hvi _ inferInstance inferInstance inferInstance) qji ?_ ?_ (fun y v hv=> ?_);(exact rfl);(exact rfl);(apply Stop.h))))|(refine fO ?_)|(refine fA ?_)|(refine fM ?_)|(refine qc (fun bk hbk=> ?_)))
     obtain⟨hv1,hv2⟩:=hv
     obtain⟨fa,fc2,Fy⟩:=y
     dsimp only at hv1 hv2 ⊢
     refine Stop.mk ?_
     cases xm with
     |true=>
      rw[q2w (fun x a hs=>q3l x a hs) _ _ (show(⟨xr,xc,true,xf⟩:SS).stop=true by cases xc <;>rfl)] at hfold
      have hR:=hve.trans hfold
      subst hR
      cases xc
      all_goals
       repeat'((try(conv=>whnf));first|(refine fI ?_)|(refine q5s ?_ ?_;exact rfl)|(refine fD ?_)|(refine q55 1 ?_)|(refine fA ?_)|(refine qc (fun bk hbk=> ?_)))
       all_goals exact⟨(fa,fc2,Fy),⟨hv1,hv2⟩,qdb hback⟩
     |false=>
      cases xc with
      |true=>
       rw[q2w (fun x a hs=>q3l x a hs) _ _ (show(⟨xr,true,false,xf⟩:SS).stop=true from rfl)] at hfold
       have hR:=hve.trans hfold
       subst hR
       repeat'((try(conv=>whnf));first|(refine q1P ?_ ?_;exact rfl)|(refine fI ?_)|(refine q5s ?_ ?_;exact rfl)|(refine fD ?_)|(refine q55 1 ?_)|(refine fA ?_)|(refine qc (fun bk hbk=> ?_)))
       all_goals exact⟨(fa,fc2,Fy),⟨hv1,hv2⟩,qdb hback⟩
      |false=>
       obtain rfl:=hf3 rfl
       obtain⟨rfl,rfl⟩:=hv2 rfl
       repeat'((try(conv=>whnf));first|(refine q1P ?_ ?_;exact rfl)|(refine fI ?_)|(refine fD ?_)|(refine q55 1 ?_)|(refine ari ?_ ?_;omega)|(refine fA ?_)|(refine qc (fun bk hbk=> ?_)))
       all_goals exact⟨(t+1,false,⟨xr,false,false,[]⟩),⟨htN,rfl,rfl,hr3,fun h=>(by cases h),fun _=>hnd,hfold⟩,(by show N-(t+1)<N-t;omega),(eF),(qdb hback).trans qdc⟩
    |false=>
     obtain⟨i2,hi2⟩:=qh2 a1 hd2
     rw[if_neg (by rw[hd2];simp),hi2] at hfold
     rw[hi2] at hnx4
     by_cases h7:i2.op=7
     ·have hop:(nxV (some i2)).op=7:=h7
      have hcs0: [(0:Int)]++fo=q52 fo (some i2):=by show [(0:Int)]++fo=if i2.op=7 then 0::fo else [0];rw[if_pos h7];rfl
      rw[←hcs0] at hfold
      repeat'((try(conv=>whnf));first|(refine fD ?_)|(apply qaR;(exact rfl);omega)|(refine qc (fun b18 hb18=> ?_);(dsimp only[List.set]))|(refine qkz (qdu (w:=0)) hFo ?_ ?_ ?_ ?_ qlC ?_ (fun ca cc Dc hBc=> ?_);(exact rfl);(exact rfl);(exact rfl);(omega);(simp only[List.length_cons,List.length_nil];omega))|((with_reducible show qf _ _ _ _ _ _);first|((refine q3s (hnx4 _) Ent.refl ?_ ?_ ?_;(exact rfl);(exact rfl))))|(refine fO ?_)|(refine fA ?_)|(refine fM ?_))
      have hcs:=hBc.rd (W0:=W0)
      have hcl5:([(0:Int)]++fo).length≤5:=by simp;omega
      generalize [(0:Int)]++fo=cs at*
      refine q0Z (σ:=Nat×SS×(Option Addr×Nat×Own)) (fun y=> [(19, .int .i64 y.1)]) (fun y=>vB e.vb y.2.1 y.2.2.1 y.2.2.2.1::(mB e.mb y.2.1::(e.F N lim foa fo.length foc++(g2.O c ps.length s2++(y.2.2.2.2++(Dc++(D1++(g.A c ps.length s++q))))))))
       (fun y=>y.1≤cs.length∧(y.2.1.stop=false→y.2.1.found= []∧y.2.2.1=none∧y.2.2.2.1=0)∧(y.2.1.runs:Int)≤lim∧(RdE q8x 3 W0 y.2.2.2.2 y.2.2.1 y.2.1.found∧(y.2.1.racy=false→y.2.2.1=none∧y.2.2.2.1=0))∧cs.foldl (q5S (rcC N) c P fo lim n s2 l2 t) x1=(cs.drop y.1).foldl (q5S (rcC N) c P fo lim n s2 l2 t) y.2.1)
       (fun y=>cs.length-y.1) (0,x1,none,0,[]) ⟨Nat.zero_le _,fun _=>⟨hfd1,rfl,rfl⟩,hru1,⟨by rw[hfd1];exact RdE.nil,fun _=>⟨rfl,rfl⟩⟩,rfl⟩ (eF) ?_ rfl ?_
      ·exact qgg (Dc:=Dc)
      rintro⟨k,x2,fa,fc2,Fy⟩ junk2 ⟨hk,hx2,hru2,hfy,hfold2⟩
      dsimp only at hk hx2 hru2 hfy hfold2 ⊢
      obtain⟨xr,xc,xm,xf⟩:=x2
      dsimp only at hru2 hfy ⊢
      by_cases hgo:k<cs.length∧xc=false∧xm=false
      ·obtain⟨hkl,rfl,rfl⟩:=hgo
       obtain⟨rfl,rfl,rfl⟩:=hx2 rfl
       obtain⟨kc,hkc⟩:∃kc,cs[k]? =some kc:=⟨_,List.getElem?_eq_getElem hkl⟩
       rw[q4I hkc,List.foldl_cons,show q5S (rcC N) c P fo lim n s2 l2 t ⟨xr,false,false,[]⟩ kc=q7L (rcC N) c P fo lim n (doM c P s2 ⟨t,kc,[]⟩).2 (l2++ [⟨t,kc,[]⟩]) ⟨xr,false,false,[]⟩ from rfl] at hfold2
       have hck:kc=0∨(i2.op=7∧3≤kc∧kc≤6):=by
        rcases qag hfo (hcs0 ▸ List.mem_of_getElem? hkc) with hh|⟨j,hj,h7',hh⟩
        ·exact .inl hh
        ·obtain rfl:=Option.some.inj hj
         exact .inr ⟨h7',hh⟩
       obtain⟨-,m1,m2,m3,m4,m5⟩:=q3Z a1 hna hi2 hck
       have hcl2:=fun(Q:Own)=>q7c (c:=c) hok2 hev2 (a1.sz (by omega) hP16) Q
       have hdo:=fun(g3:GP) (h3:g3.ok W0 Kp ps s2) (h4:g3.ev W0 g2.X) (Q:Own) [qt Q Kp]=>qdW (K:=Kp) (c:=c) hF rfl h3 h4 a1 hP (by omega) t kc (aa:=none) (ad:= []) (ac:=0) RdE.nil (Nat.le_refl _) (fun _ h=>(by cases h)) Q
       have hlen:(l2++ [(⟨t,kc,[]⟩:ChM)]).length=l2.length+1:=by simp
       have hcp:=fun own'=>qdT (W0:=W0) (own:=own') (a:=ba) hB1.le
       generalize doM c P s2 ⟨t,kc,[]⟩=z at*
       obtain⟨zc,s3⟩:=z
       dsimp only at m1 m2 m3 m4 m5 hdo hfold2
       have hvi:∀(g4:GP) (h4:g4.ok W0 Kp ps s3) (h5:g4.ev W0 g2.X) (la5:Option Addr) (lc5:Nat) (D5:Own) (hL5:RdE q8x 3 W0 D5 la5 (l2++ [⟨t,kc,[]⟩])) (Q:Own) (_:qt Q Kp) (_:qt Q D5) (_:qt Q Kf),q0E Tryz.prog W0 30 [.pointer (some ⟨g4.gb,0,none⟩), .slice la5 (l2.length+1) lc5, .pointer (some ⟨e.tb,0,none⟩), .pointer (some ⟨e.ib,0,none⟩), .pointer (some ⟨e.fb,0,none⟩), .pointer (some ⟨e.mb,0,none⟩), .pointer (some ⟨e.vb,0,none⟩), .pointer (some ⟨e.nb,0,none⟩)]
         (vB e.vb ⟨xr,false,false,[]⟩ none 0::(mB e.mb ⟨xr,false,false,[]⟩::(e.F N lim foa fo.length foc++(g4.O c ps.length s3++Q)))) fun _ own'=>qkt W0 c ps.length N lim e foa fo.length foc g4 s3 Q (q7L (rcC N) c P fo lim n s3 (l2++ [⟨t,kc,[]⟩]) ⟨xr,false,false,[]⟩) own':=fun g4 h4 h5 la5 lc5 D5 hL5 Q j1 j2 j3=>by
        have:=ih s3 (l2++ [⟨t,kc,[]⟩]) ⟨xr,false,false,[]⟩ g4 g2.X la5 lc5 D5 Q h4 h5 m1 (by omega) (by omega) (by rw[hlen];omega) hL5 rfl rfl hru2 j1 j2 j3
        rw[hlen] at this
        exact this
       have hr3:=q9c (rc:=rcC N) (c:=c) (P:=P) (fo:=fo) (n:=n) (s:=s3) (l:=l2++ [⟨t,kc,[]⟩]) (x:=⟨xr,false,false,[]⟩) rfl hru2
       have hf3:=q7h (rc:=rcC N) (c:=c) (P:=P) (fo:=fo) (lim:=lim) (n:=n) (s:=s3) (l:=l2++ [⟨t,kc,[]⟩]) (x:=⟨xr,false,false,[]⟩) rfl rfl
       generalize q7L (rcC N) c P fo lim n s3 (l2++ [⟨t,kc,[]⟩]) ⟨xr,false,false,[]⟩=R3 at*
       repeat'((try(conv=>whnf));first|(refine q1P ?_ ?_;exact rfl)|(refine q5s ?_ ?_;exact rfl)|(apply q9g;(exact rfl);omega)|(refine qc (fun b21 hb21=> ?_))|(apply qg4 (enc:=q8x) (T:=79) (⟨t,kc,[]⟩:ChM) (hB1.rd (W0:=W0));(exact rfl);(exact rfl);(exact rfl);(omega);(exact rfl);(exact rfl);(omega);intro a5 c5 D5 hB5)|(refine q6u.mk ⟨q9K,?_⟩)|((with_reducible show Ld _ _ _ _);first|(refine q1M hcs hkc rfl ?_))|((with_reducible show IxS _ _ _ _ _);first|((refine ixE hcs hkc ?_ ?_;(first|rfl|omega))))|((with_reducible show qf _ _ _ _ _ _);first|((refine qm (hcl2 _) qgh ?_ ?_ (fun g3 v hv=> ?_);(exact rfl);(exact rfl);(obtain⟨rfl,hok3,hev3⟩:=hv)))|((refine qm (hcl2 _) qgi ?_ ?_ (fun g3 v hv=> ?_);(exact rfl);(exact rfl);(obtain⟨rfl,hok3,hev3⟩:=hv)))|((refine qm (hdo g3 hok3 hev3 _) qgj ?_ ?_ (fun g4 v hv=> ?_);(exact rfl);(exact rfl);(obtain⟨rfl,hok4,hev4,hgb4⟩:=hv);(rw[←hgb4])))|((refine qm (hdo g3 hok3 hev3 _) qd8 ?_ ?_ (fun g4 v hv=> ?_);(exact rfl);(exact rfl);(obtain⟨rfl,hok4,hev4,hgb4⟩:=hv);(rw[←hgb4])))|((refine qm (hvi g4 hok4 hev4 a5 c5 D5 hB5.rd _ inferInstance inferInstance inferInstance) qd9 ?_ ?_ (fun y v hv=> ?_);(exact rfl);(exact rfl))))|((with_reducible show q0b _ _ _ _ _ _);first|((refine qq (fun ex=>hcp _) ?_ ?_ ?_;(exact rfl);(exact rfl))))|(refine ari ?_ ?_;omega)|(refine fA ?_)|(refine fL ?_)|(refine fM ?_)|(refine q4T.mk ?_ ?_))
       all_goals
        obtain⟨hv1,hv2⟩:=hv
        exact⟨(k+1,R3,y.1,y.2.1,y.2.2),⟨hkl,fun hs=>⟨hf3 (q5T hs).1,hv2 (q5T hs).1⟩,hr3,⟨hv1,hv2⟩,hfold2⟩,(by show cs.length-(k+1)<cs.length-k;omega),(eF),qda fun r=>GP.back hev4.2⟩
      ·have hx2e:cs.foldl (q5S (rcC N) c P fo lim n s2 l2 t) x1=⟨xr,xc,xm,xf⟩:=by
        rw[hfold2]
        by_cases hkl:k<cs.length
        ·refine q2w (fun x a hs=>qa2 x a hs) _ _ ?_
         cases xc with
         |true=>rfl
         |false=>
          cases xm with
          |true=>rfl
          |false=>exact absurd ⟨hkl,rfl,rfl⟩ hgo
        ·rw[List.drop_of_length_le (by omega)];rfl
       rw[hx2e] at hfold
       cases xm with
       |true=>
        rw[q2w (fun x a hs=>q3l x a hs) _ _ (show(⟨xr,xc,true,xf⟩:SS).stop=true by cases xc <;>rfl)] at hfold
        have hR:=hve.trans hfold
        subst hR
        cases xc
        all_goals
         repeat'((try(conv=>whnf));first|(refine q1P ?_ ?_;exact rfl)|(refine fI ?_)|(refine q5s ?_ ?_;exact rfl)|(refine fD ?_)|(refine fA ?_)|(apply q0e;(exact rfl);(exact rfl);all_goals intro hc))
         all_goals exact⟨(fa,fc2,Fy),hfy,q5v hback⟩
       |false=>
        cases xc with
        |true=>
         rw[q2w (fun x a hs=>q3l x a hs) _ _ (show(⟨xr,true,false,xf⟩:SS).stop=true from rfl)] at hfold
         have hR:=hve.trans hfold
         subst hR
         repeat'((try(conv=>whnf));first|(refine q1P ?_ ?_;exact rfl)|(refine fI ?_)|(refine q5s ?_ ?_;exact rfl)|(refine fD ?_)|(refine fA ?_)|(apply q0e;(exact rfl);(exact rfl);all_goals intro hc))
         all_goals exact⟨(fa,fc2,Fy),hfy,q5v hback⟩
        |false=>
         obtain⟨h1,h2,h3⟩:=hx2 rfl
         dsimp only at h1 h2 h3
         subst h1;subst h2;subst h3
         have hkn:¬(k:Int)<cs.length:=by
          have:¬k<cs.length:=fun h=>hgo ⟨h,rfl,rfl⟩
          omega
         repeat'((try(conv=>whnf));first|(refine q1P ?_ ?_;exact rfl)|(refine fI ?_)|(refine fD ?_)|(apply q9f;(exact rfl);omega)|(refine ari ?_ ?_;omega)|(refine fA ?_))
         all_goals exact⟨(t+1,false,⟨xr,false,false,[]⟩),⟨htN,rfl,rfl,hru2,fun h=>(by cases h),fun _=>hnd,hfold⟩,(by show N-(t+1)<N-t;omega),(eF),(q5v hback).trans qdc⟩
     ·have hop:¬(nxV (some i2)).op=7:=h7
      have hcs0: [(0:Int)]=q52 fo (some i2):=by show [(0:Int)]=if i2.op=7 then 0::fo else [0];rw[if_neg h7]
      rw[←hcs0] at hfold
      repeat'((try(conv=>whnf));first|(refine fD ?_)|(apply qaQ;(exact rfl);omega)|(refine qc (fun b18 hb18=> ?_);(dsimp only[List.set]))|((with_reducible show qf _ _ _ _ _ _);first|((refine q3s (hnx4 _) Ent.refl ?_ ?_ ?_;(exact rfl);(exact rfl))))|(refine fO ?_)|(refine fA ?_)|(refine fM ?_))
      have hcs:=(qdu (T:=3) (b:=b18) (w:=0)).rd (W0:=W0)
      have hcl5:([(0:Int)]).length≤5:=by simp
      generalize hcs1: [(0:Int)]=cs at*
      have hcl1:cs.length=1:=by rw[←hcs1];rfl
      refine q0Z (σ:=Nat×SS×(Option Addr×Nat×Own)) (fun y=> [(19, .int .i64 y.1)]) (fun y=>vB e.vb y.2.1 y.2.2.1 y.2.2.2.1::(mB e.mb y.2.1::(e.F N lim foa fo.length foc++(g2.O c ps.length s2++(y.2.2.2.2++([(b18,fun o=>o=Obj.cells #[.int .i64 0] 3 (0,0))]++(D1++(g.A c ps.length s++q))))))))
       (fun y=>y.1≤cs.length∧(y.2.1.stop=false→y.2.1.found= []∧y.2.2.1=none∧y.2.2.2.1=0)∧(y.2.1.runs:Int)≤lim∧(RdE q8x 3 W0 y.2.2.2.2 y.2.2.1 y.2.1.found∧(y.2.1.racy=false→y.2.2.1=none∧y.2.2.2.1=0))∧cs.foldl (q5S (rcC N) c P fo lim n s2 l2 t) x1=(cs.drop y.1).foldl (q5S (rcC N) c P fo lim n s2 l2 t) y.2.1)
       (fun y=>cs.length-y.1) (0,x1,none,0,[]) ⟨Nat.zero_le _,fun _=>⟨hfd1,rfl,rfl⟩,hru1,⟨by rw[hfd1];exact RdE.nil,fun _=>⟨rfl,rfl⟩⟩,rfl⟩ (eF) ?_ rfl ?_
      ·exact qgg (Dc:= [(b18,fun o=>o=Obj.cells #[.int .i64 0] 3 (0,0))])
      rintro⟨k,x2,fa,fc2,Fy⟩ junk2 ⟨hk,hx2,hru2,hfy,hfold2⟩
      dsimp only at hk hx2 hru2 hfy hfold2 ⊢
      obtain⟨xr,xc,xm,xf⟩:=x2
      dsimp only at hru2 hfy ⊢
      by_cases hgo:k<cs.length∧xc=false∧xm=false
      ·obtain⟨hkl,rfl,rfl⟩:=hgo
       obtain⟨rfl,rfl,rfl⟩:=hx2 rfl
       obtain⟨kc,hkc⟩:∃kc,cs[k]? =some kc:=⟨_,List.getElem?_eq_getElem hkl⟩
       rw[q4I hkc,List.foldl_cons,show q5S (rcC N) c P fo lim n s2 l2 t ⟨xr,false,false,[]⟩ kc=q7L (rcC N) c P fo lim n (doM c P s2 ⟨t,kc,[]⟩).2 (l2++ [⟨t,kc,[]⟩]) ⟨xr,false,false,[]⟩ from rfl] at hfold2
       have hck:kc=0∨(i2.op=7∧3≤kc∧kc≤6):=by
        rcases qag hfo (hcs0 ▸ List.mem_of_getElem? hkc) with hh|⟨j,hj,h7',hh⟩
        ·exact .inl hh
        ·obtain rfl:=Option.some.inj hj
         exact .inr ⟨h7',hh⟩
       obtain⟨-,m1,m2,m3,m4,m5⟩:=q3Z a1 hna hi2 hck
       have hcl2:=fun(Q:Own)=>q7c (c:=c) hok2 hev2 (a1.sz (by omega) hP16) Q
       have hdo:=fun(g3:GP) (h3:g3.ok W0 Kp ps s2) (h4:g3.ev W0 g2.X) (Q:Own) [qt Q Kp]=>qdW (K:=Kp) (c:=c) hF rfl h3 h4 a1 hP (by omega) t kc (aa:=none) (ad:= []) (ac:=0) RdE.nil (Nat.le_refl _) (fun _ h=>(by cases h)) Q
       have hlen:(l2++ [(⟨t,kc,[]⟩:ChM)]).length=l2.length+1:=by simp
       have hcp:=fun own'=>qdT (W0:=W0) (own:=own') (a:=ba) hB1.le
       generalize doM c P s2 ⟨t,kc,[]⟩=z at*
       obtain⟨zc,s3⟩:=z
       dsimp only at m1 m2 m3 m4 m5 hdo hfold2
       have hvi:∀(g4:GP) (h4:g4.ok W0 Kp ps s3) (h5:g4.ev W0 g2.X) (la5:Option Addr) (lc5:Nat) (D5:Own) (hL5:RdE q8x 3 W0 D5 la5 (l2++ [⟨t,kc,[]⟩])) (Q:Own) (_:qt Q Kp) (_:qt Q D5) (_:qt Q Kf),q0E Tryz.prog W0 30 [.pointer (some ⟨g4.gb,0,none⟩), .slice la5 (l2.length+1) lc5, .pointer (some ⟨e.tb,0,none⟩), .pointer (some ⟨e.ib,0,none⟩), .pointer (some ⟨e.fb,0,none⟩), .pointer (some ⟨e.mb,0,none⟩), .pointer (some ⟨e.vb,0,none⟩), .pointer (some ⟨e.nb,0,none⟩)]
         (vB e.vb ⟨xr,false,false,[]⟩ none 0::(mB e.mb ⟨xr,false,false,[]⟩::(e.F N lim foa fo.length foc++(g4.O c ps.length s3++Q)))) fun _ own'=>qkt W0 c ps.length N lim e foa fo.length foc g4 s3 Q (q7L (rcC N) c P fo lim n s3 (l2++ [⟨t,kc,[]⟩]) ⟨xr,false,false,[]⟩) own':=fun g4 h4 h5 la5 lc5 D5 hL5 Q j1 j2 j3=>by
        have:=ih s3 (l2++ [⟨t,kc,[]⟩]) ⟨xr,false,false,[]⟩ g4 g2.X la5 lc5 D5 Q h4 h5 m1 (by omega) (by omega) (by rw[hlen];omega) hL5 rfl rfl hru2 j1 j2 j3
        rw[hlen] at this
        exact this
       have hr3:=q9c (rc:=rcC N) (c:=c) (P:=P) (fo:=fo) (n:=n) (s:=s3) (l:=l2++ [⟨t,kc,[]⟩]) (x:=⟨xr,false,false,[]⟩) rfl hru2
       have hf3:=q7h (rc:=rcC N) (c:=c) (P:=P) (fo:=fo) (lim:=lim) (n:=n) (s:=s3) (l:=l2++ [⟨t,kc,[]⟩]) (x:=⟨xr,false,false,[]⟩) rfl rfl
       generalize q7L (rcC N) c P fo lim n s3 (l2++ [⟨t,kc,[]⟩]) ⟨xr,false,false,[]⟩=R3 at*
       repeat'((try(conv=>whnf));first|(refine q1P ?_ ?_;exact rfl)|(refine q5s ?_ ?_;exact rfl)|(apply q9g;(exact rfl);omega)|(refine qc (fun b21 hb21=> ?_))|(apply qg4 (enc:=q8x) (T:=79) (⟨t,kc,[]⟩:ChM) (hB1.rd (W0:=W0));(exact rfl);(exact rfl);(exact rfl);(omega);(exact rfl);(exact rfl);(omega);intro a5 c5 D5 hB5)|(refine q6u.mk ⟨q9K,?_⟩)|((with_reducible show Ld _ _ _ _);first|(refine q1M hcs hkc rfl ?_))|((with_reducible show qf _ _ _ _ _ _);first|((refine qm (hcl2 _) qgh ?_ ?_ (fun g3 v hv=> ?_);(exact rfl);(exact rfl);(obtain⟨rfl,hok3,hev3⟩:=hv)))|((refine qm (hcl2 _) qgi ?_ ?_ (fun g3 v hv=> ?_);(exact rfl);(exact rfl);(obtain⟨rfl,hok3,hev3⟩:=hv)))|((refine qm (hdo g3 hok3 hev3 _) qgj ?_ ?_ (fun g4 v hv=> ?_);(exact rfl);(exact rfl);(obtain⟨rfl,hok4,hev4,hgb4⟩:=hv);(rw[←hgb4])))|((refine qm (hdo g3 hok3 hev3 _) qd8 ?_ ?_ (fun g4 v hv=> ?_);(exact rfl);(exact rfl);(obtain⟨rfl,hok4,hev4,hgb4⟩:=hv);(rw[←hgb4])))|((refine qm (hvi g4 hok4 hev4 a5 c5 D5 hB5.rd _ inferInstance inferInstance inferInstance) qd9 ?_ ?_ (fun y v hv=> ?_);(exact rfl);(exact rfl))))|((with_reducible show q0b _ _ _ _ _ _);first|((refine qq (fun ex=>hcp _) ?_ ?_ ?_;(exact rfl);(exact rfl))))|(refine ari ?_ ?_;omega)|(refine qhE ?_ ?_;omega)|(refine fA ?_)|(refine fL ?_)|(refine fM ?_)|(refine q4T.mk ?_ ?_))
       all_goals
        obtain⟨hv1,hv2⟩:=hv
        exact⟨(k+1,R3,y.1,y.2.1,y.2.2),⟨hkl,fun hs=>⟨hf3 (q5T hs).1,hv2 (q5T hs).1⟩,hr3,⟨hv1,hv2⟩,hfold2⟩,(by show cs.length-(k+1)<cs.length-k;omega),(eF),qda fun r=>GP.back hev4.2⟩
      ·have hx2e:cs.foldl (q5S (rcC N) c P fo lim n s2 l2 t) x1=⟨xr,xc,xm,xf⟩:=by
        rw[hfold2]
        by_cases hkl:k<cs.length
        ·refine q2w (fun x a hs=>qa2 x a hs) _ _ ?_
         cases xc with
         |true=>rfl
         |false=>
          cases xm with
          |true=>rfl
          |false=>exact absurd ⟨hkl,rfl,rfl⟩ hgo
        ·rw[List.drop_of_length_le (by omega)];rfl
       rw[hx2e] at hfold
       cases xm with
       |true=>
        rw[q2w (fun x a hs=>q3l x a hs) _ _ (show(⟨xr,xc,true,xf⟩:SS).stop=true by cases xc <;>rfl)] at hfold
        have hR:=hve.trans hfold
        subst hR
        cases xc
        all_goals
         repeat'((try(conv=>whnf));first|(refine q1P ?_ ?_;exact rfl)|(refine fI ?_)|(refine q5s ?_ ?_;exact rfl)|(refine fD ?_)|(refine fA ?_)|(apply q0e;(exact rfl);(exact rfl);all_goals intro hc))
         all_goals exact⟨(fa,fc2,Fy),hfy,q5v hback⟩
       |false=>
        cases xc with
        |true=>
         rw[q2w (fun x a hs=>q3l x a hs) _ _ (show(⟨xr,true,false,xf⟩:SS).stop=true from rfl)] at hfold
         have hR:=hve.trans hfold
         subst hR
         repeat'((try(conv=>whnf));first|(refine q1P ?_ ?_;exact rfl)|(refine fI ?_)|(refine q5s ?_ ?_;exact rfl)|(refine fD ?_)|(refine fA ?_)|(apply q0e;(exact rfl);(exact rfl);all_goals intro hc))
         all_goals exact⟨(fa,fc2,Fy),hfy,q5v hback⟩
        |false=>
         obtain⟨h1,h2,h3⟩:=hx2 rfl
         dsimp only at h1 h2 h3
         subst h1;subst h2;subst h3
         have hkn:¬(k:Int)<cs.length:=by
          have:¬k<cs.length:=fun h=>hgo ⟨h,rfl,rfl⟩
          omega
         repeat'((try(conv=>whnf));first|(refine q1P ?_ ?_;exact rfl)|(refine fI ?_)|(refine fD ?_)|(apply q9f;(exact rfl);omega)|(refine ari ?_ ?_;omega)|(refine fA ?_))
         all_goals exact⟨(t+1,false,⟨xr,false,false,[]⟩),⟨htN,rfl,rfl,hru2,fun h=>(by cases h),fun _=>hnd,hfold⟩,(by show N-(t+1)<N-t;omega),(eF),(q5v hback).trans qdc⟩
  ·have htN':t=N:=by omega
   subst htN'
   rw[List.drop_of_length_le (by rw[List.length_range];exact Nat.le_refl _),List.foldl_nil] at hfold
   cases dn with
   |true=>
    obtain⟨rfl,hall⟩:=hdt rfl
    have hdone:q6E s=true:=by
     unfold q6E
     refine List.all_eq_true.2 fun th hth=> ?_
     obtain⟨u,hu⟩:=List.getElem?_of_mem hth
     have:=hall u (by have:=(List.getElem?_eq_some_iff.1 hu).1;omega)
     unfold dnB at this
     rw[hu] at this
     exact this
    rw[if_pos hdone] at hve
    have hfn1:=hfn x1 ⟨hfd1,(q5T hx1).1⟩ (by omega)
    rw[←hve] at hfn1
    repeat'((try(conv=>whnf));first|(refine q5s ?_ ?_;exact rfl)|(apply qaQ;(exact rfl);omega)|(refine q6u.mk ⟨qjD,?_⟩)|((with_reducible show qf _ _ _ _ _ _);first|((refine qm hfn1 Ent.refl ?_ ?_ (fun y v hv=> ?_);(exact rfl);(exact rfl);(apply Stop.h))))|(refine fA ?_))
    refine Stop.mk ?_
    all_goals exact⟨y,hv,Ent.refl⟩
   |false=>
    rw[if_neg (by rw[hdf rfl];simp),hfold] at hve
    subst hve
    repeat'((try(conv=>whnf));first|(refine fD ?_)|(apply qaQ;(exact rfl);omega))
    all_goals exact⟨(none,0,[]),⟨by rw[hfd1];exact RdE.nil,fun _=>⟨rfl,rfl⟩⟩,Ent.refl⟩
end
open Go
def qll(c:Cfg)(il:List Int)(P:List (List Ins))(fo:List Int)(lim:Int):SS×Int:=
 let R:=q7L (rcC P.length) c P fo lim (q1n P (q7G c il P)+1) (q7G c il P) [] ss0
 if R.many then(ss0,80) else(R,0)
def q5x(c:Cfg)(il:List Int)(ps:List PH)(fo:List Int)(lim:Int):SS×Int:=
 if qeN c il.length ps fo lim≠0 then(ss0,qeN c il.length ps fo lim) else qll c il (ps.map PH.p) fo lim
theorem qiQ{c:Cfg}{il:Nat}{ps:List PH}{fo:List Int}{lim:Int}(h:qeN c il ps fo lim=0):(csM c il ps []).2.2=0∧c.strong=false∧alQ ps=false∧1≤lim∧lim≤100000∧fo.length≤4∧∀k∈fo,3≤k∧k≤6:=by
 unfold qeN at h
 by_cases h0:(csM c il ps []).2.2=0
 ·rw[if_neg (by omega)] at h
  by_cases h1:c.strong=true∨alQ ps=true
  ·rw[if_pos h1] at h;cases h
  ·rw[if_neg h1] at h
   by_cases h2:lim<1∨100000<lim∨(4:Int)<fo.length
   ·rw[if_pos h2] at h;cases h
   ·rw[if_neg h2] at h
    by_cases h3:foB fo=true
    ·refine⟨h0,by simpa using fun h=>h1 (.inl h),by simpa using fun h=>h1 (.inr h),by omega,by omega,by omega,fun k hk=> ?_⟩
     unfold foB at h3
     simpa using List.all_eq_true.1 h3 k hk
    ·rw[if_neg h3] at h;cases h
 ·rw[if_pos h0] at h;exact absurd h h0
section
variable{W0:World}
theorem qdd{b3 b4 b5 b6 b9 b10 b11 b12 b13:Nat×(Obj→Prop)}{G K q:Own}:Ent W0 (G++(K++(b13::(b12::(b11::(b10::(b9::(b6::(b5::(b4::(b3::q))))))))))) (b9::(b10::([b11,b13,b4,b12,b5]++(G++(K++(b6::(b3::q))))))):=qo []
theorem qhk{v m b6 b3:Nat×(Obj→Prop)}{F G y K q:Own}:Ent W0 (v::(m::(F++(G++(y++(K++(b6::(b3::q)))))))) (y++q):=qo (v::m::b6::b3::(F++(G++K)))
theorem qhl{v m b6 b3:Nat×(Obj→Prop)}{F G y K q:Own}:Ent W0 (v::(m::(F++(G++(y++(K++(b6::(b3::q)))))))) ([]++q):=qo (v::m::b6::b3::(F++(G++(y++K))))
end
section
variable{W0:World}{own:Own}{c:Cfg}{ia pa ka fa:Option Addr}{ic pc kc fc:Nat}{ps:List PH}{il ks fo:List Int}
theorem qch(hF:q0A W0)(hN:q1s W0 0 Ord.noneV)(hI:RdE q7j 1 W0 own ia il)(hil:il.length≤500000)(hw:∀x∈il,okU x)(hP:RdE PH.enc 1 W0 own pa ps)(hpl:ps.length≤1000000)(hQ:∀h∈ps,RdE Ins.enc 5 W0 own h.a h.p)(hfo:RdE qM 1 W0 own fa fo)(lim:Int):
  q0E Tryz.prog W0 13 [qi0 c ia il.length ic pa ps.length pc ka ks.length kc, .slice fa fo.length fc, .int .i64 lim] own fun v own'=>∃y:Option Addr×Nat×Own,
   (v= .tuple #[.agg #[.bool (q5x c il ps fo lim).1.racy, .slice y.1 (q5x c il ps fo lim).1.found.length y.2.1, .int .i64 (q5x c il ps fo lim).1.runs], .int .i64 (q5x c il ps fo lim).2]∧RdE q8x 3 W0 y.2.2 y.1 (q5x c il ps fo lim).1.found)∧Ent W0 own' (y.2.2++own):=by
 refine qa qj q4J (by simp[q0T]) ?_
 have hck:=fun(own':Own) [qt own' own]=>qe (qdX (own:=own') (c:=c) (ic:=ic) (pc:=pc) (ka:=ka) (ks:=ks) (kc:=kc) (fc:=fc) hF hI.up hil hP.up hpl (fun h hh=>(hQ h hh).up) hfo.up lim)
 unfold q5x
 by_cases h0:qeN c il.length ps fo lim=0
 ·obtain⟨hcs,hst,hal,hl1,hl2,hf4,hfk⟩:=qiQ h0
  rw[if_neg (by omega)]
  rw[h0] at hck
  have hnw:=fun(own':Own) [qt own' own]=>qgH (own:=own') (c:=c) (ic:=ic) (pc:=pc) (ka:=ka) (ks:=ks) (kc:=kc) hF hI.up (by omega) hP.up (fun h hh=>(hQ h hh).up)
  obtain⟨-,hc0,hp16,hiw,hchk⟩:=qh1 hcs
  have hG:GOk c (ps.map PH.p) (q7G c il (ps.map PH.p)):=qgw hc0 hiw hw fun p hp=>by obtain⟨x,hx,rfl⟩:=List.mem_map.1 hp;exact hchk x hx
  have hP16:(ps.map PH.p).length≤16:=by rw[List.length_map];omega
  have hml:=qhJ hG hP16
  have hna:=qkv hal
  have hvis:=fun(K:Own) (qs:List PH) (e:EB) (hqs:qs.map PH.p=ps.map PH.p)=>qbJ (c:=c) (Kp:=K) (Kf:=own) (ps:=qs) (N:=ps.length) (lim:=lim) (e:=e) (foc:=fc) hF hN hna hqs hP16 (List.length_map ..) hfk hf4 hl2 hfo (q1n (ps.map PH.p) (q7G c il (ps.map PH.p))+1) (q7G c il (ps.map PH.p)) [] ss0
  unfold qll
  rw[List.length_map]
  have hn0:(q7G c il (ps.map PH.p)).n=0:=rfl
  repeat'((try(conv=>whnf));first|(refine qc (fun b3 hb3=> ?_);(apply Stop.h)))
  refine Stop.mk ?_
  repeat'((try(conv=>whnf));first|(refine qc (fun b4 hb4=> ?_);(apply Stop.h)))
  refine Stop.mk ?_
  repeat'((try(conv=>whnf));first|(refine qc (fun b5 hb5=> ?_);(apply Stop.h)))
  refine Stop.mk ?_
  repeat'((try(conv=>whnf));first|(refine qc (fun b6 hb6=> ?_);(apply Stop.h)))
  refine Stop.mk ?_
  repeat'((try(conv=>whnf));first|(refine fD ?_)|(refine qc (fun b9 hb9=> ?_);(apply Stop.h))|((with_reducible show qf _ _ _ _ _ _);first|((refine qh (hck _) ?_ ?_ ?_;(exact rfl);exact rfl)))|(refine fA ?_)|(refine fL ?_))
  refine Stop.mk ?_
  repeat'((try(conv=>whnf));first|(refine qc (fun b10 hb10=> ?_);(apply Stop.h)))
  refine Stop.mk ?_
  repeat'((try(conv=>whnf));first|(refine qc (fun b11 hb11=> ?_);(apply Stop.h))|(refine fA ?_)|(refine fN ?_))
  refine Stop.mk ?_
  repeat'((try(conv=>whnf));first|(refine qc (fun b12 hb12=> ?_);(apply Stop.h))|(refine fN ?_))
  refine Stop.mk ?_
  repeat'((try(conv=>whnf));first|(refine qc (fun b13 hb13=> ?_);(apply Stop.h))|(refine fN ?_))
  refine Stop.mk ?_
  repeat'((try(conv=>whnf));first|((with_reducible show qf _ _ _ _ _ _);first|((refine q3r (hnw _) Ent.refl ?_ ?_ (fun v hv=> ?_) (fun y v hv=> ?_);(exact rfl);(exact rfl);all_goals(apply Stop.h))))|(refine fL ?_)|(refine fN ?_))
  ·obtain⟨rfl,he⟩:=hv
   exact absurd hcs he
  ·obtain⟨g,ys,kD⟩:=y
   obtain⟨rfl, -,hok,hev,hys, -⟩:=hv
   dsimp only at hok hev hys ⊢
   have hvi:=hvis (kD++q9L ys) (ys.map PB.h) ⟨b9,b10,b11,b13,b4,b12,b5⟩ hys
   generalize q7L (rcC ps.length) c (ps.map PH.p) fo lim (q1n (ps.map PH.p) (q7G c il (ps.map PH.p))+1) (q7G c il (ps.map PH.p)) [] ss0=R at*
   refine Stop.mk ?_
   obtain⟨xr,xc,xm,xf⟩:=R
   dsimp only at hvi ⊢
   cases xm with
   |true=>
    simp only[if_true]
    repeat'((try(conv=>whnf));first|(refine fE ?_)|(refine q6u.mk ⟨q9K,?_⟩)|((with_reducible show qf _ _ _ _ _ _);first|((refine qm (hvi g _ none 0 (kD++q9L ys) _ hok hev hG (by omega) (by omega) (Nat.zero_le _) RdE.nil rfl rfl (by show(0:Int)≤lim;omega) inferInstance inferInstance inferInstance) qdd ?_ ?_ (fun y v hv=> ?_);(exact rfl);(exact rfl))))|(refine fO ?_)|(refine fA ?_)|(refine fL ?_)|(refine fM ?_))
    all_goals exact⟨(none,0,[]),⟨rfl,RdE.nil⟩,qhl⟩
   |false=>
    simp only[Bool.false_eq_true,if_false]
    repeat'((try(conv=>whnf));first|(refine fD ?_)|(refine q6u.mk ⟨q9K,?_⟩)|((with_reducible show qf _ _ _ _ _ _);first|((refine qm (hvi g _ none 0 (kD++q9L ys) _ hok hev hG (by omega) (by omega) (Nat.zero_le _) RdE.nil rfl rfl (by show(0:Int)≤lim;omega) inferInstance inferInstance inferInstance) qdd ?_ ?_ (fun y v hv=> ?_);(exact rfl);(exact rfl))))|(refine fO ?_)|(refine fA ?_)|(refine fL ?_)|(refine fM ?_))
    all_goals exact⟨y,⟨rfl,hv.1⟩,qhk⟩
 ·rw[if_pos h0]
  generalize qeN c il.length ps fo lim=z at*
  repeat'((try(conv=>whnf));first|(refine fF ?_)|(refine qc (fun b3 hb3=> ?_))|((with_reducible show qf _ _ _ _ _ _);first|((refine qh (hck _) ?_ ?_ ?_;(exact rfl);exact rfl)))|(refine fA ?_)|(refine fL ?_)|(refine fM ?_))
  all_goals exact⟨(none,0,[]),⟨rfl,RdE.nil⟩,(eC)⟩
end
open Go
abbrev twC:Cfg:=⟨2,1,0,0,0,0,0,1,1,0,0,0,false⟩
abbrev twQ(a:Int):List Ins:= [⟨13,0,0,0,a⟩]
structure TW where
 ib:Nat
 b1:Nat
 b2:Nat
 pb:Nat
abbrev TW.ps(y:TW)(a b:Int):List PH:= [⟨some ⟨y.b1,0,none⟩,1,twQ a⟩,⟨some ⟨y.b2,0,none⟩,1,twQ b⟩]
abbrev TW.v(y:TW):Value:=qi0 twC (some ⟨y.ib,0,none⟩) 2 2 (some ⟨y.pb,0,none⟩) 2 2 none 0 0
abbrev TW.O(y:TW)(a b:Int):Own:= [(y.ib,fun o=>o=Obj.cells #[.int .u64 0, .int .u64 0] 58 (0,0)),(y.b1,fun o=>o=Obj.cells #[.int .i64 13, .int .i64 0, .int .i64 0, .int .i64 0, .int .i64 a] 69 (0,0)),(y.b2,fun o=>o=Obj.cells #[.int .i64 13, .int .i64 0, .int .i64 0, .int .i64 0, .int .i64 b] 69 (0,0)),(y.pb,fun o=>o=Obj.cells #[.slice (some ⟨y.b1,0,none⟩) 1 1, .slice (some ⟨y.b2,0,none⟩) 1 1] 66 (0,0))]
theorem ql6{a b:Option Addr}{n:Nat}:q5x twC [0,0] [⟨a,n,twQ 0⟩,⟨b,n,twQ 1⟩] [] 10=(⟨2,false,false,[]⟩,0):=by kernel_rfl
theorem ql7{a b:Option Addr}{n:Nat}:q5x twC [0,0] [⟨a,n,twQ 1⟩,⟨b,n,twQ 1⟩] [] 10=(⟨1,true,false,[⟨0,0,[]⟩,⟨1,0,[]⟩]⟩,0):=by kernel_rfl
section
variable{W0:World}{own:Own}
theorem qjg{x1 x2 x3 x4 x5:Nat×(Obj→Prop)}:Ent W0 (x5::(x4::(x3::(x2::(x1::own))))) ([x2,x3,x4,x5]++own):=qo [x1]
theorem qgI(a b:Int):q0E Tryz.prog W0 23 [.int .i64 a, .int .i64 b] own fun v own'=>∃y:TW,v=y.v∧Ent W0 own' (y.O a b++own):=by
 refine qa qj q8S (by simp[q36]) ?_
 repeat'((try(conv=>whnf));first|(refine qc (fun b4 h4=> ?_);(apply Stop.h)))
 refine Stop.mk ?_
 repeat'((try(conv=>whnf));first|(refine qc (fun b6 h6=> ?_);(apply Stop.h)))
 refine Stop.mk ?_
 repeat'((try(conv=>whnf));first|(refine qc (fun b9 h9=> ?_);(apply Stop.h)))
 refine Stop.mk ?_
 repeat'((try(conv=>whnf));first|(refine qc (fun b12 h12=> ?_);(apply Stop.h)))
 refine Stop.mk ?_
 repeat'((try(conv=>whnf));first|(refine qc (fun b13 h13=> ?_);(apply Stop.h)))
 refine Stop.mk ?_
 repeat'((try(conv=>whnf));first|(refine fL ?_)|(refine fM ?_))
 all_goals exact⟨⟨b6,b9,b12,b13⟩,rfl,qjg⟩
theorem qk6(hF:q0A W0)(hN:q1s W0 0 Ord.noneV)(y:TW)(a b lim:Int)(q:Own):
  q0E Tryz.prog W0 13 [y.v, .slice none 0 0, .int .i64 lim] (y.O a b++q) fun v own'=>∃z:Option Addr×Nat×Own,
   (v= .tuple #[.agg #[.bool (q5x twC [0,0] (y.ps a b) [] lim).1.racy, .slice z.1 (q5x twC [0,0] (y.ps a b) [] lim).1.found.length z.2.1, .int .i64 (q5x twC [0,0] (y.ps a b) [] lim).1.runs], .int .i64 (q5x twC [0,0] (y.ps a b) [] lim).2]∧RdE q8x 3 W0 z.2.2 z.1 (q5x twC [0,0] (y.ps a b) [] lim).1.found)∧Ent W0 own' (z.2.2++(y.O a b++q)):=by
 refine qch (c:=twC) (ia:=some ⟨y.ib,0,none⟩) (il:= [0,0]) (ic:=2) (pa:=some ⟨y.pb,0,none⟩) (ps:=y.ps a b) (pc:=2) (ka:=none) (ks:= []) (kc:=0) (fa:=none) (fo:= []) (fc:=0) hF hN (q4E (by(repeat(first|exact List.Mem.head _|apply List.Mem.tail))) (fun _ _=>rfl) rfl) (by decide) (fun x hx=> ?_) (q4E (by(repeat(first|exact List.Mem.head _|apply List.Mem.tail))) (fun _ _=>rfl) rfl) (by show 2≤1000000;decide) (fun h hh=> ?_) RdE.nil lim
 ·have e:x=0:=by simpa using hx
  subst e
  exact ok0
 ·rcases List.mem_cons.1 hh with rfl|hh
  ·exact q4E (by(repeat(first|exact List.Mem.head _|apply List.Mem.tail))) (fun _ _=>rfl) rfl
  ·rw[List.mem_singleton.1 hh]
   exact q4E (by(repeat(first|exact List.Mem.head _|apply List.Mem.tail))) (fun _ _=>rfl) rfl
theorem qkm(hF:q0A W0)(hN:q1s W0 0 Ord.noneV):qD Tryz.prog W0 10 [] own (.bool true):=by
 refine qe (qa qj q6M (by simp[q1T]) ?_)
 have h1:=fun(y:TW) (q:Own)=>qk6 hF hN y 0 1 10 q
 have h2:=fun(y:TW) (q:Own)=>qk6 hF hN y 1 1 10 q
 simp only[ql6] at h1
 simp only[ql7] at h2
 repeat'((try(conv=>whnf));first|((with_reducible show qf _ _ _ _ _ _);first|((refine qm (qgI 0 1) Ent.refl ?_ ?_ (fun y v hv=> ?_);(exact rfl);(exact rfl);(apply Stop.h)))))
 subst hv
 refine Stop.mk ?_
 repeat'((try(conv=>whnf));first|((with_reducible show qf _ _ _ _ _ _);first|((refine qm (h1 y _) Ent.refl ?_ ?_ (fun z v hv=> ?_);(exact rfl);(exact rfl);(obtain⟨rfl,hz⟩:=hv);(apply Stop.h)))))
 refine Stop.mk ?_
 repeat'((try(conv=>whnf));first|(refine qc (fun bA hA=> ?_);(apply Stop.h))|(refine fO ?_))
 refine Stop.mk ?_
 repeat'((try(conv=>whnf));first|((with_reducible show qf _ _ _ _ _ _);first|((refine qm (qgI 1 1) Ent.refl ?_ ?_ (fun y2 v hv=> ?_);(exact rfl);(exact rfl);(apply Stop.h))))|(refine fM ?_))
 subst hv
 refine Stop.mk ?_
 repeat'((try(conv=>whnf));first|((with_reducible show qf _ _ _ _ _ _);first|((refine qm (h2 y2 _) Ent.refl ?_ ?_ (fun z v hv=> ?_);(exact rfl);(exact rfl);(obtain⟨rfl,hz2⟩:=hv);(apply Stop.h)))))
 refine Stop.mk ?_
 repeat'((try(conv=>whnf));first|(refine fH ?_)|(refine qc (fun bB hB=> ?_))|(refine fO ?_)|(refine fA ?_)|(refine fM ?_))
 all_goals exact⟨rfl,(eC)⟩
end
end Go.Proofs.YtkieffpjjfebjaaGreatDoor
