/- What the laws share, part 18. No condition. -/
import Derived.Test.YtbhbldllneadeaaGreatDoorQ17
set_option maxHeartbeats 8000000
set_option maxRecDepth 10000
namespace Go.Proofs.YtbhbldllneadeaaGreatDoor
open Go
section
variable{W0:World}{own Q:Own}{c:Cfg}{t:Nat}{h:AH}{x:AT}{k w:Int}{b e:Nat}{mh:MH}{m:MS}
theorem qfK(hh:h.ok c x)(hM:mh.ok m.L)(hj:m.sl[t]? =some w)(Q:Own):qt Tryz.prog W0 164 [ptr h.b,ptr mh.mb] (h.O c t x 2 0 (mh.O m++Q))
  (AtQ W0 c t h.b {x with ph:= .ent 1} 1 (mh.O {m with sl:=m.sl.set t 1}++Q) (.tuple #[(acS 6 t w 1).v, .int .i64 2])):=by
 unfold AtQ;refine sH [] ?_;have hs0:=fun(own':Own) (m2:qy h.eb (enP t 0 x.rv) own')=>q3J (W0:=W0) (n:=0) (qk m2 rfl) (qk m2 rfl) hh.rv
 have hs1:=fun(own':Own) (m2:qy h.eb (enP t 1 x.rv) own')=>q3J (W0:=W0) (n:=1) (qk m2 rfl) (qk m2 rfl) hh.rv
 have hd:=fun(own':Own) (m2:qy h.eb (enP t 1 x.rv) own')=>q4O (W0:=W0) (n:=1) (qk m2 rfl)
 simp only[show decide ((1:Int)=3)=false from rfl,if_pos (show(0:Int)≤1 by decide),if_pos (show(1:Int)≤1 by decide)] at hs0 hs1 hd
 repeat'((try(conv=>whnf));first|(refine fD ?_)|((apply qe);first|((refine qd (hs0 _ Y9) ?_))|((refine qd (hs1 _ Y9) ?_))|((refine qd (hd _ Y9) ?_))|((refine qB (D:=mh.O m) (qcU (b:=h.eb) (c:=x.rv) hM hj _) (fun _ v hv=> ?_);(subst hv))))|(refine fA ?_)|(refine fL ?_)|(refine fM ?_)|(refine qf (fun bk hbk=> ?_)))
 all_goals exact⟨(h,[]),⟨rfl,rfl,⟨hh.1,hh.2,hh.3,hh.4,hh.5,hh.6,hh.7,hh.8,hh.9⟩,rfl⟩,sbE⟩
theorem qfL(hh:h.ok c x)(hM:mh.ok m.L)(hck:0≤m.ck∧m.ck≤1099511627776)(Q:Own):qt Tryz.prog W0 164 [ptr h.b,ptr mh.mb] (h.O c t x 2 1 (mh.O m++Q))
  (AtQ W0 c t h.b {x with rv:=m.ck,ph:= .ent 2} 2 (mh.O m++Q) (.tuple #[(acL 3 0 m.ck).v, .int .i64 3])):=by
 unfold AtQ;refine sH [] ?_;have hs0:=fun(own':Own) (m2:qy h.eb (enP t 1 x.rv) own')=>q3J (W0:=W0) (n:=1) (qk m2 rfl) (qk m2 rfl) hh.rv
 have hs1:=fun(own':Own) (m2:qy h.eb (enP t 2 m.ck) own')=>q3J (W0:=W0) (n:=2) (qk m2 rfl) (qk m2 rfl) hck
 have hd:=fun(own':Own) (m2:qy h.eb (enP t 2 m.ck) own')=>q4O (W0:=W0) (n:=2) (qk m2 rfl)
 simp only[show decide ((2:Int)=3)=false from rfl,if_neg (show ¬(2:Int)≤1 by decide),if_pos (show(1:Int)≤1 by decide)] at hs0 hs1 hd;have hne:(-1:Int)≠m.ck:=Y6
 repeat'((try(conv=>whnf));first|(refine fD ?_)|(refine fF ?_)|((apply qe);first|((refine qd (hs0 _ Y9) ?_))|((refine qd (hs1 _ Y9) ?_))|((refine qd (hd _ Y9) ?_))|((refine qB (D:=mh.O m) (qcV (b:=h.eb) (t:=t) (c:=x.rv) hM _) (fun _ v hv=> ?_);(subst hv))))|(refine fA ?_)|(refine fL ?_)|(refine fM ?_)|(refine qf (fun bk hbk=> ?_)))
 all_goals exact⟨(h,[]),⟨rfl,rfl,⟨hh.1,hh.2,hh.3,hh.4,hh.5,hh.6,hh.7,hck,hh.9⟩,rfl⟩,sbE⟩
theorem qfM(hh:h.ok c x)(hM:mh.ok m.L)(hj:m.sl[t]? =some w)(Q:Own):qt Tryz.prog W0 164 [ptr h.b,ptr mh.mb] (h.O c t x 2 2 (mh.O m++Q))
  (AtQ W0 c t h.b {x with ph:= .idle} 3 (mh.O {m with sl:=m.sl.set t (qM (x.rv+2))}++Q) (.tuple #[(acS 6 t w (qM (x.rv+2))).v, .int .i64 4])):=by
 unfold AtQ;refine sH [] ?_;have hs0:=fun(own':Own) (m2:qy h.eb (enP t 2 x.rv) own')=>q3J (W0:=W0) (n:=2) (qk m2 rfl) (qk m2 rfl) hh.rv
 have hd:=fun(own':Own) (m2:qy h.eb (enP t 3 x.rv) own')=>q4O (W0:=W0) (n:=3) (qk m2 rfl)
 simp only[if_neg (show ¬(2:Int)≤1 by decide)] at hs0
 repeat'((try(conv=>whnf));first|(refine fE ?_)|((apply qe);first|((refine qd (hs0 _ Y9) ?_))|((refine qd (hd _ Y9) ?_))|((refine qB (D:=mh.O m) (qcW (b:=h.eb) (c:=x.rv) hM hj _) (fun _ v hv=> ?_);(subst hv))))|(refine fA ?_)|(refine fL ?_)|(refine fN ?_)|(refine fM ?_)|(refine qf (fun bk hbk=> ?_)))
 all_goals exact⟨(h,[]),⟨rfl,rfl,⟨hh.1,hh.2,hh.3,hh.4,hh.5,hh.6,hh.7,hh.8,hh.9⟩,rfl⟩,sbE⟩
end
open Go
theorem AH.rd_eq{h:AH}{v u:Value}{l:Int}(e:h.rd=v)(e2:h.ld=l)(e3:h.us=u):∃h':AH,h={h' with rd:=v,ld:=l,us:=u}:=⟨h,by cases h;cases e;cases e2;cases e3;rfl⟩
section
variable{W0:World}{own Q:Own}{c:Cfg}{t:Nat}{h:AH}{x:AT}{k w bf vl:Int}{b e r ab o:Nat}{mh:MH}{m:MS}
theorem qj1(hh:h.ok c x)(hM:mh.ok m.L)(hrd:h.rd=ptr r)(hld:h.ld=0)(hus:h.us=fnv 190 [ptr ab])(ho:qF c x.addr=(o:Int))(hj:m.o[o]? =some w)(hw:okU w)(Q:Own):
  qt Tryz.prog W0 165 [ptr h.b,ptr mh.mb] (h.O c t x 3 3 ([(r,rdP x.addr o x.rv 0 0 0 false),(ab,abP h.b)]++(mh.O m++Q)))
  (AtQ W0 c t h.b (if q3R w≥0∨q5V w>x.rv then x.undo 9 else{x with ph:= .rd 1 w 0}) 3 (mh.O m++Q) (.tuple #[(acL 2 o w).v, .int .i64 5])):=by
 unfold AtQ;refine sH [3,5,7,9,11,13,17,19,21,23,1,16,1,25,27,30,32,33,0,30,1,25,27,32,33,0,32,25,27,33,0,1,25,27,1,16,30,32,33,0,30,16,32,33,0,30,1,16,1,25,27,32,33,0,32,25,27,33,0,25,27,16,32,33,0,3,5,7,9,11,13,15,17,19,21,23,25,27,29,31,33,35,37,39,41,43,45,47,0,3,5,7,9,11,13,15,17,19,21,24,26,27,29,31,34,0,3,5,7,9,11,13,15,17,19,21,23,25,27,29,32,33,0,3,5,7,9,11,13,15,17,19,21,24,0] ?_;obtain⟨h',rfl⟩:=AH.rd_eq hrd hld hus;have hst:=fun Q=>qfH (W0:=W0) (b:=r) (a:=x.addr) (o:=o) (rv:=x.rv) hM hj hw Q
 by_cases h1:q3R w≥0∨q5V w>x.rv
 ·simp only[if_pos h1] at hst ⊢;have hdn:=fun(own':Own) (m2:qy r (rdP x.addr o x.rv 3 w 0 true) own')=>q2m (W0:=W0) (n:=3) (qk m2 rfl)
  have hcf:=fun(own':Own) (m2:qy r (rdP x.addr o x.rv 3 w 0 true) own')=>q4S (W0:=W0) (d:=true) (qk m2 rfl)
  repeat'((try(conv=>whnf));first|(refine fE ?_)|(refine fD ?_)|((apply qe);first|((refine qd (hdn _ Y9) ?_))|((refine qd (hcf _ Y9) ?_))|((refine qB (D:=mh.O m) (hst _) (fun _ v hv=> ?_);(subst hv)))|((refine qG (q4Y (h:={h' with rd:=ptr r,ld:=1,us:=fnv 190 [ptr ab]}) (c:=c) (t:=t) (x:=x) (k:=3) 9 _) (fun _ v hv=> ?_);(subst hv))))|(refine fB ?_)|(refine fA ?_)|(refine fL ?_)|(refine fN ?_)|(refine fM ?_)|(refine qf (fun bk hbk=> ?_))|(refine q1c.mk ?_ ?_))
  all_goals exact⟨({h' with rd:=ptr r,ld:=1,us:=fnv 190 [ptr ab]},[]),⟨rfl,rfl,⟨hh.1,hh.2,hh.3,hh.4,hh.5,hh.6,hh.7,hh.8,hh.9⟩,rfl⟩,sbE⟩
 ·simp only[if_neg h1] at hst ⊢;have hdn:=fun(own':Own) (m2:qy r (rdP x.addr o x.rv 1 w 0 false) own')=>q2m (W0:=W0) (n:=1) (qk m2 rfl)
  simp only[show decide ((1:Int)=3)=false from rfl] at hdn
  repeat'((try(conv=>whnf));first|(refine fE ?_)|((apply qe);first|((refine qd (hdn _ Y9) ?_))|((refine qB (D:=mh.O m) (hst _) (fun _ v hv=> ?_);(subst hv))))|(refine fB ?_)|(refine fA ?_)|(refine fL ?_)|(refine fN ?_)|(refine fM ?_)|(refine qf (fun bk hbk=> ?_))|(refine q1c.mk ?_ ?_))
  all_goals exact⟨({h' with rd:=ptr r,ld:=1,us:=fnv 190 [ptr ab]},[(r,rdP x.addr o x.rv 1 w 0 false),(ab,abP h'.b)]),⟨rfl,rfl,⟨hh.1,hh.2,hh.3,hh.4,hh.5,hh.6,hh.7,hh.8,hh.9⟩,⟨rfl,r,ab,rfl,rfl,by dsimp only;rw[ho]⟩⟩,sbE⟩
theorem qj2{j:Nat}(hh:h.ok c x)(hM:mh.ok m.L)(hrd:h.rd=ptr r)(hld:h.ld=1)(hus:h.us=fnv 190 [ptr ab])(ho:qF c x.addr=(o:Int))(ha:x.addr=(j:Int))(hj:m.d[j]? =some w)(Q:Own):
  qt Tryz.prog W0 165 [ptr h.b,ptr mh.mb] (h.O c t x 3 3 ([(r,rdP j o x.rv 1 bf 0 false),(ab,abP h.b)]++(mh.O m++Q)))
  (AtQ W0 c t h.b {x with ph:= .rd 2 bf w} 3 (mh.O m++Q) (.tuple #[(acL 1 j w).v, .int .i64 6])):=by
 unfold AtQ;refine sH [3,5,7,9,11,13,17,19,21,23,1,16,1,25,27,30,32,33,0,30,1,25,27,32,33,0,32,25,27,33,0,1,25,27,1,16,30,32,33,0,30,16,32,33,0,30,1,16,1,25,27,32,33,0,32,25,27,33,0,25,27,16,32,33,0,3,5,7,9,11,13,15,17,19,21,23,25,27,29,31,33,35,37,39,41,43,45,47,0,3,5,7,9,11,13,15,17,19,21,24,26,27,29,31,34,0,3,5,7,9,11,13,15,17,19,21,23,25,27,29,32,33,0,3,5,7,9,11,13,15,17,19,21,24,0] ?_;obtain⟨h',rfl⟩:=AH.rd_eq hrd hld hus;have hdn:=fun(own':Own) (m2:qy r (rdP j o x.rv 2 bf w false) own')=>q2m (W0:=W0) (n:=2) (qk m2 rfl)
 simp only[show decide ((2:Int)=3)=false from rfl] at hdn
 repeat'((try(conv=>whnf));first|(refine fE ?_)|((apply qe);first|((refine qd (hdn _ Y9) ?_))|((refine qB (D:=mh.O m) (qfI (b:=r) (o:=o) (rv:=x.rv) (bf:=bf) hM hj _) (fun _ v hv=> ?_);(subst hv))))|(refine fB ?_)|(refine fA ?_)|(refine fL ?_)|(refine fN ?_)|(refine fM ?_)|(refine qf (fun bk hbk=> ?_))|(refine q1c.mk ?_ ?_))
 all_goals exact⟨({h' with rd:=ptr r,ld:=2,us:=fnv 190 [ptr ab]},[(r,rdP j o x.rv 2 bf w false),(ab,abP h'.b)]),⟨rfl,rfl,⟨hh.1,hh.2,hh.3,hh.4,hh.5,hh.6,hh.7,hh.8,hh.9⟩,⟨rfl,r,ab,rfl,rfl,by dsimp only;rw[ho,ha]⟩⟩,sbE⟩
end
open Go
theorem q94{cap:Int}{l s:List Int}{o:Int}(h:q6Q cap l o=some s):s.length≤l.length+1:=by
 unfold q6Q at h
 split at h
 ·cases h;omega
 ·split at h
  ·cases h
  ·cases h;rw[z8];exact zu _
theorem qe8{l:List Int}{a:Int}:(q1G l a).length≤l.length+1:=by
 unfold q1G
 split
 ·omega
 ·rw[z8];exact zu _
section
variable{W0:World}{own Q:Own}{c:Cfg}{t:Nat}{h:AH}{x:AT}{k w bf vl:Int}{b e r ab o:Nat}{mh:MH}{m:MS}
theorem qj3(hh:h.ok c x)(hM:mh.ok m.L)(hrd:h.rd=ptr r)(hld:h.ld=2)(hus:h.us=fnv 190 [ptr ab])(hj:m.o[o]? =some w)(haw:x.addr<c.words)(hl1:x.set.length<100000)(hl2:x.seen.length<100000)(Q:Own):
  qt Tryz.prog W0 165 [ptr h.b,ptr mh.mb] (h.O c t x 3 3 ([(r,rdP x.addr o x.rv 2 bf vl false),(ab,abP h.b)]++(mh.O m++Q)))
  (AtQ W0 c t h.b (if w≠bf then x.undo 9 else match q6Q c.reads x.set (qF c x.addr) with
    |none=>{x with seen:=q1G x.seen x.addr}.undo 3
    |some s=>{x with seen:=q1G x.seen x.addr,set:=s,val:=vl,ph:= .idle}) 3 (mh.O m++Q) (.tuple #[(acL 2 o w).v, .int .i64 7])):=by
 unfold AtQ;refine sH [3,5,7,9,11,13,17,19,21,23,1,16,1,25,27,30,32,33,0,30,1,25,27,32,33,0,32,25,27,33,0,1,25,27,1,16,30,32,33,0,30,16,32,33,0,30,1,16,1,25,27,32,33,0,32,25,27,33,0,25,27,16,32,33,0,3,5,7,9,11,13,15,17,19,21,23,25,27,29,31,33,35,37,39,41,43,45,47,0,3,5,7,9,11,13,15,17,19,21,24,26,27,29,31,34,0,3,5,7,9,11,13,15,17,19,21,23,25,27,29,32,33,0,3,5,7,9,11,13,15,17,19,21,24,0] ?_;obtain⟨h',rfl⟩:=AH.rd_eq hrd hld hus;have hst:=fun Q=>qfJ (W0:=W0) (b:=r) (a:=x.addr) (o:=o) (rv:=x.rv) (bf:=bf) (vl:=vl) hM hj Q
 have hdn:=fun(d:Bool) (own':Own) (m2:qy r (rdP x.addr o x.rv 3 bf vl d) own')=>q2m (W0:=W0) (n:=3) (qk m2 rfl)
 by_cases h1:w≠bf
 ·simp only[if_pos h1,decide_eq_true h1] at hst ⊢;have hcf:=fun(own':Own) (m2:qy r (rdP x.addr o x.rv 3 bf vl true) own')=>q4S (W0:=W0) (d:=true) (qk m2 rfl)
  repeat'((try(conv=>whnf));first|(refine qk4 ?_ ?_;exact rfl)|(refine fD ?_)|((apply qe);first|((refine qd (hdn _ _ Y9) ?_))|((refine qd (hcf _ Y9) ?_))|((refine qB (D:=mh.O m) (hst _) (fun _ v hv=> ?_);(subst hv)))|((refine qG (q4Y (h:={h' with rd:=ptr r,ld:=3,us:=fnv 190 [ptr ab]}) (c:=c) (t:=t) (x:=x) (k:=3) 9 _) (fun _ v hv=> ?_);(subst hv))))|(refine ari ?_ ?_;omega)|(refine fA ?_)|(refine fL ?_)|(refine fN ?_)|(refine fM ?_)|(refine qf (fun bk hbk=> ?_))|(refine q1c.mk ?_ ?_))
  all_goals exact⟨({h' with rd:=ptr r,ld:=3,us:=fnv 190 [ptr ab]},[]),⟨rfl,rfl,⟨hh.1,hh.2,hh.3,hh.4,hh.5,hh.6,hh.7,hh.8,hh.9⟩,rfl⟩,sbE⟩
 ·simp only[if_neg h1,decide_eq_false h1] at hst ⊢;have hcf:=fun(own':Own) (m2:qy r (rdP x.addr o x.rv 3 bf vl false) own')=>q4S (W0:=W0) (d:=false) (qk m2 rfl)
  have hvl:=fun(own':Own) (m2:qy r (rdP x.addr o x.rv 3 bf vl false) own')=>qfG (W0:=W0) (qk m2 rfl) (qk m2 rfl) (qk m2 rfl)
  have hq:=hh.hn;have hcn:=fun(own':Own) (m3:qv own' h'.nD)=>q0q (W0:=W0) (own:=own') (cap:=h'.nc) ((hh.hn.rd (W0:=W0)).up) Y6 x.addr
  have hsa:=fun Q=>qdk (W0:=W0) (b:=h'.sb) (cap:=c.reads) hh.hs Y6 (qF c x.addr) Q
  by_cases hs:x.addr∈x.seen
  ·have hai:q1G x.seen x.addr=x.seen:=if_pos hs;simp only[decide_eq_true hs] at hcn;rw[hai];cases hA:q6Q c.reads x.set (qF c x.addr) with
   |none=>
    simp only[hA,Zv,y4] at hsa ⊢
    repeat'((try(conv=>whnf));first|(refine q8U ?_ ?_;exact rfl)|(refine qk4 ?_ ?_;exact rfl)|(refine fD ?_)|(apply qgn;(exact rfl);omega)|((apply qe);first|((refine qd (hdn _ _ Y9) ?_))|((refine qd (hcf _ Y9) ?_))|((refine qB (D:=mh.O m) (hst _) (fun _ v hv=> ?_);(subst hv)))|((refine qB (D:=h'.sD) (hsa _) (fun y v hv=> ?_);(obtain⟨a3,c3,D3⟩:=y;obtain⟨rfl,hB3⟩:=hv;dsimp only at hB3)))|((refine q1l (q4Y (h:={h' with rd:=ptr r,ld:=3,us:=fnv 190 [ptr ab]}) (c:=c) (t:=t) (x:=x) (k:=3) 3 _) ?_ ?_ ?_ (fun _ v hv=> ?_);(solve|exact rfl|(unfold atP;simp only[z8];rfl));(exact rfl);(exact rfl);(subst hv))))|((apply qz);first|((refine qj (fun ex=>hcn _ Y9) ?_))|((refine qj (fun ex=>q3I W0 _ c x.addr) ?_)))|(refine ari ?_ ?_;omega)|(refine fA ?_)|(refine fL ?_)|(refine fQ ?_)|(refine fN ?_)|(refine fM ?_)|(refine qf (fun bk hbk=> ?_))|(refine q1c.mk ?_ ?_))
    all_goals exact⟨({h' with rd:=ptr r,ld:=3,us:=fnv 190 [ptr ab],sa:=a3,sc:=c3,sD:=D3},[]),⟨rfl,rfl,⟨hB3,hh.2,hh.3,hh.4,hh.5,hh.6,hh.7,hh.8,hh.9⟩,rfl⟩,sbE⟩
   |some s=>
    have hsl:=q94 hA;simp only[hA,ZI,Z3] at hsa ⊢
    repeat'((try(conv=>whnf));first|(refine q8U ?_ ?_;exact rfl)|(refine fD ?_)|(apply qgn;(exact rfl);omega)|(refine q2X.mk ⟨qis,?_⟩)|((apply qe);first|((refine qd (hdn _ _ Y9) ?_))|((refine qd (hcf _ Y9) ?_))|((refine qB (D:=mh.O m) (hst _) (fun _ v hv=> ?_);(subst hv)))|((refine qB (D:=h'.sD) (hsa _) (fun y v hv=> ?_);(obtain⟨a3,c3,D3⟩:=y;obtain⟨rfl,hB3⟩:=hv;dsimp only at hB3)))|((refine q64 (b:=h'.b) (D:= [(ab,abP h'.b)]) (q4T (h:={h' with rd:=ptr r,ld:=3,us:=fnv 190 [ptr ab]}) (c:=c) (t:=t) (x:=x) (k:=0) vl _) ?_ ?_ ?_ (fun _ v hv=> ?_);(solve|exact rfl|(unfold atP;simp only[z8];rfl));(exact rfl);(exact rfl);(subst hv))))|((apply qz);first|((refine qj (fun ex=>hcn _ Y9) ?_))|((refine qj (fun ex=>q3I W0 _ c x.addr) ?_))|((refine qj (fun ex=>hvl _ Y9) ?_)))|(refine ari ?_ ?_;omega)|(refine fA ?_)|(refine fL ?_)|(refine fQ ?_)|(refine fN ?_)|(refine fM ?_)|(refine qf (fun bk hbk=> ?_))|(refine q1c.mk ?_ ?_))
    all_goals exact⟨({h' with rd:=ptr r,ld:=3,us:=fnv 190 [ptr ab],sa:=a3,sc:=c3,sD:=D3},[]),⟨rfl,rfl,⟨hB3,hh.2,hh.3,hh.4,by dsimp only;omega,hh.6,hh.7,hh.8,hh.9⟩,rfl⟩,sbE⟩
  ·have hai:q1G x.seen x.addr=x.seen++ [x.addr]:=if_neg hs;have hal:=qe8 (l:=x.seen) (a:=x.addr);simp only[decide_eq_false hs] at hcn;rw[hai] at hal ⊢;cases hA:q6Q c.reads x.set (qF c x.addr) with
   |none=>
    simp only[hA,Zv,y4] at hsa ⊢
    repeat'((try(conv=>whnf));first|(refine q8U ?_ ?_;exact rfl)|(refine qk4 ?_ ?_;exact rfl)|(refine fD ?_)|(apply qgn;(exact rfl);omega)|(apply q0p (enc:=qx) (T:=3) x.addr hq;(exact rfl);(exact rfl);(omega);(exact rfl);(exact rfl);(omega);intro a5 c5 D5 hb5)|((apply qe);first|((refine qd (hdn _ _ Y9) ?_))|((refine qd (hcf _ Y9) ?_))|((refine qB (D:=mh.O m) (hst _) (fun _ v hv=> ?_);(subst hv)))|((refine qB (D:=h'.sD) (hsa _) (fun y v hv=> ?_);(obtain⟨a3,c3,D3⟩:=y;obtain⟨rfl,hB3⟩:=hv;dsimp only at hB3)))|((refine q1l (q4Y (h:={h' with rd:=ptr r,ld:=3,us:=fnv 190 [ptr ab],na:=a5,nc:=c5,nD:=D5}) (c:=c) (t:=t) (x:={x with seen:=x.seen++ [x.addr]}) (k:=3) 3 _) ?_ ?_ ?_ (fun _ v hv=> ?_);(solve|exact rfl|(unfold atP;simp only[z8];rfl));(exact rfl);(exact rfl);(subst hv))))|((apply qz);first|((refine qj (fun ex=>hcn _ Y9) ?_))|((refine qj (fun ex=>q3I W0 _ c x.addr) ?_)))|(refine ari ?_ ?_;omega)|(refine fA ?_)|(refine fL ?_)|(refine fQ ?_)|(refine fN ?_)|(refine fM ?_)|(refine qf (fun bk hbk=> ?_))|(refine q1c.mk ?_ ?_))
    all_goals exact⟨({h' with rd:=ptr r,ld:=3,us:=fnv 190 [ptr ab],na:=a5,nc:=c5,nD:=D5,sa:=a3,sc:=c3,sD:=D3},[]),⟨rfl,rfl,⟨hB3,hb5,hh.3,hh.4,hh.5,by show(x.seen++ [x.addr]).length≤100000;omega,hh.7,hh.8,hh.9⟩,rfl⟩,sbE⟩
   |some s=>
    have hsl:=q94 hA;simp only[hA,ZI,Z3] at hsa ⊢
    repeat'((try(conv=>whnf));first|(refine q8U ?_ ?_;exact rfl)|(refine qk4 ?_ ?_;exact rfl)|(refine fD ?_)|(apply qgn;(exact rfl);omega)|(apply q0p (enc:=qx) (T:=3) x.addr hq;(exact rfl);(exact rfl);(omega);(exact rfl);(exact rfl);(omega);intro a5 c5 D5 hb5)|(refine q2X.mk ⟨qis,?_⟩)|((apply qe);first|((refine qd (hdn _ _ Y9) ?_))|((refine qd (hcf _ Y9) ?_))|((refine qB (D:=mh.O m) (hst _) (fun _ v hv=> ?_);(subst hv)))|((refine qB (D:=h'.sD) (hsa _) (fun y v hv=> ?_);(obtain⟨a3,c3,D3⟩:=y;obtain⟨rfl,hB3⟩:=hv;dsimp only at hB3)))|((refine q64 (b:=h'.b) (D:= [(ab,abP h'.b)]) (q4T (h:={h' with rd:=ptr r,ld:=3,us:=fnv 190 [ptr ab],na:=a5,nc:=c5,nD:=D5}) (c:=c) (t:=t) (x:={x with seen:=x.seen++ [x.addr]}) (k:=0) vl _) ?_ ?_ ?_ (fun _ v hv=> ?_);(solve|exact rfl|(unfold atP;simp only[z8];rfl));(exact rfl);(exact rfl);(subst hv))))|((apply qz);first|((refine qj (fun ex=>hcn _ Y9) ?_))|((refine qj (fun ex=>q3I W0 _ c x.addr) ?_))|((refine qj (fun ex=>hvl _ Y9) ?_)))|(refine ari ?_ ?_;omega)|(refine fA ?_)|(refine fL ?_)|(refine fQ ?_)|(refine fN ?_)|(refine fM ?_)|(refine qf (fun bk hbk=> ?_))|(refine q1c.mk ?_ ?_))
    all_goals exact⟨({h' with rd:=ptr r,ld:=3,us:=fnv 190 [ptr ab],na:=a5,nc:=c5,nD:=D5,sa:=a3,sc:=c3,sD:=D3},[]),⟨rfl,rfl,⟨hB3,hb5,hh.3,hh.4,by dsimp only;omega,by dsimp only;omega,hh.7,hh.8,hh.9⟩,rfl⟩,sbE⟩
end
open Go
def AP.en:AP→Nat
 | .ent n=>n
 |_=>3
def okO(m:MS)(i:Int):Prop:=∃o:Nat,i=o∧o<m.o.length∧okU (m.o.getD o 0)
def okD(m:MS)(i:Int):Prop:=∃o:Nat,i=o∧o<m.d.length
def okA(c:Cfg)(t:Nat)(m:MS)(x:AT):Prop:=
 match x.ph with
 | .idle=>False
 | .loc k=>x.oc= []∧(0≤c.words∧c.words≤1099511627776)∧∀a v,k= .wr a v→0≤a
 | .ent n=>(n=0∨n=1∨n=2)∧t<m.sl.length∧(0≤m.ck∧m.ck≤1099511627776)
 | .rd n b v=>okO m (qF c x.addr)∧okD m x.addr∧x.addr<c.words∧((n=0∧b=0∧v=0)∨(n=1∧v=0)∨n=2)∧x.set.length<100000∧x.seen.length<100000
 | .lk s ld=>x.old.length<x.oc.length∧okO m (x.oc.getD x.old.length 0)∧(ld=true→0≤s∧s+17≤18446744073709551615)∧t<16
 | .tn _=>True
 | .ck l=>l≠ []∧okO m (l.headD 0)
 | .dc=>0≤c.clock∧c.clock≤1099511627776
 | .wr a v=>a≠ []∧v≠ []∧okD m (a.headD 0)∧(x.dn=true∧x.sto=true)∧(0≤x.ck∧x.ck<1099511627776)
 | .rl o w=>o≠ []∧w≠ []∧okO m (o.headD 0)∧(0≤x.ck∧x.ck<1099511627776)
 | .sp=>True
 | .ps=>0≤x.tk∧x.tk≤1099511627776
 | .lv=>t<m.sl.length
theorem q0D{l:List Int}{i:Nat}(h:i<l.length):l[i]? =some (l.getD i 0):=by
 rw[zh,z6 h];rfl
theorem qlF{c:Cfg}{t:Int}{m:MS}{x:AT}{a v:List Int}(h:x.ph= .wr a v)(hl:a.tail≠ []):qh c t m x=({m with d:=m.d.set (a.headD 0).toNat (v.headD 0)},{x with ph:= .wr a.tail v.tail},acS 1 (a.headD 0) (m.d.getD (a.headD 0).toNat 0) (v.headD 0),17):=by unfold qh;simp only[h,hl,if_false]
theorem q8B(x:AT):x.rest.ph.en=3:=by unfold AT.rest;split <;>rfl
theorem qbE(c:Cfg)(x:AT)(k:Int):(x.endA c k).ph.en=3:=by unfold AT.endA;split <;>rfl
theorem qia(c:Cfg)(x:AT)(k:Ko)(h:x.ph.en=3):(x.kont c k).ph.en=3:=by
 cases k with
 |en cd=>exact qbE c x cd
 |tk v=>exact h
 |wr a v=>
  unfold AT.kont;dsimp only
  split
  ·exact qbE c x 7
  ·split
   ·exact h
   ·rfl
section
variable{W0:World}{own Q E:Own}{c:Cfg}{t:Nat}{h:AH}{x:AT}{k w:Int}{b e:Nat}{mh:MH}{m:MS}
theorem qa4{P:Program}{f:FuncId}{args:List Value}{own0 own1:Own}{K:Value→Own→Prop}(h:qt P W0 f args own0 K)(e:own0=own1):qt P W0 f args own1 K:=e ▸ h
abbrev StQ(W0:World)(c:Cfg)(t:Nat)(h:AH)(mh:MH)(m:MS)(x:AT)(Q:Own):Value→Own→Prop:=
 AtQ W0 c t h.b (qh c t m x).2.1 (qh c t m x).2.1.ph.en (mh.O (qh c t m x).1++Q) (.tuple #[(qh c t m x).2.2.1.v, .int .i64 (qh c t m x).2.2.2])
theorem q23{e':Nat}{x':AT}{m':MS}{r:AcM}{ph:Int}{f:FuncId}{args:List Value}{own0:Own}(hS:qt Tryz.prog W0 f args own0 (AtQ W0 c t h.b x' e' (mh.O m'++Q) (.tuple #[r.v, .int .i64 ph])))(hs:qh c t m x=(m',x',r,ph))(he:x'.ph.en=e'):qt Tryz.prog W0 f args own0 (StQ W0 c t h mh m x Q):=by
 unfold StQ;rw[hs];dsimp only;rw[he];exact hS
theorem q2x(hh:h.ok c x)(hM:mh.ok m.L)(hP:PhO W0 c t h x E)(hA:okA c t m x)(Q:Own):
  qt Tryz.prog W0 120 [ptr h.b,ptr mh.mb] (h.O c t x x.ph.no x.ph.en (E++(mh.O m++Q))) (StQ W0 c t h mh m x Q):=by
 obtain⟨st,code,rv,set,ad,vl,seen,addr,val,oc,old,ck,dn,tk,ph⟩:=x;cases ph with
 |idle=>exact hA.elim
 |loc kk=>
  obtain⟨h1,h2,h3⟩:=hA;exact q23 (qj0 (mb:=mh.mb) hh h1 h2 hP h3 (mh.O m++Q)) rfl (qia c _ _ rfl)
 |ent n=>
  obtain⟨h1,h2,h3⟩:=hA;obtain rfl:E= []:=hP
  rcases h1 with rfl|rfl|rfl
  ·exact q23 (qjl (E:= []) (fun Q=>qfK hh hM (q0D h2) Q) Q) rfl rfl
  ·exact q23 (qjl (E:= []) (fun Q=>qfL hh hM h3 Q) Q) rfl rfl
  ·exact q23 (qjl (E:= []) (fun Q=>qfM hh hM (q0D h2) Q) Q) rfl rfl
 |rd n bf vl=>
  obtain⟨⟨o,h1,h2,h3⟩,⟨j,h4,h5⟩,h6,h7,h8,h9⟩:=hA;obtain⟨hld,r,ab,hr,hus,rfl⟩:=hP;dsimp only at h1 h4 h6 h7 h8 h9 hld;subst h4;show qt _ _ _ _ (h.O c t _ 3 3 ([(r,rdP j (qF c j) rv n bf vl false),(ab,abP h.b)]++(mh.O m++Q))) _;rw[h1]
  rcases h7 with ⟨rfl,rfl,rfl⟩|⟨rfl,rfl⟩|rfl
  ·refine q23 (qjm (fun Q=>qj1 hh hM hr hld hus h1 (q0D h2) h3 Q) Q) (by rw[qjr rfl];dsimp only;rw[h1];rfl) ?_
   split <;>rfl
  ·exact q23 (qjm (fun Q=>qj2 hh hM hr hld hus h1 rfl (q0D h5) Q) Q) rfl rfl
  ·refine q23 (qjm (fun Q=>qj3 hh hM hr hld hus (q0D h2) h6 h8 h9 Q) Q) (by rw[qjs rfl];dsimp only;rw[h1];rfl) ?_
   split
   ·rfl
   ·split <;>rfl
 |lk s ld=>
  obtain⟨h1,⟨o,h2,h3,h4⟩,h5,h6⟩:=hA;have ho:=q0D h1;dsimp only at h2 ho;rw[h2] at ho;cases ld with
  |false=>exact q23 (qlC (fun Q=>qiY hh hM hP ho (q0D h3) h4 Q) Q) (by rw[q5R rfl,if_pos rfl];dsimp only;rw[h2];rfl) rfl
  |true=>
   refine q23 (qlC (fun Q=>qiZ hh hM hP ho (q0D h3) (h5 rfl) h6 Q) Q) ?_ ?_
   ·have h7:=h5 rfl;rw[q5R rfl,if_neg Y7];dsimp only;rw[h2,show qM (s+(t:Int)+1)=s+t+1 from q4j Y6 Y6,zB]
    by_cases hw:m.o.getD o 0=s
    ·simp only[if_pos hw,decide_eq_true hw]
    ·simp only[if_neg hw,decide_eq_false hw]
   ·split
    ·dsimp only;split <;>rfl
    ·rfl
 |tn b=>
  obtain⟨E1,E2,hE,hE2,rfl⟩:=hP;cases b with
  |false=>exact q23 (qlD (fun Q=>qj4 hh hM hE hE2 Q) Q) rfl rfl
  |true=>
   refine q23 (qlD (fun Q=>qj5 hh hM hE hE2 Q) Q) (by rw[q6D rfl]) ?_
   split
   ·split <;>rfl
   ·rfl
 |ck l=>
  obtain⟨h1,⟨o,h2,h3,h4⟩⟩:=hA;obtain⟨E1,E2,cb,ca,cc,cD,hE,hE2,hck,⟨hL,hcc⟩,rfl⟩:=hP;cases l with
  |nil=>exact absurd rfl h1
  |cons y l=>
   obtain rfl:y=(o:Int):=h2;refine q23 (e':=3) (qn4 (fun Q=> ?_) Q) (by rw[qdD rfl]) ?_
   ·exact qa4 (qlv hh hM hE hE2 hck hL hcc (q0D h3) h4 Q) (by simp only[zd,zl,zG];rfl)
   ·split
    ·exact q8B _
    ·split <;>rfl
 |dc=>
  obtain⟨E1,E2,hE,hE2,rfl⟩:=hP;refine q23 (qn5 (fun Q=>qlw hh hM hE hE2 hA Q) Q) (by rw[q50 rfl]) ?_
  split
  ·exact q8B _
  ·split
   ·rfl
   ·exact q8B _
 |wr a v=>
  obtain⟨h1,h2,⟨o,h3,h4⟩,h5,h6⟩:=hA;obtain⟨E1,wb,wa,wc,wD,va,vc,vD,hE,hwr,⟨hL,hc1⟩,⟨hL2,hc2⟩,rfl⟩:=hP;cases a with
  |nil=>exact absurd rfl h1
  |cons y l=>
   obtain rfl:y=(o:Int):=h3;cases v with
   |nil=>exact absurd rfl h2
   |cons v0 l2=>
    by_cases hl:l= []
    ·subst hl;refine q23 (qlE (fun Q=> ?_) Q) rfl rfl;exact qa4 (qj7 (wc:=wc) (vc:=vc) hh hM hE hwr hL hL2 (q0D h4) h5 h6 Q) (by simp only[zd,zl,zG,zM];rfl)
    ·refine q23 (qlE (fun Q=> ?_) Q) (m':={m with d:=m.d.set o v0}) (x':=⟨st,code,rv,set,ad,vl,seen,addr,val,oc,old,ck,dn,tk, .wr l l2⟩) (r:=acS 1 o (m.d.getD o 0) v0) (ph:=17) (by rw[qlF (a:=(o:Int)::l) (v:=v0::l2) rfl hl];rfl) rfl;exact qa4 (qj6 hh hM hE hwr hL hL2 hc1 hc2 (q0D h4) hl Q) (by simp only[zd,zl,zG];rfl)
 |rl a v=>
  obtain⟨h1,h2,⟨o,h3,h4,h5⟩,h6⟩:=hA;obtain⟨E1,wb,wa,wc,wD,va,vc,vD,hE,hwr,⟨hL,hc1⟩,⟨hL2,hc2⟩,rfl⟩:=hP;cases a with
  |nil=>exact absurd rfl h1
  |cons y l=>
   obtain rfl:y=(o:Int):=h3;cases v with
   |nil=>exact absurd rfl h2
   |cons v0 l2=>
    refine q23 (e':=3) (qlB (fun Q=> ?_) Q) rfl ?_
    ·exact qa4 (qlz hh hM hE hwr hL hL2 hc1 hc2 (q0D h4) ⟨h6.1,Int.le_of_lt h6.2⟩ Q) (by simp only[zd,zl,zG];rfl)
    ·split
     ·dsimp only;split <;>rfl
     ·rfl
 |sp=>exact q23 (qlA hh hM hP Q) rfl rfl
 |ps=>exact q23 (qly hh hM hP hA Q) rfl rfl
 |lv=>
  obtain rfl:E= []:=hP;exact q23 (qlx hh hM (q0D hA) Q) rfl rfl
end
open Go
structure LB where
 l:Nat
 fp:Value
structure TH where
 b:Nat
 ap:Value
 lb:LB
 ca:Option Addr
 cc:Nat
 sa:Option Addr
 sc:Nat
 sD:Own
 oa:Option Addr
 oc:Nat
 oD:Own
abbrev thP(c:Cfg)(t n:Nat)(p:List Ins)(h:TH)(x:GT):Obj→Prop:=fun z=>z=Obj.cells #[h.ap, .int .i64 x.bg,uv x.sv.r0,uv x.sv.r1,uv x.sv.r2,uv x.sv.r3,uv x.sv.r4,uv x.sv.r5,uv x.sv.r6,uv x.sv.r7, .int .i64 x.tr, .slice h.sa x.seen.length h.sc, .bool false, .int .i64 0,h.lb.fp, .pointer none,
 .int .i64 c.words, .int .i64 c.orecs, .int .i64 c.base, .int .i64 c.c0, .int .i64 c.c1, .int .i64 c.c2, .int .i64 c.c3, .int .i64 c.reads, .int .i64 c.writes, .int .i64 c.allocs, .int .i64 c.frees, .int .i64 c.clock, .bool c.strong,
 .int .i64 t, .int .i64 n, .slice h.ca p.length h.cc, .int .i64 x.th.pc,uv x.th.rg.r0,uv x.th.rg.r1,uv x.th.rg.r2,uv x.th.rg.r3,uv x.th.rg.r4,uv x.th.rg.r5,uv x.th.rg.r6,uv x.th.rg.r7, .int .i64 x.th.oc, .bool x.th.dn,ptr h.lb.l, .slice h.oa x.obs.length h.oc, .int .i64 x.ct] 171 (0,0)
structure TH.ok(h:TH)(x:GT):Prop where
 hs:qu ObM.enc 78 3 h.sa h.sc x.seen h.sD
 ho:qu ObM.enc 78 3 h.oa h.oc x.obs h.oD
structure qbb(i:Ins):Prop where
 op:0≤i.op∧i.op<18
 a:qlX i.op=true→0≤i.a∧i.a<8
 b:qlY i.op=true→0≤i.b∧i.b<8
 c:qlZ i.op=true→0≤i.c∧i.c<8
 im:i.op=4∨i.op=5∨i.op=6→0≤i.imm∧i.imm≤64
theorem qkV{i:Ins}(h:qS i=0):qbb i:=by
 obtain⟨h0,h1,h2,h3,h4,_⟩:=q0T h;exact⟨h0,h1,h2,h3,h4⟩
section
variable{W0:World}{own Q:Own}{c:Cfg}{t n:Nat}{p:List Ins}{h:TH}{x:GT}{k:Int}{b e:Nat}
theorem qlR{i:Nat}(hi:i<8):(#[h.ap, .int .i64 x.bg,uv x.sv.r0,uv x.sv.r1,uv x.sv.r2,uv x.sv.r3,uv x.sv.r4,uv x.sv.r5,uv x.sv.r6,uv x.sv.r7, .int .i64 x.tr, .slice h.sa x.seen.length h.sc, .bool false, .int .i64 0,h.lb.fp, .pointer none,
 .int .i64 c.words, .int .i64 c.orecs, .int .i64 c.base, .int .i64 c.c0, .int .i64 c.c1, .int .i64 c.c2, .int .i64 c.c3, .int .i64 c.reads, .int .i64 c.writes, .int .i64 c.allocs, .int .i64 c.frees, .int .i64 c.clock, .bool c.strong,
 .int .i64 t, .int .i64 n, .slice h.ca p.length h.cc, .int .i64 x.th.pc,uv x.th.rg.r0,uv x.th.rg.r1,uv x.th.rg.r2,uv x.th.rg.r3,uv x.th.rg.r4,uv x.th.rg.r5,uv x.th.rg.r6,uv x.th.rg.r7, .int .i64 x.th.oc, .bool x.th.dn,ptr h.lb.l, .slice h.oa x.obs.length h.oc, .int .i64 x.ct]:Array Value).toList[33+i]? =some (uv (x.th.rg.get i)):=by
 rcases lt8 hi with rfl|rfl|rfl|rfl|rfl|rfl|rfl|rfl <;>rfl
theorem q8o{off i:Nat}{K:Value→Prop} [m:qy b (thP c t n p h x) own](hi:i<8)(ho:off=33+i)(hk:K (uv (x.th.rg.get i))):Ld W0 own ⟨b,off,none⟩ K:=by
 subst ho;exact q0b _ m.h (qlR hi) hk
theorem q8S{off i:Nat}{v:Int}{K:Own→Prop}{C:(Obj→Prop)→Own} [m:UpC b (thP c t n p h x) own C](hi:i<8)(ho:off=33+i)(hk:K (C (thP c t n p h {x with th:={x.th with rg:=x.th.rg.set i v}}))):StT W0 own ⟨b,off,none⟩ (uv v) K:=by
 subst ho;refine qjO (by rcases lt8 hi with rfl|rfl|rfl|rfl|rfl|rfl|rfl|rfl <;>rfl) rfl ?_
 rcases lt8 hi with rfl|rfl|rfl|rfl|rfl|rfl|rfl|rfl <;>exact hk
theorem q4V{j:Int}(i:Nat)(hj:j=i)(Q:Own):qt Tryz.prog W0 80 [ptr h.b, .int .i64 j] ((h.b,thP c t n p h x)::Q) fun v own'=>∃_:Unit,v= .tuple #[]∧Ent W0 own' ((h.b,thP c t n p h (x.to p.length i))::Q):=by
 subst hj;refine qD (sH [] ?_);unfold GT.to;rw[show decide (i=p.length)=decide ((i:Int)=(p.length:Int)) from decide_eq_decide.2 Y6]
 repeat'((try(conv=>whnf));first|(refine fA ?_)|(refine fN ?_))
 all_goals exact⟨rfl,sbE⟩
theorem q22(hp:x.th.pc≤1000000)(Q:Own):qt Tryz.prog W0 119 [ptr h.b] ((h.b,thP c t n p h x)::Q) fun v own'=>∃_:Unit,v= .tuple #[]∧Ent W0 own' ((h.b,thP c t n p h (x.to p.length (x.th.pc+1)))::Q):=by
 refine qD (sH [] ?_)
 repeat'((try(conv=>whnf));first|((apply qe);first|((refine qG (q4V (c:=c) (t:=t) (n:=n) (p:=p) (h:=h) (x:=x) (x.th.pc+1) rfl _) (fun _ v hv=> ?_);(subst hv))))|(refine fB ?_)|(refine fA ?_))
 all_goals exact⟨rfl,sbE⟩
theorem qa6{r imm:Int} [m:qy b (thP c t n p h x) own](hr:0≤r∧r<8):qE Tryz.prog W0 194 [ptr b, .int .i64 r, .int .i64 imm] own (uv (adr x.th.rg r imm)):=by
 refine qg (sH [] ?_);have hr':r.toNat<8:=Y6
 repeat'((try(conv=>whnf));first|(refine q8o (c:=c) (t:=t) (n:=n) (p:=p) (h:=h) (x:=x) hr' ?_ ?_;omega)|(refine arw (k:= .u64) ?_)|(refine fP ?_))
 all_goals exact⟨rfl,(eC)⟩
theorem q7E{i:Ins}(hx:qbb i)(hr:x.th.rg.ok)(hp:x.th.pc≤1000)(Q:Own):qt Tryz.prog W0 131 [ptr h.b,i.v] ((h.b,thP c t n p h x)::Q) fun v own'=>
  ∃_:Unit,v= .tuple #[]∧Ent W0 own' ((h.b,thP c t n p h {x with th:={q1q x.th i with dn:=decide ((q1q x.th i).pc=p.length)}})::Q):=by
 refine qD (sH [3,5,7,9,11,13,15,17,20,0,3,5,7,9,11,13,15,17,19,21,23,26,0,3,5,7,9,11,13,15,17,19,21,23,25,27,29,31,33,35,37,39,41,43,45,47,50,0,3,5,7,9,11,13,15,17,19,21,23,26,0,3,5,7,9,11,13,15,0,3,5,7,9,11,13,15,0] ?_);have hto:=fun(j:Int) (hj:j=(q1o x.th i:Nat)) Q=>q4V (W0:=W0) (c:=c) (t:=t) (n:=n) (p:=p) (h:=h) (x:={x with th:={x.th with rg:=q3S x.th i}}) (q1o x.th i) hj Q
 obtain⟨h0,hA,hB,hC,hI⟩:=hx;obtain⟨op,a,b',cc,imm⟩:=i;dsimp only[Ins.v] at*
 by_cases h1:op=1
 ·subst h1;have ha:=hA rfl;have ha':a.toNat<8:=Y6;clear hA hB hC hI
  repeat'((try(conv=>whnf));first|(refine fE ?_)|(refine arw (k:= .u64) ?_)|(refine q8S (c:=c) (t:=t) (n:=n) (p:=p) (h:=h) (x:=x) ha' ?_ ?_;omega)|((apply qe);first|((refine qG (hto _ rfl _) (fun _ v hv=> ?_);(subst hv))))|(refine fB ?_)|(refine fP ?_)|(refine fA ?_)|(refine qf (fun bk hbk=> ?_)))
  all_goals exact⟨rfl,sbE⟩
 by_cases h2:op=2
 ·subst h2;have ha:=hA rfl;have ha':a.toNat<8:=Y6;have hb:=hB rfl;have hb':b'.toNat<8:=Y6;clear hA hB hC hI
  repeat'((try(conv=>whnf));first|(refine fE ?_)|(refine fD ?_)|(refine q8o (c:=c) (t:=t) (n:=n) (p:=p) (h:=h) (x:=x) hb' ?_ ?_;omega)|(refine q8S (c:=c) (t:=t) (n:=n) (p:=p) (h:=h) (x:=x) ha' ?_ ?_;omega)|((apply qe);first|((refine qG (hto _ rfl _) (fun _ v hv=> ?_);(subst hv))))|(refine fB ?_)|(refine fP ?_)|(refine fA ?_)|(refine qf (fun bk hbk=> ?_)))
  all_goals exact⟨rfl,sbE⟩
 by_cases h3:op=3
 ·subst h3;have ha:=hA rfl;have ha':a.toNat<8:=Y6;have hb:=hB rfl;have hb':b'.toNat<8:=Y6;have h3c:=hC rfl;have hc':cc.toNat<8:=Y6;clear hA hB hC hI;have hap:=fun own=>Alu.sp_apply W0 own imm (x.th.rg.get b'.toNat) (x.th.rg.get cc.toNat) (hr _)
  repeat'((try(conv=>whnf));first|(refine fE ?_)|(refine fD ?_)|(refine q8o (c:=c) (t:=t) (n:=n) (p:=p) (h:=h) (x:=x) hb' ?_ ?_;omega)|(refine q8o (c:=c) (t:=t) (n:=n) (p:=p) (h:=h) (x:=x) hc' ?_ ?_;omega)|(refine q8S (c:=c) (t:=t) (n:=n) (p:=p) (h:=h) (x:=x) ha' ?_ ?_;omega)|((apply qe);first|((refine qG (hto _ rfl _) (fun _ v hv=> ?_);(subst hv))))|((apply qz);first|((refine q0A (fun _=>hap _) ?_)))|(refine fB ?_)|(refine fO ?_)|(refine fP ?_)|(refine fA ?_)|(refine qf (fun bk hbk=> ?_)))
  all_goals exact⟨rfl,sbE⟩
 by_cases h17:op=17
 ·subst h17;have ha:=hA rfl;have ha':a.toNat<8:=Y6;clear hA hB hC hI
  repeat'((try(conv=>whnf));first|(refine fE ?_)|(refine fD ?_)|(refine arw (k:= .u64) ?_)|(refine q8S (c:=c) (t:=t) (n:=n) (p:=p) (h:=h) (x:=x) ha' ?_ ?_;omega)|((apply qe);first|((refine qG (hto _ rfl _) (fun _ v hv=> ?_);(subst hv))))|(refine fB ?_)|(refine fP ?_)|(refine fA ?_)|(refine qf (fun bk hbk=> ?_)))
  all_goals exact⟨rfl,sbE⟩
 have hR:q3S x.th ⟨op,a,b',cc,imm⟩=x.th.rg:=by unfold q3S;rw[if_neg h1,if_neg h2,if_neg h3,if_neg h17]
 unfold q1q;rw[hR] at hto ⊢
 by_cases h4:op=4
 ·subst h4;have hi:=hI (.inl rfl);clear hA hB hC hI;have hj:(x.th.pc:Int)+1+imm=(q1o x.th ⟨4,a,b',cc,imm⟩:Nat):=by simp only[q1o];simp;omega
  repeat'((try(conv=>whnf));first|(refine fE ?_)|(refine fD ?_)|((apply qe);first|((refine qG (hto _ hj _) (fun _ v hv=> ?_);(subst hv))))|(refine fB ?_)|(refine fA ?_)|(refine qf (fun bk hbk=> ?_)))
  all_goals exact⟨rfl,sbE⟩
 by_cases h56:op=5∨op=6
 ·have hi:=hI (.inr h56);have ha:0≤a∧a<8:=hA (by rcases h56 with rfl|rfl <;>rfl);have ha':a.toNat<8:=Y6;clear hA hB hC hI;have hP:q1o x.th ⟨op,a,b',cc,imm⟩=if(op=5∧x.th.rg.get a.toNat=0)∨(op=6∧x.th.rg.get a.toNat≠0) then x.th.pc+1+imm.toNat else x.th.pc+1:=by unfold q1o;simp[h4]
  by_cases hz:x.th.rg.get a.toNat=0
  all_goals
   rcases h56 with rfl|rfl
   all_goals
    first
    |have hto1:=hto ((x.th.pc:Int)+1+imm) (by rw[hP];simp[hz];omega)
    |have hto1:=hto ((x.th.pc:Int)+1) (by rw[hP];simp[hz])
    repeat'((try(conv=>whnf));first|(refine fE ?_)|(refine fD ?_)|(refine fF ?_)|(refine fG ?_)|(refine q8o (c:=c) (t:=t) (n:=n) (p:=p) (h:=h) (x:=x) ha' ?_ ?_;omega)|((apply qe);first|((refine qG (hto1 _) (fun _ v hv=> ?_);(subst hv))))|(refine fB ?_)|(refine fP ?_)|(refine fA ?_)|(refine qf (fun bk hbk=> ?_)))
    all_goals exact⟨rfl,sbE⟩
 ·clear hA hB hC hI;have hP:q1o x.th ⟨op,a,b',cc,imm⟩=x.th.pc+1:=by unfold q1o;rw[if_neg (by simp only;omega)]
  have hj:(x.th.pc:Int)+1=(q1o x.th ⟨op,a,b',cc,imm⟩:Nat):=by rw[hP];rfl
  repeat'((try(conv=>whnf));first|(refine fG ?_)|((apply qe);first|((refine qG (hto _ hj _) (fun _ v hv=> ?_);(subst hv))))|(refine fB ?_)|(refine fA ?_)|(refine qf (fun bk hbk=> ?_)))
  all_goals exact⟨rfl,sbE⟩
end
open Go
section
variable{W0:World}{own Q:Own}{t:Nat}{k w:Int}{b gb e:Nat}
theorem q7o{na aa:Option Addr}{nc ca:Nat}{seen ad:List Int}(h1:Cl W0 own b 1 (ptr gb))(h15:Cl W0 own b 15 (.int .i64 w))(h2:Cl W0 own b 2 (.slice na seen.length nc))(g1:Cl W0 own gb 1 (.slice aa ad.length ca))(hA:RdE qx 1 W0 own aa ad)(hN:RdE qx 1 W0 own na seen)(hl:ad.length≤1000000)(hl2:seen.length≤1000000):
  qt Tryz.prog W0 121 [ptr b] own fun v own'=>∃s:(Option Addr×Nat×Own)×(Option Addr×Nat×Own),(v= .tuple #[.slice s.1.1 seen.length s.1.2.1, .slice s.2.1 (ad.filter fun x=>decide (x<w)).length s.2.2.1]∧
   qu qx 3 1 s.1.1 s.1.2.1 seen s.1.2.2∧qu qx 3 1 s.2.1 s.2.2.1 (ad.filter fun x=>decide (x<w)) s.2.2.2)∧Ent W0 own' (s.1.2.2++(s.2.2.2++own)):=by
 refine sH [] ?_;have hAd:=q3H g1 hA hl
 repeat'((try(conv=>whnf));first|(refine q0d h1 ?_)|((apply qe);first|((refine qi hAd (fun y v hv=> ?_);(obtain⟨a1,c1,D1⟩:=y;obtain⟨rfl,hB1⟩:=hv;dsimp only at hB1)))))
 have hR:RdE qx 1 W0 D1 a1 ad:=hB1.rd (W0:=W0);refine qX (σ:=Nat×Option Addr×Nat×Own) (fun s=> [(13, .int .i64 s.1),(3, .slice s.2.1 ((ad.take s.1).filter fun x=>decide (x<w)).length s.2.2.1)]) (fun s=>s.2.2.2++(D1++own)) (fun s=>s.1≤ad.length∧qu qx 3 1 s.2.1 s.2.2.1 ((ad.take s.1).filter fun x=>decide (x<w)) s.2.2.2) (fun s=>ad.length-s.1) (0,none,0,[]) ⟨Y8,qu.nil⟩ (eF) sbE rfl ?_;rintro⟨i,qa,qc,Dq⟩ junk ⟨hi,hq⟩;dsimp only at hi hq ⊢;have htl:((ad.take i).filter fun x=>decide (x<w)).length≤1000000:=by have:=yI (fun x=>decide (x<w)) (ad.take i);rw[zU] at this;omega
 have h15':∀D:Own,Cl W0 (D++(D1++own)) b 15 (.int .i64 w):=fun D=>h15.ent (Ent.right.trans Ent.right)
 by_cases hlt:i<ad.length
 ·obtain⟨y,hy⟩:∃y,ad[i]? =some y:=⟨_,z6 hlt⟩
  have hlt':(i:Int)<ad.length:=Y6;have htk:(ad.take (i+1)).filter (fun x=>decide (x<w))=((ad.take i).filter fun x=>decide (x<w))++if y<w then [y] else []:=by
   rw[zZ,hy,yv]
   by_cases hyw:y<w
   ·rw[if_pos hyw];simp[hyw]
   ·rw[if_neg hyw];simp[hyw]
  by_cases hyw:y<w
  ·rw[if_pos hyw] at htk
   repeat'((try(conv=>whnf));first|(refine fF ?_)|(refine q0d (h15' Dq) ?_)|(refine qf (fun bk hbk=> ?_))|(apply q0p (enc:=qx) (T:=3) y hq;(exact rfl);(exact rfl);(omega);(exact rfl);(exact rfl);(omega);intro a3 c3 D3 hb3)|((apply gLd);first|(refine q0r hR hy rfl ?_))|((apply qJ);first|((refine ixE hR hy ?_ ?_;(first|rfl|omega))))|(refine fB ?_))
   refine⟨(i+1,a3,c3,D3),⟨hlt,by dsimp only;rw[htk];exact hb3⟩,by simp only;omega,?_,sbE⟩;dsimp only;rw[htk,z8];exact(eF)
  ·rw[if_neg hyw,zC] at htk
   repeat'((try(conv=>whnf));first|(refine fF ?_)|(refine fG ?_)|(refine q0d (h15' Dq) ?_)|((apply gLd);first|(refine q0r hR hy rfl ?_))|((apply qJ);first|((refine ixE hR hy ?_ ?_;(first|rfl|omega))))|(refine fB ?_))
   refine⟨(i+1,qa,qc,Dq),⟨hlt,by dsimp only;rw[htk];exact hq⟩,by simp only;omega,?_,sbE⟩;dsimp only;rw[htk];exact(eF)
 ·obtain rfl:i=ad.length:=Y6;rw[Z4] at hq ⊢;have hlt':¬(ad.length:Int)<ad.length:=Y6;have h2':∀D:Own,Cl W0 (D++(D1++own)) b 2 (.slice na seen.length nc):=fun D=>h2.ent (Ent.right.trans Ent.right)
  have hcl:=fun(own':Own) (m:qv own' own)=>qI (W0:=W0) (own:=own') (cap:=nc) (hN.up) Y6
  repeat'((try(conv=>whnf));first|(refine fG ?_)|(refine q0d (h2' Dq) ?_)|((apply qe);first|((refine qi (hcl _ Y9) (fun y v hv=> ?_);(obtain⟨a2,c2,D2⟩:=y;obtain⟨rfl,hB2⟩:=hv;dsimp only at hB2)))))
  exact⟨((a2,c2,D2),(qa,qc,Dq)),⟨rfl,hB2,hq⟩,sbE⟩
theorem qcL(h4:Cl W0 own b 4 (.slice none 0 0)):qt Tryz.prog W0 262 [ptr b] own fun v own'=>∃s:Option Addr×Nat,v= .slice s.1 0 s.2∧Ent W0 own' own:=by
 refine sH [] ?_;have hcl:=qI (W0:=W0) (own:=own) (a:=none) (l:= []) (cap:=0) RdE.nil Y7
 repeat'((try(conv=>whnf));first|(refine q0d h4 ?_)|((apply qe);first|((refine qi hcl (fun y v hv=> ?_);(obtain⟨a2,c2,D2⟩:=y;obtain⟨rfl,hB2⟩:=hv;dsimp only at hB2)))))
 exact⟨(a2,c2),rfl,sbE⟩
end
open Go
abbrev a0T:AT:={AT.new with st:=1,ph:= .ent 0}
section
variable{W0:World}{own Q:Own}{c:Cfg}{t n:Nat}{p:List Ins}{h:TH}{x:GT}{k:Int}{b e:Nat}
theorem qds(hr:0≤c.reads∧c.reads≤32)(hw:1≤c.writes∧c.writes≤32)(hct:x.ct≤1000000)(Q:Own):qt Tryz.prog W0 127 [ptr h.b] ((h.b,thP c t n p h x)::Q) fun v own'=>
  ∃ah:AH,(v= .tuple #[]∧ah.ok c a0T)∧Ent W0 own' ((h.b,thP c t n p {h with ap:=ptr ah.b,sa:=none,sc:=0,sD:= []} {x with seen:= [],ct:=x.ct+1})::ah.O c t a0T 2 0 Q):=by
 refine sH [3,5,7,9,11,13,15,17,19,21,24,25,27,29,32,33,35,37,40,0] ?_;have hn:=fun Q=>qiK (W0:=W0) c hr hw t Q
 have hb:=fun(b sb:Nat) (g:LH) (hg:g.ok c.writes [] []) (Q:Own)=>qcJ (W0:=W0) (t:=t) (b:=b) (sb:=sb) hg hw.2 Q
 repeat'((try(conv=>whnf));first|((apply qe);first|((refine qi (hn _) (fun y v hv=> ?_);(obtain⟨ab,sb,g⟩:=y;obtain⟨rfl,hg⟩:=hv;dsimp only at hg)))|((refine qo (b:=ab) (D:=(sb,stP c.reads none 0 0)::g.O c.writes [] [] []) (hb ab sb g hg) (fun Q=>by simp only[zl,zd,zi];exact sbE) (fun y v hv=> ?_);(obtain⟨rfl,hyb,hah⟩:=hv;subst hyb))))|(refine fB ?_)|(refine fA ?_)|(refine fQ ?_)|(refine fN ?_))
 all_goals exact⟨y,⟨rfl,hah⟩,sbE⟩
theorem qjc{a:AT}{ah:AH}{kd r:Int}(hr:0≤r∧r<8)(hh:h.ok x)(hl:x.seen.length≤100000)(hap:h.ap=ptr ah.b)(Q:Own):qt Tryz.prog W0 183 [ptr h.b, .int .i64 r, .int .i64 1] ((h.b,thP c t n p h x)::(ah.b,atP c t ah a kd)::(h.sD++Q)) fun v own'=>
  ∃y:Option Addr×Nat×Own,(v= .tuple #[]∧qu ObM.enc 78 3 y.1 y.2.1 (x.seen++ [⟨x.th.pc,1,a.val⟩]) y.2.2)∧
   Ent W0 own' ((h.b,thP c t n p {h with sa:=y.1,sc:=y.2.1,sD:=y.2.2} {x with th:={x.th with rg:=x.th.rg.set r.toNat a.val},seen:=x.seen++ [⟨x.th.pc,1,a.val⟩]})::(ah.b,atP c t ah a kd)::(y.2.2++Q)):=by
 refine sH [3,5,7,9,11,13,15,17,19,21,23,25,27,29,32,34,35,37,39,42,0] ?_;obtain⟨hb,ap,lb,ca,cc,sa,sc,sD,oa,oc,oD⟩:=h;dsimp only at hap ⊢;subst hap;have hq:=hh.hs;dsimp only at hq;have hv:=fun(own':Own) (m1:qy ah.b (atP c t ah a kd) own')=>qcN (W0:=W0) (qk m1 rfl)
 have hr':r.toNat<8:=Y6
 repeat'((try(conv=>whnf));first|(refine q8S (c:=c) (t:=t) (n:=n) (p:=p) (h:=⟨hb,ptr ah.b,lb,ca,cc,sa,sc,sD,oa,oc,oD⟩) (x:=x) hr' ?_ ?_;omega)|(refine qf (fun bk hbk=> ?_))|(apply q0p (enc:=ObM.enc) (T:=78) (⟨x.th.pc,1,a.val⟩:ObM) hq;(exact rfl);(exact rfl);(omega);(exact rfl);(exact rfl);(omega);intro a5 c5 D5 hb5)|((apply qe);first|((refine qd (hv _ Y9) ?_)))|(refine fP ?_)|(refine fA ?_)|(refine fN ?_))
 all_goals exact⟨(a5,c5,D5),⟨rfl,hb5⟩,by unfold thP;simp only[z8];exact sbE⟩
end
open Go
theorem qbk{α:Type}{W0:World}{own:Own}{enc:α→List Value}{sz:Nat}{a:Option Addr}{l:List α}{T T2:TypeId}{bytes cap bt k:Nat}{zs:List Value}{D:Own}{C:Own→Own}{ys:Array Value}{fz:Nat×Nat}{K:Value→Own→Prop}(x:α)(hB:qu enc T sz a cap l D)(hn:k=l.length) [m:AtC D own C] [m2:qy bt (fun o=>o=Obj.cells ys T2 fz) own](hy:ys.toList=enc x)
  (hz:zs.length=sz) (hs:0<sz) (hw:(enc x).length=sz) (h1:(enc x).all q2D=true) (hb:(k+1)*bytes≤140737488355328)
  (hk:∀a' cap' D',qu enc T sz a' cap' (l++ [x]) D'→K (.slice a' (k+1) cap') (C D')):qb9 W0 own T sz bytes zs a k cap (some ⟨bt,0,none⟩) 1 K:=by
 subst hn;exact q0p x hB hy hz hs hw h1 hb hk
section
variable{W0:World}{own Q:Own}{c:Cfg}{t n:Nat}{p:List Ins}{h:TH}{x:GT}{k:Int}{b e:Nat}
theorem qjb{a:AT}{ah:AH}{kd:Int}{bi:Ins}{cD:Own}(hF:qC W0)(hh:h.ok x)(hl:x.seen.length≤100000)(hl2:x.obs.length≤100000)(hap:h.ap=ptr ah.b)(hC:RdE Ins.enc 5 W0 cD h.ca p)(hp:p.length≤100000)(hbi:p[x.bg]? =some bi)(hop:bi.op=7)(hck:(qw p).2=0)(hend:q0t p x.bg≤100000)(hcode:0≤a.code∧a.code≤100)(Q:Own) [eq:qv Q cD]:
  qt Tryz.prog W0 182 [ptr h.b] ((h.b,thP c t n p h x)::(ah.b,atP c t ah a kd)::(h.sD++(h.oD++Q))) fun v own'=>
  ∃h':TH,(v= .tuple #[]∧h'.b=h.b∧h'.ap= .pointer none∧h'.ca=h.ca∧h'.lb=h.lb∧h'.ok (x.endG p a))∧Ent W0 own' ((h'.b,thP c t n p h' (x.endG p a))::(h'.sD++(h'.oD++Q))):=by
 refine sH [3,5,7,9,11,13,15,17,19,21,23,25,27,0,3,5,7,9,11,13,15,17,19,21,24,25,27,30,0,3,5,7,9,11,13,15,18,0,3,5,7,9,11,13,15,17,19,21,23,25,27,29,31,33,35,37,0,3,5,7,9,11,13,15,17,19,21,23,25,27,30,32,33,35,38,0,3,5,7,9,11,13,15,17,19,21,23,25,28,0] ?_;obtain⟨hb,ap,lb,ca,cc,sa,sc,sD,oa,oc,oD⟩:=h;obtain⟨hhs,hho⟩:=hh;dsimp only at hap hC hhs hho ⊢;subst hap;have hcd:=fun(own':Own) (m1:qy ah.b (atP c t ah a kd) own')=>q6y (W0:=W0) (k:=a.code) (qk m1 rfl)
 have hfr:=fun(own':Own) (m1:qy ah.b (atP c t ah a kd) own')=>qcL (W0:=W0) (own:=own') (b:=ah.b) (qk m1 rfl)
 have hcm:=fun(own':Own) (m:qv own' cD)=>q7q (W0:=W0) (own:=own') (cap:=cc) hF (hC.up) Y6 (x.bg:Int)
 rw[q3y hbi,if_pos ⟨hck,hop⟩] at hcm;have hsR:=hhs.rd (W0:=W0);have hlen:(x.obs++x.seen).length=x.obs.length+x.seen.length:=z8;have h19:a.code=1∨a.code=9∨(a.code≠1∧a.code≠9):=Y6
 rcases h19 with hc1|hc9|⟨hn1,hn9⟩
 ·rw[qhK hc1];rw[hc1] at hcd
  repeat'((try(conv=>whnf));first|(refine fE ?_)|(refine fD ?_)|(refine qht hho hsR rfl rfl Y6 (fun _ _=>rfl) (fun _=>by omega) (fun a2 c2 D2 hb2=> ?_))|(refine qf (fun bk hbk=> ?_))|(apply qbk (enc:=ObM.enc) (T:=78) (⟨x.bg,3,1⟩:ObM) hb2 hlen.symm;(exact rfl);(exact rfl);(omega);(exact rfl);(exact rfl);(omega);intro a5 c5 D5 hb5)|((apply qe);first|((refine qi (hfr _ Y9) (fun y v hv=> ?_);(subst hv)))|((refine q1l (q4V (c:=c) (t:=t) (n:=n) (p:=p) (h:=⟨hb, .pointer none,lb,ca,cc,sa,sc,sD,a5,c5,D5⟩) (x:={x with at':=none,obs:=x.obs++x.seen++ [⟨x.bg,3,1⟩],tr:=0,th:={x.th with oc:=1}}) (q0t p x.bg+1) rfl _) ?_ ?_ ?_ (fun _ v hv=> ?_);(solve|exact rfl|(unfold thP;simp only[z8];rfl));(exact rfl);(exact rfl);(subst hv))))|((apply qz);first|((refine qj (fun ex=>hcd _ Y9) ?_))|((refine qj (fun ex=>hcm _ Y9) ?_)))|(refine fB ?_)|(refine fC ?_)|(refine fA ?_)|(refine fN ?_))
  all_goals exact⟨⟨hb, .pointer none,lb,ca,cc,sa,sc,sD,a5,c5,D5⟩,⟨rfl,rfl,rfl,rfl,rfl,⟨hhs,hb5⟩⟩,sbE⟩
 ·rw[hc9] at hcd;have him:((p[x.bg]?).map (·.imm)).getD 0=bi.imm:=by rw[hbi];rfl
  by_cases hlt:(x.tr:Int)<bi.imm
  ·rw[qhL hc9 (by rw[him];exact hlt)]
   repeat'((try(conv=>whnf));first|(refine fE ?_)|(refine fD ?_)|(refine fF ?_)|((apply gLd);first|(refine ql0 hC hbi rfl ?_))|((apply qJ);first|((refine ixE hC hbi ?_ ?_;(first|rfl|omega))))|((apply qe);first|((refine q1l (q4V (c:=c) (t:=t) (n:=n) (p:=p) (h:=⟨hb, .pointer none,lb,ca,cc,sa,sc,sD,oa,oc,oD⟩) (x:={x with at':=none,th:={x.th with rg:=x.sv}}) x.bg rfl _) ?_ ?_ ?_ (fun _ v hv=> ?_);(solve|exact rfl|(unfold thP;simp only[z8];rfl));(exact rfl);(exact rfl);(subst hv))))|((apply qz);first|((refine qj (fun ex=>hcd _ Y9) ?_)))|(refine fA ?_)|(refine fQ ?_)|(refine fN ?_)|(refine fM ?_))
   all_goals exact⟨⟨hb, .pointer none,lb,ca,cc,sa,sc,sD,oa,oc,oD⟩,⟨rfl,rfl,rfl,rfl,rfl,⟨hhs,hho⟩⟩,sbE⟩
  ·rw[qkh hc9 (by rw[him];exact hlt)]
   repeat'((try(conv=>whnf));first|(refine fE ?_)|(refine fD ?_)|(refine fG ?_)|(refine qf (fun bk hbk=> ?_))|(apply qbk (enc:=ObM.enc) (T:=78) (⟨x.bg,3,5⟩:ObM) hho rfl;(exact rfl);(exact rfl);(omega);(exact rfl);(exact rfl);(omega);intro a5 c5 D5 hb5)|((apply gLd);first|(refine ql0 hC hbi rfl ?_))|((apply qJ);first|((refine ixE hC hbi ?_ ?_;(first|rfl|omega))))|((apply qe);first|((refine q1l (q4V (c:=c) (t:=t) (n:=n) (p:=p) (h:=⟨hb, .pointer none,lb,ca,cc,sa,sc,sD,a5,c5,D5⟩) (x:={x with at':=none,th:={x.th with rg:=x.sv,oc:=5},tr:=0,obs:=x.obs++ [⟨x.bg,3,5⟩]}) (q0t p x.bg+1) rfl _) ?_ ?_ ?_ (fun _ v hv=> ?_);(solve|exact rfl|(unfold thP;simp only[z8];rfl));(exact rfl);(exact rfl);(subst hv))))|((apply qz);first|((refine qj (fun ex=>hcd _ Y9) ?_))|((refine qj (fun ex=>hcm _ Y9) ?_)))|(refine fB ?_)|(refine fC ?_)|(refine fA ?_)|(refine fQ ?_)|(refine fN ?_)|(refine fM ?_))
   all_goals exact⟨⟨hb, .pointer none,lb,ca,cc,sa,sc,sD,a5,c5,D5⟩,⟨rfl,rfl,rfl,rfl,rfl,⟨hhs,hb5⟩⟩,sbE⟩
 ·rw[qgG hn1 hn9];generalize a.code=kc at*
  repeat'((try(conv=>whnf));first|(refine fG ?_)|(refine qf (fun bk hbk=> ?_))|(apply qbk (enc:=ObM.enc) (T:=78) (⟨x.bg,3,kc⟩:ObM) hho rfl;(exact rfl);(exact rfl);(omega);(exact rfl);(exact rfl);(omega);intro a5 c5 D5 hb5)|((apply qe);first|((refine q1l (q4V (c:=c) (t:=t) (n:=n) (p:=p) (h:=⟨hb, .pointer none,lb,ca,cc,sa,sc,sD,a5,c5,D5⟩) (x:={x with at':=none,th:={x.th with rg:=x.sv,oc:=kc},tr:=0,obs:=x.obs++ [⟨x.bg,3,kc⟩]}) (q0t p x.bg+1) rfl _) ?_ ?_ ?_ (fun _ v hv=> ?_);(solve|exact rfl|(unfold thP;simp only[z8];rfl));(exact rfl);(exact rfl);(subst hv))))|((apply qz);first|((refine qj (fun ex=>hcd _ Y9) ?_))|((refine qj (fun ex=>hcm _ Y9) ?_)))|(refine fB ?_)|(refine fC ?_)|(refine fA ?_)|(refine fQ ?_)|(refine fN ?_)|(refine fM ?_))
  all_goals exact⟨⟨hb, .pointer none,lb,ca,cc,sa,sc,sD,a5,c5,D5⟩,⟨rfl,rfl,rfl,rfl,rfl,⟨hhs,hb5⟩⟩,sbE⟩
end
open Go
def AtO(W0:World)(c:Cfg)(t:Nat)(h:TH)(x:GT)(A:Own):Prop:=
 match x.at' with
 |none=>h.ap= .pointer none∧A= []
 |some a=>∃(ah:AH) (E:Own),h.ap=ptr ah.b∧ah.ok c a∧PhO W0 c t ah a E∧A=ah.O c t a a.ph.no a.ph.en E
structure EvO(W0:World)(ea:Option Addr)(ec:Nat)(el:List EH)(eD:Own):Prop where
 r:RdE EH.enc 6 W0 eD ea el
 c:el.length≤ec
 n:el.length≤1
 v:∀e∈el,(RdE qx 1 W0 eD e.ra e.rl∧RdE qx 1 W0 eD e.wa e.wl)∧e.rl.length≤100000∧e.wl.length≤100000
theorem EvO.nil{W0:World}:EvO W0 none 0 [] []:=⟨RdE.nil,zu _,zq _,fun _ h=>(by cases h)⟩
structure TR where
 h:TH
 A:Own
 ea:Option Addr
 ec:Nat
 el:List EH
 eD:Own
abbrev stV(s:StM):Value:= .agg #[.int .i64 s.t, .int .i64 s.ph, .int .i64 s.at', .int .i64 s.ac.k, .int .i64 s.ac.c, .int .i64 s.ac.i, .int .u64 s.ac.got, .int .u64 s.ac.put, .bool s.ac.dn]
abbrev TR.O(s:TR)(c:Cfg)(t n:Nat)(p:List Ins)(x:GT)(Q:Own):Own:=(s.h.b,thP c t n p s.h x)::(s.A++(s.h.sD++(s.h.oD++(s.eD++Q))))
structure TR.ok(W0:World)(s:TR)(c:Cfg)(t:Nat)(h:TH)(x:GT)(es:List EvM):Prop where
 b:s.h.b=h.b
 ca:s.h.ca=h.ca
 ok:s.h.ok x
 at':AtO W0 c t s.h x s.A
 ev:EvO W0 s.ea s.ec s.el s.eD
 em:s.el.map EH.m=es
 lb:s.h.lb=h.lb
 ap:h.ap≠ .pointer none→x.at'≠none→s.h.ap=h.ap
theorem AH.b_eq{h:AH}{b:Nat}(e:h.b=b):∃h':AH,h={h' with b:=b}:=⟨h,by cases h;cases e;rfl⟩
section
variable{W0:World}{own Q E:Own}{c:Cfg}{t n:Nat}{p:List Ins}{h:TH}{x:GT}{k:Int}{b e:Nat}{a:AT}{ah:AH}{mh:MH}{m:MS}
theorem q20(hb:Cl W0 own ah.b 31 (.int .i64 a.ph.no)):qE Tryz.prog W0 82 [ptr ah.b] own (.bool a.busy):=by
 have:=qcO hb;rw[show decide (a.ph.no≠0)=a.busy by unfold AT.busy;cases a.ph <;>rfl] at this;exact this
theorem qfP{m':MS}{a':AT}{ac:AcM}{ph:Int}(hh:h.ok x)(hap:h.ap=ptr ah.b)(hok:ah.ok c a)(hM:mh.ok m.L)(hP:PhO W0 c t ah a E)(hA:okA c t m a)(hz:qh c t m a=(m',a',ac,ph))(h3:ph≠3)(h16:ph≠16∨a'.dn=false)(hb:a'.busy=true)(Q:Own):
  qt Tryz.prog W0 83 [ptr h.b,ptr mh.mb] ((h.b,thP c t n p h x)::ah.O c t a a.ph.no a.ph.en (E++(mh.O m++(h.sD++(h.oD++Q))))) fun v own'=>
  ∃s:TR,(v= .tuple #[stV ⟨0,ph,x.ct,ac⟩, .slice s.ea s.el.length s.ec]∧s.ok W0 c t h {x with at':=some a'} [])∧Ent W0 own' (s.O c t n p {x with at':=some a'} (mh.O m'++Q)):=by
 refine sH [3,5,7,9,11,13,15,17,19,21,23,25,28,0] ?_;have hs:=fun Q=>q2x hok hM hP hA Q
 unfold StQ AtQ at hs;rw[hz] at hs;dsimp only at hs;obtain⟨hb',ap,lb,ca,cc,sa,sc,sD,oa,oc,oD⟩:=h;obtain⟨hhs,hho⟩:=hh;dsimp only at hap hhs hho ⊢;subst hap;have hbz:=fun(y:AH) (own':Own) (m1:qy y.b (atP c t y a' a'.ph.no) own')=>q20 (W0:=W0) (own:=own') (a:=a') (ah:=y) (qk m1 rfl)
 have hdn:=fun(y:AH) (own':Own) (m1:qy y.b (atP c t y a' a'.ph.no) own')=>q0F (W0:=W0) (own:=own') (b:=y.b) (d:=a'.dn) (qk m1 rfl)
 rw[hb] at hbz
 by_cases hp16:ph=16
 ·subst hp16;rw[h16.resolve_left (fun h=>h rfl)] at hdn
  repeat'((try(conv=>whnf));first|(refine fH ?_)|(refine fD ?_)|((apply qe);first|((refine qd (hdz _ Y9) ?_))|((refine qd (hby _ Y9) ?_))|((refine qo (b:=ah.b) (D:=AH.R ah c t a a.ph.en (E++(mh.O m++ []))) hs (fun Q=>sbE) (fun y v hv=> ?_);(obtain⟨ah1,E1⟩:=y;obtain⟨rfl,hyb,hyo,hyp⟩:=hv;obtain⟨ah2,rfl⟩:=AH.b_eq hyb;have hby:=hbz {ah2 with b:=ah.b};have hdz:=hdn {ah2 with b:=ah.b}))))|(refine fO ?_)|(refine fA ?_)|(refine fL ?_)|(refine fN ?_)|(refine fM ?_)|(refine qf (fun bk hbk=> ?_)))
  all_goals exact⟨⟨⟨hb',ptr ah.b,lb,ca,cc,sa,sc,sD,oa,oc,oD⟩,AH.O {ah2 with b:=ah.b} c t a' a'.ph.no a'.ph.en E1,none,0,[],[]⟩,⟨rfl,⟨rfl,rfl,⟨hhs,hho⟩,⟨{ah2 with b:=ah.b},E1,rfl,hyo,hyp,rfl⟩,EvO.nil,rfl,rfl,fun _ _=>rfl⟩⟩,by unfold TR.O;dsimp only;simp only[zd,zl,zi];exact sbE⟩
 ·repeat'((try(conv=>whnf));first|(refine fI ?_)|(refine fD ?_)|(refine fG ?_)|(refine fK ?_)|((apply qe);first|((refine qd (hby _ Y9) ?_))|((refine qo (b:=ah.b) (D:=AH.R ah c t a a.ph.en (E++(mh.O m++ []))) hs (fun Q=>sbE) (fun y v hv=> ?_);(obtain⟨ah1,E1⟩:=y;obtain⟨rfl,hyb,hyo,hyp⟩:=hv;obtain⟨ah2,rfl⟩:=AH.b_eq hyb;have hby:=hbz {ah2 with b:=ah.b}))))|(refine fO ?_)|(refine fA ?_)|(refine fL ?_)|(refine fN ?_)|(refine fM ?_)|(refine qf (fun bk hbk=> ?_)))
  all_goals exact⟨⟨⟨hb',ptr ah.b,lb,ca,cc,sa,sc,sD,oa,oc,oD⟩,AH.O {ah2 with b:=ah.b} c t a' a'.ph.no a'.ph.en E1,none,0,[],[]⟩,⟨rfl,⟨rfl,rfl,⟨hhs,hho⟩,⟨{ah2 with b:=ah.b},E1,rfl,hyo,hyp,rfl⟩,EvO.nil,rfl,rfl,fun _ _=>rfl⟩⟩,by unfold TR.O;dsimp only;simp only[zd,zl,zi];exact sbE⟩
end
open Go
section
variable{W0:World}{own Q E:Own}{c:Cfg}{t n:Nat}{p:List Ins}{h:TH}{x:GT}{k:Int}{b e:Nat}{a:AT}{ah:AH}
theorem qfT{kd:Int}{bi i:Ins}{cD:Own}(hF:qC W0)(hh:h.ok x)(hl:x.seen.length≤100000)(hl2:x.obs.length≤100000)(hap:h.ap=ptr ah.b)(hC:RdE Ins.enc 5 W0 cD h.ca p)(hp:p.length≤100000)(hbi:p[x.bg]? =some bi)(hop:bi.op=7)(hck:(qw p).2=0)(hend:q0t p x.bg≤100000)(hcode:0≤a.code∧a.code≤100)(hst:a.st=2)(Q:Own) [eq:qv Q cD]:
  qt Tryz.prog W0 122 [ptr h.b,i.v] ((h.b,thP c t n p h x)::(ah.b,atP c t ah a kd)::(h.sD++(h.oD++Q))) fun v own'=>
  ∃h':TH,(v= .tuple #[]∧h'.b=h.b∧h'.ap= .pointer none∧h'.ca=h.ca∧h'.lb=h.lb∧h'.ok (x.ans p a i))∧Ent W0 own' ((h'.b,thP c t n p h' (x.ans p a i))::(h'.sD++(h'.oD++Q))):=by
 refine sH [] ?_;rw[qhq hst];have he:=qjb (c:=c) (t:=t) (n:=n) (kd:=kd) hF hh hl hl2 hap hC hp hbi hop hck hend hcode Q;have hsa:=fun(own':Own) (m1:qy ah.b (atP c t ah a kd) own')=>q7p (W0:=W0) (own:=own') (b:=ah.b) (k:=a.st) (qk m1 rfl)
 rw[hst] at hsa;obtain⟨hb,ap,lb,ca,cc,sa,sc,sD,oa,oc,oD⟩:=h;dsimp only at hap ⊢ he;subst hap;obtain⟨op,ia,ib,ic,imm⟩:=i;dsimp only[Ins.v]
 repeat'((try(conv=>whnf));first|(refine fH ?_)|(refine fE ?_)|(refine fD ?_)|((apply qe);first|((refine qd (hsa _ Y9) ?_))|((refine qm he sbE ?_ ?_ (fun y v hv=> ?_);(exact rfl);(exact rfl);(obtain⟨rfl,hv⟩:=hv))))|(refine fA ?_)|(refine qf (fun bk hbk=> ?_)))
 all_goals exact⟨y,⟨rfl,hv⟩,Ent.refl⟩
theorem qfU{kd:Int}{i:Ins}(hh:h.ok x)(hl:x.seen.length≤100000)(hap:h.ap=ptr ah.b)(hpc:x.th.pc≤1000000)(hi:(i.op=10∧0≤i.a∧i.a<8)∨(i.op≠10∧i.op≠14))(hst:a.st≠2)(Q:Own):
  qt Tryz.prog W0 122 [ptr h.b,i.v] ((h.b,thP c t n p h x)::(ah.b,atP c t ah a kd)::(h.sD++(h.oD++Q))) fun v own'=>
  ∃h':TH,(v= .tuple #[]∧h'.b=h.b∧h'.ap=h.ap∧h'.ca=h.ca∧h'.lb=h.lb∧h'.ok (x.ans p a i))∧Ent W0 own' ((h'.b,thP c t n p h' (x.ans p a i))::(ah.b,atP c t ah a kd)::(h'.sD++(h'.oD++Q))):=by
 refine sH [] ?_;have hsa:=fun(own':Own) (m1:qy ah.b (atP c t ah a kd) own')=>q7p (W0:=W0) (own:=own') (b:=ah.b) (k:=a.st) (qk m1 rfl)
 have hgt:=fun(r:Int) hr Q=>qjc (c:=c) (t:=t) (n:=n) (p:=p) (kd:=kd) (a:=a) (r:=r) hr hh hl hap Q (W0:=W0)
 obtain⟨hb,ap,lb,ca,cc,sa,sc,sD,oa,oc,oD⟩:=h;dsimp only at hap ⊢ hgt;subst hap;obtain⟨hhs,hho⟩:=hh;dsimp only at hhs hho
 rcases hi with ⟨h10,hr⟩|⟨h10,h14⟩
 ·rw[qhs hst h10];obtain⟨op,ia,ib,ic,imm⟩:=i;dsimp only[Ins.v] at h10 hr ⊢;subst h10;have hgt:=hgt ia hr
  repeat'((try(conv=>whnf));first|(refine fI ?_)|(refine fE ?_)|(refine fD ?_)|(refine fG ?_)|(refine fK ?_)|((apply qe);first|((refine qd (hsa _ Y9) ?_))|((refine qo (b:=hb) (D:=(ah.b,atP c t ah a kd)::(sD++ [])) hgt (fun Q=>by simp only[zl,zd,zi];exact sbE) (fun y v hv=> ?_);(obtain⟨a5,c5,D5⟩:=y;obtain⟨rfl,hB5⟩:=hv;dsimp only at hB5)))|((refine qG (q22 (c:=c) (t:=t) (n:=n) (p:=p) (h:=⟨hb,ptr ah.b,lb,ca,cc,a5,c5,D5,oa,oc,oD⟩) (x:={x with th:={x.th with rg:=x.th.rg.set ia.toNat a.val},seen:=x.seen++ [⟨x.th.pc,1,a.val⟩]}) hpc _) (fun _ v hv=> ?_);(subst hv))))|(refine fA ?_)|(refine qf (fun bk hbk=> ?_)))
  all_goals exact⟨⟨hb,ptr ah.b,lb,ca,cc,a5,c5,D5,oa,oc,oD⟩,⟨rfl,rfl,rfl,rfl,rfl,⟨hB5,hho⟩⟩,sbE⟩
 ·rw[qhr hst h10];obtain⟨op,ia,ib,ic,imm⟩:=i;dsimp only[Ins.v] at h10 h14 ⊢
  repeat'((try(conv=>whnf));first|(refine fI ?_)|(refine fD ?_)|(refine fG ?_)|(refine fK ?_)|((apply qe);first|((refine qd (hsa _ Y9) ?_))|((refine qG (q22 (c:=c) (t:=t) (n:=n) (p:=p) (h:=⟨hb,ptr ah.b,lb,ca,cc,sa,sc,sD,oa,oc,oD⟩) (x:=x) hpc _) (fun _ v hv=> ?_);(subst hv))))|(refine fA ?_)|(refine qf (fun bk hbk=> ?_)))
  all_goals exact⟨⟨hb,ptr ah.b,lb,ca,cc,sa,sc,sD,oa,oc,oD⟩,⟨rfl,rfl,rfl,rfl,rfl,⟨hhs,hho⟩⟩,sbE⟩
end
open Go
abbrev evP(e:EH):Obj→Prop:=fun z=>z=Obj.cells #[.int .i64 e.ev, .int .i64 e.t, .int .i64 e.k, .int .i64 e.w, .slice e.ra e.rl.length e.rc, .slice e.wa e.wl.length e.wc] 84 (0,0)
theorem qbj{p:List Ins}{x:GT}{a:AT}{i:Ins}(h:a.st=2):(x.ans p a i).at'=none:=by
 rw[qhq h];unfold GT.endG GT.to;dsimp only
 (repeat' split) <;>rfl
theorem qhp{p:List Ins}{x:GT}{a:AT}{i:Ins}(h:a.st≠2):(x.ans p a i).at'=some a:=by
 unfold GT.ans;rw[if_neg h]
 split <;>rfl
section
variable{P:Program}{W0:World}{own D r r1 F:Own}{f f0:FuncId}{args args0:List Value}{b:Nat}{p p':Obj→Prop}
theorem qhC{σ:Type}{R:σ→Value→Prop}{O:σ→Own→Own}{own0:Own→Own}{K:Value→Own→Prop} [m1:q1r b p own r1] [m2:q28 D r1 r] [m3:qv r F](h:∀Q,qv Q F→qt P W0 f0 args0 (own0 Q) fun v own'=>∃s,R s v∧Ent W0 own' (O s Q))(hD:∀Q,Ent W0 ((b,p')::(D++Q)) (own0 Q))
  (ep:p=p') (ek:f=f0) (ea:args=args0) (hk:∀s v,R s v→K v (O s r)):q0w P W0 own f args K:=by
 subst ek;subst ea;subst ep;exact⟨fun w hw=>(h r m3 w (hD r w (Ent.of_perm (m1.h.trans (m2.h.cons _)) w hw))).mono fun _ _ ⟨_,_,he,hs,s,hR,hE⟩=>⟨_,O s r,he,hE _ hs,hk s _ hR⟩⟩
theorem q1f{σ:Type}{R:σ→Value→Prop}{O:σ→Own→Own}{own0:Own→Own}{K:Value→Own→Prop} [m1:q1r b p own r1] [m2:q28 D r1 r] [m3:qv r F](h:∀Q,qv Q F→qt P W0 f0 args0 (own0 Q) fun v own'=>∃s,R s v∧Ent W0 own' (O s Q))(hD:∀Q,Ent W0 ((b,p')::(D++Q)) (own0 Q))(hk:∀s v,R s v→K v (O s r))(ep:p=p':=by exact rfl)(ek:f=f0:=by exact rfl)(ea:args=args0:=by exact rfl):q0w P W0 own f args K:=qhC h hD ep ek ea hk
end
theorem ev1{W0:World}{b:Nat}{e:EH}{D:Own}(h:RdE qx 1 W0 ((b,evP e)::D) e.ra e.rl∧RdE qx 1 W0 ((b,evP e)::D) e.wa e.wl)(h1:e.rl.length≤100000)(h2:e.wl.length≤100000):EvO W0 (some ⟨b,0,none⟩) 1 [e] ((b,evP e)::D):=
 ⟨q1A zm (fun y hy=>by rw[zf.1 hy];rfl) Y8,zu _,zu _,fun y hy=>by rw[zf.1 hy];exact⟨h,h1,h2⟩⟩
section
variable{W0:World}{own Q E:Own}{c:Cfg}{t n:Nat}{p:List Ins}{h:TH}{x:GT}{k:Int}{b e:Nat}{a:AT}{ah:AH}{mh:MH}{m:MS}
theorem qfQ{m':MS}{a':AT}{ac:AcM}(hh:h.ok x)(hap:h.ap=ptr ah.b)(hok:ah.ok c a)(hM:mh.ok m.L)(hP:PhO W0 c t ah a E)(hA:okA c t m a)(hz:qh c t m a=(m',a',ac,3))(hb:a'.busy=true)(Q:Own):
  qt Tryz.prog W0 83 [ptr h.b,ptr mh.mb] ((h.b,thP c t n p h x)::ah.O c t a a.ph.no a.ph.en (E++(mh.O m++(h.sD++(h.oD++Q))))) fun v own'=>
  ∃s:TR,(v= .tuple #[stV ⟨0,3,x.ct,ac⟩, .slice s.ea s.el.length s.ec]∧s.ok W0 c t h {x with at':=some a'} [⟨0,t,3,0,[],[]⟩])∧Ent W0 own' (s.O c t n p {x with at':=some a'} (mh.O m'++Q)):=by
 refine sH [3,5,7,9,11,13,15,17,19,21,23,25,28,0] ?_;have hs:=fun Q=>q2x hok hM hP hA Q
 unfold StQ AtQ at hs;rw[hz] at hs;dsimp only at hs;obtain⟨hb',ap,lb,ca,cc,sa,sc,sD,oa,oc,oD⟩:=h;obtain⟨hhs,hho⟩:=hh;dsimp only at hap hhs hho ⊢;subst hap;have hbz:=fun(y:AH) (own':Own) (m1:qy y.b (atP c t y a' a'.ph.no) own')=>q20 (W0:=W0) (own:=own') (a:=a') (ah:=y) (qk m1 rfl)
 rw[hb] at hbz
 repeat'((try(conv=>whnf));first|(refine fE ?_)|(refine fD ?_)|(refine qf (fun bk hbk=> ?_))|((apply qe);first|((refine qd (hby _ Y9) ?_))|((refine qo (b:=ah.b) (D:=AH.R ah c t a a.ph.en (E++(mh.O m++ []))) hs (fun Q=>sbE) (fun y v hv=> ?_);(obtain⟨ah1,E1⟩:=y;obtain⟨rfl,hyb,hyo,hyp⟩:=hv;obtain⟨ah2,rfl⟩:=AH.b_eq hyb;have hby:=hbz {ah2 with b:=ah.b}))))|(refine fO ?_)|(refine fA ?_)|(refine fL ?_)|(refine fN ?_)|(refine fM ?_))
 all_goals exact⟨⟨⟨hb',ptr ah.b,lb,ca,cc,sa,sc,sD,oa,oc,oD⟩,AH.O {ah2 with b:=ah.b} c t a' a'.ph.no a'.ph.en E1,some ⟨bk,0,none⟩,1,[⟨0,t,3,0,none,[],0,none,[],0⟩],[(bk,evP ⟨0,t,3,0,none,[],0,none,[],0⟩)]⟩,⟨rfl,⟨rfl,rfl,⟨hhs,hho⟩,⟨{ah2 with b:=ah.b},E1,rfl,hyo,hyp,rfl⟩,ev1 ⟨RdE.nil,RdE.nil⟩ (zq _) (zq _),rfl,rfl,fun _ _=>rfl⟩⟩,by unfold TR.O;dsimp only;simp only[zd,zl,zi];exact sbE⟩
theorem qaW{m':MS}{a':AT}{ac:AcM}(hh:h.ok x)(hap:h.ap=ptr ah.b)(hok:ah.ok c a)(hM:mh.ok m.L)(hP:PhO W0 c t ah a E)(hA:okA c t m a)(hz:qh c t m a=(m',a',ac,16))(hd:a'.dn=true)(hcd:a'.code=1)(hb:a'.busy=true)(Q:Own):
  qt Tryz.prog W0 83 [ptr h.b,ptr mh.mb] ((h.b,thP c t n p h x)::ah.O c t a a.ph.no a.ph.en (E++(mh.O m++(h.sD++(h.oD++Q))))) fun v own'=>
  ∃s:TR,(v= .tuple #[stV ⟨0,16,x.ct,ac⟩, .slice s.ea s.el.length s.ec]∧s.ok W0 c t h {x with at':=some a'} [⟨0,t,4,0,a'.seen,a'.ad.filter fun x=>decide (x<c.words)⟩])∧Ent W0 own' (s.O c t n p {x with at':=some a'} (mh.O m'++Q)):=by
 refine sH [3,5,7,9,11,13,15,17,19,21,23,25,28,0] ?_;have hs:=fun Q=>q2x hok hM hP hA Q
 unfold StQ AtQ at hs;rw[hz] at hs;dsimp only at hs;obtain⟨hb',ap,lb,ca,cc,sa,sc,sD,oa,oc,oD⟩:=h;obtain⟨hhs,hho⟩:=hh;dsimp only at hap hhs hho ⊢;subst hap;have hbz:=fun(y:AH) (own':Own) (m1:qy y.b (atP c t y a' a'.ph.no) own')=>q20 (W0:=W0) (own:=own') (a:=a') (ah:=y) (qk m1 rfl)
 rw[hb] at hbz;have hdn:=fun(y:AH) (own':Own) (m1:qy y.b (atP c t y a' a'.ph.no) own')=>q0F (W0:=W0) (own:=own') (b:=y.b) (d:=a'.dn) (qk m1 rfl)
 rw[hd] at hdn;have hcz:=fun(y:AH) (own':Own) (m1:qy y.b (atP c t y a' a'.ph.no) own')=>q6y (W0:=W0) (own:=own') (b:=y.b) (k:=a'.code) (qk m1 rfl)
 rw[hcd] at hcz;have hwd:=fun(y:AH) (hy:y.ok c a') (own':Own) (m1:qy y.b (atP c t y a' a'.ph.no) own') (m2:qy y.g.b (lgP c.writes y.g.aa a'.ad.length y.g.ca y.g.va a'.vl.length y.g.cv y.g.ib y.g.P) own') (m3:qv own' y.g.aD) (m4:qv own' y.nD)=>
  q7o (W0:=W0) (own:=own') (b:=y.b) (gb:=y.g.b) (w:=c.words) (qk m1 rfl) (qk m1 rfl) (qk m1 rfl) (qk m2 rfl) ((hy.hg.hA.rd (W0:=W0)).up) ((hy.hn.rd (W0:=W0)).up) (by have h1:=hy.hg.hm;have h2:=hy.wr;omega) (by have:=hy.ln;omega)
 repeat'((try(conv=>whnf));first|(refine fH ?_)|(refine fE ?_)|(refine fD ?_)|(refine qf (fun bk hbk=> ?_))|((apply qe);first|((refine qd (hby _ Y9) ?_))|((refine qd (hdz _ Y9) ?_))|((refine qd (hcy _ Y9) ?_))|((refine qo (b:=ah.b) (D:=AH.R ah c t a a.ph.en (E++(mh.O m++ []))) hs (fun Q=>sbE) (fun y v hv=> ?_);(obtain⟨ah1,E1⟩:=y;obtain⟨rfl,hyb,hyo,hyp⟩:=hv;obtain⟨ah2,rfl⟩:=AH.b_eq hyb;have hby:=hbz {ah2 with b:=ah.b};have hdz:=hdn {ah2 with b:=ah.b};have hcy:=hcz {ah2 with b:=ah.b};have hwz:=hwd {ah2 with b:=ah.b} hyo)))|((refine qi (hwz _ Y9 Y9 Y9 Y9) (fun y v hv=> ?_);(obtain⟨⟨a1,c1,D1⟩,⟨a2,c2,D2⟩⟩:=y;obtain⟨rfl,hB1,hB2⟩:=hv;dsimp only at hB1 hB2))))|(refine fO ?_)|(refine fA ?_)|(refine fL ?_)|(refine fN ?_)|(refine fM ?_))
 all_goals exact⟨⟨⟨hb',ptr ah.b,lb,ca,cc,sa,sc,sD,oa,oc,oD⟩,AH.O {ah2 with b:=ah.b} c t a' a'.ph.no a'.ph.en E1,some ⟨bk,0,none⟩,1,[⟨0,t,4,0,a1,a'.seen,c1,a2,a'.ad.filter fun x=>decide (x<c.words),c2⟩],(bk,evP ⟨0,t,4,0,a1,a'.seen,c1,a2,a'.ad.filter fun x=>decide (x<c.words),c2⟩)::(D1++D2)⟩,⟨rfl,⟨rfl,rfl,⟨hhs,hho⟩,⟨{ah2 with b:=ah.b},E1,rfl,hyo,hyp,rfl⟩,ev1 ⟨(hB1.rd (W0:=W0)).up,(hB2.rd (W0:=W0)).up⟩ hyo.ln (Zl (yI _ _) (by have h1:=hyo.hg.hm;have h2:=hyo.wr;omega)),rfl,rfl,fun _ _=>rfl⟩⟩,by unfold TR.O;dsimp only;simp only[zd,zl,zi];exact sbE⟩
theorem qaX{m':MS}{a':AT}{ac:AcM}(hh:h.ok x)(hap:h.ap=ptr ah.b)(hok:ah.ok c a)(hM:mh.ok m.L)(hP:PhO W0 c t ah a E)(hA:okA c t m a)(hz:qh c t m a=(m',a',ac,16))(hd:a'.dn=true)(hcd:a'.code≠1)(hb:a'.busy=true)(Q:Own):
  qt Tryz.prog W0 83 [ptr h.b,ptr mh.mb] ((h.b,thP c t n p h x)::ah.O c t a a.ph.no a.ph.en (E++(mh.O m++(h.sD++(h.oD++Q))))) fun v own'=>
  ∃s:TR,(v= .tuple #[stV ⟨0,16,x.ct,ac⟩, .slice s.ea s.el.length s.ec]∧s.ok W0 c t h {x with at':=some a'} [⟨0,t,4,0,a'.seen,[]⟩])∧Ent W0 own' (s.O c t n p {x with at':=some a'} (mh.O m'++Q)):=by
 refine sH [3,5,7,9,11,13,15,17,19,21,23,25,28,0] ?_;have hs:=fun Q=>q2x hok hM hP hA Q
 unfold StQ AtQ at hs;rw[hz] at hs;dsimp only at hs;obtain⟨hb',ap,lb,ca,cc,sa,sc,sD,oa,oc,oD⟩:=h;obtain⟨hhs,hho⟩:=hh;dsimp only at hap hhs hho ⊢;subst hap;have hbz:=fun(y:AH) (own':Own) (m1:qy y.b (atP c t y a' a'.ph.no) own')=>q20 (W0:=W0) (own:=own') (a:=a') (ah:=y) (qk m1 rfl)
 rw[hb] at hbz;have hdn:=fun(y:AH) (own':Own) (m1:qy y.b (atP c t y a' a'.ph.no) own')=>q0F (W0:=W0) (own:=own') (b:=y.b) (d:=a'.dn) (qk m1 rfl)
 rw[hd] at hdn;have hcz:=fun(y:AH) (own':Own) (m1:qy y.b (atP c t y a' a'.ph.no) own')=>q6y (W0:=W0) (own:=own') (b:=y.b) (k:=a'.code) (qk m1 rfl)
 have hwd:=fun(y:AH) (hy:y.ok c a') (own':Own) (m1:qy y.b (atP c t y a' a'.ph.no) own') (m2:qy y.g.b (lgP c.writes y.g.aa a'.ad.length y.g.ca y.g.va a'.vl.length y.g.cv y.g.ib y.g.P) own') (m3:qv own' y.g.aD) (m4:qv own' y.nD)=>
  q7o (W0:=W0) (own:=own') (b:=y.b) (gb:=y.g.b) (w:=c.words) (qk m1 rfl) (qk m1 rfl) (qk m1 rfl) (qk m2 rfl) ((hy.hg.hA.rd (W0:=W0)).up) ((hy.hn.rd (W0:=W0)).up) (by have h1:=hy.hg.hm;have h2:=hy.wr;omega) (by have:=hy.ln;omega)
 repeat'((try(conv=>whnf));first|(refine fH ?_)|(refine fE ?_)|(refine fD ?_)|(refine fF ?_)|(refine qf (fun bk hbk=> ?_))|((apply qe);first|((refine qd (hby _ Y9) ?_))|((refine qd (hdz _ Y9) ?_))|((refine qd (hcy _ Y9) ?_))|((refine qo (b:=ah.b) (D:=AH.R ah c t a a.ph.en (E++(mh.O m++ []))) hs (fun Q=>sbE) (fun y v hv=> ?_);(obtain⟨ah1,E1⟩:=y;obtain⟨rfl,hyb,hyo,hyp⟩:=hv;obtain⟨ah2,rfl⟩:=AH.b_eq hyb;have hby:=hbz {ah2 with b:=ah.b};have hdz:=hdn {ah2 with b:=ah.b};have hcy:=hcz {ah2 with b:=ah.b};have hwz:=hwd {ah2 with b:=ah.b} hyo)))|((refine qi (hwz _ Y9 Y9 Y9 Y9) (fun y v hv=> ?_);(obtain⟨⟨a1,c1,D1⟩,⟨a2,c2,D2⟩⟩:=y;obtain⟨rfl,hB1,hB2⟩:=hv;dsimp only at hB1 hB2))))|(refine fO ?_)|(refine fA ?_)|(refine fL ?_)|(refine fN ?_)|(refine fM ?_))
 all_goals exact⟨⟨⟨hb',ptr ah.b,lb,ca,cc,sa,sc,sD,oa,oc,oD⟩,AH.O {ah2 with b:=ah.b} c t a' a'.ph.no a'.ph.en E1,some ⟨bk,0,none⟩,1,[⟨0,t,4,0,a1,a'.seen,c1,none,[],0⟩],(bk,evP ⟨0,t,4,0,a1,a'.seen,c1,none,[],0⟩)::(D1++D2)⟩,⟨rfl,⟨rfl,rfl,⟨hhs,hho⟩,⟨{ah2 with b:=ah.b},E1,rfl,hyo,hyp,rfl⟩,ev1 ⟨(hB1.rd (W0:=W0)).up,RdE.nil⟩ hyo.ln (zq _),rfl,rfl,fun _ _=>rfl⟩⟩,by unfold TR.O;dsimp only;simp only[zd,zl,zi];exact sbE⟩
theorem qfR{m':MS}{a':AT}{ac:AcM}{ph:Int}{bi i:Ins}{cD:Own}(hF:qC W0)(hh:h.ok x)(hap:h.ap=ptr ah.b)(hok:ah.ok c a)(hM:mh.ok m.L)(hP:PhO W0 c t ah a E)(hA:okA c t m a)(hl:x.seen.length≤100000)(hl2:x.obs.length≤100000)(hC:RdE Ins.enc 5 W0 cD h.ca p)(hp:p.length≤100000)(hbi:p[x.bg]? =some bi)(hop:bi.op=7)(hck:(qw p).2=0)(hend:q0t p x.bg≤100000)(hcode:0≤a'.code∧a'.code≤100)(hst:a'.st=2)(hi:p[x.th.pc]? =some i)(hz:qh c t m a=(m',a',ac,ph))(h3:ph≠3)(h16:ph≠16)(hb:a'.busy=false)(Q:Own) [eq:qv Q cD]:
  qt Tryz.prog W0 83 [ptr h.b,ptr mh.mb] ((h.b,thP c t n p h x)::ah.O c t a a.ph.no a.ph.en (E++(mh.O m++(h.sD++(h.oD++Q))))) fun v own'=>
  ∃s:TR,(v= .tuple #[stV ⟨0,ph,x.ct,ac⟩, .slice s.ea s.el.length s.ec]∧s.ok W0 c t h (x.ans p a' i) [])∧Ent W0 own' (s.O c t n p (x.ans p a' i) (mh.O m'++Q)):=by
 refine sH [3,5,7,9,11,13,15,17,19,21,23,25,28,0] ?_;have hs:=fun Q=>q2x hok hM hP hA Q
 unfold StQ AtQ at hs;rw[hz] at hs;dsimp only at hs;have hae:=fun(y:AH) (hap:h.ap=ptr y.b) (Q:Own) (eq:qv Q cD)=>qfT (c:=c) (t:=t) (n:=n) (kd:=a'.ph.no) (i:=i) (a:=a') (ah:=y) hF hh hl hl2 hap hC hp hbi hop hck hend hcode hst Q
 obtain⟨hb',ap,lb,ca,cc,sa,sc,sD,oa,oc,oD⟩:=h;obtain⟨hhs,hho⟩:=hh;dsimp only at hap hhs hho ⊢;subst hap;have hbz:=fun(y:AH) (own':Own) (m1:qy y.b (atP c t y a' a'.ph.no) own')=>q20 (W0:=W0) (own:=own') (a:=a') (ah:=y) (qk m1 rfl)
 rw[hb] at hbz;dsimp only at hC hae
 repeat'((try(conv=>whnf));first|(refine fI ?_)|(refine fE ?_)|(refine fD ?_)|(refine fG ?_)|(refine fK ?_)|((apply qJ);first|((refine ixE hC hi ?_ ?_;(first|rfl|omega))))|((apply q2H);first|(refine q1h hC hi rfl ?_))|((apply qe);first|((refine qd (hby _ Y9) ?_))|((refine qo (b:=ah.b) (D:=AH.R ah c t a a.ph.en (E++(mh.O m++ []))) hs (fun Q=>sbE) (fun y v hv=> ?_);(obtain⟨ah1,E1⟩:=y;obtain⟨rfl,hyb,hyo,hyp⟩:=hv;obtain⟨ah2,rfl⟩:=AH.b_eq hyb;have hby:=hbz {ah2 with b:=ah.b};have hay:=hae {ah2 with b:=ah.b})))|((refine q1f (F:=cD) (b:=hb') (D:=(ah.b,atP c t {ah2 with b:=ah.b} a' a'.ph.no)::(sD++(oD++ []))) (hay rfl) (fun Q=>by simp only[zl,zd,zi];exact sbE) (fun h1 v hv=> ?_);(obtain⟨rfl,hv1,hv2,hv3,hv5,hv4⟩:=hv))))|(refine fO ?_)|(refine fA ?_)|(refine fL ?_)|(refine fN ?_)|(refine fM ?_)|(refine qf (fun bk hbk=> ?_)))
 all_goals exact⟨⟨h1,[],none,0,[],[]⟩,⟨rfl,⟨hv1,hv3,hv4,by unfold AtO;rw[qbj hst];exact⟨hv2,rfl⟩,EvO.nil,rfl,hv5,fun _ h=>absurd (qbj hst) h⟩⟩,by unfold TR.O;dsimp only;simp only[zd,zl,zi];exact sbE⟩
end
end Go.Proofs.YtbhbldllneadeaaGreatDoor
