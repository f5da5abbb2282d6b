/- What the laws share, part 12. No condition. -/
import Derived.Test.YtkieffpjjfebjaaGreatDoorC11
set_option maxHeartbeats 16000000
set_option maxRecDepth 100000
namespace Go.Proofs.YtkieffpjjfebjaaGreatDoor
open Go
section
variable{m:MS}
theorem MS.cl.cs0(h:m.cl):csM m.c m.il.length (m.ps.map PB.h) []=(0,0,0):=by
 unfold csM
 have hp:=h.pl
 rw[if_neg (by rw[h.c0];simp),if_neg (by rw[List.length_map];omega),if_neg (by rw[h.il];simp),qo4 _ _ fun y hy=>by
  obtain⟨x,hx,rfl⟩:=List.mem_map.1 hy
  exact(h.q x hx).2]
 rfl
theorem MS.cl.ilu(h:m.cl):∀x∈m.il,okU x:=fun x hx=>by have:=h.iw x hx;exact⟨by omega,by omega⟩
theorem MS.cl.g0(h:m.cl):GOk m.c m.P (q7G m.c m.il m.P):=
 qgw h.c0 h.il h.ilu fun p hp=>by
  obtain⟨y,hy,rfl⟩:=List.mem_map.1 hp
  obtain⟨x,hx,rfl⟩:=List.mem_map.1 hy
  exact(h.q x hx).2
theorem MS.cl.pl16(h:m.cl):m.P.length≤16:=by
 have hp:=h.pl
 simp only[List.length_map]
 omega
theorem MS.cl.il5(h:m.cl):m.il.length≤500000:=by
 have h1:=h.il
 have h2:=h.cw
 omega
theorem MS.cl.noal(h:m.cl):qfn m.P:=fun p hp=>by
 obtain⟨y,hy,rfl⟩:=List.mem_map.1 hp
 obtain⟨x,hx,rfl⟩:=List.mem_map.1 hy
 exact h.na x hx
theorem MS.cl.alq(h:m.cl):alQ (m.ps.map PB.h)=false:=by
 unfold alQ
 rw[List.any_eq_false]
 intro y hy
 obtain⟨x,hx,rfl⟩:=List.mem_map.1 hy
 rw[Bool.not_eq_true,List.any_eq_false]
 intro z hz
 have:=h.na x hx z hz
 unfold alI
 simp[this.1,this.2]
theorem MS.cl.arg(h:m.cl){fo:List Int}{lim:Int}(hf:fo.length≤4)(hfo:∀k∈fo,3≤k∧k≤6)(hl:1≤lim∧lim≤100000):qeN m.c m.il.length (m.ps.map PB.h) fo lim=0:=by
 unfold qeN
 rw[h.cs0,if_neg (by simp),if_neg (by rw[h.cs,h.alq];simp),if_neg (by omega),if_pos]
 unfold foB
 rw[List.all_eq_true]
 intro k hk
 exact decide_eq_true (hfo k hk)
theorem MS.cl.rp{W0:World}(h:m.cl):RdE PH.enc 1 W0 (m.O) m.pa (m.ps.map PB.h):=h.p.rd.ent (qo (m.Dk++(q9L m.ps++m.Di)) fun a=>by simp only[MS.O,q2k];omega)
theorem MS.cl.ri{W0:World}(h:m.cl):RdE q7j 1 W0 (m.O) m.ia m.il:=h.i.rd.ent (qo (m.Dk++(m.Dp++q9L m.ps)) fun a=>by simp only[MS.O,q2k];omega)
theorem MS.cl.rq{W0:World}(h:m.cl):∀x∈m.ps.map PB.h,RdE Ins.enc 5 W0 (m.O) x.a x.p:=fun y hy=>by
 obtain⟨x,hx,rfl⟩:=List.mem_map.1 hy
 have:=qhO (kD:= []) hx ((h.q x hx).1.rd (W0:=W0))
 exact this.ent (qo (m.Dk++(m.Dp++m.Di)) fun a=>by simp only[MS.O,q2k,q6C];omega)
end
structure Ans(c:Cfg)(il:List Int)(P:List (List Ins))(fo:List Int)(R:SS×Int):Prop where
 e:R.2=0∨(R.2=80∧R.1=ss0)
 n:R.1.racy=false→R.1.found= []
 r:R.2=0→R.1.racy=true→∃s',qex c P fo (q7G c il P) [] s' R.1.found∧rcC P.length s'.E=true
 a:R.2=0→R.1.racy=false→∀s' l',qex c P fo (q7G c il P) [] s' l'→rcC P.length s'.E=false
theorem MS.cl.ans{m:MS}(h:m.cl){fo:List Int}{lim:Int}(hf:fo.length≤4)(hfo:∀k∈fo,3≤k∧k≤6)(hl:1≤lim∧lim≤100000):Ans m.c m.il m.P fo (q5x m.c m.il (m.ps.map PB.h) fo lim):=by
 unfold q5x
 rw[h.arg hf hfo hl,if_neg (by simp)]
 unfold qll
 have h1:=qnG (rc:=rcC m.P.length) (c:=m.c) (P:=m.P) (fo:=fo) (lim:=lim) (q1n m.P (q7G m.c m.il m.P)+1) (q7G m.c m.il m.P) [] ss0 rfl
 have h2:=qoc (rc:=rcC m.P.length) (c:=m.c) (P:=m.P) (fo:=fo) (lim:=lim) h.noal hfo (q1n m.P (q7G m.c m.il m.P)+1) (q7G m.c m.il m.P) [] ss0 h.g0 (Nat.lt_succ_self _)
 have h3:=q7h (rc:=rcC m.P.length) (c:=m.c) (P:=m.P) (fo:=fo) (lim:=lim) (n:=q1n m.P (q7G m.c m.il m.P)+1) (s:=q7G m.c m.il m.P) (l:= []) (x:=ss0) rfl rfl
 dsimp only
 generalize q7L (rcC m.P.length) m.c m.P fo lim (q1n m.P (q7G m.c m.il m.P)+1) (q7G m.c m.il m.P) [] ss0=R at*
 cases hm:R.many with
 |true=>exact⟨.inr ⟨rfl,rfl⟩,fun _=>rfl,fun h=>absurd h (by simp),fun h=>absurd h (by simp)⟩
 |false=>
  refine⟨.inl rfl,h3,fun _ hr=>h1 hr,fun _ hr=>h2 ?_⟩
  unfold SS.stop
  have hr':R.racy=false:=hr
  rw[hr',hm]
  rfl
theorem qex.len{c:Cfg}{P:List (List Ins)}{fo:List Int}(hna:qfn P)(hfo:∀k∈fo,3≤k∧k≤6){s s':GS}{l l':List ChM}(h:qex c P fo s l s' l'):GOk c P s→l.length≤s.n→GOk c P s'∧l'.length≤s'.n∧s'.n+q1n P s'≤s.n+q1n P s:=by
 induction h with
 |done h=>exact fun hG hl=>⟨hG,hl,Nat.le_refl _⟩
 | @loc s s' l l' t ht hd ha _ ih=>
  intro hG hl
  obtain⟨g1,g2, -⟩:=qg3 (t:=t) hna 64 s l hG
  obtain⟨i1,i2,i3⟩:=ih g1 (qiM hna t 64 s l hG hl)
  exact⟨i1,i2,by omega⟩
 | @step s s' l l' t k ht hd ha hk _ ih=>
  intro hG hl
  obtain⟨g1,g2, -⟩:=qg3 (t:=t) hna 64 s l hG
  have hn:=qiM hna t 64 s l hG hl
  obtain⟨i,hi⟩:=qh2 g1 ha
  obtain⟨-,m1,m2,m3,m4,m5⟩:=q3Z g1 hna hi (k:=k) (by
   rcases qag hfo hk with hk|⟨j,hj,h7,hk⟩
   ·exact .inl hk
   ·rw[hi] at hj
    obtain rfl:=Option.some.inj hj
    exact .inr ⟨h7,hk⟩)
  obtain⟨i1,i2,i3⟩:=ih m1 (by rw[List.length_append,List.length_singleton];omega)
  exact⟨i1,i2,by omega⟩
open Go
def bcS(f:Nat→Nat):Nat→Nat
 |0=>1
 |b+1=>f (b+1)+bcS f b
def bc:Nat→Nat→Nat
 |0=>fun _=>1
 |a+1=>bcS (bc a)
abbrev qrw:Ins:=⟨13,0,0,0,0⟩
abbrev qrv:Ins:=⟨12,1,0,0,1⟩
def qrz(n m:Nat):List (List Ins):= [List.replicate n qrw,List.replicate m qrv]
structure Two(c:Cfg)(n m:Nat)(s:GS)(i j:Nat):Prop where
 G:GOk c (qrz n m) s
 T:∃a b:Thr,s.T= [a,b]∧a.pc=i∧b.pc=j∧a.rg.r0=0∧b.rg.r0=0∧a.dn=decide (i=n)∧b.dn=decide (j=m)
 E:∀e∈s.E,(e.k=1∨e.k=2)∧e.w=e.t
theorem RdE.conv{α β:Type}{enc:α→List Value}{enc2:β→List Value}{f:α→β}{sz:Nat}{W0:World}{own:Own}{a:Option Addr}{l:List α}(h:RdE enc sz W0 own a l)(he:∀x∈l,enc2 (f x)=enc x):RdE enc2 sz W0 own a (l.map f):=by
 refine⟨fun hn=>h.isS (fun e=>hn (by rw[e];rfl)),fun x hx=> ?_,fun{j k x v} hx hv=> ?_⟩
 ·obtain⟨y,hy,rfl⟩:=List.mem_map.1 hx
  rw[he y hy]
  exact h.wid y hy
 ·rw[List.getElem?_map] at hx
  cases hy:l[j]? with
  |none=>rw[hy] at hx;cases hx
  |some y=>
   rw[hy] at hx
   obtain rfl:=Option.some.inj hx
   rw[he y (List.mem_of_getElem? hy)] at hv
   exact h.cell hy hv
abbrev chH(x:ChM):CH:=⟨x.t,x.f,none,[],0⟩
theorem qre{l:List ChM}(h:∀x∈l,x.ad= []):(l.map chH).map CH.m=l:=by
 rw[List.map_map]
 conv=>rhs;rw[←List.map_id l]
 refine List.map_congr_left fun x hx=> ?_
 have:=h x hx
 obtain⟨t,f,ad⟩:=x
 dsimp only at this
 subst this
 rfl
section
variable{W0:World}{own:Own}{m:MS}{ca:Option Addr}{cc:Nat}{l:List ChM}
theorem qpz(h:m.cl) [e:qt own m.O](hC:RdE q8x 3 W0 own ca l)(hA:∀x∈l,x.ad= [])(hcl:l.length≤5000):
  q0E Tryz.prog W0 19 [qi0 m.c m.ia m.il.length m.ic m.pa m.ps.length m.pc m.ka 0 m.kc, .slice ca l.length cc] own fun v own'=>
   ∃y:RG,(v= .tuple #[y.v (qnJ m.c m.il (m.ps.map PB.h) l).1, .int .i64 (qnJ m.c m.il (m.ps.map PB.h) l).2.1, .int .i64 (qnJ m.c m.il (m.ps.map PB.h) l).2.2]∧y.ok W0 (qnJ m.c m.il (m.ps.map PB.h) l).1)∧Ent W0 own' (y.D++own):=by
 have:=qpA (ks:= []) (c:=m.c) (ic:=m.ic) (pc:=m.pc) (ka:=m.ka) (kc:=m.kc) (cc:=cc) (cl:=l.map chH) (h.ri.up (W0:=W0) (own:=own)) h.il5 h.ilu h.rp.up (fun x hx=>(h.rq x hx).up) RdE.nil (Nat.zero_le _) (hC.conv (enc2:=CH.enc) (f:=chH) fun _ _=>rfl) (fun x hx=>by
  obtain⟨y, -,rfl⟩:=List.mem_map.1 hx
  exact⟨RdE.nil,Nat.zero_le _,fun _ h=>(by cases h)⟩) (by rw[List.length_map];exact hcl)
 rw[qre hA,List.length_map,List.length_map] at this
 exact this
theorem qqf{s:GS}{r:RG}(ha:r.at W0 s own)(hz:SzG s)(N:Nat):qD Tryz.prog W0 20 [.slice r.ea r.L.length r.ec, .int .i64 N] own (.agg (Ord.encRc (Ord.frR (s.E.map evH) N)).toArray):=by
 have:=Ord.sp_rfirst (cap:=r.ec) ha.e (fun y hy=>⟨(ha.ev y hy).1,(ha.ev y hy).2,by have:=(hz.ev y.m (by rw[←ha.em];exact List.mem_map_of_mem hy)).1;exact Nat.le_trans this (by decide),by have:=(hz.ev y.m (by rw[←ha.em];exact List.mem_map_of_mem hy)).2;exact Nat.le_trans this (by decide)⟩) N
 rw[(qly ha.em).1] at this
 exact this
end
open Go
theorem qpH{c:Cfg}{P:List (List Ins)}{s:GS}{l:List Nat}{t:Nat}(h:Val c P s l)(hi:∃i,nxM P (qfA c P s l) t=some i):Val c P s (l++ [t])∧qfA c P s (l++ [t])=(doM c P (qfA c P s l) (ch0 t)).2:=
 ⟨(qnF ..).2 ⟨h,hi,trivial⟩,qn5⟩
theorem qq3{n t0 u:Nat}(hn:n=2∨n=3)(h0:t0<n)(hu:u<n):(t0+(u+n-t0) % n) % n=u:=by rcases hn with rfl|rfl <;>omega
theorem qql{s:GS}{t0:Nat}(hn:s.T.length=2∨s.T.length=3)(h0:t0<s.T.length)(h:∀j,j<s.T.length→dnB s ((t0+j) % s.T.length)=true):q6E s=true:=by
 unfold q6E
 rw[List.all_eq_true]
 intro x hx
 obtain⟨u,hu,rfl⟩:=List.getElem_of_mem hx
 have key:dnB s u=true:=by
  have:=h ((u+s.T.length-t0) % s.T.length) (Nat.mod_lt _ (by omega))
  rw[qq3 hn h0 hu] at this
  exact this
 unfold dnB at key
 rw[List.getElem?_eq_getElem hu] at key
 exact key
theorem qp9{f:Nat→Nat}:∀l:List Nat,(∀x∈l,f x≤6)→(l.map f).sum≤6*l.length
 | [],_=>Nat.zero_le _
 |x::l,h=>by
  have h1:=h x List.mem_cons_self
  have h2:=qp9 l fun y hy=>h y (List.mem_cons_of_mem _ hy)
  rw[List.map_cons,List.sum_cons,List.length_cons]
  omega
theorem MS.cl.meas{m:MS}(h:m.cl):q1n m.P (q7G m.c m.il m.P)≤18:=by
 unfold q1n
 refine Nat.le_trans (qp9 _ fun t _=> ?_) ?_
 ·unfold q6q
  split
  ·rename_i th p hth hp
   have:p.length≤6:=by
    have hm:=List.mem_of_getElem? hp
    obtain⟨y,hy,rfl⟩:=List.mem_map.1 hm
    obtain⟨x,hx,rfl⟩:=List.mem_map.1 hy
    exact h.len x hx
   omega
  ·omega
 ·have:=h.pl
  simp only[List.length_range,List.length_map]
  omega
section
variable{W0:World}{b x:Nat×(Obj→Prop)}{G K D Z:Own}
theorem qq1:Ent W0 (G++(K++(D++(b::Z)))) (D++Z):=qo (G++(K++ [b]))
end
section
variable{W0:World}{own:Own}{m:MS}{pa:Option Addr}{pc:Nat}{pl:List Int}
theorem qpE(h:m.cl) [e:qt own m.O]:
  q0E Tryz.prog W0 44 [qi0 m.c m.ia m.il.length m.ic m.pa m.ps.length m.pc m.ka 0 m.kc] own fun v own'=>∃y:DP×List PB×Own,
   (v= .pointer (some ⟨y.1.rb,0,none⟩)∧y.1.ok W0 (y.2.2++q9L y.2.1) (y.2.1.map PB.h) (q7G m.c m.il m.P)∧(y.2.1.map PB.h).map PH.p=m.P)∧
   Ent W0 own' (y.1.O m.c (y.2.1.map PB.h).length (q7G m.c m.il m.P)++((y.2.2++q9L y.2.1)++own)):=by
 have:=qp3 (ks:= []) (own:=own) (c:=m.c) (ic:=m.ic) (pc:=m.pc) (ka:=m.ka) (kc:=m.kc) (h.ri.up (W0:=W0)) (by have:=h.il5;omega) (h.rp.up) (by have:=h.pl;rw[List.length_map];omega) (fun y hy=>⟨(h.rq y hy).up,by
  obtain⟨x,hx,rfl⟩:=List.mem_map.1 hy
  exact q6A (h.q x hx).2⟩) RdE.nil (Nat.zero_le _)
 rw[List.length_map] at this
 exact this
theorem qp1(h:m.cl)(hP:RdE qM 1 W0 own pa pl)(hpl:pl.length≤60) [e:qt own m.O]:
  q0E Tryz.prog W0 21 [qi0 m.c m.ia m.il.length m.ic m.pa m.ps.length m.pc m.ka 0 m.kc, .slice pa pl.length pc] own fun v own'=>∃y:List Nat×Option Addr×Nat×Own,
   (v= .slice y.2.1 (y.1.map ch0).length y.2.2.1∧RdE q8x 3 W0 y.2.2.2 y.2.1 (y.1.map ch0)∧Val m.c m.P (q7G m.c m.il m.P) y.1∧q6E (qfA m.c m.P (q7G m.c m.il m.P) y.1)=true∧y.1.length≤200)∧Ent W0 own' (y.2.2.2++own):=by
 refine qa qj qn0 (by simp[qm0]) ?_
 have hrn:=fun(own':Own) [qt own' m.O]=>qpE (W0:=W0) (own:=own') h
 repeat'((try(conv=>whnf));first|(refine qc (fun b2 h2=> ?_);(apply Stop.h)))
 refine Stop.mk ?_
 repeat'((try(conv=>whnf));first|((with_reducible show qf _ _ _ _ _ _);first|((refine qm (hrn _) Ent.refl ?_ ?_ (fun y v hv=> ?_);(exact rfl);(exact rfl);(apply Stop.h))))|(refine fL ?_))
 obtain⟨r,zs,rD⟩:=y
 obtain⟨rfl,hrok,hrp⟩:=hv
 dsimp only at hrok hrp ⊢
 have hG0:=h.g0
 have hna:=h.noal
 have hP16:=h.pl16
 have hml:=qhJ hG0 hP16
 have hn0:(q7G m.c m.il m.P).n=0:=rfl
 have hT0:(q7G m.c m.il m.P).T.length=m.ps.length:=by simp[q7G]
 have hpl2:=h.pl
 have hm18:=h.meas
 generalize q7G m.c m.il m.P=s0 at*
 generalize m.P=P at*
 generalize hKr:rD++q9L zs=Kr at*
 generalize zs.map PB.h=pr at*
 refine Stop.mk ?_
 refine q0Z (σ:=List Nat×DP×(Option Addr×Nat×Own)) (fun y=> [(7, .int .i64 y.1.length),(6, .slice y.2.2.1 (y.1.map ch0).length y.2.2.2.1)])
  (fun y=>y.2.1.O m.c pr.length (qfA m.c P s0 y.1)++(Kr++(y.2.2.2.2++((b2,fun o=>o=Obj.cells (qiF m.c (.slice m.ia m.il.length m.ic) (.slice m.pa m.ps.length m.pc) (.slice m.ka 0 m.kc)) 32 (0,0))::own))))
  (fun y=>y.2.1.ok W0 Kr pr (qfA m.c P s0 y.1)∧y.2.1.rb=r.rb∧Val m.c P s0 y.1∧qr q8x 79 3 y.2.2.1 y.2.2.2.1 (y.1.map ch0) y.2.2.2.2)
  (fun y=>200-y.1.length) ([],r,(none,0,[])) ⟨hrok,rfl,trivial,qr.nil⟩ (eF) ?_ rfl ?_
 ·exact Ent.refl
 rintro⟨ts,r1,⟨ca,cc,cD⟩⟩ junk ⟨hrk1,hrb1,hV1,hB1⟩
 dsimp only at hrk1 hrb1 hV1 hB1 ⊢
 rw[←hrb1]
 clear hrb1
 obtain⟨hG1,hn1,hm1⟩:=qmC hna ts s0 hG0 hV1
 have hTl:(qfA m.c P s0 ts).T.length=2∨(qfA m.c P s0 ts).T.length=3:=by
  have h1:=hG1.tl
  have h2:=hG0.tl
  omega
 have hsn:∀t,(∃i,nxM P (qfA m.c P s0 ts) t=some i)→Val m.c P s0 (ts++ [t])∧qfA m.c P s0 (ts++ [t])=(doM m.c P (qfA m.c P s0 ts) (ch0 t)).2:=fun t=>qpH hV1
 have hts:ts.length≤18:=by omega
 have hn1':(qfA m.c P s0 ts).n≤5000:=by omega
 clear hn1 hm1
 generalize hs1:qfA m.c P s0 ts=s1 at*
 obtain⟨j,hj⟩:∃j:Nat,(ts.length:Int) % ((pl.length:Int)+1)=j:=⟨ts.length % (pl.length+1),by push_cast;rfl⟩
 have hat:=fun(own':Own) [qt own' own]=>qr5 (cap:=pc) (hP.up (own:=own')) j
 simp only[←hj] at hat
 have hpb:=qbv (pl.getD j 0) (n:=s1.T.length) (by omega)
 have hpp:=fun q=>qbG W0 q (pl.getD j 0) s1.T.length (by omega)
 obtain⟨t0,ht0⟩:=Int.eq_ofNat_of_zero_le hpb.1
 simp only[ht0] at hpp hpb
 have hl2:(ts.length:Int)<200:=by omega
 repeat'((try(conv=>whnf));first|(refine fF ?_)|((with_reducible show q0b _ _ _ _ _ _);first|((refine qq (fun ex=>hat _) ?_ ?_ ?_;(exact rfl);(exact rfl)))|((refine q6y (fun _=>hpp _) ?_)))|(refine fB ?_)|(refine fA ?_)|(refine q9M ?_ ?_;omega))
 have hdn:∀t x,s1.T[t]? =some x→dnB s1 t=x.dn:=fun t x hx=>by unfold dnB;rw[hx]
 have hT:=hrk1.t.rd (W0:=W0)
 refine q0Z (σ:=Nat×Nat) (fun z=> [(9, .int .i64 z.1),(8, .int .i64 z.2)]) (fun _=>r1.O m.c pr.length s1++(Kr++(cD++((b2,fun o=>o=Obj.cells (qiF m.c (.slice m.ia m.il.length m.ic) (.slice m.pa m.ps.length m.pc) (.slice m.ka 0 m.kc)) 32 (0,0))::own))))
  (fun z=>z.1≤s1.T.length∧z.2=(t0+z.1) % s1.T.length∧∀u,u<z.1→dnB s1 ((t0+u) % s1.T.length)=true) (fun z=>s1.T.length-z.1) (0,t0) ⟨Nat.zero_le _,(by show t0=(t0+0) % s1.T.length;rw[Nat.add_zero,Nat.mod_eq_of_lt (by omega)]),fun _ h=>absurd h (Nat.not_lt_zero _)⟩ (eF) Ent.refl rfl ?_
 rintro⟨k,t⟩ junk2 ⟨hk,ht,hu⟩
 dsimp only at hk ht hu ⊢
 have htn:t<s1.T.length:=by rw[ht];exact Nat.mod_lt _ (by omega)
 obtain⟨x,hx⟩:∃x,s1.T[t]? =some x:=⟨_,List.getElem?_eq_getElem htn⟩
 have hdx:=hdn t x hx
 obtain⟨xp,xr,xo,xd⟩:=x
 have hkn:(k:Int)<s1.T.length∨¬(k:Int)<s1.T.length:=by omega
 cases xd with
 |true=>
  rcases hkn with hkn|hkn
  ·obtain⟨t',ht'⟩:∃t':Nat,t'=(t+1) % s1.T.length:=⟨_,rfl⟩
   have ht2:((t:Int)+1) % (s1.T.length:Int)=(t':Int):=by rw[ht'];push_cast;rfl
   repeat'((try(conv=>whnf));first|(refine fH ?_)|(refine fE ?_)|(refine fJ ?_)|((with_reducible show Ld _ _ _ _);first|(refine qgp hT hx rfl ?_))|((with_reducible show IxS _ _ _ _ _);first|((refine ixE hT hx ?_ ?_;(first|rfl|omega))))|(refine fB ?_)|(refine fA ?_)|(refine q9M ?_ ?_;omega))
   all_goals
    refine⟨(k+1,t'),⟨by show k+1≤_;omega,?_,fun u hu2=> ?_⟩,(by show s1.T.length-(k+1)<s1.T.length-k;omega),(eF),Ent.refl⟩
    ·show t'=(t0+(k+1)) % s1.T.length
     rw[ht',ht,Nat.mod_add_mod,Nat.add_assoc]
    ·have hu2:u<k+1:=hu2
     by_cases hu3:u<k
     ·exact hu u hu3
     ·obtain rfl:u=k:=by omega
      rw[←ht]
      exact hdx
  ·have hkN:k=s1.T.length:=by omega
   have hdone:=qql hTl (by omega) fun u hu2=>hu u (by omega)
   repeat'((try(conv=>whnf));first|(refine fI ?_)|(refine fE ?_)|(refine fD ?_)|(refine fK ?_)|((with_reducible show Ld _ _ _ _);first|(refine qgp hT hx rfl ?_))|((with_reducible show IxS _ _ _ _ _);first|((refine ixE hT hx ?_ ?_;(first|rfl|omega))))|(refine fA ?_))
   all_goals exact⟨(ts,ca,cc,cD),⟨rfl,hB1.rd,hV1,by rw[hs1];exact hdone,by show ts.length≤200;omega⟩,qq1 (G:=r1.O m.c pr.length s1)⟩
 |false=>
  obtain⟨i,hi⟩:=qh2 hG1 hdx
  obtain⟨hV2,hs2⟩:=hsn t ⟨i,hi⟩
  obtain⟨hc0,hG2, -⟩:(doM m.c P s1 ⟨t,0,[]⟩).1=0∧_:=q3Z hG1 hna hi (.inl rfl)
  have hdo:=fun(Q:Own) [qt Q Kr]=>qqe (c:=m.c) (aa:=none) (ad:= []) (ac:=0) rfl hrk1 hG1 hrp hn1' t 0 (K:= []) RdE.nil (Nat.zero_le _) (fun _ h=>by cases h) Q
  have hlm:(ts.map ch0).length=ts.length:=List.length_map ..
  have hlen:((ts++ [t]).map ch0).length=(ts.map ch0).length+1:=by simp
  have hlen2:(ts++ [t]).length=ts.length+1:=by simp
  have hdx':dnB s1 t=false:=hdx
  generalize hs3:doM m.c P s1 ⟨t,0,[]⟩=z at*
  obtain⟨zc,s2⟩:=z
  dsimp only at hdo hG2 hc0 hs2
  rcases hkn with hkn|hkn
  all_goals
   repeat'((try(conv=>whnf));first|(refine fH ?_)|(refine fI ?_)|(refine fD ?_)|(refine fJ ?_)|(refine fK ?_)|(apply q69 (enc:=q8x) (T:=79) (ch0 t) hB1;(exact rfl);(exact rfl);(omega);(exact rfl);(exact rfl);(omega);intro a2 c2 D2 hb2)|((with_reducible show Ld _ _ _ _);first|(refine qgp hT hx rfl ?_))|((with_reducible show IxS _ _ _ _ _);first|((refine ixE hT hx ?_ ?_;(first|rfl|omega))))|((with_reducible show qf _ _ _ _ _ _);first|((refine qm (hdo _) Ent.refl ?_ ?_ (fun r2 v hv=> ?_);(exact rfl);(exact rfl);(obtain⟨rfl,hrk2,hrb2⟩:=hv))))|(refine fB ?_)|(refine fA ?_)|(refine qc (fun bk hbk=> ?_)))
  all_goals
   refine⟨(ts++ [t],r2,(a2,c2,D2)),⟨?_,hrb2,hV2,by rw[List.map_append];exact hb2⟩,(by show 200-(ts++ [t]).length<200-ts.length;omega),?_,?_⟩
   ·show r2.ok W0 Kr pr (qfA m.c P s0 (ts++ [t]))
    rw[hs2]
    exact hrk2
   ·dsimp only
    rw[hlen,hlen2]
    exact(eF)
   ·dsimp only
    rw[hs2]
    exact Ent.drop
end
open Go
section
variable{W0:World}{own:Own}{la:Option Addr}{lc:Nat}{ls:List IH}
theorem qr0{m:MS}(hF:q0A W0)(hN:q1s W0 0 Ord.noneV)(h:m.cl) [e:qt own m.O]{fa:Option Addr}{fc:Nat}{fo:List Int}(hfo:RdE qM 1 W0 own fa fo)(lim:Int):
  q0E Tryz.prog W0 13 [qi0 m.c m.ia m.il.length m.ic m.pa m.ps.length m.pc m.ka 0 m.kc, .slice fa fo.length fc, .int .i64 lim] own fun v own'=>∃y:Option Addr×Nat×Own,
   (v= .tuple #[.agg #[.bool (q5x m.c m.il (m.ps.map PB.h) fo lim).1.racy, .slice y.1 (q5x m.c m.il (m.ps.map PB.h) fo lim).1.found.length y.2.1, .int .i64 (q5x m.c m.il (m.ps.map PB.h) fo lim).1.runs], .int .i64 (q5x m.c m.il (m.ps.map PB.h) fo lim).2]∧RdE q8x 3 W0 y.2.2 y.1 (q5x m.c m.il (m.ps.map PB.h) fo lim).1.found)∧Ent W0 own' (y.2.2++own):=by
 have:=qch (ks:= []) (c:=m.c) (ic:=m.ic) (pc:=m.pc) (ka:=m.ka) (kc:=m.kc) (fc:=fc) hF hN (h.ri.up (W0:=W0) (own:=own)) h.il5 h.ilu h.rp.up (by have:=h.pl;rw[List.length_map];omega) (fun x hx=>(h.rq x hx).up) hfo lim
 rw[List.length_map] at this
 exact this
end
open Go
theorem qor{c:Cfg}{P:List (List Ins)}(hna:qfn P):∀(ts:List Nat) (s:GS) (k:Nat),GOk c P s→Val c P s ts→qce c P (ts.map ch0) k s= .inl (qfA c P s ts)
 | [],_,_,_,_=>rfl
 |t::ts,s,k,hG,⟨⟨i,hi⟩,h2⟩=>by
  obtain⟨h0,h1, -⟩:(doM c P s (ch0 t)).1=0∧GOk c P (doM c P s (ch0 t)).2∧_:=q3Z hG hna hi (.inl rfl)
  rw[List.map_cons,qce,if_pos h0]
  exact qor hna ts _ (k+1) h1 h2
theorem qpw{m:MS}(h:m.cl){ts:List Nat}(hV:Val m.c m.P (q7G m.c m.il m.P) ts)(hd:q6E (qfA m.c m.P (q7G m.c m.il m.P) ts)=true):
  ∃s',qnJ m.c m.il (m.ps.map PB.h) (ts.map ch0)=(s',0,0)∧SzG s'∧((∀s' l',qex m.c m.P [] (q7G m.c m.il m.P) [] s' l'→rcC m.ps.length s'.E=false)→rcC m.ps.length s'.E=false):=by
 have hr:=qor h.noal ts _ 0 h.g0 hV
 obtain⟨hG1,hn1,hm1⟩:=qmC h.noal ts _ h.g0 hV
 have hml:=qhJ h.g0 h.pl16
 have hn0:(q7G m.c m.il m.P).n=0:=rfl
 refine⟨qfA m.c m.P (q7G m.c m.il m.P) ts,?_,hG1.sz (by omega) h.pl16,fun hA=> ?_⟩
 ·unfold qnJ
  rw[h.cs0,if_neg (by simp),hr]
  rfl
 ·obtain⟨s',l',hL,he⟩:=qpW (fo:= []) h.noal _ _ ts h.g0 (Nat.lt_succ_self _) hV hd (q7G m.c m.il m.P) [] EqS.refl h.g0
  have h1:EvS (qfA m.c m.P (q7G m.c m.il m.P) ts):=qoX ts _ qoP
  rw[←qqX he h1 (hL.evS qoP)]
  exact hA s' l' hL
section
variable{W0:World}{own:Own}{la:Option Addr}{lc:Nat}{ls:List IH}{pa:Option Addr}{pc:Nat}{pl:List Int}
theorem qoZ(hF:q0A W0)(hN:q1s W0 0 Ord.noneV)(w o:Int)(hL:RdE IH.enc 1 W0 own la ls)(hll:ls.length≤17592186043904)(hQ:∀h∈ls,RdE qM 1 W0 own h.a h.l∧h.l.length≤17592186043904)(hP:RdE qM 1 W0 own pa pl):
  qD Tryz.prog W0 6 [.int .i64 w, .int .i64 o, .slice la ls.length lc, .slice pa pl.length pc] own (.bool true):=by
 refine qe (qa qj qmr (by simp[qs]) ?_)
 have haw:=fun own=>qkm (W0:=W0) (own:=own) hF hN
 have hlo:=fun(own':Own) [qt own' own]=>qqc (lc:=lc) (own:=own') hL.up hll (fun h hh=>(hQ h hh).2)
 repeat'((try(conv=>whnf));first|((with_reducible show qf _ _ _ _ _ _);first|((refine qm (hlo _) Ent.refl ?_ ?_ (fun z v hv=> ?_);(exact rfl);(exact rfl);(apply Stop.h)))))
 obtain⟨rfl,hz⟩:=hv
 refine Stop.mk ?_
 by_cases hb:z=false∧(pl.length:Int)≤60
 ·obtain⟨rfl,hpl⟩:=hb
  obtain⟨hl3,hl24⟩:=hz rfl
  have hpl':¬(pl.length:Int)>60:=by omega
  have hcl:=fun(own':Own) [qt own' own]=>qoY (lc:=lc) (own:=own') w o hL.up hl3 (fun h hh=>⟨(hQ h hh).1.up,hl24 h hh⟩)
  repeat'((try(conv=>whnf));first|(refine fH ?_)|(refine fG ?_)|((with_reducible show qf _ _ _ _ _ _);first|((refine qm (hcl _) Ent.refl ?_ ?_ (fun m v hv=> ?_);(exact rfl);(exact rfl);(apply Stop.h)))))
  obtain⟨rfl,hm, -⟩:=hv
  refine Stop.mk ?_
  have hA:=hm.ans (fo:= []) (lim:=150) (by simp) (by simp) (by omega)
  have hex:=fun(own':Own) [qt own' m.O]=>qr0 (own:=own') (fa:=none) (fc:=0) hF hN hm RdE.nil 150
  have hPl:m.P.length=m.ps.length:=by simp
  generalize q5x m.c m.il (m.ps.map PB.h) [] 150=R at*
  obtain⟨⟨runs,racy,many,found⟩,re⟩:=R
  obtain⟨hA1,hA2,hA3,hA4⟩:=hA
  dsimp only at hA1 hA2 hA4 hex
  rw[hPl] at hA4
  clear hA3
  repeat'((try(conv=>whnf));first|(refine qc (fun b7 h7=> ?_);(apply Stop.h)))
  refine Stop.mk ?_
  repeat'((try(conv=>whnf));first|((with_reducible show qf _ _ _ _ _ _);first|((refine qm (hex _) Ent.refl ?_ ?_ (fun y v hv=> ?_);(exact rfl);(exact rfl);(apply Stop.h))))|(refine fL ?_)|(refine fM ?_))
  obtain⟨rfl,hy⟩:=hv
  obtain⟨ya,yc,yD⟩:=y
  dsimp only at hy
  refine Stop.mk ?_
  repeat'((try(conv=>whnf));first|(refine qc (fun b8 h8=> ?_);(apply Stop.h))|(refine fO ?_))
  refine Stop.mk ?_
  by_cases he:re=0
  ·subst he
   cases racy with
   |true=>
    repeat'((try(conv=>whnf));first|(refine fH ?_)|(refine fI ?_)|(refine fE ?_)|((with_reducible show qf _ _ _ _ _ _);first|((refine qh (haw _) ?_ ?_ ?_;(exact rfl);exact rfl)))|(refine fA ?_)|(refine fM ?_))
    all_goals exact⟨rfl,(eC)⟩
   |false=>
    have hA5:=hA4 rfl rfl
    clear hA1 hA2 hA4
    have hra:=fun(own':Own) [qt own' m.O] [qt own' own]=>qp1 (own:=own') (pc:=pc) hm (hP.up (own:=own')) (by omega)
    repeat'((try(conv=>whnf));first|(refine fH ?_)|(refine fD ?_)|((with_reducible show qf _ _ _ _ _ _);first|((refine qm (hra _) Ent.refl ?_ ?_ (fun z v hv=> ?_);(exact rfl);(exact rfl);(obtain⟨ts,za,zc,zD⟩:=z;obtain⟨rfl,hz,hV,hd,hl⟩:=hv;dsimp only at hz hV hd hl);(apply Stop.h))))|(refine fA ?_)|(refine fL ?_)|(refine fM ?_)|(refine qc (fun bk hbk=> ?_))|(refine q4T.mk ?_ ?_))
    all_goals
     refine Stop.mk ?_
     obtain⟨s',ho,hz2,hrc⟩:=qpw hm hV hd
     have hrc:=hrc hA5
     have hrr:=fun(own':Own) [qt own' m.O] [qt own' zD]=>qpz (own:=own') (cc:=zc) hm (hz.up) (fun x hx=>by obtain⟨t, -,rfl⟩:=List.mem_map.1 hx;rfl) (by rw[List.length_map];omega)
     rw[ho] at hrr
     dsimp only at hrr
     have hfs:=fun(r:RG) (hr:r.ok W0 s') (own':Own) (e:qt own' r.D)=>qqf (own:=own') (hr.at (e.h W0)) hz2 m.ps.length
     have hrc':¬0≤(Ord.frR (s'.E.map evH) m.ps.length).2.1:=by rw[qjI] at hrc;exact of_decide_eq_false hrc
     generalize Ord.frR (s'.E.map evH) m.ps.length=fr at*
     obtain⟨f1,f2,f3⟩:=fr
     dsimp only at hrc' hfs
     have hf:f2<0:=by omega
     repeat'((try(conv=>whnf));first|(refine fH ?_)|(refine fJ ?_)|(refine qc (fun bg hbg=> ?_))|((with_reducible show qf _ _ _ _ _ _);first|((refine qm (hrr _) Ent.refl ?_ ?_ (fun r v hv=> ?_);(exact rfl);(exact rfl);(obtain⟨rfl,hr⟩:=hv)))|((refine qh (hfs r hr _ inferInstance) ?_ ?_ ?_;(exact rfl);exact rfl))|((refine qh (haw _) ?_ ?_ ?_;(exact rfl);exact rfl)))|(refine fO ?_)|(refine fA ?_)|(refine fL ?_)|(refine fM ?_)|(refine q4T.mk ?_ ?_))
     all_goals exact⟨rfl,(eC)⟩
  ·have h80:re=80:=by omega
   have hss:=(hA1.resolve_left he).2
   simp only[ss0,SS.mk.injEq] at hss
   obtain⟨rfl,rfl,rfl,rfl⟩:=hss
   clear hA1 hA2 hA4
   subst h80
   repeat'((try(conv=>whnf));first|(refine fH ?_)|(refine fI ?_)|(refine fE ?_)|((with_reducible show qf _ _ _ _ _ _);first|((refine qh (haw _) ?_ ?_ ?_;(exact rfl);exact rfl)))|(refine fM ?_))
   all_goals exact⟨rfl,(eC)⟩
 ·cases z with
  |true=>
   repeat'((try(conv=>whnf));first|(refine fI ?_)|(refine fE ?_)|((with_reducible show qf _ _ _ _ _ _);first|((refine qh (haw _) ?_ ?_ ?_;(exact rfl);exact rfl))))
   all_goals exact⟨rfl,(eC)⟩
  |false=>
   have hpl:(pl.length:Int)>60:=by
    have:¬(pl.length:Int)≤60:=fun h=>hb ⟨rfl,h⟩
    omega
   repeat'((try(conv=>whnf));first|(refine fH ?_)|(refine fF ?_)|((with_reducible show qf _ _ _ _ _ _);first|((refine qh (haw _) ?_ ?_ ?_;(exact rfl);exact rfl))))
   all_goals exact⟨rfl,(eC)⟩
end
open Go Go.ChangeShapes Go.WideShapes Go.ChangeAt Go.RowKit
theorem qoL{W:World}(h:laidMetH Tryz.prog [("strongtx/tdrf.none",Rows.laid_strongtx_tdrf_none),("strongtx/isa.forms",Rows.laid_strongtx_isa_forms)] W):q0A W:=
 qoN (d:=Rows.laid_strongtx_isa_forms) (g:=2) (t:=240) (cs:=qjp) (by kernel_rfl) h (List.Mem.tail _ (List.Mem.head _)) (by kernel_rfl) (by kernel_rfl) (by kernel_rfl) (by kernel_rfl) (by simp[qjp])
theorem qq4{W:World}(h:laidMetH Tryz.prog [("strongtx/tdrf.none",Rows.laid_strongtx_tdrf_none),("strongtx/isa.forms",Rows.laid_strongtx_isa_forms)] W):q1s W 0 Ord.noneV:=
 qoN (d:=Rows.laid_strongtx_tdrf_none) (g:=0) (t:=56) (cs:=Ord.noneV) (by kernel_rfl) h (List.Mem.head _) (by kernel_rfl) (by kernel_rfl) (by kernel_rfl) (by kernel_rfl) (by simp[Ord.noneV])
end Go.Proofs.YtkieffpjjfebjaaGreatDoor
