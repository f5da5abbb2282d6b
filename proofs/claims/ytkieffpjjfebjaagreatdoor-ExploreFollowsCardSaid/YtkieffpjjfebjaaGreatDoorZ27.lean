/- What the laws share, part 27. No condition. -/
import Derived.Test.YtkieffpjjfebjaaGreatDoorZ26
set_option maxHeartbeats 8000000
set_option maxRecDepth 10000
namespace Go.Proofs.YtkieffpjjfebjaaGreatDoor
namespace Ord
open Go
def hsS(q:Nat)(l:List Int)(t:Nat)(x:Int×Int)(H:Nat→List (Int×Int))(j:Nat):List (Int×Int):=if j % 4=q∧l.contains ((j/4:Nat):Int)=true then(H j).set t x else H j
theorem qaq{q t n j:Nat}{l:List Int}{x:Int×Int}{H:Nat→List (Int×Int)}(h:∀j,(H j).length=n):(hsS q l t x H j).length=n:=by
 unfold hsS
 split
 ·rw[List.length_set,h]
 ·exact h j
theorem qbf{bs:Nat→Nat}{q t w:Nat}{l:List Int}{x:Int×Int}{H:Nat→List (Int×Int)}(hq:q<4):
  q4t bs (fun j=>if j=4*w+q then(hsS q l t x H (4*w+q)).set t x else hsS q l t x H j) 256=q4t bs (hsS q (l++ [(w:Int)]) t x H) 256:=q1p fun j _=>⟨rfl,by
  by_cases hj:j=4*w+q
  ·rw[if_pos hj]
   subst hj
   have e1:(4*w+q) % 4=q:=by omega
   have e2:(4*w+q)/4=w:=by omega
   unfold hsS
   rw[e1,e2,if_pos (c:=q=q∧(l++ [(w:Int)]).contains (w:Int)=true) ⟨rfl,by simp⟩]
   split
   ·rw[List.set_set]
   ·rfl
  ·rw[if_neg hj]
   unfold hsS
   have e:(j % 4=q∧l.contains ((j/4:Nat):Int)=true)↔(j % 4=q∧(l++ [(w:Int)]).contains ((j/4:Nat):Int)=true):=by
    simp only[List.contains_iff_mem,List.mem_append,List.mem_singleton]
    constructor
    ·exact fun h=>⟨h.1, .inl h.2⟩
    ·rintro⟨h1,h2|h2⟩
     ·exact⟨h1,h2⟩
     ·omega
   simp only[e]⟩
theorem qdo{q t:Nat}{x:Int×Int}{H:Nat→List (Int×Int)}:hsS q [] t x H=H:=by
 funext j
 unfold hsS
 rw[if_neg (by simp)]
theorem qhz{bs:Nat→Nat}{L:List EH}{e:EH}{n t:Nat}(ht:e.t=t)(h4:e.k=4):
  q4t bs (hsS 3 e.wl t ((L.length:Int),(q0B L t L.length:Int)+1) (hsS 2 e.rl t ((L.length:Int),(q0B L t L.length:Int)+1) (q1S L n))) 256=q4t bs (q1S (L++ [e]) n) 256:=q1p fun j _=>⟨rfl,by
  rw[qbc ht]
  unfold hsS qhy
  simp only[h4]
  by_cases h2:j % 4=2
  ·simp[h2]
  ·by_cases h3:j % 4=3
   ·simp[h3]
   ·have h5:¬(j % 4=3∧e.wl.contains ((j/4:Nat):Int)=true):=fun h=>h3 h.1
    have h6:¬(j % 4=2∧e.rl.contains ((j/4:Nat):Int)=true):=fun h=>h2 h.1
    rw[if_neg h5,if_neg h6]
    have:j % 4=0∨j % 4=1:=by omega
    rcases this with h|h <;>simp[h]⟩
theorem qj2{W0:World}{D1 X r0 A D:Own}{e1 e2 e3 e4:Nat×(Obj→Prop)}:Ent W0 (D1++(e1::((e2::e3::e4::(D++(A++X)))++r0))) (e1::((e2::e3::e4::(D++(A++(D1++X))))++r0)):=by
 refine Ent.of_perm ?_
 have h:(D1++(e1::e2::e3::e4::(D++(A++(X++r0))))).Perm (e1::e2::e3::e4::(D++(A++(D1++(X++r0))))):=by
  have h1:∀(P Q:Own),(D1++(P++Q)).Perm (P++(D1++Q)):=fun P Q=>by
   rw[←List.append_assoc,←List.append_assoc]
   exact List.perm_append_comm.append_right Q
  have h2:=h1 [e1,e2,e3,e4] (D++(A++(X++r0)))
  refine h2.trans (List.Perm.append_left [e1,e2,e3,e4] ((h1 D _).trans (List.Perm.append_left D (h1 A _))))
 simpa using h
section
variable{W0:World}{r0:Own}{at1:Int}{cb eb sb bb n sc:Nat}{bs:Nat→Nat}{B S:List Sl}{D X:Own}
theorem q8c{l:List Sl}:∀x∈l,(q2Q x).length=1:=fun _ _=>rfl
theorem qif{L:List EH}{e:EH}{t bc:Nat}{ba:Addr}(hw:Wf (L++ [e]) n)(hw0:Wf L n)(h4:e.k=4)(ht:e.t=t)(htn:t<n)(hn:n≤16)(hL:L.length≤65536)(hE:EvR W0 r0 e)
  (hN:q1s W0 0 noneV) (hS:qr q2Q 23 1 (some ⟨sb,0,none⟩) sc S D) (hSl:n=S.length) (hBl:n=B.length) (hb:B[t]? =some (some ba,n,bc)) (hbr:RdE qM 1 W0 X (some ba) (qbV L n t)):
  q0E Tryz.prog W0 86 [.pointer (some ⟨cb,0,none⟩),e.v] (ckO L.length at1 (frst L) (q0d L n) (q1S L n) cb eb sb bb n sc bs B D X++r0) fun v own'=>∃s:Option Addr×Nat×Own×Own,(v= .tuple #[]∧qr qM 3 1 s.1 s.2.1 (q0d (L++ [e]) n) s.2.2.1∧qr q2Q 23 1 (some ⟨sb,0,none⟩) sc (S.set t (s.1,n,s.2.1)) s.2.2.2)∧
   Ent W0 own' (ckO L.length at1 (frst (L++ [e])) (q0d (L++ [e]) n) (q1S (L++ [e]) n) cb eb sb bb n sc bs B s.2.2.2 (s.2.2.1++X)++r0):=by
 refine qa qj q4g (by simp[q0z]) ?_
 have hEn:(q0d L n)[t]? =some (q0B L t L.length:Int):=q0Y htn
 have hEl:n=(q0d L n).length:=qP.symm
 have hcl:(qbV L n t).length=n:=qP
 have hcn:=qak (l:=L) (t:=t) L.length
 have htou:q8j e=cmp (srt (e.rl++e.wl)):=by unfold q8j;rw[if_neg (by omega)]
 have hrng:∀x∈q8j e,0≤x∧x<64:=by
  have:=q9b (y:=L.length) hw (by simp)
  rwa[q2b] at this
 have hlen:=(q3m e).2.2
 have hrb:=hE.rb
 have hwb:=hE.wb
 have htst:=fun(own':Own) (Cf:(Obj→Prop)→Own) (r:q0G) (w:Nat) (hw64:w<64) (i0:UpC cb (fun o=>o=Obj.cells (ckL L.length at1 eb sb bb n sc (q7M bs n) r).toArray 151 (0,0)) own' Cf) (i1:qt own' [ckN L.length at1 cb eb sb bb n sc bs r]) (i2:qt own' (q4t bs (q1S L n) 256)) (i3:qt own' X)=>qel (e:=e) (wr:=e.wl.contains (w:Int)) (cc:=bc) hw64 hn hcl hbr (u:=i0) (i1:=i1) (i2:=i2) (i3:=i3)
 have hrc:=fun(w:Int) (hm:w∈q8j e)=>qf0 hw h4 hm
 have hcont:=fun(own':Own) [qt own' r0] (w:Int)=>q4O (W0:=W0) (own:=own') (cap:=e.wc) hE.w.up hE.wn w
 have hnone:=fun h0 h=>qao (l:=L) (e:=e) hw hw0 h0 h
 have hhit:=fun h0 i w r h1 h2 h3=>qgl (l:=L) (e:=e) (i:=i) (w:=w) (r:=r) hw hw0 h0 (by omega) h1 h2 h3
 have hends:(q0d L n).set t ((q0B L t L.length:Int)+1)=q0d (L++ [e]) n:=qd3 ht h4
 have hacc:=qhz (bs:=bs) (L:=L) (n:=n) ht h4
 have hEr:=hE.r
 have hEw:=hE.w
 have hrW:∀(own':Own) [qt own' r0],EvR W0 own' e:=fun own' _=>hE.up
 have hri:e.rl.all inW=true∧e.wl.all inW=true:=by
  have:=hw.kd L.length (by simp)
  rw[q2b] at this
  exact this.2.2.2.2.2
 clear hE
 obtain⟨ev,tt,k,wd,ra,rl,rc,wa,wl,wc⟩:=e
 dsimp only[EH.v] at*
 subst ht h4
 generalize hrN:frst (L++ [_])=rN at*
 repeat'((try(conv=>whnf));first|(refine qc (fun b3 hb3=> ?_);(apply Stop.h)))
 refine Stop.mk ?_
 repeat'((try(conv=>whnf));first|((with_reducible show qf _ _ _ _ _ _);first|((refine qZ (qdV (bq:=bk) (hEr.up) (hEw.up) (by omega)) ?_ ?_ (fun s v hv=> ?_);(exact rfl);(exact rfl);(obtain⟨a0,c0,D0⟩:=s;obtain⟨rfl,hB0⟩:=hv;dsimp only at hB0);(apply Stop.h))))|(refine fA ?_)|(refine qc (fun bk hbk=> ?_)))
 refine Stop.mk ?_
 have hll:(rl++wl).length=rl.length+wl.length:=List.length_append
 have hso:=fun own' (C:Own→Own) (hat:At D0 own' C)=>qib (W0:=W0) hB0 hat (by omega)
 repeat'((try(conv=>whnf));first|((with_reducible show qf _ _ _ _ _ _);first|((refine qZ (hso _ _ At.head) ?_ ?_ (fun s v hv=> ?_);(exact rfl);(exact rfl);(obtain⟨rfl,hB1⟩:=hv);(apply Stop.h)))))
 refine Stop.mk ?_
 have hsl:=q7g (rl++wl)
 have hco:=fun own' (C:Own→Own) (hat:At s own' C)=>qck (W0:=W0) hB1 hat (by omega) (q8h (rl++wl))
 rw[hsl] at hco
 rw[←htou] at hco
 refine q4H (σ:=Unit) 4503599626321984 (fun _=> []) (fun _=>(b3,fun o=>o=Obj.cells #[.int .i64 ev, .int .i64 t, .int .i64 4, .int .i64 wd, .slice ra rl.length rc, .slice wa wl.length wc] 116)::(ckO L.length at1 rN (q0d L n) (q1S L n) cb eb sb bb n sc bs B D X++r0)) (fun _=>True) rfl ?_ (fun _ junk _=> ?_)
 ·clear hends hacc hrW hri hEr hEn
  generalize hT:q8j _=T at*
  repeat'((try(conv=>whnf));first|((with_reducible show qf _ _ _ _ _ _);first|((refine qZ (hco _ _ At.head) ?_ ?_ (fun s2 v hv=> ?_);(exact rfl);(exact rfl);(obtain⟨rfl,hB2⟩:=hv);(apply Stop.h)))))
  refine Stop.mk ?_
  have hR2:RdE qM 1 W0 s2 a0 T:=hB2.rd
  clear hco hso hB2 hB1 hB0
  rcases q8B (l:=L) with ⟨h1,h2⟩|⟨h1,h2⟩
  ·rw[h1]
   refine q1N (σ:=Nat) (fun i=> [(23, .int .i64 i)]) (fun i=>i≤T.length∧∀j w',j<i→T[j]? =some w'→rcL (L++ [(⟨ev,(t:Int),4,wd,ra,rl,rc,wa,wl,wc⟩:EH)]) L.length w' L.length= []) (fun i=>T.length-i) 0 ⟨by omega,fun j w' hj=>by omega⟩ (eF) rfl ?_
   rintro i junk ⟨hi,hpre⟩
   by_cases hlt:i<T.length
   ·obtain⟨x,hx⟩:∃x,T[i]? =some x:=⟨_,List.getElem?_eq_getElem hlt⟩
    have hxm:=List.mem_of_getElem? hx
    have hxr:=hrng x hxm
    have hlt':(i:Int)<T.length:=by omega
    obtain⟨w,rfl⟩:∃w:Nat,x=w:=⟨x.toNat,by omega⟩
    have hr1:=(hrc w hxm).1
    have hr2:=(hrc w hxm).2
    have ht1:=fun(own':Own) (Cf:(Obj→Prop)→Own)=>htst own' Cf nnR w (by omega)
    have hh:=fun r=>hhit h2 i w r hx hpre
    generalize qap L n _ _ _ _=p at*
    have hcw:=fun(own':Own) [qt own' r0]=>hcont own' (w:Int)
    generalize wl.contains (w:Int)=zc at*
    by_cases hp:0≤p
    ·simp only[if_pos hp,decide_eq_true hp] at ht1
     have hrN2:=hh _ (hr2 hp)
     subst hrN2
     repeat'((try(conv=>whnf));first|(refine fH ?_)|(refine fE ?_)|(refine fF ?_)|(refine q42 ?_ ?_;(exact rfl))|(refine q15 hN _ rfl rfl ?_)|(refine q7Z (by simp[eqC,q1w]) ?_)|((with_reducible show Ld _ _ _ _);first|(refine q1M hR2 hx rfl ?_)|(refine qbj q8c hb rfl ?_))|((with_reducible show IxS _ _ _ _ _);first|((refine ixE hR2 hx ?_ ?_;(first|rfl|omega)))|((refine ixC hb hBl ?_ ?_;(first|rfl|omega))))|((with_reducible show qf _ _ _ _ _ _);first|((refine q6x (ht1 _ _ inferInstance inferInstance inferInstance inferInstance) ?_ ?_ ?_;(exact rfl);(exact rfl))))|((with_reducible show q0b _ _ _ _ _ _);first|(((refine qq (fun ex=>hcw (ex++_)) ?_ ?_ ?_;(exact rfl);exact rfl))))|(refine fA ?_)|(refine fL ?_))
     exact⟨(),trivial,trivial,Ent.app (Ent.cons Ent.refl)⟩
    ·simp only[if_neg hp,decide_eq_false hp] at ht1
     have hr3:=hr1 (by omega)
     repeat'((try(conv=>whnf));first|(refine fH ?_)|(refine fD ?_)|(refine fF ?_)|(refine q42 ?_ ?_;(exact rfl))|(refine q15 hN _ rfl rfl ?_)|(refine q7Z (by simp[eqC,q1w]) ?_)|((with_reducible show Ld _ _ _ _);first|(refine q1M hR2 hx rfl ?_)|(refine qbj q8c hb rfl ?_))|((with_reducible show IxS _ _ _ _ _);first|((refine ixE hR2 hx ?_ ?_;(first|rfl|omega)))|((refine ixC hb hBl ?_ ?_;(first|rfl|omega))))|((with_reducible show qf _ _ _ _ _ _);first|((refine q6x (ht1 _ _ inferInstance inferInstance inferInstance inferInstance) ?_ ?_ ?_;(exact rfl);(exact rfl))))|((with_reducible show q0b _ _ _ _ _ _);first|(((refine qq (fun ex=>hcw (ex++_)) ?_ ?_ ?_;(exact rfl);exact rfl))))|(refine fB ?_)|(refine fA ?_)|(refine fL ?_))
     refine⟨i+1,⟨by omega,fun j w' hj hw'=> ?_⟩,by omega,(eF),(eC)⟩
     by_cases hji:j=i
     ·subst hji
      rw[hx] at hw'
      rw[←Option.some.inj hw']
      exact hr3
     ·exact hpre j w' (by omega) hw'
   ·have hlt':¬(i:Int)<T.length:=by omega
    have hrN2:=hnone h2 (fun _ w hwm=>by
     obtain⟨j,hj⟩:=List.getElem?_of_mem hwm
     exact hpre j w (by have:=(List.getElem?_eq_some_iff.1 hj).1;omega) hj)
    subst hrN2
    repeat'((try(conv=>whnf));first|(refine fG ?_))
    exact⟨(),trivial,trivial,Ent.app (Ent.cons Ent.refl)⟩
  ·have hfe:=q8C (e:=(⟨ev,(t:Int),4,wd,ra,rl,rc,wa,wl,wc⟩:EH)) hw0 h2
   rw[hrN] at hfe
   have hno:eqC [0,0,0] (encRc (frst L)) (encRc nnR)=some false:=by rw[qjk,decide_eq_false h1]
   rw[←hfe] at hno ⊢
   clear hfe
   refine q1N (σ:=Nat) (fun i=> [(23, .int .i64 i)]) (fun i=>i≤T.length) (fun i=>T.length-i) 0 (by omega) (eF) rfl ?_
   intro i junk hi
   by_cases hlt:i<T.length
   ·obtain⟨x,hx⟩:∃x,T[i]? =some x:=⟨_,List.getElem?_eq_getElem hlt⟩
    have hlt':(i:Int)<T.length:=by omega
    repeat'((try(conv=>whnf));first|(refine fI ?_)|(refine fD ?_)|(refine fF ?_)|(refine q42 ?_ ?_;(exact rfl))|(refine q15 hN _ rfl rfl ?_)|(refine qhm hno ?_)|((with_reducible show Ld _ _ _ _);first|(refine q1M hR2 hx rfl ?_))|((with_reducible show IxS _ _ _ _ _);first|((refine ixE hR2 hx ?_ ?_;(first|rfl|omega))))|(refine fB ?_))
    exact⟨i+1,by omega,by omega,(eF),(eC)⟩
   ·have hlt':¬(i:Int)<T.length:=by omega
    repeat'((try(conv=>whnf));first|(refine fG ?_))
    exact⟨(),trivial,trivial,Ent.app (Ent.cons Ent.refl)⟩
 ·clear hrc htst hnone hhit hcont hso hco hB0 hB1 hrng hlen htou
  repeat'((try(conv=>whnf));first|(refine stC (T:=3) (k:=0) ((q0B L t L.length:Int)+1) q3L hEn ?_ ?_ ?_ ?_ ?_;(exact rfl);(omega);(exact rfl);(exact rfl);(apply Stop.h))|((with_reducible show Ld _ _ _ _);first|(refine qbj q3L hEn rfl ?_))|((with_reducible show IxS _ _ _ _ _);first|((refine ixC hEn hEl ?_ ?_;(first|rfl|omega))))|(refine fB ?_)|(refine fA ?_))
  refine Stop.mk ?_
  rw[hends]
  have hEl':n=(q0d (L++ [(⟨ev,(t:Int),4,wd,ra,rl,rc,wa,wl,wc⟩:EH)]) n).length:=qP.symm
  have hEn':(q0d (L++ [(⟨ev,(t:Int),4,wd,ra,rl,rc,wa,wl,wc⟩:EH)]) n)[t]? =some ((q0B L t L.length:Int)+1):=by rw[←hends,List.getElem?_set,if_pos rfl,if_pos (by omega)]
  have hclo:=fun(own':Own) [qt own' [q2J qM 3 eb (q0d (L++ [(⟨ev,(t:Int),4,wd,ra,rl,rc,wa,wl,wc⟩:EH)]) n)]]=>qbC (W0:=W0) (own:=own') (cap:=n) (l:=q0d (L++ [(⟨ev,(t:Int),4,wd,ra,rl,rc,wa,wl,wc⟩:EH)]) n) (RdE.up (q9t (T:=3) (b:=eb) q3L)) (fun h=>by rw[h] at hEn';simp at hEn') (by omega)
  rw[←hEl'] at hclo
  obtain⟨y,hy⟩:∃y,S[t]? =some y:=⟨_,List.getElem?_eq_getElem (by omega)⟩
  refine q4H (σ:=Option Addr×Nat×Own×Own) 18884854245460153466880 (fun _=> []) (fun s=>(b3,fun o=>o=Obj.cells #[.int .i64 ev, .int .i64 t, .int .i64 4, .int .i64 wd, .slice ra rl.length rc, .slice wa wl.length wc] 116)::(ckO L.length at1 rN (q0d (L++ [(⟨ev,(t:Int),4,wd,ra,rl,rc,wa,wl,wc⟩:EH)]) n) (q1S L n) cb eb sb bb n sc bs B s.2.2.2 (s.2.2.1++X)++r0))
   (fun s=>qr qM 3 1 s.1 s.2.1 (q0d (L++ [(⟨ev,(t:Int),4,wd,ra,rl,rc,wa,wl,wc⟩:EH)]) n) s.2.2.1∧qr q2Q 23 1 (some ⟨sb,0,none⟩) sc (S.set t (s.1,n,s.2.1)) s.2.2.2) rfl ?_ (fun s junk hs=> ?_)
  ·repeat'((try(conv=>whnf));first|(refine q5Q (enc:=q2Q) (j:=t) (k:=0) (a1,n,c1) hS hy ?_ ?_ ?_ ?_ ?_;(exact rfl);(omega);(exact rfl);(exact rfl);(intro D2 hB2))|((with_reducible show qf _ _ _ _ _ _);first|((refine qZ (hclo _) ?_ ?_ (fun s v hv=> ?_);(exact rfl);(exact rfl);(obtain⟨a1,c1,D1⟩:=s;obtain⟨rfl,hB1⟩:=hv;dsimp only at hB1))))|(refine qhE ?_ ?_;omega)|(refine fA ?_)|(refine q4T.mk ?_ ?_))
   all_goals exact⟨(a1,c1,D1,D2),⟨hB1,hB2⟩,trivial,qj2⟩
  ·obtain⟨a1,c1,D1,D2⟩:=s
   obtain⟨hB1,hB2⟩:=hs
   dsimp only at hB1 hB2 ⊢
   clear hclo hS hy hb hbr hcl
   repeat'((try(conv=>whnf));first|(refine qc (fun b7 hb7=> ?_))|((with_reducible show Ld _ _ _ _);first|(refine qbj q3L hEn' rfl ?_))|((with_reducible show IxS _ _ _ _ _);first|((refine ixC hEn' hEl' ?_ ?_;(first|rfl|omega))))|(refine fA ?_)|(refine fM ?_))
   have hz2:hsS 2 (rl.take 0) t ((L.length:Int),(q0B L t L.length:Int)+1) (q1S L n)=q1S L n:=qdo
   refine q0Z (σ:=Nat) (fun i=> [(90, .int .i64 i)]) (fun i=>(b7,fun o=>o=Obj.cells #[.int .i64 L.length, .int .i64 ((q0B L t L.length:Int)+1)] 188)::(b3,fun o=>o=Obj.cells #[.int .i64 ev, .int .i64 t, .int .i64 4, .int .i64 wd, .slice ra rl.length rc, .slice wa wl.length wc] 116)::(ckO L.length at1 rN (q0d (L++ [(⟨ev,(t:Int),4,wd,ra,rl,rc,wa,wl,wc⟩:EH)]) n) (hsS 2 (rl.take i) t ((L.length:Int),(q0B L t L.length:Int)+1) (q1S L n)) cb eb sb bb n sc bs B D2 (D1++X)++r0)) (fun i=>i≤rl.length) (fun i=>rl.length-i) 0 (by omega) (eF) (by rw[hz2];exact Ent.refl) rfl ?_
   intro i junk hi
   by_cases hlt:i<rl.length
   ·obtain⟨x,hx⟩:∃x,rl[i]? =some x:=⟨_,List.getElem?_eq_getElem hlt⟩
    have hxr:0≤x∧x<64:=of_decide_eq_true (List.all_eq_true.1 hri.1 x (List.mem_of_getElem? hx))
    have hlt':(i:Int)<rl.length:=by omega
    obtain⟨w,rfl⟩:∃w:Nat,x=w:=⟨x.toNat,by omega⟩
    obtain⟨C0,hC0,hC1⟩:=q8n (bs:=bs) (H:=hsS 2 (rl.take i) t ((L.length:Int),(q0B L t L.length:Int)+1) (q1S L n)) (i:=4*w+2) (k:=256) (by omega)
    have hC2:=(hC1 ((hsS 2 (rl.take i) t ((L.length:Int),(q0B L t L.length:Int)+1) (q1S L n) (4*w+2)).set t ((L.length:Int),(q0B L t L.length:Int)+1))).trans (qbf (by omega))
    have htk:rl.take i++ [(w:Int)]=rl.take (i+1):=by rw[List.take_add_one,hx];rfl
    rw[htk] at hC2
    have hHl:n=(hsS 2 (rl.take i) t ((L.length:Int),(q0B L t L.length:Int)+1) (q1S L n) (4*w+2)).length:=(qaq (fun _=>q6n)).symm
    obtain⟨y,hH⟩:∃y,(hsS 2 (rl.take i) t ((L.length:Int),(q0B L t L.length:Int)+1) (q1S L n) (4*w+2))[t]? =some y:=⟨_,List.getElem?_eq_getElem (by omega)⟩
    haveI:AtC _ _ C0:=⟨hC0⟩
    have hw64:w<64:=by omega
    repeat'((try(conv=>whnf));first|(refine fF ?_)|(refine ldW hw64 ?_ ?_;(exact rfl))|(refine ixC hH hHl ?_ ?_;(exact rfl))|(refine qgJ (T:=188) (x:=y) ((L.length:Int),(q0B L t L.length:Int)+1) q5V hH ?_ ?_ ?_ ?_ ?_ ?_;(exact rfl);(exact rfl);(exact rfl);(exact rfl);(exact rfl))|((with_reducible show Ld _ _ _ _);first|(refine q1M hEr hx rfl ?_))|((with_reducible show IxS _ _ _ _ _);first|((refine ixE hEr hx ?_ ?_;(first|rfl|omega))))|(refine fB ?_)|(apply ixj;omega)|(refine fA ?_)|(refine fL ?_))
    exact⟨i+1,by omega,by omega,(eF),by rw[hC2];exact Ent.refl⟩
   ·have hlt':¬(i:Int)<rl.length:=by omega
    have hie:i=rl.length:=by omega
    subst hie
    have htl:rl.take rl.length=rl:=List.take_length
    rw[htl]
    repeat'((try(conv=>whnf));first|(refine fG ?_)|(refine fA ?_))
    have hz3:hsS 3 (wl.take 0) t ((L.length:Int),(q0B L t L.length:Int)+1) (hsS 2 rl t ((L.length:Int),(q0B L t L.length:Int)+1) (q1S L n))=hsS 2 rl t ((L.length:Int),(q0B L t L.length:Int)+1) (q1S L n):=qdo
    refine q0Z (σ:=Nat) (fun i=> [(109, .int .i64 i)]) (fun i=>(b7,fun o=>o=Obj.cells #[.int .i64 L.length, .int .i64 ((q0B L t L.length:Int)+1)] 188)::(b3,fun o=>o=Obj.cells #[.int .i64 ev, .int .i64 t, .int .i64 4, .int .i64 wd, .slice ra rl.length rc, .slice wa wl.length wc] 116)::(ckO L.length at1 rN (q0d (L++ [(⟨ev,(t:Int),4,wd,ra,rl,rc,wa,wl,wc⟩:EH)]) n) (hsS 3 (wl.take i) t ((L.length:Int),(q0B L t L.length:Int)+1) (hsS 2 rl t ((L.length:Int),(q0B L t L.length:Int)+1) (q1S L n))) cb eb sb bb n sc bs B D2 (D1++X)++r0)) (fun i=>i≤wl.length) (fun i=>wl.length-i) 0 (by omega) (eF) (by rw[hz3];exact Ent.refl) rfl ?_
    intro i junk hi
    by_cases hlt:i<wl.length
    ·obtain⟨x,hx⟩:∃x,wl[i]? =some x:=⟨_,List.getElem?_eq_getElem hlt⟩
     have hxr:0≤x∧x<64:=of_decide_eq_true (List.all_eq_true.1 hri.2 x (List.mem_of_getElem? hx))
     have hlt':(i:Int)<wl.length:=by omega
     obtain⟨w,rfl⟩:∃w:Nat,x=w:=⟨x.toNat,by omega⟩
     obtain⟨C0,hC0,hC1⟩:=q8n (bs:=bs) (H:=hsS 3 (wl.take i) t ((L.length:Int),(q0B L t L.length:Int)+1) (hsS 2 rl t ((L.length:Int),(q0B L t L.length:Int)+1) (q1S L n))) (i:=4*w+3) (k:=256) (by omega)
     have hC2:=(hC1 ((hsS 3 (wl.take i) t ((L.length:Int),(q0B L t L.length:Int)+1) (hsS 2 rl t ((L.length:Int),(q0B L t L.length:Int)+1) (q1S L n)) (4*w+3)).set t ((L.length:Int),(q0B L t L.length:Int)+1))).trans (qbf (by omega))
     have htk:wl.take i++ [(w:Int)]=wl.take (i+1):=by rw[List.take_add_one,hx];rfl
     rw[htk] at hC2
     have hHl:n=(hsS 3 (wl.take i) t ((L.length:Int),(q0B L t L.length:Int)+1) (hsS 2 rl t ((L.length:Int),(q0B L t L.length:Int)+1) (q1S L n)) (4*w+3)).length:=(qaq (fun _=>qaq (fun _=>q6n))).symm
     obtain⟨y,hH⟩:∃y,(hsS 3 (wl.take i) t ((L.length:Int),(q0B L t L.length:Int)+1) (hsS 2 rl t ((L.length:Int),(q0B L t L.length:Int)+1) (q1S L n)) (4*w+3))[t]? =some y:=⟨_,List.getElem?_eq_getElem (by omega)⟩
     haveI:AtC _ _ C0:=⟨hC0⟩
     have hw64:w<64:=by omega
     repeat'((try(conv=>whnf));first|(refine fF ?_)|(refine ldW hw64 ?_ ?_;(exact rfl))|(refine ixC hH hHl ?_ ?_;(exact rfl))|(refine qgJ (T:=188) (x:=y) ((L.length:Int),(q0B L t L.length:Int)+1) q5V hH ?_ ?_ ?_ ?_ ?_ ?_;(exact rfl);(exact rfl);(exact rfl);(exact rfl);(exact rfl))|((with_reducible show Ld _ _ _ _);first|(refine q1M hEw hx rfl ?_))|((with_reducible show IxS _ _ _ _ _);first|((refine ixE hEw hx ?_ ?_;(first|rfl|omega))))|(refine fB ?_)|(apply ixj;omega)|(refine fA ?_)|(refine fL ?_))
     exact⟨i+1,by omega,by omega,(eF),by rw[hC2];exact Ent.refl⟩
    ·have hlt':¬(i:Int)<wl.length:=by omega
     have hie:i=wl.length:=by omega
     subst hie
     have htl:wl.take wl.length=wl:=List.take_length
     rw[htl]
     repeat'((try(conv=>whnf));first|(refine fG ?_))
     exact⟨(a1,c1,D1,D2),⟨rfl,hB1,hB2⟩,by unfold ckO;rw[hacc];exact Ent.drop.trans Ent.drop⟩
end
theorem q7a{α:Type}{l:List α}{t u:Nat}{x:α}(ht:t<l.length):(l.set t x)[u]? =if u=t then some x else l[u]? :=by
 rw[List.getElem?_set]
 by_cases h:u=t
 ·subst h;rw[if_pos rfl,if_pos rfl,if_pos ht]
 ·rw[if_neg (fun x=>h x.symm),if_neg h]
section
variable{W0:World}{r0:Own}{n t:Nat}{L:List EH}{e:EH}
theorem CkM.next{s s':CkB}(h:CkM W0 n L s)(hw:WF0 (L++ [e]) n)(ht:e.t=t)(htn:t<n)(hS:qr q2Q 23 1 (some ⟨s'.sb,0,none⟩) s'.sc s'.S s'.D) [qt s'.X s.X]
  (hSe:(e.k≠4∧s'.S=s.S)∨(e.k=4∧∃a c,s'.S=s.S.set t (a,n,c)∧RdE qM 1 W0 s'.X a (q0d (L++ [e]) n)))
  (hBe:(e.k≠3∧s'.B=s.B.set t (none,0,0))∨(e.k=3∧∃a c,s'.B=s.B.set t (some a,n,c)∧RdE qM 1 W0 s'.X (some a) (q0d L n))):CkM W0 n (L++ [e]) s':=by
 have htS:t<s.S.length:=by rw[h.sl];exact htn
 have htB:t<s.B.length:=by rw[h.bl];exact htn
 have hlk:∀u:Nat,lkL (L++ [e]) u (L++ [e]).length=if u=t then e.k else lkL L u L.length:=fun u=>by
  rw[qcB,qhI,ht]
  by_cases hu:u=t
  ·rw[if_pos (by omega),if_pos hu]
  ·rw[if_neg (by omega),if_neg hu]
 refine⟨hw,hS,?_,?_,fun u hu=> ?_,fun u hu h3=> ?_,fun u hu h3=> ?_⟩
 ·rcases hSe with ⟨_,h1⟩|⟨_,a,c,h1,_⟩ <;>rw[h1]
  ·exact h.sl
  ·rw[List.length_set];exact h.sl
 ·rcases hBe with ⟨_,h1⟩|⟨_,a,c,h1,_⟩ <;>rw[h1,List.length_set] <;>exact h.bl
 ·obtain⟨a0,c0,hx,hr⟩:=h.sr u hu
  rcases hSe with ⟨h4,h1⟩|⟨h4,a,c,h1,h2⟩
  ·rw[h1,q8b (.inl h4)]
   exact⟨a0,c0,hx,hr.up⟩
  ·rw[h1,q7a htS]
   by_cases hut:u=t
   ·rw[if_pos hut,hut,←ht,qdP h4]
    exact⟨a,c,rfl,h2⟩
   ·rw[if_neg hut,q8b (.inr (by omega))]
    exact⟨a0,c0,hx,hr.up⟩
 ·rw[hlk] at h3
  rcases hBe with ⟨h4,h1⟩|⟨h4,a,c,h1,h2⟩
  ·rw[h1,q7a htB]
   by_cases hut:u=t
   ·rw[if_pos hut] at h3;exact absurd h3 h4
   ·rw[if_neg hut] at h3 ⊢
    obtain⟨a0,c0,hx,hr⟩:=h.b3 u hu h3
    rw[q9p (by omega)]
    exact⟨a0,c0,hx,hr.up⟩
  ·rw[h1,q7a htB]
   by_cases hut:u=t
   ·rw[if_pos hut,hut,←ht,qbW]
    exact⟨a,c,rfl,h2⟩
   ·rw[if_neg hut] at h3 ⊢
    obtain⟨a0,c0,hx,hr⟩:=h.b3 u hu h3
    rw[q9p (by omega)]
    exact⟨a0,c0,hx,hr.up⟩
 ·rw[hlk] at h3
  rcases hBe with ⟨h4,h1⟩|⟨h4,a,c,h1,h2⟩
  ·rw[h1,q7a htB]
   by_cases hut:u=t
   ·rw[if_pos hut]
   ·rw[if_neg hut] at h3 ⊢
    exact h.b0 u hu h3
  ·rw[h1,q7a htB]
   by_cases hut:u=t
   ·rw[if_pos hut] at h3;exact absurd h4 h3
   ·rw[if_neg hut] at h3 ⊢
    exact h.b0 u hu h3
theorem qeQ{α:Type}{enc:α→List Value}{T:TypeId}{sz cap:Nat}{a:Option Addr}{l:List α}{D:Own}(h:qr enc T sz a cap l D)(hne:l≠ []):∃a',a=some a':=by
 rcases h.how with ⟨h,_,_⟩|⟨b,_,h,_⟩
 ·exact absurd h hne
 ·exact⟨_,h⟩
theorem EvR.ent'{own own':Own}(h:EvR W0 own' e)(k:Ent W0 own own'):EvR W0 own e:=⟨h.r.ent k,h.w.ent k,h.rb,h.wb⟩
theorem qek{own:Own}{s:CkB}(hM:CkM W0 n L s)(hE:EvR W0 r0 e) [i1:qt own [ckN L.length (q3V L L.length) s.cb s.eb s.sb s.bb n s.sc s.bs (frst L)]] [i2:qt own [q2J q2Q 23 s.bb s.B]] [i3:qt own r0]:
  qD Tryz.prog W0 85 [.pointer (some ⟨s.cb,0,none⟩),e.v] own (.bool (q1m n (L.length==0) (q3V L L.length) (lkL L e.t L.length) e)):=by
 have h0:Cl W0 own s.cb 0 (.int .i64 L.length):=Kn.ent (q9w (List.mem_singleton.2 rfl) rfl) (i1.h W0)
 have h1:Cl W0 own s.cb 1 (.int .i64 (q3V L L.length)):=Kn.ent (q9w (List.mem_singleton.2 rfl) rfl) (i1.h W0)
 have h2:Cl W0 own s.cb 2 (.slice (some ⟨s.eb,0,none⟩) n n):=Kn.ent (q9w (List.mem_singleton.2 rfl) rfl) (i1.h W0)
 have h4:Cl W0 own s.cb 4 (.slice (some ⟨s.bb,0,none⟩) n n):=Kn.ent (q9w (List.mem_singleton.2 rfl) rfl) (i1.h W0)
 have hB:RdE q2Q 1 W0 own (some ⟨s.bb,0,none⟩) s.B:=(q9t (T:=23) (b:=s.bb) q8c).ent (i2.h W0)
 have hbl:=hM.bl
 rw[←hbl] at h4
 have:=qfO (e:=e) (last:=lkL L (e.t.toNat:Int) L.length) (hE.ent' (i3.h W0)) h0 h1 h2 (by rwa[hbl] at h4 ⊢) hB hbl (by omega) (fun x hx=>by
  have hlt:=(List.getElem?_eq_some_iff.1 hx).1
  rw[hbl] at hlt
  by_cases h3:lkL L (e.t.toNat:Int) L.length=3
  ·obtain⟨a,c,hb,_⟩:=hM.b3 _ hlt h3
   rw[hb] at hx
   rw[←Option.some.inj hx]
   exact⟨fun _=>h3,fun _=>Option.some_ne_none _⟩
  ·have hb:=hM.b0 _ hlt h3
   rw[hb] at hx
   rw[←Option.some.inj hx]
   exact⟨fun h=>absurd rfl h,fun h=>absurd h h3⟩)
 have e1:((L.length:Int)==0)=(L.length==0):=by
  rw[Bool.eq_iff_iff]
  simp
 have e2:q1m n (L.length==0) (q3V L L.length) (lkL L (e.t.toNat:Int) L.length) e=q1m n (L.length==0) (q3V L L.length) (lkL L e.t L.length) e:=by
  by_cases h:0≤e.t
  ·rw[Int.toNat_of_nonneg h]
  ·unfold q1m
   rw[decide_eq_false (fun x=>h x.1)]
   rfl
 rw[e1,e2] at this
 exact this
theorem qhi{D1 X A D:Own}{e0 e1 e2 e3 e4:Nat×(Obj→Prop)}:Ent W0 (D1++(e0::e1::((e2::e3::e4::(D++(A++X)))++r0))) (e0::e1::((e2::e3::e4::(D++(A++(D1++X))))++r0)):=by
 refine Ent.of_perm ?_
 have h:(D1++(e0::e1::e2::e3::e4::(D++(A++(X++r0))))).Perm (e0::e1::e2::e3::e4::(D++(A++(D1++(X++r0))))):=by
  have h1:∀(P Q:Own),(D1++(P++Q)).Perm (P++(D1++Q)):=fun P Q=>by
   rw[←List.append_assoc,←List.append_assoc]
   exact List.perm_append_comm.append_right Q
  have h2:=h1 [e0,e1,e2,e3,e4] (D++(A++(X++r0)))
  exact h2.trans (List.Perm.append_left [e0,e1,e2,e3,e4] ((h1 D _).trans (List.Perm.append_left D (h1 A _))))
 simpa using h
theorem qcs{own:Own}{s:CkB}(hN:q1s W0 0 noneV)(hM:CkM W0 n L s)(hE:EvR W0 r0 e) [i1:qt own [ckN L.length (q3V L L.length) s.cb s.eb s.sb s.bb n s.sc s.bs (frst L)]] [i2:qt own [q2J q2Q 23 s.bb s.B]] [i3:qt own r0]
  (hf:q1m n (L.length==0) (q3V L L.length) (lkL L e.t L.length) e=false) (hl:L.length<65536):
  qD Tryz.prog W0 56 [.pointer (some ⟨s.cb,0,none⟩),e.v] own (.tuple #[.agg noneV.toArray, .int .i64 91]):=by
 refine qe (qa qj q2h (by simp[qS]) ?_)
 have hft:=fun(own':Own) (j1:qt own' [ckN L.length (q3V L L.length) s.cb s.eb s.sb s.bb n s.sc s.bs (frst L)]) (j2:qt own' [q2J q2Q 23 s.bb s.B]) (j3:qt own' r0)=>qek (own:=own') hM hE
 rw[hf] at hft
 have h0:Cl W0 own s.cb 0 (.int .i64 L.length):=Kn.ent (q9w (List.mem_singleton.2 rfl) rfl) (i1.h W0)
 have hl':¬(L.length:Int)=65536:=by omega
 obtain⟨ev,tt,k,wd,ra,rl,rc,wa,wl,wc⟩:=e
 dsimp only[EH.v] at*
 repeat'((try(conv=>whnf));first|(refine fE ?_)|(refine fD ?_)|(refine fG ?_)|(refine q15 hN _ rfl rfl ?_)|((with_reducible show Ld _ _ _ _);first|(refine ldK h0 ?_))|((with_reducible show qf _ _ _ _ _ _);first|((refine qh (hft _ inferInstance inferInstance inferInstance) ?_ ?_ ?_;(exact rfl);exact rfl)))|(refine fL ?_)|(refine fM ?_)|(refine qc (fun bk hbk=> ?_)))
 exact⟨rfl,(eC)⟩
theorem q5P{P:Program}{σ:Type}{k:FuncId}{args:List Value}{A D r:Own}{R:σ→Value→Prop}{O:σ→Own}(h:q0E P W0 k args (D++(A++r)) fun v own'=>∃s,R s v∧Ent W0 own' (O s++(A++r))):q0E P W0 k args (A++(D++r)) fun v own'=>∃s,R s v∧Ent W0 own' (A++(O s++r)):=by
 have hp:∀D:Own,(A++(D++r)).Perm (D++(A++r)):=fun D=>by
  rw[←List.append_assoc,←List.append_assoc]
  exact List.perm_append_comm.append_right r
 intro w hw
 exact(h w (Ent.of_perm (hp D) w hw)).mono fun _ _ ⟨v,o,a,b,s,c,d⟩=>⟨v,o,a,b,s,c,d.trans (Ent.of_perm (hp _).symm)⟩
theorem qej{P:Program}{k:FuncId}{args:List Value}{own:Own}{v0:Value}{O:Own}(h:q0E P W0 k args own fun v own'=>v=v0∧Ent W0 own' O):q0E P W0 k args own fun v own'=>∃_:Unit,v=v0∧Ent W0 own' O:=fun w hw=>
 (h w hw).mono fun _ _ ⟨v,o,a,b,c,d⟩=>⟨v,o,a,b,(),c,d⟩
theorem qie{s:CkB}(hN:q1s W0 0 noneV)(hM:CkM W0 n L s)(hE:EvR W0 r0 e)(hf:q1m n (L.length==0) (q3V L L.length) (lkL L e.t L.length) e=true)(hl:L.length<65536):
  q0E Tryz.prog W0 56 [.pointer (some ⟨s.cb,0,none⟩),e.v] (s.O L n++r0) fun v own'=>∃s':CkB,(v= .tuple #[.agg (encRc (frst (L++ [e]))).toArray, .int .i64 0]∧s'.cb=s.cb∧CkM W0 n (L++ [e]) s')∧Ent W0 own' (s'.O (L++ [e]) n++r0):=by
 refine qa qj q2h (by simp[qS]) ?_
 have hft:=fun(own':Own) (j1:qt own' [ckN L.length (q3V L L.length) s.cb s.eb s.sb s.bb n s.sc s.bs (frst L)]) (j2:qt own' [q2J q2Q 23 s.bb s.B]) (j3:qt own' r0)=>qek (own:=own') hM hE
 rw[hf] at hft
 have hl':¬(L.length:Int)=65536:=by omega
 have hwf:=hM.wf.snoc (by omega) hf
 have hw:=hwf.wf
 have hw0:=hM.wf.wf
 have hn16:=hwf.2.1
 have hkd:=hw.kd L.length (by simp)
 unfold thr knd at hkd
 rw[q2b] at hkd
 obtain⟨k1,k2,k3,k4,k5,_⟩:=hkd
 have hfk:e.k=4→lkL L e.t L.length=3:=fun h4=>by
  unfold q1m at hf
  rw[if_pos h4] at hf
  simp only[Bool.and_eq_true,decide_eq_true_eq] at hf
  exact hf.2
 clear hf
 have hpa:=qfq (l:=L) (e:=e)
 rw[←qcB (l:=L) (e:=e)] at hpa
 have hln:((L++ [e]).length:Int)=(L.length:Int)+1:=by rw[qcB];omega
 have hw64:=of_decide_eq_true k5
 obtain⟨t,ht⟩:∃t:Nat,e.t=t:=⟨e.t.toNat,by omega⟩
 obtain⟨w,hwd⟩:∃w:Nat,e.w=w:=⟨e.w.toNat,by omega⟩
 have htn:t<n:=by omega
 obtain⟨xa,xc,hx,hxr⟩:=hM.sr t htn
 have hpl:=fun(hk:e.k=1∨e.k=2) (R:Own)=>qeh (W0:=W0) (r0:=R) (at1:=q3V L L.length) (cb:=s.cb) (eb:=s.eb) (bb:=s.bb) (sc:=s.sc) (bs:=s.bs) (B:=s.B) (X:=s.X) hw hw0 hk ht htn hwd (by omega) (by omega) (by omega) hN hM.sB.rd hx hxr
 have hnx:=fun(s':CkB)=>hM.next (s':=s') hwf ht htn
 have hpl0:=fun(hk:e.k≠4)=>qc1 (l:=L) (n:=n) hk
 have hbg:=fun(hk:e.k=3)=>qbX hw hw0 hk
 have hbh:=fun(hk:e.k=3)=>q1p (bs:=s.bs) (H:=q1S (L++ [e]) n) (k:=256) fun j _=>⟨rfl,qc3 (L:=L) (n:=n) (j:=j) hk⟩
 have hEl:n=(q0d L n).length:=qP.symm
 have hEn:(q0d L n)[t]? =some (q0B L t L.length:Int):=q0Y htn
 have hclo:=fun(own':Own) [qt own' [q2J qM 3 s.eb (q0d L n)]]=>qbC (W0:=W0) (own:=own') (cap:=n) (l:=q0d L n) (RdE.up (q9t (T:=3) (b:=s.eb) q3L)) (fun h=>by rw[h] at hEn;simp at hEn) (by omega)
 rw[←hEl] at hclo
 have hEne:q0d L n≠ []:=fun h=>by rw[h] at hEn;simp at hEn
 have hbl:=hM.bl.symm
 obtain⟨y,hy⟩:∃y,s.B[t]? =some y:=⟨_,List.getElem?_eq_getElem (by omega)⟩
 have hen:=fun(hk:e.k=4)=>hM.b3 t htn (by rw[←ht];exact hfk hk)
 have hend:=fun(hk:e.k=4) (a:Addr) (c:Nat) (R:Own) (hER:EvR W0 R e) (hb:s.B[t]? =some (some a,n,c)) (hbr:RdE qM 1 W0 s.X (some a) (qbV L n t))=>qif (W0:=W0) (r0:=R) (at1:=q3V L L.length) (cb:=s.cb) (eb:=s.eb) (sb:=s.sb) (bb:=s.bb) (sc:=s.sc) (bs:=s.bs) (B:=s.B) (X:=s.X) hw hw0 hk ht htn (by omega) (by omega) hER hN hM.sB hM.sl.symm hbl hb hbr
 have hER:∀(R:Own) [qt R r0],EvR W0 R e:=fun R _=>hE.up
 have hR5:∀(a:Option Addr) (c:Nat) (D1:Own),qr qM 3 1 a c (q0d (L++ [e]) n) D1→RdE qM 1 W0 (D1++s.X) a (q0d (L++ [e]) n):=fun a c D1 h=>h.rd.up
 have hR6:∀(a:Option Addr) (c:Nat) (D1:Own),qr qM 3 1 a c (q0d L n) D1→RdE qM 1 W0 (D1++s.X) a (q0d L n):=fun a c D1 h=>h.rd.up
 obtain⟨ev,tt,k,wd,ra,rl,rc,wa,wl,wc⟩:=e
 dsimp only[EH.v] at*
 subst ht hwd
 repeat'((try(conv=>whnf));first|(refine qc (fun b3 hb3=> ?_);(apply Stop.h)))
 refine Stop.mk ?_
 repeat'((try(conv=>whnf));first|(refine fD ?_)|(refine fG ?_)|(refine qc (fun b4 hb4=> ?_))|((with_reducible show qf _ _ _ _ _ _);first|((refine qh (hft _ inferInstance inferInstance inferInstance) ?_ ?_ ?_;(exact rfl);exact rfl)))|(refine fA ?_)|(refine fL ?_))
 refine q4H (σ:=CkB) 2305843009205305344 (fun _=> []) (fun s'=>(b4,fun o=>o=Obj.cells #[.int .i64 0, .int .i64 0, .int .i64 0] 56)::(b3,fun o=>o=Obj.cells #[.int .i64 ev, .int .i64 t, .int .i64 k, .int .i64 w, .slice ra rl.length rc, .slice wa wl.length wc] 116)::(ckO L.length (q3V L L.length) (frst (L++ [(⟨ev,(t:Int),k,(w:Int),ra,rl,rc,wa,wl,wc⟩:EH)])) (q0d (L++ [(⟨ev,(t:Int),k,(w:Int),ra,rl,rc,wa,wl,wc⟩:EH)]) n) (q1S (L++ [(⟨ev,(t:Int),k,(w:Int),ra,rl,rc,wa,wl,wc⟩:EH)]) n) s'.cb s'.eb s'.sb s'.bb n s'.sc s'.bs s'.B s'.D s'.X++r0)) (fun s'=>s'.cb=s.cb∧CkM W0 n (L++ [(⟨ev,(t:Int),k,(w:Int),ra,rl,rc,wa,wl,wc⟩:EH)]) s') rfl ?_ (fun s' junk hs=> ?_)
 ·clear hft
  by_cases h3:k=3
  ·subst h3
   rw[hbg rfl,hpl0 (by omega)]
   repeat'((try(conv=>whnf));first|(refine fE ?_)|(refine stC (T:=23) (k:=0) (a1,n,c1) q8c hy ?_ ?_ ?_ ?_ ?_;(exact rfl);(omega);(exact rfl);(exact rfl))|((with_reducible show IxS _ _ _ _ _);first|((refine ixC hy hbl ?_ ?_;(first|rfl|omega))))|((with_reducible show qf _ _ _ _ _ _);first|((refine qZ (hclo _) ?_ ?_ (fun q v hv=> ?_);(exact rfl);(exact rfl);(obtain⟨a1,c1,D1⟩:=q;obtain⟨rfl,hB1⟩:=hv;dsimp only at hB1))))|(refine fA ?_)|(refine q4T.mk ?_ ?_))
   all_goals
    obtain⟨a2,rfl⟩:=qeQ hB1 hEne
    exact⟨⟨s.cb,s.eb,s.sb,s.sc,s.bb,s.bs,s.S,s.B.set t (some a2,n,c1),s.D,D1++s.X⟩,⟨rfl,hnx _ hM.sB (.inl ⟨by omega,rfl⟩) (.inr ⟨rfl,a2,c1,rfl,hR6 _ _ _ hB1⟩)⟩,trivial,by unfold ckO;rw[hbh rfl];exact qhi (D:=s.D) (A:=q4t s.bs (q1S L n) 256) (X:=s.X) (D1:=D1)⟩
  by_cases h4:k=4
  ·subst h4
   obtain⟨ba,bc,hb,hbr⟩:=hen rfl
   have hcall:=q5P (r:=r0) (A:= [(b4,fun o=>o=Obj.cells #[.int .i64 0, .int .i64 0, .int .i64 0] 56),(b3,fun o=>o=Obj.cells #[.int .i64 ev, .int .i64 t, .int .i64 4, .int .i64 w, .slice ra rl.length rc, .slice wa wl.length wc] 116)]) (hend rfl ba bc _ (hER _) hb hbr)
   repeat'((try(conv=>whnf));first|(refine fE ?_)|(refine fD ?_)|(refine stC (T:=23) (k:=0) (none,0,0) q8c hy ?_ ?_ ?_ ?_ ?_;(exact rfl);(omega);(exact rfl);(exact rfl))|((with_reducible show IxS _ _ _ _ _);first|((refine ixC hy hbl ?_ ?_;(first|rfl|omega))))|((with_reducible show qf _ _ _ _ _ _);first|((refine qZ hcall ?_ ?_ (fun q v hv=> ?_);(exact rfl);(exact rfl);(obtain⟨a1,c1,D1,D2⟩:=q;obtain⟨rfl,hB1,hB2⟩:=hv;dsimp only at hB1 hB2))))|(refine fA ?_)|(refine fL ?_))
   exact⟨⟨s.cb,s.eb,s.sb,s.sc,s.bb,s.bs,s.S.set t (a1,n,c1),s.B.set t (none,0,0),D2,D1++s.X⟩,⟨rfl,hnx _ hB2 (.inr ⟨rfl,a1,c1,rfl,hR5 _ _ _ hB1⟩) (.inl ⟨by omega,rfl⟩)⟩,trivial,Ent.refl⟩
  ·have hcall:=q5P (r:=r0) (A:= [(b4,fun o=>o=Obj.cells #[.int .i64 0, .int .i64 0, .int .i64 0] 56),(b3,fun o=>o=Obj.cells #[.int .i64 ev, .int .i64 t, .int .i64 k, .int .i64 w, .slice ra rl.length rc, .slice wa wl.length wc] 116)]) (qej (hpl (by omega) _))
   rw[hpl0 h4]
   repeat'((try(conv=>whnf));first|(refine fG ?_)|(refine stC (T:=23) (k:=0) (none,0,0) q8c hy ?_ ?_ ?_ ?_ ?_;(exact rfl);(omega);(exact rfl);(exact rfl))|((with_reducible show IxS _ _ _ _ _);first|((refine ixC hy hbl ?_ ?_;(first|rfl|omega))))|((with_reducible show qf _ _ _ _ _ _);first|((refine qZ hcall ?_ ?_ (fun q v hv=> ?_);(exact rfl);(exact rfl);(subst hv))))|(refine fA ?_)|(refine fL ?_))
   exact⟨⟨s.cb,s.eb,s.sb,s.sc,s.bb,s.bs,s.S,s.B.set t (none,0,0),s.D,s.X⟩,⟨rfl,hnx _ hM.sB (.inl ⟨h4,rfl⟩) (.inl ⟨h3,rfl⟩)⟩,trivial,Ent.refl⟩
 ·obtain⟨hcb,hM'⟩:=hs
  obtain⟨cb',eb',sb',sc',bb',bs',S',B',D',X'⟩:=s'
  dsimp only at hcb hM' ⊢
  subst hcb
  clear hft hM hpl hnx hpl0 hbg hbh hclo hen hend hER hR5 hR6
  repeat'((try(conv=>whnf));first|(refine qjW ?_)|(refine qjV ?_)|(refine q42 ?_ ?_;(exact rfl))|(refine fB ?_)|(refine fA ?_)|(refine fL ?_)|(refine fM ?_))
  refine⟨⟨s.cb,eb',sb',sc',bb',bs',S',B',D',X'⟩,⟨rfl,rfl,hM'⟩,?_⟩
  show Ent W0 _ (ckO ((L++ [(⟨ev,(t:Int),k,(w:Int),ra,rl,rc,wa,wl,wc⟩:EH)]).length:Int) (q3V (L++ [(⟨ev,(t:Int),k,(w:Int),ra,rl,rc,wa,wl,wc⟩:EH)]) (L++ [(⟨ev,(t:Int),k,(w:Int),ra,rl,rc,wa,wl,wc⟩:EH)]).length) _ _ _ _ _ _ _ _ _ _ _ _ _++r0)
  rw[hpa,hln]
  exact Ent.drop.trans Ent.drop
end
end Ord
end Go.Proofs.YtkieffpjjfebjaaGreatDoor
