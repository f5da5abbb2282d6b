/- What the laws share, part 26. No condition. -/
import Derived.Test.YtbhbldllneadeaaGreatDoorQ25
set_option maxHeartbeats 8000000
set_option maxRecDepth 10000
namespace Go.Proofs.YtbhbldllneadeaaGreatDoor
namespace Ord
open Go
def ckV(cnt at1:Int)(ev sv bv:Value)(V:Nat→Value)(r:q0a):List Value:= [.int .i64 cnt, .int .i64 at1,ev,sv,bv]++(q2e 256 V++q1I r)
theorem qbA{cnt at1:Int}{ev sv bv:Value}{V:Nat→Value}{r:q0a}:(ckV cnt at1 ev sv bv V r).length=264:=by
 unfold ckV;rw[z8,z8,qP];rfl
theorem qf8{n k:Nat}{V V2:Nat→Value}{v0 v1 v2 v3:Value}(h:k+4≤n)(h0:V2 k=v0)(h1:V2 (k+1)=v1)(h2:V2 (k+2)=v2)(h3:V2 (k+3)=v3)(hV:∀i,i<n→(i<k∨k+4≤i)→V2 i=V i):
  (q2e n V).take k++ [v0,v1,v2,v3]++(q2e n V).drop (k+4)=q2e n V2:=by
 have hl:∀V:Nat→Value,(q2e n V).length=n:=fun V=>qP
 apply Zf;intro i
 by_cases hn:i<n
 ·rw[q0l hn]
  by_cases hk:i<k
  ·rw[zd,zy (by rw[zU,hl];omega),yY,if_pos hk,q0l hn,hV i hn (.inl hk)]
  ·by_cases hk4:k+4≤i
   ·rw[zP (by rw[z8,zU,hl];simp only[zG,zM];omega),z8,zU,hl,yw];simp only[zG,zM];have e:k+4+(i-(min k n+(0+1+1+1+1)))=i:=Y6;rw[e,q0l hn,hV i hn (.inr hk4)]
   ·rw[zd,zP (by rw[zU,hl];omega),zU,hl];have e:min k n=k:=Y6;rw[e];obtain⟨j,rfl⟩:∃j,i=k+j:=⟨i-k,Y6⟩
    rw[Zn];have hj:j=0∨j=1∨j=2∨j=3:=Y6
    rcases hj with rfl|rfl|rfl|rfl
    ·show some v0=some (V2 k);rw[h0]
    ·rw[h1];rfl
    ·rw[h2];rfl
    ·rw[h3];rfl
 ·rw[zX (l:=q2e n V2) (by rw[hl];omega),zX];rw[z8,z8,zU,ZJ,hl];simp only[zG,zM];omega
section
variable{W0:World}{own:Own}{cnt at1:Int}{cb:Nat}{ev sv bv:Value}{V:Nat→Value}{r:q0a}{T:TypeId}
theorem qlJ{v:Value}{K:Own→Prop}{C:(Obj→Prop)→Own} [m:UpC cb (fun o=>o=Obj.cells (ckV cnt at1 ev sv bv V r).toArray T (0,0)) own C](h1:q2D v=true)(h:K (C fun o=>o=Obj.cells (ckV cnt at1 ev v bv V r).toArray T (0,0))):StT W0 own ⟨cb,3,none⟩ v K:=
 qjO (by show Nat.ble 4 (ckV cnt at1 ev sv bv V r).length=true;rw[qbA];rfl) h1 h
theorem qn6{w k:Nat}{v0 v1 v2 v3:Value}{V2:Nat→Value}{K:Own→Prop}{C:(Obj→Prop)→Own} [m:UpC cb (fun o=>o=Obj.cells (ckV cnt at1 ev sv bv V r).toArray T (0,0)) own C](hk4:4=k)(hw:w<64)(h0:V2 (4*w)=v0)(h1:V2 (4*w+1)=v1)(h2:V2 (4*w+2)=v2)(h3:V2 (4*w+3)=v3)
  (hV:∀i,i<256→(i<4*w∨4*w+4≤i)→V2 i=V i) (hv: [v0,v1,v2,v3].all q2D=true) (h:K (C fun o=>o=Obj.cells (ckV cnt at1 ev sv bv V2 r).toArray T (0,0))): [v0,v1,v2,v3].length=k∧StN W0 own ⟨cb,5+w*4,none⟩ [v0,v1,v2,v3] K:=by
 subst hk4;refine qgb (cs:=(ckV cnt at1 ev sv bv V r).toArray) (T:=T) rfl ?_ hv ?_
 ·rw[zL,qbA];exact Nat.ble_eq_true_of_le Y6
 ·have e:(ckV cnt at1 ev sv bv V r).take (5+w*4)++ [v0,v1,v2,v3]++(ckV cnt at1 ev sv bv V r).drop (5+w*4+4)=ckV cnt at1 ev sv bv V2 r:=by
   have h4:5+w*4=4*w+1+1+1+1+1:=Y6;have h5:5+w*4+4=(4*w+4)+1+1+1+1+1:=Y6;rw[h5,h4];unfold ckV;simp only[zl,zi,yU,y1];rw[ZL (by rw[qP];omega),List.drop_append_of_le_length (by rw[qP];omega),←zd,qf8 (n:=256) (k:=4*w) Y6 h0 h1 h2 h3 hV]
  rw[zL,e];exact h
end
theorem qeA:q1K []=nnR:=q2i rfl
theorem qbI{n:Nat}:qZ [] n=List.replicate n 0:=(q04 (g':=fun _=>0) fun _ _=>rfl).trans q4d.symm
theorem qcG{n:Nat}{u:Int}:q3F [] n u=List.replicate n 0:=(q04 (g':=fun _=>0) fun _ _=>rfl).trans q4d.symm
theorem qe6{n:Nat}{Q:List EH→Int→Nat→Bool}{w:Int}:q5n [] n Q w=List.replicate n (0,0):=(q04 (g':=fun _=>(0,0)) fun _ _=>rfl).trans q4d.symm
theorem qm8{e:Nat×(Obj→Prop)}{A r:Own}:(e::(A++r)).Perm ((A++ [e])++r):=by
 rw[zd];exact Zb.symm
theorem qnC{e0 e1 e2 e3:Nat×(Obj→Prop)}{A r:Own}:(e3::e2::e1::e0::(A++r)).Perm (((((A++ [e0])++ [e1])++ [e2])++ [e3])++r):=
 (((qm8.cons e1).cons e2).cons e3).trans (((qm8.cons e2).cons e3).trans ((qm8.cons e3).trans qm8))
section
variable{W0:World}{own:Own}
theorem qb1(threads:Int)(h:threads<1∨16<threads):qE Tryz.prog W0 22 [.int .i64 threads] own (.tuple #[.pointer none, .int .i64 54]):=by
 refine qg (sC [81] [3,7,11,1,6,10,13,16,17,0,10,6,13,16,17,0,3,5,7,9,11,13,16,18,20,21,23,26,0,3,5,7,11,15,19,25,27,10,14,18,22,23,29,32,0] ?_)
 by_cases h1:threads<1
 ·repeat'((try(conv=>whnf));first|(refine fI ?_)|(refine fE ?_)|(refine fJ ?_)|(refine fA ?_)|(refine qf (fun bk hbk=> ?_)))
  exact⟨rfl,(eC)⟩
 ·have h2:threads>16:=Y6
  repeat'((try(conv=>whnf));first|(refine fH ?_)|(refine fF ?_)|(refine fK ?_)|(refine fA ?_)|(refine qf (fun bk hbk=> ?_)))
  exact⟨rfl,(eC)⟩
theorem q6q:okF Tryz.prog 42=true:=by kernel_rfl
theorem qjj{n:Nat}(hN:q12 W0 0 noneV)(h1:1≤n)(h2:n≤16):
  qt Tryz.prog W0 22 [.int .i64 n] own fun v own'=>∃s:CkB,(v= .tuple #[.pointer (some ⟨s.cb,0,none⟩), .int .i64 0]∧CkM W0 n [] s)∧Ent W0 own' (s.O [] n++own):=by
 refine sC [81] [3,7,11,1,6,10,13,16,17,0,10,6,13,16,17,0,3,5,7,9,11,13,16,18,20,21,23,26,0,3,5,7,11,15,19,25,27,10,14,18,22,23,29,32,0] ?_
 repeat'((try(conv=>whnf));first|(refine fH ?_)|(refine fG ?_)|(refine fK ?_)|(refine qf (fun tb htb=> ?_))|(refine fA ?_))
 refine q3z (σ:=Nat×Nat×Nat) 1040400 (fun s=> [(4, .pointer (some ⟨s.1,0,none⟩))]) (fun s=>match s with|(cb,eb,bb)=>(tb,fun o=>o=Obj.cells #[.int .i64 n] 3)::(cb,fun o=>o=Obj.cells (ckV 0 0 (.slice (some ⟨eb,0,none⟩) n n) (.slice none 0 0) (.slice (some ⟨bb,0,none⟩) n n) (fun _=> .slice none 0 0) nnR).toArray 127 (0,0))::q0K qx 3 eb (List.replicate n 0)::q0K q1s 22 bb (List.replicate n (none,0,0))::own) (fun _=>True) rfl ?_ (fun s junk _=> ?_)
 ·repeat'((try(conv=>whnf));first|(refine mkC (enc:=qx) (T:=3) n 0 rfl rfl rfl ?_ (fun eb=> ?_);(omega))|(refine mkC (enc:=q1s) (T:=22) n (none,0,0) rfl rfl rfl ?_ (fun bb=> ?_);(omega))|(refine q0s hN _ rfl rfl ?_)|(refine qf (fun cb hcb=> ?_))|(refine fA ?_)|(refine q1c.mk ?_ ?_))
  ·refine⟨(cb,eb,bb),trivial,(eF),?_⟩;refine(Ent.head (fun o h=>h.trans ?_)).trans (q9j (b0:=tb) (b1:=cb) (b2:=eb) (b3:=bb) rfl)
   kernel_rfl
  ·refine⟨(cb,eb,bb),trivial,(eF),?_⟩;refine(Ent.head (fun o h=>h.trans ?_)).trans (q9j (b0:=tb) (b1:=cb) (b2:=eb) (b3:=bb) rfl)
   kernel_rfl
 ·obtain⟨cb,eb,bb⟩:=s;dsimp only
  repeat'((try(conv=>whnf));first|(refine fA ?_))
  refine qX (σ:=Option Addr×Nat×List Sl×Own×Own) (fun s=>match s with|(_,_,S,_,_)=> [(21, .int .i64 S.length)]) (fun s=>match s with|(a,c,S,D,X)=>(tb,fun o=>o=Obj.cells #[.int .i64 n] 3)::(cb,fun o=>o=Obj.cells (ckV 0 0 (.slice (some ⟨eb,0,none⟩) n n) (.slice a S.length c) (.slice (some ⟨bb,0,none⟩) n n) (fun _=> .slice none 0 0) nnR).toArray 127 (0,0))::q0K qx 3 eb (List.replicate n 0)::q0K q1s 22 bb (List.replicate n (none,0,0))::(X++(D++own)))
   (fun s=>match s with|(a,c,S,D,X)=>S.length≤n∧qu q1s 22 1 a c S D∧∀u,u<S.length→∃a' c',S[u]? =some (a',n,c')∧RdE qx 1 W0 X a' (List.replicate n 0)) (fun s=>match s with|(_,_,S,_,_)=>n-S.length) (none,0,[],[],[]) ⟨Y8,qu.nil,fun u hu=>by simp at hu⟩ (eF) Ent.refl rfl ?_
  rintro⟨a,c,S,D,X⟩ junk ⟨hSl,hB,hrow⟩;dsimp only
  by_cases hlt:S.length<n
  ·have hlt':(S.length:Int)<n:=Y6
   repeat'((try(conv=>whnf));first|(refine fF ?_)|(refine mkC (enc:=qx) (T:=3) n 0 rfl rfl rfl ?_ (fun rb=> ?_);(omega))|(refine qf (fun qb hqb=> ?_))|(refine q0p (enc:=q1s) (T2:=22) (ys:= #[.slice (some ⟨rb,0,none⟩) n n]) (some ⟨rb,0,none⟩,n,n) hB rfl rfl ?_ rfl rfl ?_ (fun a1 c1 D1 hB1=> ?_);(omega);(omega))|(refine qlJ ?_ ?_;(exact rfl))|(refine fB ?_)|(refine fA ?_))
   have hln:(S++ [((some ⟨rb,0,none⟩,n,n):Sl)]).length=S.length+1:=Y8;refine⟨(a1,c1,S++ [(some ⟨rb,0,none⟩,n,n)],D1,q0K qx 3 rb (List.replicate n 0)::X),⟨by show(S++ [((some ⟨rb,0,none⟩,n,n):Sl)]).length≤n;omega,hB1,fun u hu=> ?_⟩,by show n-(S++ [((some ⟨rb,0,none⟩,n,n):Sl)]).length<n-S.length;omega,⟨vi (by show(S.length:Int)+1=((S++ [((some ⟨rb,0,none⟩,n,n):Sl)]).length:Nat);omega),trivial⟩,?_⟩
   ·by_cases hu2:u<S.length
    ·obtain⟨a',c',h3,h4⟩:=hrow u hu2;exact⟨a',c',by rw[zy hu2];exact h3,h4.up⟩
    ·have hu4:u<(S++ [((some ⟨rb,0,none⟩,n,n):Sl)]).length:=hu;have hu3:u=S.length:=Y6;subst hu3;exact⟨some ⟨rb,0,none⟩,n,Y8,(q6X (T:=3) q2b).ent (Ent.left (D:= [_]))⟩
   ·dsimp only;rw[hln];exact Ent.drop.trans (q9j (b0:=tb) (b1:=cb) (b2:=eb) (b3:=bb) rfl)
  ·have hlt':¬(S.length:Int)<n:=Y6;have hie:S.length=n:=Y6
   repeat'((try(conv=>whnf));first|(refine fG ?_))
   rw[hie];obtain⟨sb,rfl⟩:∃sb,a=some ⟨sb,0,none⟩:=by
    rcases hB.how with ⟨h,_,_⟩|⟨b,_,h,_⟩
    ·rw[h] at hie;simp at hie;omega
    ·exact⟨b,h⟩
   have hV0:(fun i=>if i<4*0 then q5l (fun _=>0) n i else .slice none 0 0)=(fun _=>Value.slice none 0 0):=by funext i;rw[if_neg Y6]
   refine qX (σ:=Nat×(Nat→Nat)) (fun s=> [(35, .int .i64 s.1)]) (fun s=>match s with|(w,bs)=>(tb,fun o=>o=Obj.cells #[.int .i64 n] 3)::(cb,fun o=>o=Obj.cells (ckV 0 0 (.slice (some ⟨eb,0,none⟩) n n) (.slice (some ⟨sb,0,none⟩) n c) (.slice (some ⟨bb,0,none⟩) n n) (fun i=>if i<4*w then q5l bs n i else .slice none 0 0) nnR).toArray 127 (0,0))::q0K qx 3 eb (List.replicate n 0)::q0K q1s 22 bb (List.replicate n (none,0,0))::(q2A bs (fun _=>List.replicate n (0,0)) (4*w)++(X++(D++own)))) (fun s=>s.1≤64) (fun s=>64-s.1) (0,fun _=>0) Y8 (eF) (by dsimp only;rw[hV0];exact Ent.refl) rfl ?_;rintro⟨w,bs⟩ junk hw;dsimp only at hw ⊢;have hn1:=fun(own':Own) (_:qy tb (fun o=>o=Obj.cells #[.int .i64 n] 3) own')=>qiW (W0:=W0) (own:=own') (tb:=tb) (n:=n) Y6
   by_cases hw64:w<64
   ·have hw':(w:Int)<64:=Y6
    repeat'((try(conv=>whnf));first|(refine fF ?_)|(refine q2X.mk ⟨q6q,?_⟩)|((apply qe);first|((refine qi (hn1 _ Y9) (fun c0 v hv=> ?_);(subst hv);(apply Stop.h)))))
    refine Stop.mk ?_
    repeat'((try(conv=>whnf));first|(refine q2X.mk ⟨q6q,?_⟩)|((apply qe);first|((refine qi (hn1 _ Y9) (fun c1 v hv=> ?_);(subst hv);(apply Stop.h)))))
    refine Stop.mk ?_
    repeat'((try(conv=>whnf));first|(refine q2X.mk ⟨q6q,?_⟩)|((apply qe);first|((refine qi (hn1 _ Y9) (fun c2 v hv=> ?_);(subst hv);(apply Stop.h)))))
    refine Stop.mk ?_
    repeat'((try(conv=>whnf));first|(refine q2X.mk ⟨q6q,?_⟩)|((apply qe);first|((refine qi (hn1 _ Y9) (fun c3 v hv=> ?_);(subst hv);(apply Stop.h)))))
    refine Stop.mk ?_;obtain⟨bs',hb0,hb1,hb2,hb3,hbo⟩:∃bs':Nat→Nat,bs' (4*w)=c0∧bs' (4*w+1)=c1∧bs' (4*w+2)=c2∧bs' (4*w+3)=c3∧∀j,j<4*w→bs' j=bs j:=by
     refine⟨fun j=>if j<4*w then bs j else if j=4*w then c0 else if j=4*w+1 then c1 else if j=4*w+2 then c2 else c3,?_,?_,?_,?_,fun j hj=>if_pos hj⟩
     ·show(if 4*w<4*w then _ else _)=_;rw[if_neg Y6,if_pos rfl]
     ·show(if 4*w+1<4*w then _ else _)=_;rw[if_neg Y6,if_neg Y6,if_pos rfl]
     ·show(if 4*w+2<4*w then _ else _)=_;rw[if_neg Y6,if_neg Y6,if_neg Y6,if_pos rfl]
     ·show(if 4*w+3<4*w then _ else _)=_;rw[if_neg Y6,if_neg Y6,if_neg Y6,if_neg Y6]
    have hg:∀k c,k<4→bs' (4*w+k)=c→(if 4*w+k<4*(w+1) then q5l bs' n (4*w+k) else Value.slice none 0 0)= .slice (some ⟨c,0,none⟩) n n:=fun k c hk hb=>by
     rw[if_pos Y6];show Value.slice (some ⟨bs' (4*w+k),0,none⟩) n n=_;rw[hb]
    have hV:∀i,i<256→(i<4*w∨4*w+4≤i)→(fun i=>if i<4*(w+1) then q5l bs' n i else .slice none 0 0) i=(fun i=>if i<4*w then q5l bs n i else .slice none 0 0) i:=fun i _ hi=>by
     show(if i<4*(w+1) then q5l bs' n i else Value.slice none 0 0)=(if i<4*w then q5l bs n i else Value.slice none 0 0)
     rcases hi with hi|hi
     ·rw[if_pos Y6,if_pos hi];show Value.slice (some ⟨bs' i,0,none⟩) n n=_;rw[hbo i hi]
     ·rw[if_neg Y6,if_neg Y6]
    have hac:q2A bs' (fun _=>List.replicate n (0,0)) (4*(w+1))=(((q2A bs (fun _=>List.replicate n (0,0)) (4*w)++ [q0K q0S 196 c0 (List.replicate n (0,0))])++ [q0K q0S 196 c1 (List.replicate n (0,0))])++ [q0K q0S 196 c2 (List.replicate n (0,0))])++ [q0K q0S 196 c3 (List.replicate n (0,0))]:=by
     show(((q2A bs' (fun _=>List.replicate n (0,0)) (4*w)++ [q0K q0S 196 (bs' (4*w)) (List.replicate n (0,0))])++ [q0K q0S 196 (bs' (4*w+1)) (List.replicate n (0,0))])++ [q0K q0S 196 (bs' (4*w+2)) (List.replicate n (0,0))])++ [q0K q0S 196 (bs' (4*w+3)) (List.replicate n (0,0))]=_;rw[hb0,hb1,hb2,hb3,q0H (bs':=bs) (H':=(fun _=>List.replicate n (0,0))) fun j hj=>⟨hbo j hj,rfl⟩]
    repeat'((try(conv=>whnf));first|(refine qn6 (w:=w) (V2:=(fun i=>if i<4*(w+1) then q5l bs' n i else .slice none 0 0)) rfl hw64 (hg 0 c0 Y6 hb0) (hg 1 c1 Y6 hb1) (hg 2 c2 Y6 hb2) (hg 3 c3 Y6 hb3) hV rfl ?_)|(refine fB ?_)|(apply ixj;omega))
    refine⟨(w+1,bs'),by dsimp only;omega,by dsimp only;omega,⟨vi (by dsimp only;omega),trivial⟩,?_⟩;dsimp only;rw[hac];exact(q9j (b0:=tb) (b1:=cb) (b2:=eb) (b3:=bb) rfl).trans (Ent.of_perm ((((qnC.cons _).cons _).cons _).cons _))
   ·have hw':¬(w:Int)<64:=Y6;have hw3:w=64:=Y6;subst hw3;have hce:ckV 0 0 (.slice (some ⟨eb,0,none⟩) n n) (.slice (some ⟨sb,0,none⟩) n c) (.slice (some ⟨bb,0,none⟩) n n) (fun i=>if i<4*64 then q5l bs n i else .slice none 0 0) nnR=ckL 0 0 eb sb bb n c (q5l bs n) nnR:=by
     unfold ckV ckL;rw[q04 (g':=q5l bs n) fun j hj=>if_pos Y6]
    have hac:q2A bs (q0Y [] n) 256=q2A bs (fun _=>List.replicate n (0,0)) (4*64):=q0H fun j _=>⟨rfl,qe6⟩
    rw[hce]
    repeat'((try(conv=>whnf));first|(refine fD ?_))
    refine⟨⟨cb,eb,sb,c,bb,bs,S,List.replicate n (none,0,0),D,X⟩,⟨rfl,WF0.nil h1 h2,hB,hie,Y8,fun u hu=> ?_,fun u hu h3=> ?_,fun u hu _=> ?_⟩,?_⟩
    ·rw[qcG];exact hrow u Y6
    ·exact absurd h3 (by show(0:Int)≠3;decide)
    ·show(List.replicate n ((none,0,0):Sl))[u]? =_;rw[ZM,if_pos hu]
    ·show Ent W0 _ (ckO 0 0 (q1K []) (qZ [] n) (q0Y [] n) cb eb sb bb n c bs (List.replicate n (none,0,0)) D X++own);unfold ckO;rw[qeA,qbI,hac];refine Ent.drop.trans (Ent.of_perm ?_);refine(((?_:List.Perm _ _).cons _).cons _).cons _;have hp:(q2A bs (fun _=>List.replicate n (0,0)) (4*64)++(X++(D++own))).Perm ((D++(q2A bs (fun _=>List.replicate n (0,0)) (4*64)++X))++own):=by
      rw[←zd,←zd];exact Z5.append_right own
     exact hp
end
theorem q9c{n:Nat}:∀(l:List EH) (i:Nat) (pa:Int) (last:List Int),(qhE n l i pa last).2=0∨(qhE n l i pa last).2=91
 | [],_,_,_=> .inl rfl
 |e::l,i,pa,last=>by
  unfold qhE
  split
  ·exact q9c l _ _ _
  ·exact .inr rfl
theorem qhF{l:List EH}{n k:Nat}(h1:1≤n)(h2:n≤16)(hl:l.length≤65536)(hk:k<l.length)(hf:q3a l n k=false):(q9b l n).2=91:=by
 have h0:(q9b l n).2≠0:=fun h=>by
  have:=(qbz.1 h).2.2.2.2 k hk;rw[zB,hf] at this;cases this
 unfold q9b at h0 ⊢;rw[if_neg Y6,if_neg Y6] at h0 ⊢;exact(q9c _ _ _ _).resolve_left h0
theorem qci{l:List EH}{n i:Nat}{e:EH}(he:l[i]? =some e):q3a l n i=q17 n ((l.take i).length==0) (q2w (l.take i) (l.take i).length) (lkL (l.take i) e.t (l.take i).length) e:=by
 have hi:=(z7.1 he).1;have hl:(l.take i).length=i:=by rw[zU];omega
 have e1:l=(l.take i++ [e])++l.drop (i+1):=by
  have:l.take i++ [e]=l.take (i+1):=by rw[zZ,he];rfl
  rw[this,ye]
 have h2:q3a l n i=q3a (l.take i++ [e]) n i:=by
  conv=>lhs;rw[e1]
  exact q9I (by rw[z8,hl];simp)
 have h3:=q9J (l:=l.take i) (e:=e) (n:=n);rw[hl] at h3;rw[h2,h3,hl]
theorem _root_.Go.Proofs.YtbhbldllneadeaaGreatDoor.RdE.pre{α:Type}{enc:α→List Value}{sz:Nat}{W0:World}{own:Own}{a:Option Addr}{l r:List α}(h:RdE enc sz W0 own a (l++r)):RdE enc sz W0 own a l:=
 ⟨fun hne=>h.isS (fun e=>hne (List.append_eq_nil_iff.1 e).1),fun x hx=>h.wid x (zN _ hx),fun{j k x v} hx hv=>h.cell (by rw[zy (z7.1 hx).1];exact hx) hv⟩
section
variable{W0:World}{own:Own}
theorem qjo{P:Program}{σ:Type}{k:FuncId}{args:List Value}{e1:Nat×(Obj→Prop)}{D r:Own}{R:σ→Value→Prop}{O:σ→Own}(h:qt P W0 k args (D++([e1]++r)) fun v own'=>∃s,R s v∧Ent W0 own' (O s++([e1]++r))):qt P W0 k args (e1::(D++r)) fun v own'=>∃s,R s v∧Ent W0 own' (e1::(O s++r)):=q3K (A:= [e1]) h
theorem qg4{cnt at1:Int}{cb eb sb bb n sc:Nat}{bs:Nat→Nat}{r:q0a} [i1:qv own [ckN cnt at1 cb eb sb bb n sc bs r]]:qE Tryz.prog W0 24 [.pointer (some ⟨cb,0,none⟩)] own (.agg (q1I r).toArray):=by
 refine qg (sH [] ?_);have hld:∀(own':Own) (_:qv own' [ckN cnt at1 cb eb sb bb n sc bs r]) (K:Array Value→Prop),K (q1I r).toArray→LdN W0 own' ⟨cb,261,none⟩ 3 K:=fun own' i K hk=>by
  obtain⟨vs,h1,h2,h3⟩:LdN W0 [ckN cnt at1 cb eb sb bb n sc bs r] ⟨cb,261,none⟩ 3 K:=q2k rfl hk;exact⟨vs,h1,fun w hw=>h2 w (i.h W0 w hw),h3⟩
 repeat'((try(conv=>whnf));first|(refine fD ?_)|(refine hld _ Y9 _ ?_)|(refine fL ?_)|(refine fM ?_)|(refine qf (fun bk hbk=> ?_)))
 exact⟨rfl,(eC)⟩
theorem qdx{a:Option Addr}{l:List EH}{cap:Nat}(hN:q12 W0 0 noneV)(hR:RdE EH.enc 6 W0 own a l)(hE:∀e∈l,EvR W0 own e)(hl:l.length≤65536)(th:Int):
  qE Tryz.prog W0 12 [.slice a l.length cap, .int .i64 th] own (.tuple #[.agg (q1I (frR l th)).toArray, .int .i64 (q9b l th).2]):=by
 refine qg (sH [] ?_)
 by_cases hth:th<1∨16<th
 ·have hno:=fun own'=>qb1 (W0:=W0) (own:=own') th hth
  have hck:q9b l th=(0,54):=by unfold q9b;rw[if_pos hth]
  have hfr:frR l th=nnR:=by unfold frR;rw[hck,if_neg Y7]
  rw[hck,hfr]
  repeat'((try(conv=>whnf));first|(refine fE ?_)|(refine q0s hN _ rfl rfl ?_)|((apply qe);first|((refine qd (hno _) ?_)))|(refine fO ?_)|(refine fL ?_)|(refine fM ?_)|(refine qf (fun bk hbk=> ?_)))
  exact⟨rfl,(eC)⟩
 ·obtain⟨n,rfl⟩:∃n:Nat,th=n:=⟨th.toNat,Y6⟩
  have hnew:=fun own'=>qjj (W0:=W0) (own:=own') hN (n:=n) Y6 Y6
  repeat'((try(conv=>whnf));first|(refine qf (fun b4 hb4=> ?_))|((apply qe);first|((refine qi (hnew _) (fun s v hv=> ?_);(obtain⟨rfl,hM0⟩:=hv);(apply Stop.h)))))
  refine Stop.mk ?_
  repeat'((try(conv=>whnf));first|(refine fD ?_)|(refine fO ?_))
  refine qX (σ:=Nat×CkB) (fun q=> [(23, .int .i64 q.1)]) (fun q=>q.2.O (l.take q.1) n++((b4,fun o=>o=Obj.cells #[.int .i64 0, .int .i64 0, .int .i64 0] 46)::own)) (fun q=>q.1≤l.length∧q.2.cb=s.cb∧CkM W0 n (l.take q.1) q.2) (fun q=>l.length-q.1) (0,s) ⟨zq _,rfl,hM0⟩ (eF) Ent.refl rfl ?_;clear hM0 hnew;rintro⟨i,s'⟩ junk ⟨hi,hcb,hM⟩;obtain⟨cb',eb',sb',sc',bb',bs',S',B',D',X'⟩:=s';dsimp only at hi hcb hM ⊢;subst hcb
  by_cases hlt:i<l.length
  ·obtain⟨e,he⟩:∃e,l[i]? =some e:=⟨_,z6 hlt⟩
   have hlt':(i:Int)<l.length:=Y6;have htl:(l.take i).length=i:=by rw[zU];omega
   have htk:l.take (i+1)=l.take i++ [e]:=by rw[zZ,he];rfl
   have hok:=qci (n:=n) he;have hEe:=hE e (zg he)
   by_cases hf:q3a l n i=true
   ·have hadd:=fun A:Own=>qjg (r0:=A++((b4,fun o=>o=Obj.cells #[.int .i64 0, .int .i64 0, .int .i64 0] 46)::own)) hN hM hEe.up (by rw[←hok];exact hf) Y6
    obtain⟨ev,tt,k,wd,ra,rl,rc,wa,wl,wc⟩:=e;dsimp only[EH.v] at hadd
    repeat'((try(conv=>whnf));first|(refine fD ?_)|(refine fF ?_)|((apply qJ);first|((refine ixE hR he ?_ ?_;(first|rfl|omega))))|((apply q2H);first|(refine q1h hR he rfl ?_))|((apply qe);first|((refine qi (qjo (hadd [_])) (fun q v hv=> ?_);(obtain⟨rfl,hcb2,hM2⟩:=hv))))|(refine fB ?_)|(refine fO ?_)|(refine fL ?_)|(refine fM ?_)|(refine qf (fun bk hbk=> ?_)))
    refine⟨(i+1,q),⟨hlt,hcb2,by dsimp only;rw[htk];exact hM2⟩,by dsimp only;omega,(eF),?_⟩;dsimp only;rw[htk];exact Ent.drop.trans Ent.drop
   ·have hbad:=qhF Y6 Y6 hl hlt (Bool.eq_false_iff.2 hf);have hfr:frR l n=nnR:=by unfold frR;rw[hbad,if_neg Y7]
    rw[hbad,hfr];have hadd:=fun(own':Own) (j1:qv own' [ckN (l.take i).length (q2w (l.take i) (l.take i).length) s.cb eb' sb' bb' n sc' bs' (q1K (l.take i))]) (j2:qv own' [q0K q1s 22 bb' B']) (j3:qv own' own)=>qb0 (own:=own') hN hM hEe (by rw[←hok];exact Bool.eq_false_iff.2 hf) Y6
    obtain⟨ev,tt,k,wd,ra,rl,rc,wa,wl,wc⟩:=e;dsimp only[EH.v] at hadd
    repeat'((try(conv=>whnf));first|(refine fE ?_)|(refine fF ?_)|(refine q0s hN _ rfl rfl ?_)|((apply qJ);first|((refine ixE hR he ?_ ?_;(first|rfl|omega))))|((apply q2H);first|(refine q1h hR he rfl ?_))|((apply qe);first|((refine qd (hadd _ Y9 Y9 Y9) ?_)))|(refine fO ?_)|(refine fL ?_)|(refine fM ?_)|(refine qf (fun bk hbk=> ?_)))
    exact⟨rfl,(eC)⟩
  ·have hlt':¬(i:Int)<l.length:=Y6;have hie:i=l.length:=Y6;subst hie;have htl:l.take l.length=l:=Z4;rw[htl] at hM ⊢;have hck:(q9b l n).2=0:=qbz.2 ⟨Y6,by rw[zB];exact hM.wf⟩;have hfr:frR l n=q1K l:=by unfold frR;rw[if_pos hck]
   rw[hck,hfr];have hrc:=fun(own':Own) (j1:qv own' [ckN l.length (q2w l l.length) s.cb eb' sb' bb' n sc' bs' (q1K l)])=>qg4 (W0:=W0) (own:=own') (i1:=j1)
   repeat'((try(conv=>whnf));first|(refine fG ?_)|((apply qe);first|((refine qd (hrc _ Y9) ?_)))|(refine fL ?_)|(refine fM ?_))
   exact⟨rfl,(eC)⟩
end
end Ord
open Go Go.Proofs.YtbhbldllneadeaaGreatDoor.Ord
theorem qcu:∀(ps:List PH) (t:Nat),(∀h∈ps,qw h.p=(0,0))→psG ps t=none
 | [],_,_=>rfl
 |x::l,t,h=>by
  unfold psG;rw[if_neg (by rw[h x zm];decide)];exact qcu l (t+1) fun y hy=>h y (zp _ hy)
theorem qc8{n:Nat}:∀(ks:List Int) (t:Nat),(∀z∈ks,0≤z∧z<n)→ksG n ks t=(0,0,0)
 | [],_,_=>rfl
 |x::l,t,h=>by
  have:=h x zm;unfold ksG;rw[if_neg Y6];exact qc8 l (t+1) fun y hy=>h y (zp _ hy)
theorem q88{c:Cfg}{il:Nat}{ps:List PH}{ks:List Int}(hc:qH c=0)(hn1:1≤ps.length)(hn:ps.length≤16)(hil:(il:Int)=c.words)(hck:∀h∈ps,qw h.p=(0,0))(hk:ks.length≤65536)(hkr:∀z∈ks,0≤z∧z<(ps.length:Int)):csM c il ps ks=(0,0,0):=by
 unfold csM;rw[if_neg (by rw[hc];decide),if_neg Y6,if_neg Y6,qcu ps 0 hck];dsimp only;rw[if_neg Y6];exact qc8 _ 0 hkr
structure qm4(c:Cfg)(il:List Int)(O:Nat)(ps:List (List Ins))(l:List Nat):Prop where
 hc:qH c=0
 h0:c.c0=0∧c.c1=0∧c.c2=0∧c.c3=0
 hb:qA c=0
 hil:(il.length:Int)=c.words
 hi1:il≠ []
 hi2:il.length≤1000
 hiw:∀x∈il,okU x
 hO:c.orecs=(O:Int)
 hO2:O≤1000
 hn1:1≤ps.length
 hn:ps.length≤16
 hck:∀p∈ps,qw p=(0,0)
 hpl:∀p∈ps,p.length≤100000
 hkb:l.length≤1000
 hkr:∀t∈l,t<ps.length
section
variable{W0:World}{own:Own}{c:Cfg}{ia pa ka:Option Addr}{il:List Int}{ic pc kc O:Nat}{ps:List PH}{l:List Nat}{g:GS}
theorem q5Q(hF:qC W0)(hs:qm4 c il O (ps.map PH.p) l)(hr:qjG c il O (ps.map PH.p) l g)(hI:RdE q09 1 W0 own ia il)(hP:RdE PH.enc 1 W0 own pa ps)(hQ:∀h∈ps,RdE Ins.enc 5 W0 own h.a h.p)(hK:RdE qx 1 W0 own ka (l.map fun t=>((t:Nat):Int))):
  qE Tryz.prog W0 11 [qaG c ia il.length ic pa ps.length pc ka (l.map fun t=>((t:Nat):Int)).length kc] own (.tuple #[.int .i64 0, .int .i64 0, .int .i64 0]):=by
 have hl:(ps.map PH.p).length=ps.length:=zk ..;have hkr:=hs.hkr;have hn1:=hs.hn1;have hn:=hs.hn;have hkb:=hs.hkb;rw[hl] at hkr hn1 hn;have hck:∀h∈ps,qw h.p=(0,0):=fun h hh=>hs.hck _ (zK.2 ⟨h,hh,rfl⟩)
 refine qg ?_;have hg:=hr.hg;rw[hl] at hg;have hrun:=hr.hrun;have h1:=qdz (W0:=W0) (own:=own) (c:=c) (ic:=ic) (pc:=pc) (kc:=kc) hF (q88 (ks:=l.map fun t=>((t:Nat):Int)) hs.hc hn1 hn hs.hil hck (by rw[zk];omega) (fun z hz=>by obtain⟨t,ht,rfl⟩:=zK.1 hz;have:=hkr t ht;omega)) (q88 (ks:= []) hs.hc hn1 hn hs.hil hck (zq _) (fun z hz=>by cases hz)) hs.hc hs.h0 hs.hb hI hs.hil hs.hi1 hs.hi2 hs.hiw hs.hO hs.hO2 hP hQ hK hn1 hn hck (fun h hh=>hs.hpl _ (zK.2 ⟨h,hh,rfl⟩)) rfl hkb hkr hg hr.hS hr.hob hr.hxc hrun hr.hgol hr.hgo hr.hgd hr.hgl;intro w hw;refine(h1 w hw).mono ?_;rintro e w' ⟨v,own',he,hs,_,rfl,hE⟩;exact⟨_,own',he,hs,rfl,hE⟩
theorem qfF(hF:qC W0)(hN:q12 W0 0 noneV)(hs:qm4 c il O (ps.map PH.p) l)(hr:qjG c il O (ps.map PH.p) l g)(hE:(q10 c il O (ps.map PH.p) l).E.length≤65536)(ht:∀es:List EH,es.map EH.m=(q10 c il O (ps.map PH.p) l).E→(q9b es ps.length).2=0∧frR es ps.length=(-1, -1, -1))(hlb:∀e∈(q10 c il O (ps.map PH.p) l).E,e.r.length≤1000∧e.wl.length≤64)(hI:RdE q09 1 W0 own ia il)(hP:RdE PH.enc 1 W0 own pa ps)(hQ:∀h∈ps,RdE Ins.enc 5 W0 own h.a h.p)(hK:RdE qx 1 W0 own ka (l.map fun t=>((t:Nat):Int))):
  qE Tryz.prog W0 6 [qaG c ia il.length ic pa ps.length pc ka (l.map fun t=>((t:Nat):Int)).length kc] own (.bool true):=by
 refine qg (sH [] ?_);have hl:(ps.map PH.p).length=ps.length:=zk ..;have hkr:=hs.hkr;have hn1:=hs.hn1;have hn:=hs.hn;have hkb:=hs.hkb;rw[hl] at hkr hn1 hn;have hck:∀h∈ps,qw h.p=(0,0):=fun h hh=>hs.hck _ (zK.2 ⟨h,hh,rfl⟩)
 have hg:=hr.hg;rw[hl] at hg;have hrn:=fun(own':Own) (m:qv own' own)=>qh9 (W0:=W0) (own:=own') (c:=c) (ic:=ic) (pc:=pc) (kc:=kc) hF (q88 (ks:=l.map fun t=>((t:Nat):Int)) hs.hc hn1 hn hs.hil hck (by rw[zk];omega) (fun z hz=>by obtain⟨t,ht,rfl⟩:=zK.1 hz;have:=hkr t ht;omega)) hs.hc hs.h0 hs.hb hI.up hs.hil hs.hi1 hs.hi2 hs.hO hs.hO2 hP.up (fun h hh=>(hQ h hh).up) hK.up hn1 hn hck (fun h hh=>hs.hpl _ (zK.2 ⟨h,hh,rfl⟩)) rfl hkb hkr hg hr.hS hr.hob
 have hwc:=fun(own':Own) (m:qv own' own)=>q5Q (W0:=W0) (own:=own') (c:=c) (ia:=ia) (ic:=ic) (pa:=pa) (pc:=pc) (ka:=ka) (kc:=kc) hF hs hr hI.up hP.up (fun h hh=>(hQ h hh).up) hK.up
 generalize q10 c il O (ps.map PH.p) l=R at*
 repeat'((try(conv=>whnf));first|(refine qf (fun bk hbk=> ?_))|((apply qe);first|((refine qi (hrn _ Y9) (fun y v hv=> ?_);(apply Stop.h))))|(refine fL ?_))
 obtain⟨⟨cs,ta,tc,tD,sa,sc,sD,ea,ec,oa,oc,oD,ol,da,el,eD,gD⟩,L⟩:=y;obtain⟨rfl,hro,hL⟩:=hv;dsimp only at hro hL;obtain⟨a1,a2,a3,a4,a5,n1,c1,n2,c2,n3,c3,n4,c4,n5,c5,x1,x2,x3,hcs2⟩:=hro.sh;dsimp only at hcs2;subst hcs2;obtain⟨e1,e2⟩:=ht el hro.em;have hel:el.length≤65536:=by have:=congrArg List.length hro.em;dsimp only at this;rw[zk] at this;omega
 have hev:=hro.ev;have heR:=hro.he;dsimp only at hev heR;have hlb':∀e∈el,e.rl.length≤1000∧e.wl.length≤64:=fun e he=>hlb e.m (by rw[←hro.em];exact zK.2 ⟨e,he,rfl⟩)
 have htr:=fun(own':Own) (m1:qv own' eD) (m2:qv own' gD)=>qdx (W0:=W0) (own:=own') (a:=ea) (l:=el) (cap:=ec) hN ((heR.rd (W0:=W0)).up) (fun e he=>⟨(hev e he).1.up,(hev e he).2.up,by have:=hlb' e he;omega,by have:=hlb' e he;omega⟩) hel (ps.length:Int)
 rw[e1,e2] at htr;refine Stop.mk ?_
 repeat'((try(conv=>whnf));first|(refine fH ?_)|(refine qf (fun bk2 hbk2=> ?_))|((apply qe);first|((refine qd (htr _ Y9 Y9) ?_))|((refine qd (hwc _ Y9) ?_)))|(refine fO ?_)|(refine fA ?_)|(refine fL ?_)|(refine fM ?_))
 all_goals exact⟨rfl,(eC)⟩
end
open Go
def lkE:List EvM→Int→Int
 | [],_=>0
 |e::l,u=>if lkE l u=0 then(if e.t=u then e.k else 0) else lkE l u
theorem q39{e:EvM}{u:Int}(hk:e.k≠0):∀{l:List EvM},lkE (l++ [e]) u=if e.t=u then e.k else lkE l u
 | []=>by
  show(if(0:Int)=0 then(if e.t=u then e.k else 0) else 0)=_;rw[if_pos rfl];rfl
 |d::l=>by
  rw[zl,lkE,lkE,q39 hk]
  by_cases h:e.t=u
  ·rw[if_pos h,if_pos h,if_neg hk]
  ·rw[if_neg h,if_neg h]
def q7d(E:List EvM):Int:=match E.getLast? with
 |some e=>e.ev
 |none=>0
structure qnA(n:Nat)(E:List EvM)(e:EvM):Prop where
 t:0≤e.t∧e.t<n
 k:1≤e.k∧e.k≤4
 w:0≤e.w∧e.w<64
 r:∀w∈e.r,0≤w∧w<64
 wl:∀w∈e.wl,0≤w∧w<64
 en:e.k=4→lkE E e.t=3
 pl:e.k≠4→e.r= []∧e.wl= []
 ev:q7d E≤e.ev
 lb:e.r.length≤1000∧e.wl.length≤64
inductive TrW (n:Nat):List EvM→Prop
 |nil:TrW n []
 |snoc {E:List EvM} {e:EvM}:TrW n E→qnA n E e→TrW n (E++ [e])
structure qhh(n:Nat)(q:RM):Prop where
 tr:TrW n q.E
 ev:q7d q.E≤q.S.length
 el:q.E.length≤q.S.length
 lk:∀(u:Nat) y b,q.xs[u]? =some y→y.at'=some b→b.dn=false→b.ph.past=true→lkE q.E u=3
inductive qdY (c:Cfg) (p:List Ins) (t:Nat) (x x':GT):List EvM→Prop
 |no:(∀b,x'.at'=some b→b.dn=false→b.ph.past=true→∃a,x.at'=some a∧a.dn=false∧a.ph.past=true)→qdY c p t x x' []
 |bg (a a':AT):x.at'=some a→a.ph= .ent 1→a.dn=false→x'.at'=some a'→a'.ph= .ent 2→qdY c p t x x' [⟨0,t,3,0,[],[]⟩]
 |en (a a':AT):x.at'=some a→a.ph= .dc→a.dn=false→x'.at'=some a'→a'.dn=true→qdY c p t x x' [⟨0,t,4,0,a.seen,if a.code=1 then a.ad.filter fun x=>decide (x<c.words) else []⟩]
 |pl (i:Ins):x.at'=none→x.fn=none→x'.at'=none→p[x.th.pc]? =some i→(i.op=12∨i.op=13)→q1b x i<c.words→qdY c p t x x' [⟨0,t,if i.op=12 then 1 else 2,q1b x i,[],[]⟩]
section
variable{c:Cfg}{ps:List (List Ins)}{n k:Nat}{q:RM}{m:MS}{g g':GS}{r r':Nat→List (Int×Int)}{t u:Nat}{x:GT}{a:AT}{p:List Ins}{i:Ins}
theorem q4c(a:AT):a.rest.dn=a.dn∧a.rest.ph.past=true:=by unfold AT.rest;split <;>exact⟨rfl,rfl⟩
theorem q9h(a:AT)(q:Int):(a.endA c q).dn=a.dn:=by unfold AT.endA;split <;>rfl
theorem qeJ(a:AT)(q:Ko):(a.kont c q).dn=a.dn:=by
 cases q with
 |en q=>exact q9h a q
 |tk v=>rfl
 |wr w v=>
  unfold AT.kont;dsimp only
  split
  ·exact q9h a 7
  ·split <;>rfl
theorem q6F:((qh c t m a).2.1.dn=false→a.dn=false)∧((qh c t m a).2.1.ph.past=true→a.ph.past=true∨(a.ph= .ent 1∧(qh c t m a).2.1.ph= .ent 2)):=by
 unfold qh;cases e:a.ph with
 |idle=>exact⟨fun h=>h,fun _=> .inl rfl⟩
 |loc q=>exact⟨fun h=>by rw[qeJ] at h;exact h,fun _=> .inl rfl⟩
 |ent j=>
  dsimp only
  split
  ·rename_i h0;exact⟨fun h=>h,(fun h=>by cases h)⟩
  ·split
   ·rename_i h1;exact⟨fun h=>h,fun _=> .inr ⟨by rw[h1],rfl⟩⟩
   ·rename_i h0 h1;exact⟨fun h=>h,fun _=> .inl (by show decide (2≤j)=true;exact decide_eq_true Y6)⟩
 |rd j b v=>
  dsimp only;refine⟨fun h=> ?_,fun _=> .inl rfl⟩
  split at h
  ·dsimp only at h;split at h <;>exact h
  ·split at h
   ·exact h
   ·dsimp only at h
    split at h
    ·exact h
    ·split at h <;>exact h
 |lk s ld=>
  dsimp only;refine⟨fun h=> ?_,fun _=> .inl rfl⟩
  split at h
  ·exact h
  ·split at h <;>exact h
 |tn b=>
  dsimp only;refine⟨fun h=> ?_,fun _=> .inl rfl⟩
  split at h
  ·exact h
  ·dsimp only at h
   split at h
   ·split at h <;>exact h
   ·exact h
 |ck l=>
  dsimp only;refine⟨fun h=> ?_,fun _=> .inl rfl⟩
  split at h
  ·rw[(q4c _).1] at h;exact h
  ·split at h <;>exact h
 |dc=>
  dsimp only;refine⟨fun h=> ?_,fun _=> .inl rfl⟩
  split at h
  ·rw[(q4c _).1] at h;exact h
  ·split at h
   ·cases h
   ·rw[(q4c _).1] at h;cases h
 |wr A V=>
  dsimp only;refine⟨fun h=> ?_,fun _=> .inl rfl⟩
  split at h <;>exact h
 |rl A V=>
  dsimp only;refine⟨fun h=> ?_,fun _=> .inl rfl⟩
  split at h <;>exact h
 |sp=>exact⟨fun h=>h,fun _=> .inl rfl⟩
 |ps=>exact⟨fun h=>h,fun _=> .inl rfl⟩
 |lv=>exact⟨fun h=>h,fun _=> .inl rfl⟩
theorem qge:((qh c t m a).2.2.2=3→a.ph= .ent 1∧(qh c t m a).2.1.ph= .ent 2)∧((qh c t m a).2.2.2=16→a.ph= .dc):=by
 unfold qh;cases e:a.ph with
 |ent j=>
  dsimp only
  split
  ·exact⟨fun h=>absurd h (by show(2:Int)≠3;decide),fun h=>absurd h (by show(2:Int)≠16;decide)⟩
  ·split
   ·rename_i h1;exact⟨fun _=>⟨by rw[h1],rfl⟩,fun h=>absurd h (by show(3:Int)≠16;decide)⟩
   ·exact⟨fun h=>absurd h (by show(4:Int)≠3;decide),fun h=>absurd h (by show(4:Int)≠16;decide)⟩
 |dc=>exact⟨fun h=>absurd h (by show(16:Int)≠3;decide),fun _=>rfl⟩
 |rd j b v=>
  dsimp only
  split
  ·exact⟨fun h=>absurd h (by show(5:Int)≠3;decide),fun h=>absurd h (by show(5:Int)≠16;decide)⟩
  ·split
   ·exact⟨fun h=>absurd h (by show(6:Int)≠3;decide),fun h=>absurd h (by show(6:Int)≠16;decide)⟩
   ·exact⟨fun h=>absurd h (by show(7:Int)≠3;decide),fun h=>absurd h (by show(7:Int)≠16;decide)⟩
 |lk s ld=>
  dsimp only
  split
  ·exact⟨fun h=>absurd h (by show(11:Int)≠3;decide),fun h=>absurd h (by show(11:Int)≠16;decide)⟩
  ·split
   ·exact⟨fun h=>absurd h (by show(12:Int)≠3;decide),fun h=>absurd h (by show(12:Int)≠16;decide)⟩
   ·exact⟨fun h=>absurd h (by show(12:Int)≠3;decide),fun h=>absurd h (by show(12:Int)≠16;decide)⟩
 |tn b=>
  dsimp only
  split
  ·exact⟨fun h=>absurd h (by show(13:Int)≠3;decide),fun h=>absurd h (by show(13:Int)≠16;decide)⟩
  ·exact⟨fun h=>absurd h (by show(14:Int)≠3;decide),fun h=>absurd h (by show(14:Int)≠16;decide)⟩
 |idle=>exact⟨fun h=>absurd h (by show(0:Int)≠3;decide),fun h=>absurd h (by show(0:Int)≠16;decide)⟩
 |loc q=>exact⟨fun h=>absurd h (by show(0:Int)≠3;decide),fun h=>absurd h (by show(0:Int)≠16;decide)⟩
 |ck l=>exact⟨fun h=>absurd h (by show(15:Int)≠3;decide),fun h=>absurd h (by show(15:Int)≠16;decide)⟩
 |wr A V=>exact⟨fun h=>absurd h (by show(17:Int)≠3;decide),fun h=>absurd h (by show(17:Int)≠16;decide)⟩
 |rl A V=>exact⟨fun h=>absurd h (by show(18:Int)≠3;decide),fun h=>absurd h (by show(18:Int)≠16;decide)⟩
 |sp=>exact⟨fun h=>absurd h (by show(19:Int)≠3;decide),fun h=>absurd h (by show(19:Int)≠16;decide)⟩
 |ps=>exact⟨fun h=>absurd h (by show(20:Int)≠3;decide),fun h=>absurd h (by show(20:Int)≠16;decide)⟩
 |lv=>exact⟨fun h=>absurd h (by show(24:Int)≠3;decide),fun h=>absurd h (by show(24:Int)≠16;decide)⟩
theorem qjX{b:AT}(h:(x.ans p a i).at'=some b):b=a:=by
 unfold GT.ans at h
 split at h
 ·unfold GT.endG GT.to at h;dsimp only at h
  (repeat' split at h) <;>cases h
 ·split at h <;>(cases h;rfl)
theorem q61{b:AT}(h:(q0M c p t m x a i).2.1.at'=some b):b=(qh c t m a).2.1:=by
 unfold q0M at h;dsimp only at h
 split at h
 ·cases h;rfl
 ·exact qjX h
theorem qbi(hA:AI c t m a){x0:GT}(hx:x0.at'=some a∨(a.ph≠ .ent 1∧a.ph≠ .dc∧(a.ph.past=true→∃a0,x0.at'=some a0∧(a.dn=false→a0.dn=false)∧a0.ph.past=true))):qdY c p t x0 (q0M c p t m x a i).2.1 (q0M c p t m x a i).2.2.2:=by
 obtain⟨d1,d2⟩:=q6F (c:=c) (t:=t) (m:=m) (a:=a);obtain⟨p1,p2⟩:=qge (c:=c) (t:=t) (m:=m) (a:=a);have hev:(q0M c p t m x a i).2.2.2=evA c t (qh c t m a).2.1 (qh c t m a).2.2.2:=rfl;rw[hev];unfold evA
 by_cases h3:(qh c t m a).2.2.2=3
 ·rw[if_pos h3];obtain⟨e1,e2⟩:=p1 h3
  rcases hx with hx|⟨hx,_⟩
  ·have hb:(qh c t m a).2.1.busy=true:=by unfold AT.busy;rw[e2]
   refine .bg a (qh c t m a).2.1 hx e1 ?_ ?_ e2
   ·have:=hA.ph;unfold PhA at this;rw[e1] at this;exact this.1.1
   ·unfold q0M;dsimp only;rw[if_pos hb]
  ·exact absurd e1 hx
 ·rw[if_neg h3]
  by_cases h16:(qh c t m a).2.2.2=16∧(qh c t m a).2.1.dn=true
  ·rw[if_pos h16];have e1:=p2 h16.1
   rcases hx with hx|⟨_,hx,_⟩
   ·have hdn:a.dn=false:=by
     have:=hA.ph;unfold PhA at this;rw[e1] at this;exact this.1
    have hst:=q50 (c:=c) (t:=t) (m:=m) e1;have hz:(qh c t m a).2.1.seen=a.seen∧(qh c t m a).2.1.ad=a.ad∧(qh c t m a).2.1.code=a.code∧(qh c t m a).2.1.busy=true:=by
     have hd:=h16.2;rw[hst] at hd ⊢;dsimp only at hd ⊢;have hr:∀y:AT,y.rest.seen=y.seen∧y.rest.ad=y.ad∧y.rest.code=y.code∧y.rest.busy=true:=fun y=>by unfold AT.rest;split <;>exact⟨rfl,rfl,rfl,rfl⟩
     split
     ·rename_i hcl;rw[if_pos hcl,(q4c _).1] at hd;rw[show({a with ck:=m.ck,code:=6}:AT).dn=a.dn from rfl,hdn] at hd;cases hd
     ·split
      ·exact⟨rfl,rfl,rfl,rfl⟩
      ·exact hr _
    rw[hz.1,hz.2.1,hz.2.2.1];refine .en a (qh c t m a).2.1 hx e1 hdn ?_ h16.2;unfold q0M;dsimp only;rw[if_pos hz.2.2.2]
   ·exact absurd e1 hx
  ·rw[if_neg h16];refine .no fun b hb hbd hbp=> ?_
   obtain rfl:=q61 hb
   rcases d2 hbp with h|⟨h,h'⟩
   ·rcases hx with hx|⟨_,_,hx⟩
    ·exact⟨a,hx,d1 hbd,h⟩
    ·obtain⟨a0,e1,e2,e3⟩:=hx h;exact⟨a0,e1,e2 (d1 hbd),e3⟩
   ·exfalso;apply h3;unfold qh;rw[h];rfl
theorem qh6{rg:Rg}:(q1F c rg a i).ph≠ .ent 1∧(q1F c rg a i).ph≠ .dc∧(q1F c rg a i).dn=a.dn:=by
 unfold q1F AT.read
 (repeat' split) <;>exact⟨(fun h=>by cases h),(fun h=>by cases h),rfl⟩
theorem qdJ(h:q3t c ps n k q g r)(hx:q.xs[t]? =some x)(hp:ps[t]? =some p)(hpo:PrO p)(hd:x.th.dn=false):qdY c p t x (qN c p n t q.m x).2.1 (qN c p n t q.m x).2.2.2:=by
 obtain⟨f1,f2⟩:=h.fn hx hp hpo;obtain⟨i,hi,f3⟩:=f2 hd;have hno:∀x',x'.at'=none→qdY c p t x x' []:=fun x' e=> .no fun b hb=>by rw[e] at hb;cases hb
 have hw:x.at'=none→∀f,qdY c p t x (q0n n p t q.m x f).2.1 []:=fun ha f=>hno _ (by unfold q0n;dsimp only;split <;>exact ha)
 unfold qN;rw[hi];dsimp only;cases hf:x.fn with
 |some f=>exact hw (f1 (by rw[hf];exact fun e=>by cases e)) f
 |none=>
  dsimp only;cases ha:x.at' with
  |some a=>
   dsimp only;have hA:=h.gi.ai t x a hx ha
   split
   ·exact qbi hA (.inl ha)
   ·rename_i hb;have hb':a.busy=false:=by simpa using hb
    obtain⟨b1,b2,b3,b4⟩:=f3 a ha hb';have hid:a.ph= .idle:=by
     unfold AT.busy at hb';cases e:a.ph <;>rw[e] at hb' <;>first|rfl|cases hb'
    unfold q2d;rw[if_neg Y6,if_neg b4];unfold q15;rw[if_neg b1]
    by_cases hr:8≤i.op∧i.op≤11
    ·rw[if_pos hr,ha];dsimp only;have hR:=h.gi.th t x p hx hp;have hadn:a.dn=false:=by
      have:=hA.ph;unfold PhA at this;rw[hid] at this;exact this.1
     unfold ThR at hR;rw[ha] at hR;dsimp only at hR;rw[if_neg (by rw[hadn];decide)] at hR;obtain⟨_,hA2,_⟩:=q9U hR.2.2 hA hid hi hr;obtain⟨q1,q2,q3⟩:=qh6 (c:=c) (a:=a) (i:=i) (rg:=x.th.rg);exact qbi hA2 (.inr ⟨q1,q2,fun _=>⟨a,ha,fun e=>by rw[q3] at e;exact e,by rw[hid];rfl⟩⟩)
    ·rw[if_neg hr];refine .no fun b hb hbd hbp=> ?_
     have e:x.at'=some b:=hb;exact⟨b,e,hbd,hbp⟩
  |none=>
   dsimp only;unfold q2d
   by_cases hpl:i.op=12∨i.op=13
   ·rw[if_pos hpl];unfold q01
    by_cases hw2:c.words≤q1b x i
    ·rw[if_pos hw2];exact hno _ ha
    ·rw[if_neg hw2]
     by_cases h12:i.op=12
     ·rw[if_pos h12];have:=qdY.pl (c:=c) (p:=p) (t:=t) (x:=x) (x':=({x with th:={x.th with rg:=x.th.rg.set i.a.toNat (q.m.d.getD (q1b x i).toNat 0)},obs:=x.obs++ [⟨x.th.pc,4,q.m.d.getD (q1b x i).toNat 0⟩]}:GT).to p.length (x.th.pc+1)) i ha hf ha hi hpl Y6;rw[if_pos h12] at this;exact this
     ·rw[if_neg h12];have:=qdY.pl (c:=c) (p:=p) (t:=t) (x:=x) (x':=({x with obs:=x.obs++ [⟨x.th.pc,5,x.th.rg.get i.b.toNat⟩]}:GT).to p.length (x.th.pc+1)) i ha hf ha hi hpl Y6;rw[if_neg h12] at this;exact this
   ·rw[if_neg hpl]
    by_cases h16:i.op=16
    ·rw[if_pos h16];exact hw ha _
    ·rw[if_neg h16];unfold q15
     by_cases h7:i.op=7
     ·rw[if_pos h7];exact qbi AI.start (.inr ⟨(fun e=>by cases e),(fun e=>by cases e),(fun e=>by cases e)⟩)
     ·rw[if_neg h7]
      by_cases hr:8≤i.op∧i.op≤11
      ·rw[if_pos hr,ha];exact hno _ ha
      ·rw[if_neg hr];exact hno _ ha
end
open Go
inductive AtN (c:Cfg) (p:List Ins) (t:Nat) (m:MS) (x:GT):AT→Prop
 |same (b:AT):x.at'=some b→AtN c p t m x b
 |adv (a:AT):x.at'=some a→AI c t m a→AtN c p t m x (qh c t m a).2.1
 |req (a:AT) (i:Ins):x.at'=some a→a.ph= .idle→p[x.th.pc]? =some i→(8≤i.op∧i.op≤11)→AI c t m (q1F c x.th.rg a i)→AtN c p t m x (qh c t m (q1F c x.th.rg a i)).2.1
 |new:x.at'=none→AtN c p t m x (qh c t m {AT.new with st:=1,ph:= .ent 0}).2.1
section
variable{c:Cfg}{ps:List (List Ins)}{n k:Nat}{q:RM}{m:MS}{g g':GS}{r r':Nat→List (Int×Int)}{t u:Nat}{x:GT}{a b:AT}{p:List Ins}{i:Ins}
theorem qi8(hb:a.busy=false):a.ph= .idle:=by
 unfold AT.busy at hb;cases e:a.ph <;>rw[e] at hb <;>first|rfl|cases hb
theorem q3t.req(h:q3t c ps n k q g r)(hx:q.xs[t]? =some x)(hp:ps[t]? =some p)(ha:x.at'=some a)(hid:a.ph= .idle)(hi:p[x.th.pc]? =some i)(hr:8≤i.op∧i.op≤11):AI c t q.m (q1F c x.th.rg a i):=by
 have hA:=h.gi.ai t x a hx ha;have hR:=h.gi.th t x p hx hp;have hadn:a.dn=false:=by
  have:=hA.ph;unfold PhA at this;rw[hid] at this;exact this.1
 unfold ThR at hR;rw[ha] at hR;dsimp only at hR;rw[if_neg (by rw[hadn];decide)] at hR;exact(q9U hR.2.2 hA hid hi hr).2.1
theorem q7W(h:q3t c ps n k q g r)(hx:q.xs[t]? =some x)(hp:ps[t]? =some p)(hpo:PrO p)(hd:x.th.dn=false)(hb:(qN c p n t q.m x).2.1.at'=some b):AtN c p t q.m x b:=by
 obtain⟨f1,f2⟩:=h.fn hx hp hpo;obtain⟨i,hi,f3⟩:=f2 hd;have hw:x.at'=none→∀f,(q0n n p t q.m x f).2.1.at'=none:=fun ha f=>by unfold q0n;dsimp only;split <;>exact ha
 unfold qN at hb;rw[hi] at hb;dsimp only at hb;cases hf:x.fn with
 |some f=>
  rw[hf] at hb;dsimp only at hb;rw[hw (f1 (by rw[hf];exact fun e=>by cases e)) f] at hb;cases hb
 |none=>
  rw[hf] at hb;dsimp only at hb;cases ha:x.at' with
  |some a=>
   rw[ha] at hb;dsimp only at hb;have hA:=h.gi.ai t x a hx ha
   split at hb
   ·rw[q61 hb];exact .adv a ha hA
   ·rename_i hbz;have hb':a.busy=false:=by simpa using hbz
    obtain⟨b1,b2,b3,b4⟩:=f3 a ha hb';have hid:=qi8 hb';unfold q2d at hb;rw[if_neg Y6,if_neg b4] at hb;unfold q15 at hb;rw[if_neg b1] at hb
    by_cases hr:8≤i.op∧i.op≤11
    ·rw[if_pos hr,ha] at hb;dsimp only at hb;rw[q61 hb];exact .req a i ha hid hi hr (h.req hx hp ha hid hi hr)
    ·rw[if_neg hr] at hb;exact .same b hb
  |none=>
   rw[ha] at hb;dsimp only at hb;unfold q2d at hb
   by_cases hpl:i.op=12∨i.op=13
   ·rw[if_pos hpl] at hb;exfalso;unfold q01 at hb
    by_cases hw2:c.words≤q1b x i
    ·rw[if_pos hw2] at hb;have e:x.at'=some b:=hb;rw[ha] at e;cases e
    ·rw[if_neg hw2] at hb
     split at hb
     ·have e:x.at'=some b:=hb;rw[ha] at e;cases e
     ·have e:x.at'=some b:=hb;rw[ha] at e;cases e
   ·rw[if_neg hpl] at hb
    by_cases h16:i.op=16
    ·rw[if_pos h16,hw ha] at hb;cases hb
    ·rw[if_neg h16] at hb;unfold q15 at hb
     by_cases h7:i.op=7
     ·rw[if_pos h7] at hb;rw[q61 hb];exact .new ha
     ·rw[if_neg h7] at hb;exfalso
      by_cases hr:8≤i.op∧i.op≤11
      ·rw[if_pos hr,ha] at hb;dsimp only at hb;rw[ha] at hb;cases hb
      ·rw[if_neg hr] at hb;have e:x.at'=some b:=hb;rw[ha] at e;cases e
theorem q3h{w:Int}(h:w∈(qh c t m a).2.1.seen):w∈a.seen∨((∃j b v,a.ph= .rd j b v)∧w=a.addr):=by
 have hrs:∀y:AT,y.rest.seen=y.seen:=fun y=>by unfold AT.rest;split <;>rfl
 have hen:∀(y:AT) q,(y.endA c q).seen=y.seen:=fun y q=>by unfold AT.endA;split <;>rfl
 have hko:∀(y:AT) q,(y.kont c q).seen=y.seen:=fun y q=>by
  cases q with
  |en q=>exact hen y q
  |tk v=>rfl
  |wr w v=>
   unfold AT.kont;dsimp only
   split
   ·exact hen y 7
   ·split <;>rfl
 have hai:∀(l:List Int) (v:Int),w∈q1G l v→w∈l∨w=v:=fun l v hw=>by
  unfold q1G at hw
  split at hw
  ·exact .inl hw
  ·rcases zz.1 hw with h|h
   ·exact .inl h
   ·exact .inr (zf.1 h)
 unfold qh at h;cases e:a.ph with
 |idle=>rw[e] at h;exact .inl h
 |loc q=>rw[e] at h;dsimp only at h;rw[hko] at h;exact .inl h
 |ent j=>
  rw[e] at h;dsimp only at h
  split at h
  ·exact .inl h
  ·split at h <;>exact .inl h
 |rd j b v=>
  rw[e] at h;dsimp only at h
  split at h
  ·dsimp only at h;split at h <;>exact .inl h
  ·split at h
   ·exact .inl h
   ·dsimp only at h
    split at h
    ·exact .inl h
    ·refine(hai a.seen a.addr ?_).imp id fun e=>⟨⟨j,b,v,rfl⟩,e⟩
     split at h <;>exact h
 |lk s ld=>
  rw[e] at h;dsimp only at h
  split at h
  ·exact .inl h
  ·split at h <;>exact .inl h
 |tn b=>
  rw[e] at h;dsimp only at h
  split at h
  ·exact .inl h
  ·dsimp only at h
   split at h
   ·split at h <;>exact .inl h
   ·exact .inl h
 |ck l=>
  rw[e] at h;dsimp only at h
  split at h
  ·rw[hrs] at h;exact .inl h
  ·split at h <;>exact .inl h
 |dc=>
  rw[e] at h;dsimp only at h
  split at h
  ·rw[hrs] at h;exact .inl h
  ·split at h
   ·exact .inl h
   ·rw[hrs] at h;exact .inl h
 |wr A V=>rw[e] at h;dsimp only at h;split at h <;>exact .inl h
 |rl A V=>rw[e] at h;dsimp only at h;split at h <;>exact .inl h
 |sp=>rw[e] at h;exact .inl h
 |ps=>rw[e] at h;exact .inl h
 |lv=>rw[e] at h;exact .inl h
theorem qf6{rg:Rg}:(q1F c rg a i).seen=a.seen:=by
 unfold q1F AT.read
 (repeat' split) <;>rfl
def qbc(c:Cfg)(xs:List GT):Prop:=∀(u:Nat) y b,xs[u]? =some y→y.at'=some b→∀w∈b.seen,0≤w∧w<c.words
theorem AI.addr(hA:AI c t m a)(h:∃j b v,a.ph= .rd j b v):0≤a.addr∧a.addr<c.words:=by
 obtain⟨j,b,v,e⟩:=h;have:=hA.ph;unfold PhA at this;rw[e] at this;exact this.2.2
theorem AtN.seen(h:AtN c p t m x b)(h0:∀a,x.at'=some a→∀w∈a.seen,0≤w∧w<c.words):∀w∈b.seen,0≤w∧w<c.words:=by
 intro w hw;cases h with
 |same b e=>exact h0 b e w hw
 |adv a e hA=>
  rcases q3h hw with h|⟨h,rfl⟩
  ·exact h0 a e w h
  ·exact hA.addr h
 |req a i e hid hi hr hA=>
  rcases q3h hw with h|⟨h,rfl⟩
  ·rw[qf6] at h;exact h0 a e w h
  ·exact hA.addr h
 |new e=>
  rcases q3h hw with h|⟨⟨_,_,_,h⟩,_⟩
  ·cases h
  ·cases h
theorem q2u{E:List EvM}{e:EvM}:q7d (E++ [e])=e.ev:=by unfold q7d;rw[List.getLast?_concat]
theorem qhh.zero{m:MS}{xs:List GT}(h:∀(u:Nat) y,xs[u]? =some y→y.at'=none):qhh n ⟨m,xs,[],[]⟩:=⟨.nil,zW _,zu _,fun u y b hy hb=>by rw[h u y hy] at hb;cases hb⟩
theorem qhh.step(hw:c.words≤64)(hk:k≤1000)(h:q3t c ps n k q g r)(hE:qhh n q)(hS:qbc c q.xs)(ht:t<n)(hps:∀p∈ps,PrO p):qhh n (q0R c ps n q t)∧qbc c (q0R c ps n q t).xs:=by
 obtain⟨x,hx⟩:∃x,q.xs[t]? =some x:=⟨_,z6 (by rw[h.gi.xl];exact ht)⟩
 obtain⟨p,hp⟩:∃p,ps[t]? =some p:=⟨_,z6 (by rw[h.gi.pl];exact ht)⟩
 have hpo:=hps p (zg hp);cases hd:x.th.dn with
 |true=>
  rw[(q8t (c:=c) (ps:=ps) (n:=n) hx hd).1];exact⟨hE,hS⟩
 |false=>
  rw[(q8u (c:=c) (ps:=ps) (n:=n) hx hp hd).1];have hst:=qdJ h hx hp hpo hd;have hat:=fun b=>q7W (b:=b) h hx hp hpo hd
  generalize qN c p n t q.m x=z at hst hat ⊢;obtain⟨m',x',s,es⟩:=z;dsimp only at hst hat ⊢;have hlen:(q.S++ [s]).length=q.S.length+1:=by rw[z8,zE]
  have hev:=hE.ev;have hel:=hE.el;have hoth:∀(u:Nat) y,u≠t→(q.xs.set t x')[u]? =some y→q.xs[u]? =some y:=fun u y hu hy=>by rw[q0v hu] at hy;exact hy
  have hown:∀y,(q.xs.set t x')[t]? =some y→y=x':=fun y hy=>by rw[q0u hx] at hy;cases hy;rfl
  refine⟨?_,fun u y b hy hb=> ?_⟩
  ·cases hst with
   |no hno=>
    rw[Zi,zC];refine⟨hE.tr,?_,?_,fun u y b hy hb hbd hbp=> ?_⟩
    ·dsimp only;omega
    ·dsimp only;omega
    ·by_cases hu:u=t
     ·subst hu;obtain rfl:=hown y hy;obtain⟨a,e1,e2,e3⟩:=hno b hb hbd hbp;exact hE.lk u x a hx e1 e2 e3
     ·exact hE.lk u y b (hoth u y hu hy) hb hbd hbp
   |bg a a' e1 e2 e3 e4 e5=>
    refine⟨.snoc hE.tr ⟨⟨?_,?_⟩,?_,?_,?_,?_,?_,?_,?_,?_⟩,?_,?_,fun u y b hy hb hbd hbp=> ?_⟩
    ·show(0:Int)≤t;omega
    ·show(t:Int)<n;omega
    ·exact⟨by show(1:Int)≤3;decide,by show(3:Int)≤4;decide⟩
    ·exact⟨by show(0:Int)≤0;decide,by show(0:Int)<64;decide⟩
    ·intro w hw;cases hw
    ·intro w hw;cases hw
    ·intro e;exact absurd e (by show ¬(3:Int)=4;decide)
    ·intro _;exact⟨rfl,rfl⟩
    ·exact hev
    ·exact⟨zq _,zq _⟩
    ·show q7d (q.E++ [_])≤_;rw[q2u,hlen];show(q.S.length:Int)≤_;omega
    ·show(q.E++ [_]).length≤_;rw[hlen,z8,zE];omega
    ·show lkE (q.E++ [_]) u=3;rw[q39 (by show(3:Int)≠0;decide)]
     by_cases hu:u=t
     ·subst hu;exact if_pos rfl
     ·rw[if_neg (by show ¬(t:Int)=u;omega)];exact hE.lk u y b (hoth u y hu hy) hb hbd hbp
   |en a a' e1 e2 e3 e4 e5=>
    have hA:=h.gi.ai t x a hx e1;have h3:=hE.lk t x a hx e1 e3 (by rw[e2];rfl);refine⟨.snoc hE.tr ⟨⟨?_,?_⟩,?_,?_,?_,?_,?_,?_,?_,?_⟩,?_,?_,fun u y b hy hb hbd hbp=> ?_⟩
    ·show(0:Int)≤t;omega
    ·show(t:Int)<n;omega
    ·exact⟨by show(1:Int)≤4;decide,by show(4:Int)≤4;decide⟩
    ·exact⟨by show(0:Int)≤0;decide,by show(0:Int)<64;decide⟩
    ·intro w hw;have:=hS t x a hx e1 w hw;omega
    ·intro w hw;have hw':w∈(if a.code=1 then a.ad.filter fun x=>decide (x<c.words) else []):=hw
     split at hw'
     ·have:=hA.ar w (yu.1 hw').1;omega
     ·cases hw'
    ·intro _;exact h3
    ·intro e;exact absurd rfl e
    ·exact hev
    ·refine⟨Zl ((h.xt t x hx).at' a e1).ln hk,?_⟩;show(if a.code=1 then a.ad.filter fun x=>decide (x<c.words) else []).length≤64
     split
     ·exact Zl (yI ..) (qim 64 a.ad hA.an fun w hw'=>by have:=hA.ar w hw';omega)
     ·exact zq _
    ·show q7d (q.E++ [_])≤_;rw[q2u,hlen];show(q.S.length:Int)≤_;omega
    ·show(q.E++ [_]).length≤_;rw[hlen,z8,zE];omega
    ·show lkE (q.E++ [_]) u=3;rw[q39 (by show(4:Int)≠0;decide)]
     by_cases hu:u=t
     ·subst hu;obtain rfl:=hown y hy;rw[e4] at hb;cases hb;rw[e5] at hbd;cases hbd
     ·rw[if_neg (by show ¬(t:Int)=u;omega)];exact hE.lk u y b (hoth u y hu hy) hb hbd hbp
   |pl i e1 e2 e3 e4 e5 e6=>
    have h0:0≤q1b x i:=q5o _ _ _;have hk:(if i.op=12 then(1:Int) else 2)=1∨(if i.op=12 then(1:Int) else 2)=2:=by split;exact .inl rfl;exact .inr rfl
    refine⟨.snoc hE.tr ⟨⟨?_,?_⟩,?_,?_,?_,?_,?_,?_,?_,?_⟩,?_,?_,fun u y b hy hb hbd hbp=> ?_⟩
    ·show(0:Int)≤t;omega
    ·show(t:Int)<n;omega
    ·show 1≤(if i.op=12 then(1:Int) else 2)∧(if i.op=12 then(1:Int) else 2)≤4;omega
    ·show 0≤q1b x i∧q1b x i<64;omega
    ·intro w hw;cases hw
    ·intro w hw;cases hw
    ·intro e;have e:(if i.op=12 then(1:Int) else 2)=4:=e;omega
    ·intro _;exact⟨rfl,rfl⟩
    ·exact hev
    ·exact⟨zq _,zq _⟩
    ·show q7d (q.E++ [_])≤_;rw[q2u,hlen];show(q.S.length:Int)≤_;omega
    ·show(q.E++ [_]).length≤_;rw[hlen,z8,zE];omega
    ·show lkE (q.E++ [_]) u=3;rw[q39 (by show(if i.op=12 then(1:Int) else 2)≠0;omega)]
     by_cases hu:u=t
     ·subst hu;obtain rfl:=hown y hy;rw[e3] at hb;cases hb
     ·rw[if_neg (by show ¬(t:Int)=u;omega)];exact hE.lk u y b (hoth u y hu hy) hb hbd hbp
  ·by_cases hu:u=t
   ·subst hu;obtain rfl:=hown y hy;exact(hat b hb).seen fun a ha=>hS u x a hx ha
   ·exact hS u y b (hoth u y hu hy) hb
end
open Go
structure PvP(t:Nat)(i:Ins):Prop where
 pr:i.op=12→i.b=7∧i.imm=9+t
 pw:i.op=13→i.a=7∧i.imm=9+t
 tr:i.op=10→i.b=7∧0≤i.imm∧i.imm≤8
 tw:i.op=11→i.a=7∧0≤i.imm∧i.imm≤8
 st:i.op=1∨i.op=2∨i.op=3∨i.op=10∨i.op=12∨i.op=17→0≤i.a∧i.a≤6
structure PvA(b:AT):Prop where
 ad:∀w∈b.ad,w<9
 sn:∀w∈b.seen,w<9
 ph:match b.ph with
  | .loc (.wr w _)=>w<9
  | .rd _ _ _=>b.addr<9
  | .wr A _=>∀w∈A,w<9
  |_=>True
structure PvT(x:GT):Prop where
 rg:x.th.rg.get 7=0
 sv:x.sv.get 7=0
 at':∀b,x.at'=some b→PvA b
section
variable{c:Cfg}{ps:List (List Ins)}{n k:Nat}{q:RM}{m:MS}{g g':GS}{r r':Nat→List (Int×Int)}{t u:Nat}{x:GT}{a b:AT}{p:List Ins}{i:Ins}
theorem PvA.to(h:PvA a)(h1:b.ad=a.ad)(h2:b.seen=a.seen)(h3:match b.ph with
  | .loc (.wr w _)=>w<9
  | .rd _ _ _=>b.addr<9
  | .wr A _=>∀w∈A,w<9
  |_=>True):PvA b:=⟨by rw[h1];exact h.ad,by rw[h2];exact h.sn,h3⟩
theorem PvA.endA(h:PvA a)(q:Int):PvA (a.endA c q):=by
 unfold AT.endA
 split <;>exact h.to rfl rfl trivial
theorem PvA.rest(h:PvA a):PvA a.rest:=by
 unfold AT.rest
 split <;>exact h.to rfl rfl trivial
theorem PvA.kont(hl:a.ad.length=a.vl.length)(h:PvA a)(hid:a.ph= .idle){q:Ko}(hq:match q with
  | .wr w _=>w<9
  |_=>True):PvA (a.kont c q):=by
 cases q with
 |en q=>exact h.endA q
 |tk v=>exact⟨h.ad,h.sn,by show match a.ph with| .loc (.wr w _)=>w<9| .rd _ _ _=>a.addr<9| .wr A _=>∀w∈A,w<9|_=>True;rw[hid];trivial⟩
 |wr w v=>
  unfold AT.kont;dsimp only
  split
  ·exact h.endA 7
  ·split
   ·rename_i ad' vl' e;have h2:=(q8w hl e).2.1;refine⟨fun z hz=> ?_,h.sn,by show match a.ph with| .loc (.wr w _)=>w<9| .rd _ _ _=>a.addr<9| .wr A _=>∀w∈A,w<9|_=>True;rw[hid];trivial⟩;have hz:z∈ad':=hz;rw[h2] at hz;unfold q1G at hz
    split at hz
    ·exact h.ad z hz
    ·rcases zz.1 hz with h1|h1
     ·exact h.ad z h1
     ·rw[zf.1 h1];exact hq
   ·exact h.to rfl rfl trivial
theorem PvA.step(hA:AI c t m a)(h:PvA a):PvA (qh c t m a).2.1:=by
 have hs:∀w∈(qh c t m a).2.1.seen,w<9:=fun w hw=>by
  rcases q3h hw with h1|⟨⟨j,b,v,h1⟩,rfl⟩
  ·exact h.sn w h1
  ·have:=h.ph;rw[h1] at this;exact this
 have hp:=h.ph
 suffices hk:PvA {(qh c t m a).2.1 with seen:= []} from ⟨hk.ad,hs,by have:=hk.ph;exact this⟩
 unfold qh;cases e:a.ph with
 |idle=>exact⟨h.ad,fun _ h=>(by cases h),by dsimp only;rw[e];trivial⟩
 |loc q=>
  rw[e] at hp;have:=PvA.kont (c:=c) (q:=q) (a:={a with ph:= .idle}) hA.al (h.to rfl rfl trivial) rfl (by cases q <;>exact hp);exact⟨this.ad,fun _ h=>(by cases h),this.ph⟩
 |ent j=>
  dsimp only
  split
  ·exact⟨h.ad,fun _ h=>(by cases h),trivial⟩
  ·split <;>exact⟨h.ad,fun _ h=>(by cases h),trivial⟩
 |rd j b v=>
  rw[e] at hp;dsimp only
  split
  ·dsimp only
   split
   ·exact⟨h.ad,fun _ h=>(by cases h),trivial⟩
   ·exact⟨h.ad,fun _ h=>(by cases h),hp⟩
  ·split
   ·exact⟨h.ad,fun _ h=>(by cases h),hp⟩
   ·dsimp only
    split
    ·exact⟨h.ad,fun _ h=>(by cases h),trivial⟩
    ·split <;>exact⟨h.ad,fun _ h=>(by cases h),trivial⟩
 |lk s ld=>
  dsimp only
  split
  ·exact⟨h.ad,fun _ h=>(by cases h),trivial⟩
  ·split
   ·refine⟨h.ad,fun _ h=>(by cases h),?_⟩;dsimp only
    split <;>rename_i hh <;>(split at hh <;>first|cases hh|trivial)
   ·exact⟨h.ad,fun _ h=>(by cases h),trivial⟩
 |tn b=>
  dsimp only
  split
  ·exact⟨h.ad,fun _ h=>(by cases h),trivial⟩
  ·dsimp only
   split
   ·split <;>exact⟨h.ad,fun _ h=>(by cases h),trivial⟩
   ·exact⟨h.ad,fun _ h=>(by cases h),by dsimp only;rw[e];trivial⟩
 |ck l=>
  dsimp only
  split
  ·have:=PvA.rest (a:={a with code:=9}) ⟨h.ad,h.sn,h.ph⟩;exact⟨this.ad,fun _ h=>(by cases h),this.ph⟩
  ·split <;>exact⟨h.ad,fun _ h=>(by cases h),trivial⟩
 |dc=>
  dsimp only
  split
  ·have:=PvA.rest (a:={a with ck:=m.ck,code:=6}) ⟨h.ad,h.sn,h.ph⟩;exact⟨this.ad,fun _ h=>(by cases h),this.ph⟩
  ·split
   ·exact⟨h.ad,fun _ h=>(by cases h),h.ad⟩
   ·have:=PvA.rest (a:={a with ck:=m.ck,dn:=true}) ⟨h.ad,h.sn,h.ph⟩;exact⟨this.ad,fun _ h=>(by cases h),this.ph⟩
 |wr A V=>
  rw[e] at hp;dsimp only
  split
  ·exact⟨h.ad,fun _ h=>(by cases h),trivial⟩
  ·exact⟨h.ad,fun _ h=>(by cases h),fun w hw=>hp w (Zg hw)⟩
 |rl A V=>
  dsimp only
  split
  ·refine⟨h.ad,fun _ h=>(by cases h),?_⟩;dsimp only
   split <;>rename_i hh <;>(split at hh <;>first|cases hh|trivial)
  ·exact⟨h.ad,fun _ h=>(by cases h),trivial⟩
 |sp=>exact⟨h.ad,fun _ h=>(by cases h),trivial⟩
 |ps=>exact⟨h.ad,fun _ h=>(by cases h),trivial⟩
 |lv=>exact⟨h.ad,fun _ h=>(by cases h),trivial⟩
theorem qm9{rg:Rg}(h7:rg.get 7=0){imm:Int}(h:0≤imm∧imm≤1000):adr rg 7 imm=imm:=by
 unfold adr;rw[show(7:Int).toNat=7 from rfl,h7,Int.zero_add,q27 ⟨h.1,Y6⟩,q27 ⟨h.1,Y6⟩]
theorem PvA.req(h:PvA a)(hi:PvP u i){rg:Rg}(h7:rg.get 7=0):PvA (q1F c rg a i):=by
 unfold q1F
 split
 ·rename_i h10;obtain⟨e,h1,h2⟩:=hi.tr h10;unfold AT.read
  split
  ·exact h.to rfl rfl trivial
  ·split
   ·exact h.to rfl rfl trivial
   ·refine h.to rfl rfl ?_;show adr rg i.b i.imm<9;rw[e,qm9 h7 ⟨h1,Y6⟩];omega
 ·split
  ·rename_i h11;obtain⟨e,h1,h2⟩:=hi.tw h11;refine h.to rfl rfl ?_;show adr rg i.a i.imm<9;rw[e,qm9 h7 ⟨h1,Y6⟩];omega
  ·split <;>exact h.to rfl rfl trivial
theorem PvA.new:PvA {AT.new with st:=1,ph:= .ent 0}:=⟨fun _ h=>(by cases h),fun _ h=>(by cases h),trivial⟩
theorem qiF{rg:Rg}{a v:Int}(h7:rg.get 7=0)(ha:0≤a∧a≤6):(rg.set a.toNat v).get 7=0:=by
 rw[Rg.get_set Y6,if_neg Y6];exact h7
theorem qnD(h1:x.th.rg.get 7=0)(h2:x.sv.get 7=0)(hi:i.op=10→0≤i.a∧i.a≤6):(x.ans p a i).th.rg.get 7=0∧(x.ans p a i).sv.get 7=0:=by
 unfold GT.ans
 split
 ·unfold GT.endG GT.to;dsimp only
  (repeat' split) <;>first|exact⟨h1,h2⟩|exact⟨h2,h2⟩
 ·split
  ·rename_i h10;exact⟨qiF h1 (hi h10),h2⟩
  ·exact⟨h1,h2⟩
theorem qmr(h1:x.th.rg.get 7=0)(h2:x.sv.get 7=0)(hi:i.op=10→0≤i.a∧i.a≤6):(q0M c p t m x a i).2.1.th.rg.get 7=0∧(q0M c p t m x a i).2.1.sv.get 7=0:=by
 unfold q0M;dsimp only
 split
 ·exact⟨h1,h2⟩
 ·exact qnD h1 h2 hi
theorem qnI{th:Thr}(h1:th.rg.get 7=0)(hi:PvP u i):(q3S th i).get 7=0:=by
 unfold q3S
 split
 ·rename_i h;exact qiF h1 (hi.st (.inl h))
 ·split
  ·rename_i h;exact qiF h1 (hi.st (.inr (.inl h)))
  ·split
   ·rename_i h;exact qiF h1 (hi.st (.inr (.inr (.inl h))))
   ·split
    ·rename_i h;exact qiF h1 (hi.st (.inr (.inr (.inr (.inr (.inr h))))))
    ·exact h1
theorem qn8(h:PvT x)(hi:∀j∈p,PvP u j):(qN c p n t m x).2.1.th.rg.get 7=0∧(qN c p n t m x).2.1.sv.get 7=0:=by
 have h1:=h.rg;have h2:=h.sv;have hw:∀f,(q0n n p t m x f).2.1.th.rg.get 7=0∧(q0n n p t m x f).2.1.sv.get 7=0:=fun f=>by
  unfold q0n GT.to;dsimp only
  split <;>exact⟨h1,h2⟩
 unfold qN;cases e:p[x.th.pc]? with
 |none=>exact⟨h1,h2⟩
 |some i=>
  have hiP:=hi i (zg e);have h10:i.op=10→0≤i.a∧i.a≤6:=fun e=>hiP.st (.inr (.inr (.inr (.inl e))))
  have he:(q2d c p n t m x i).2.1.th.rg.get 7=0∧(q2d c p n t m x i).2.1.sv.get 7=0:=by
   unfold q2d
   split
   ·unfold q01 GT.to
    split
    ·dsimp only
     split
     ·rename_i h12;exact⟨qiF h1 (hiP.st (.inr (.inr (.inr (.inr (.inl h12)))))),h2⟩
     ·exact⟨h1,h2⟩
    ·split
     ·rename_i h12;exact⟨qiF h1 (hiP.st (.inr (.inr (.inr (.inr (.inl h12)))))),h2⟩
     ·exact⟨h1,h2⟩
   ·split
    ·exact hw _
    ·unfold q15
     split
     ·exact qmr h1 h1 h10
     ·split
      ·split
       ·exact qmr h1 h2 h10
       ·exact⟨h1,h2⟩
      ·exact⟨qnI h1 hiP,h2⟩
  dsimp only;cases x.fn with
  |some f=>exact hw f
  |none=>
   dsimp only
   split
   ·split
    ·exact qmr h1 h2 h10
    ·exact he
   ·exact he
structure PvQ(ps:List (List Ins))(n:Nat)(c:Cfg)(q:RM)(r:Nat→List (Int×Int)):Prop where
 e:qhh n q
 s:qbc c q.xs
 th:∀(u:Nat) x,q.xs[u]? =some x→PvT x
 rd:∀(u:Nat) x b,q.xs[u]? =some x→x.at'=some b→b.dn=false→∀z∈r u,z.1<9
 ev:∀e∈q.E,(e.k=4→∀w,w∈e.r∨w∈e.wl→w<9)∧(e.k=1∨e.k=2→e.w=9+e.t)
theorem qkN(h:PvA b){z:Int×Int}(hz:z∈fl b):z.1<9:=by
 have hp:=h.ph;unfold fl at hz
 split at hz
 ·rename_i e;rw[e] at hp
  split at hz
  ·cases hz
  ·rw[zf.1 hz];exact hp
 ·cases hz
theorem qcn(h:PvT x)(hi:PvP t i)(ht:t<64)(hop:i.op=12∨i.op=13):q1b x i=9+t:=by
 unfold q1b
 rcases hop with h12|h13
 ·obtain⟨e1,e2⟩:=hi.pr h12;rw[if_pos h12,e1,e2,qm9 h.rg Y6]
 ·obtain⟨e1,e2⟩:=hi.pw h13;rw[if_neg Y6,e1,e2,qm9 h.rg Y6]
theorem PvQ.safe(h:PvQ ps n c q r)(hn:n≤16)(ht:t<n)(hP:∀(u:Nat) p,ps[u]? =some p→∀i∈p,PvP u i):qm3 c ps q r t:=by
 intro x p i hx hp hd hi ha hf hop hw;have hpa:=qcn (h.th t x hx) (hP t p hp i (zg hi)) Y6 hop;rw[hpa];refine⟨fun u y b hy hb A V e hm=> ?_,fun _ u y b hu hy hb hbd hq=> ?_⟩
 ·have:=((h.th u y hy).at' b hb).ph;rw[e] at this;have:=this _ hm;omega
 ·obtain⟨z,hz,hzw⟩:=hq;have h9:z.1<9:=by
   rcases zz.1 hz with h1|h1
   ·exact h.rd u y b hy hb hbd z h1
   ·exact qkN ((h.th u y hy).at' b hb) h1
  omega
theorem PvQ.step(hw:c.words≤64)(hk0:k≤1000)(hn:n≤16)(hR:q3t c ps n k q g r)(h:PvQ ps n c q r)(ht:t<n)(hps:∀p∈ps,PrO p)(hP:∀(u:Nat) p,ps[u]? =some p→∀i∈p,PvP u i)(hk:PkR c ps n q g r t g' r'):PvQ ps n c (q0R c ps n q t) r':=by
 obtain⟨x,hx⟩:∃x,q.xs[t]? =some x:=⟨_,z6 (by rw[hR.gi.xl];exact ht)⟩
 obtain⟨p,hp⟩:∃p,ps[t]? =some p:=⟨_,z6 (by rw[hR.gi.pl];exact ht)⟩
 have hpo:=hps p (zg hp);cases hd:x.th.dn with
 |true=>
  rw[(q8t (c:=c) (ps:=ps) (n:=n) hx hd).1,(hk.dn x hx hd).2];exact h
 |false=>
  obtain⟨h1,h2⟩:=h.e.step hw hk0 hR h.s ht hps;refine⟨h1,h2,?_,?_,?_⟩
  all_goals rw[(q8u (c:=c) (ps:=ps) (n:=n) hx hp hd).1]
  ·intro u y hy;dsimp only at hy
   by_cases hu:u=t
   ·subst hu;rw[q0u hx] at hy;cases hy;obtain⟨s1,s2⟩:=qn8 (c:=c) (n:=n) (t:=u) (m:=q.m) (h.th u x hx) (hP u p hp);refine⟨s1,s2,fun b hb=> ?_⟩;cases q7W hR hx hp hpo hd hb with
    |same b e=>exact(h.th u x hx).at' b e
    |adv a e hA=>exact((h.th u x hx).at' a e).step hA
    |req a i e hid hi hr hA=>exact(((h.th u x hx).at' a e).req (hP u p hp i (zg hi)) (h.th u x hx).rg).step hA
    |new e=>exact PvA.new.step AI.start
   ·rw[q0v hu] at hy;exact h.th u y hy
  ·intro u y b hy hb hbd z hz;dsimp only at hy
   by_cases hu:u=t
   ·subst hu;rw[q0u hx] at hy;cases hy;have hrd:=hk.rd x p hx hp hd b hb hbd;rw[hrd] at hz;cases ha:x.at' with
    |none=>rw[ha] at hz;cases hz
    |some a=>
     rw[ha] at hz;dsimp only at hz;have hadn:a.dn=false:=by
      cases q7W hR hx hp hpo hd hb with
      |same b e=>rw[ha] at e;cases e;exact hbd
      |adv a' e hA=>rw[ha] at e;cases e;exact q6F.1 hbd
      |req a' i e hid hi hr hA=>rw[ha] at e;cases e;have:=q6F.1 hbd;rw[(qh6 (i:=i)).2.2] at this;exact this
      |new e=>rw[ha] at e;cases e
     split at hz
     ·exact h.rd u x a hx ha hadn z hz
     ·rcases zz.1 hz with h3|h3
      ·exact h.rd u x a hx ha hadn z h3
      ·exact qkN ((h.th u x hx).at' a ha) h3
   ·rw[hk.ot u hu] at hz;rw[q0v hu] at hy;exact h.rd u y b hy hb hbd z hz
  ·intro e he;dsimp only at he
   rcases zz.1 he with he|he
   ·exact h.ev e he
   ·have hst:=qdJ hR hx hp hpo hd;generalize qN c p n t q.m x=z at hst he;obtain⟨m',x',s,es⟩:=z;dsimp only at hst he;cases hst with
    |no hno=>cases he
    |bg a a' e1 e2 e3 e4 e5=>
     rw[zF,Zi] at he;rw[zf.1 he];exact⟨fun e=>absurd e (by show ¬(3:Int)=4;decide),fun e=>absurd e (by show ¬((3:Int)=1∨(3:Int)=2);decide)⟩
    |en a a' e1 e2 e3 e4 e5=>
     rw[zF,Zi] at he;rw[zf.1 he];have hpv:=(h.th t x hx).at' a e1;refine⟨fun _ w hw=> ?_,fun e=>absurd e (by show ¬((4:Int)=1∨(4:Int)=2);decide)⟩
     rcases hw with hw|hw
     ·exact hpv.sn w hw
     ·have hw':w∈(if a.code=1 then a.ad.filter fun x=>decide (x<c.words) else []):=hw
      split at hw'
      ·exact hpv.ad w (yu.1 hw').1
      ·cases hw'
    |pl i e1 e2 e3 e4 e5 e6=>
     rw[zF,Zi] at he;rw[zf.1 he];refine⟨fun e=> ?_,fun _=>qcn (h.th t x hx) (hP t p hp i (zg e4)) Y6 e5⟩;have e:(if i.op=12 then(1:Int) else 2)=4:=e
     split at e <;>omega
theorem PvQ.zero{m:MS}:PvQ ps n c ⟨m,ps.map q2J,[],[]⟩ fun _=> []:=by
 have hat:∀(u:Nat) x,(ps.map q2J)[u]? =some x→x.at'=none∧PvT x:=fun u x hx=>by
  rw[zI] at hx;obtain⟨p,hp,rfl⟩:=Zc.1 hx;exact⟨rfl,rfl,rfl,(fun b e=>by cases e)⟩
 exact⟨qhh.zero fun u y hy=>(hat u y hy).1,fun u y b hy hb=>(by rw[(hat u y hy).1] at hb;cases hb),fun u x hx=>(hat u x hx).2,fun u x b hx hb=>(by rw[(hat u x hx).1] at hb;cases hb),fun e he=>(by cases he)⟩
end
open Go Go.Proofs.YtbhbldllneadeaaGreatDoor.Ord
section
variable{n:Nat}
theorem qlU(h1:1≤n)(hn:n≤16){E:List EvM}(h:TrW n E):∀l:List EH,l.map EH.m=E→l.length≤65536→WF0 l n∧(∀t,lkL l t l.length=lkE E t)∧(l= []∨q2w l l.length=q7d E):=by
 induction h with
 |nil=>
  intro l hl _;have:l= []:=by cases l with|nil=>rfl|cons a l=>cases hl
  subst this;exact⟨⟨h1,hn,zq _,fun k hk=>(by simp at hk)⟩,fun t=>rfl, .inl rfl⟩
 | @snoc E e hE he ih=>
  intro l hl hle;obtain⟨l',z,rfl⟩:∃l' z,l=l'++ [z]:=⟨l.dropLast,l.getLast (fun e=>by rw[e] at hl;simp at hl),(List.dropLast_concat_getLast _).symm⟩
  rw[zH,zF,Zi] at hl;obtain⟨h2,h3⟩:=List.append_inj' hl rfl;have hz:z.m=e:=by simpa using h3
  rw[z8,zE] at hle;obtain⟨i1,i2,i3⟩:=ih l' h2 Y6;subst hz;have hk:=he.k;have ht:=he.t;have hw:=he.w;have hr:=he.r;have hwl:=he.wl;have hen:=he.en;have hpl:=he.pl;have hev:=he.ev;unfold EH.m at hk ht hw hr hwl hen hpl hev;dsimp only at hk ht hw hr hwl hen hpl hev;refine⟨i1.snoc Y6 ?_,fun t=> ?_, .inr ?_⟩
  ·unfold q17;have a1:decide (0≤z.t∧z.t<(n:Int)∧1≤z.k∧z.k≤4∧((l'.length==0)=true∨q2w l' l'.length≤z.ev)∧0≤z.w∧z.w<64)=true:=by
    refine decide_eq_true ⟨ht.1,ht.2,hk.1,hk.2,?_,hw.1,hw.2⟩
    rcases i3 with h|h
    ·exact .inl (by rw[h];rfl)
    ·exact .inr (by rw[h];exact hev)
   have a2:z.rl.all inW=true:=Z7.2 fun w hw=>decide_eq_true (hr w hw)
   have a3:z.wl.all inW=true:=Z7.2 fun w hw=>decide_eq_true (hwl w hw)
   rw[a1,a2,a3,i2]
   by_cases h4:z.k=4
   ·rw[if_pos h4,hen h4];rfl
   ·rw[if_neg h4,(hpl h4).1,(hpl h4).2];rfl
  ·rw[z8,zE,qc9,i2,q39 (by unfold EH.m;dsimp only;omega)];rfl
  ·rw[z8,zE,q2u,q4A (e:=z) Y8];rfl
theorem qmI{l:List EH}(hw:Wf l n)(h:∀x y,x<y→y<l.length→knd l x≠3→knd l y≠3→thr l x≠thr l y→¬(knd l x=4∧knd l y=4)→∀w,toB (at' l x) w=true→toB (at' l y) w=true→HB l x (toP l y)):rcA l l.length= []:=by
 refine List.eq_nil_iff_forall_not_mem.2 fun r hr=> ?_
 obtain⟨y,w,hy,_,h3,hr⟩:=qcv.1 hr;obtain⟨x,hx,_,hb⟩:=qcx hr;unfold rcB at hb;simp only[zx,yg,decide_eq_false_iff_not] at hb;obtain⟨hx3,hc,hn⟩:=hb;have k1:=hw.kd x Y6;have k2:=hw.kd y hy;obtain⟨c1,c2,c3,c4,_⟩:=qem hc ⟨k1.1,k1.2.1,hx3⟩ ⟨k2.1,k2.2.1,h3⟩;have:=h x y hx hy hx3 h3 c1 c2 _ c3 c4;rw[q6h.2 this] at hn;cases hn
theorem qgh{l:List EH}{E:List EvM}(h1:1≤n)(hn:n≤16)(h:TrW n E)(hl:l.map EH.m=E)(hle:l.length≤65536)(hr:∀x y,x<y→y<l.length→knd l x≠3→knd l y≠3→thr l x≠thr l y→¬(knd l x=4∧knd l y=4)→∀w,toB (at' l x) w=true→toB (at' l y) w=true→HB l x (toP l y)):
  (q9b l n).2=0∧frR l n=(-1, -1, -1):=by
 obtain⟨hw,_⟩:=qlU h1 hn h l hl hle;have hc:(q9b l n).2=0:=qbz.2 ⟨Y6,by rw[zB];exact hw⟩;refine⟨hc,?_⟩;unfold frR;rw[if_pos hc];exact q2i (qmI hw.wf hr)
end
open Go Go.Proofs.YtbhbldllneadeaaGreatDoor.Ord
structure qjT(c:Cfg)(il:List Int)(O:Nat)(ps:List (List Ins))(l:List Nat)(g:GS):Prop where
 r:qjG c il O ps l g
 e:(q10 c il O ps l).E.length≤65536
 t:∀es:List EH,es.map EH.m=(q10 c il O ps l).E→(q9b es ps.length).2=0∧frR es ps.length=(-1, -1, -1)
 b:∀e∈(q10 c il O ps l).E,e.r.length≤1000∧e.wl.length≤64
theorem TrW.lb{n:Nat}{E:List EvM}(h:TrW n E):∀e∈E,e.r.length≤1000∧e.wl.length≤64:=by
 induction h with
 |nil=>intro e he;cases he
 |snoc _ h2 ih=>
  intro e he
  rcases zz.1 he with h|h
  ·exact ih e h
  ·rw[zf.1 h];exact h2.lb
section
variable{W0:World}{own:Own}{c:Cfg}{ia pa ka:Option Addr}{il:List Int}{ic pc kc O:Nat}{ps:List PH}{l:List Nat}{g:GS}
theorem qlu(hF:qC W0)(hN:q12 W0 0 noneV)(hs:qm4 c il O (ps.map PH.p) l)(hr:∃g,qjT c il O (ps.map PH.p) l g)(hI:RdE q09 1 W0 own ia il)(hP:RdE PH.enc 1 W0 own pa ps)(hQ:∀h∈ps,RdE Ins.enc 5 W0 own h.a h.p)(hK:RdE qx 1 W0 own ka (l.map fun t=>((t:Nat):Int))):
  qE Tryz.prog W0 6 [qaG c ia il.length ic pa ps.length pc ka (l.map fun t=>((t:Nat):Int)).length kc] own (.bool true):=by
 obtain⟨g,hr⟩:=hr;have ht:=hr.t;rw[zk] at ht;exact qfF hF hN hs hr.r hr.e ht hr.b hI hP hQ hK
end
end Go.Proofs.YtbhbldllneadeaaGreatDoor
