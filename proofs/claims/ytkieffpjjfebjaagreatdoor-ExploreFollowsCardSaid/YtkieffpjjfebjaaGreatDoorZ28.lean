/- What the laws share, part 28. No condition. -/
import Derived.Test.YtkieffpjjfebjaaGreatDoorZ27
set_option maxHeartbeats 16000000
set_option maxRecDepth 10000
namespace Go.Proofs.YtkieffpjjfebjaaGreatDoor
namespace Ord
open Go
def ckV(cnt at1:Int)(ev sv bv:Value)(V:Nat→Value)(r:q0G):List Value:= [.int .i64 cnt, .int .i64 at1,ev,sv,bv]++(q3W 256 V++encRc r)
theorem qd0{cnt at1:Int}{ev sv bv:Value}{V:Nat→Value}{r:q0G}:(ckV cnt at1 ev sv bv V r).length=264:=by
 unfold ckV
 rw[List.length_append,List.length_append,qP]
 rfl
theorem qfx{n k:Nat}{V V2:Nat→Value}{v0 v1 v2 v3:Value}(h:k+4≤n)(h0:V2 k=v0)(h1:V2 (k+1)=v1)(h2:V2 (k+2)=v2)(h3:V2 (k+3)=v3)(hV:∀i,i<n→(i<k∨k+4≤i)→V2 i=V i):
  (q3W n V).take k++ [v0,v1,v2,v3]++(q3W n V).drop (k+4)=q3W n V2:=by
 have hl:∀V:Nat→Value,(q3W n V).length=n:=fun V=>qP
 apply List.ext_getElem?
 intro i
 by_cases hn:i<n
 ·rw[q0Y hn]
  by_cases hk:i<k
  ·rw[List.append_assoc,List.getElem?_append_left (by rw[List.length_take,hl];omega),List.getElem?_take,if_pos hk,q0Y hn,hV i hn (.inl hk)]
  ·by_cases hk4:k+4≤i
   ·rw[List.getElem?_append_right (by rw[List.length_append,List.length_take,hl];simp only[List.length_cons,List.length_nil];omega),List.length_append,List.length_take,hl,List.getElem?_drop]
    simp only[List.length_cons,List.length_nil]
    have e:k+4+(i-(min k n+(0+1+1+1+1)))=i:=by omega
    rw[e,q0Y hn,hV i hn (.inr hk4)]
   ·rw[List.append_assoc,List.getElem?_append_right (by rw[List.length_take,hl];omega),List.length_take,hl]
    have e:min k n=k:=by omega
    rw[e]
    obtain⟨j,rfl⟩:∃j,i=k+j:=⟨i-k,by omega⟩
    rw[Nat.add_sub_cancel_left]
    have hj:j=0∨j=1∨j=2∨j=3:=by omega
    rcases hj with rfl|rfl|rfl|rfl
    ·show some v0=some (V2 k);rw[h0]
    ·rw[h1];rfl
    ·rw[h2];rfl
    ·rw[h3];rfl
 ·rw[List.getElem?_eq_none (l:=q3W n V2) (by rw[hl];omega),List.getElem?_eq_none]
  rw[List.length_append,List.length_append,List.length_take,List.length_drop,hl]
  simp only[List.length_cons,List.length_nil]
  omega
section
variable{W0:World}{own:Own}{cnt at1:Int}{cb:Nat}{ev sv bv:Value}{V:Nat→Value}{r:q0G}{T:TypeId}
theorem qjX{v:Value}{K:Own→Prop}{C:(Obj→Prop)→Own} [m:UpC cb (fun o=>o=Obj.cells (ckV cnt at1 ev sv bv V r).toArray T (0,0)) own C](h1:q4A v=true)(h:K (C fun o=>o=Obj.cells (ckV cnt at1 ev v bv V r).toArray T (0,0))):StT W0 own ⟨cb,3,none⟩ v K:=
 qjY (by show Nat.ble 4 (ckV cnt at1 ev sv bv V r).length=true;rw[qd0];rfl) h1 h
theorem ql5{w k:Nat}{v0 v1 v2 v3:Value}{V2:Nat→Value}{K:Own→Prop}{C:(Obj→Prop)→Own} [m:UpC cb (fun o=>o=Obj.cells (ckV cnt at1 ev sv bv V r).toArray T (0,0)) own C](hk4:4=k)(hw:w<64)(h0:V2 (4*w)=v0)(h1:V2 (4*w+1)=v1)(h2:V2 (4*w+2)=v2)(h3:V2 (4*w+3)=v3)
  (hV:∀i,i<256→(i<4*w∨4*w+4≤i)→V2 i=V i) (hv: [v0,v1,v2,v3].all q4A=true) (h:K (C fun o=>o=Obj.cells (ckV cnt at1 ev sv bv V2 r).toArray T (0,0))): [v0,v1,v2,v3].length=k∧StN W0 own ⟨cb,5+w*4,none⟩ [v0,v1,v2,v3] K:=by
 subst hk4
 refine qfT (cs:=(ckV cnt at1 ev sv bv V r).toArray) (T:=T) rfl ?_ hv ?_
 ·rw[List.toList_toArray,qd0]
  exact Nat.ble_eq_true_of_le (by omega)
 ·have e:(ckV cnt at1 ev sv bv V r).take (5+w*4)++ [v0,v1,v2,v3]++(ckV cnt at1 ev sv bv V r).drop (5+w*4+4)=ckV cnt at1 ev sv bv V2 r:=by
   have h4:5+w*4=4*w+1+1+1+1+1:=by omega
   have h5:5+w*4+4=(4*w+4)+1+1+1+1+1:=by omega
   rw[h5,h4]
   unfold ckV
   simp only[List.cons_append,List.nil_append,List.take_succ_cons,List.drop_succ_cons]
   rw[List.take_append_of_le_length (by rw[qP];omega),List.drop_append_of_le_length (by rw[qP];omega),←List.append_assoc,qfx (n:=256) (k:=4*w) (by omega) h0 h1 h2 h3 hV]
  rw[List.toList_toArray,e]
  exact h
end
theorem qfa:frst []=nnR:=q54 rfl
theorem qd4{n:Nat}:q0d [] n=List.replicate n 0:=(q0C (g':=fun _=>0) fun _ _=>rfl).trans q6r.symm
theorem qdQ{n:Nat}{u:Int}:q5O [] n u=List.replicate n 0:=(q0C (g':=fun _=>0) fun _ _=>rfl).trans q6r.symm
theorem qeH{n:Nat}{Q:List EH→Int→Nat→Bool}{w:Int}:q7P [] n Q w=List.replicate n (0,0):=(q0C (g':=fun _=>(0,0)) fun _ _=>rfl).trans q6r.symm
theorem qka{e:Nat×(Obj→Prop)}{A r:Own}:(e::(A++r)).Perm ((A++ [e])++r):=by
 rw[List.append_assoc]
 exact List.perm_middle.symm
theorem qls{e0 e1 e2 e3:Nat×(Obj→Prop)}{A r:Own}:(e3::e2::e1::e0::(A++r)).Perm (((((A++ [e0])++ [e1])++ [e2])++ [e3])++r):=
 (((qka.cons e1).cons e2).cons e3).trans (((qka.cons e2).cons e3).trans ((qka.cons e3).trans qka))
section
variable{W0:World}{own:Own}
theorem qct(threads:Int)(h:threads<1∨16<threads):qD Tryz.prog W0 55 [.int .i64 threads] own (.tuple #[.pointer none, .int .i64 54]):=by
 refine qe (qa qj q5a (by simp[q2d]) ?_)
 by_cases h1:threads<1
 ·repeat'((try(conv=>whnf));first|(refine fI ?_)|(refine fE ?_)|(refine fJ ?_)|(refine fA ?_)|(refine qc (fun bk hbk=> ?_)))
  exact⟨rfl,(eC)⟩
 ·have h2:threads>16:=by omega
  repeat'((try(conv=>whnf));first|(refine fH ?_)|(refine fF ?_)|(refine fK ?_)|(refine fA ?_)|(refine qc (fun bk hbk=> ?_)))
  exact⟨rfl,(eC)⟩
theorem q8X:okF Tryz.prog 84=true:=by kernel_rfl
theorem qih{n:Nat}(hN:q1s W0 0 noneV)(h1:1≤n)(h2:n≤16):
  q0E Tryz.prog W0 55 [.int .i64 n] own fun v own'=>∃s:CkB,(v= .tuple #[.pointer (some ⟨s.cb,0,none⟩), .int .i64 0]∧CkM W0 n [] s)∧Ent W0 own' (s.O [] n++own):=by
 refine qa qj q5a (by simp[q2d]) ?_
 repeat'((try(conv=>whnf));first|(refine fH ?_)|(refine fG ?_)|(refine fK ?_)|(refine qc (fun tb htb=> ?_))|(refine fA ?_))
 refine q4H (σ:=Nat×Nat×Nat) 1040400 (fun s=> [(4, .pointer (some ⟨s.1,0,none⟩))]) (fun s=>match s with|(cb,eb,bb)=>(tb,fun o=>o=Obj.cells #[.int .i64 n] 3)::(cb,fun o=>o=Obj.cells (ckV 0 0 (.slice (some ⟨eb,0,none⟩) n n) (.slice none 0 0) (.slice (some ⟨bb,0,none⟩) n n) (fun _=> .slice none 0 0) nnR).toArray 151 (0,0))::q2J qM 3 eb (List.replicate n 0)::q2J q2Q 23 bb (List.replicate n (none,0,0))::own) (fun _=>True) rfl ?_ (fun s junk _=> ?_)
 ·repeat'((try(conv=>whnf));first|(refine mkC (enc:=qM) (T:=3) n 0 rfl rfl rfl ?_ (fun eb=> ?_);(omega))|(refine mkC (enc:=q2Q) (T:=23) n (none,0,0) rfl rfl rfl ?_ (fun bb=> ?_);(omega))|(refine q15 hN _ rfl rfl ?_)|(refine qc (fun cb hcb=> ?_))|(refine fA ?_)|(refine q4T.mk ?_ ?_))
  ·refine⟨(cb,eb,bb),trivial,(eF),?_⟩
   refine(Ent.head (fun o h=>h.trans ?_)).trans (qb2 (b0:=tb) (b1:=cb) (b2:=eb) (b3:=bb) rfl)
   kernel_rfl
  ·refine⟨(cb,eb,bb),trivial,(eF),?_⟩
   refine(Ent.head (fun o h=>h.trans ?_)).trans (qb2 (b0:=tb) (b1:=cb) (b2:=eb) (b3:=bb) rfl)
   kernel_rfl
 ·obtain⟨cb,eb,bb⟩:=s
  dsimp only
  repeat'((try(conv=>whnf));first|(refine fA ?_))
  refine q0Z (σ:=Option Addr×Nat×List Sl×Own×Own) (fun s=>match s with|(_,_,S,_,_)=> [(21, .int .i64 S.length)]) (fun s=>match s with|(a,c,S,D,X)=>(tb,fun o=>o=Obj.cells #[.int .i64 n] 3)::(cb,fun o=>o=Obj.cells (ckV 0 0 (.slice (some ⟨eb,0,none⟩) n n) (.slice a S.length c) (.slice (some ⟨bb,0,none⟩) n n) (fun _=> .slice none 0 0) nnR).toArray 151 (0,0))::q2J qM 3 eb (List.replicate n 0)::q2J q2Q 23 bb (List.replicate n (none,0,0))::(X++(D++own)))
   (fun s=>match s with|(a,c,S,D,X)=>S.length≤n∧qr q2Q 23 1 a c S D∧∀u,u<S.length→∃a' c',S[u]? =some (a',n,c')∧RdE qM 1 W0 X a' (List.replicate n 0)) (fun s=>match s with|(_,_,S,_,_)=>n-S.length) (none,0,[],[],[]) ⟨by simp,qr.nil,fun u hu=>by simp at hu⟩ (eF) Ent.refl rfl ?_
  rintro⟨a,c,S,D,X⟩ junk ⟨hSl,hB,hrow⟩
  dsimp only
  by_cases hlt:S.length<n
  ·have hlt':(S.length:Int)<n:=by omega
   repeat'((try(conv=>whnf));first|(refine fF ?_)|(refine mkC (enc:=qM) (T:=3) n 0 rfl rfl rfl ?_ (fun rb=> ?_);(omega))|(refine qc (fun qb hqb=> ?_))|(refine q69 (enc:=q2Q) (T2:=23) (ys:= #[.slice (some ⟨rb,0,none⟩) n n]) (some ⟨rb,0,none⟩,n,n) hB rfl rfl ?_ rfl rfl ?_ (fun a1 c1 D1 hB1=> ?_);(omega);(omega))|(refine qjX ?_ ?_;(exact rfl))|(refine fB ?_)|(refine fA ?_))
   have hln:(S++ [((some ⟨rb,0,none⟩,n,n):Sl)]).length=S.length+1:=by simp
   refine⟨(a1,c1,S++ [(some ⟨rb,0,none⟩,n,n)],D1,q2J qM 3 rb (List.replicate n 0)::X),⟨by show(S++ [((some ⟨rb,0,none⟩,n,n):Sl)]).length≤n;omega,hB1,fun u hu=> ?_⟩,by show n-(S++ [((some ⟨rb,0,none⟩,n,n):Sl)]).length<n-S.length;omega,⟨vi (by show(S.length:Int)+1=((S++ [((some ⟨rb,0,none⟩,n,n):Sl)]).length:Nat);omega),trivial⟩,?_⟩
   ·by_cases hu2:u<S.length
    ·obtain⟨a',c',h3,h4⟩:=hrow u hu2
     exact⟨a',c',by rw[List.getElem?_append_left hu2];exact h3,h4.up⟩
    ·have hu4:u<(S++ [((some ⟨rb,0,none⟩,n,n):Sl)]).length:=hu
     have hu3:u=S.length:=by omega
     subst hu3
     exact⟨some ⟨rb,0,none⟩,n,by simp,(q9t (T:=3) q3L).ent (Ent.left (D:= [_]))⟩
   ·dsimp only
    rw[hln]
    exact Ent.drop.trans (qb2 (b0:=tb) (b1:=cb) (b2:=eb) (b3:=bb) rfl)
  ·have hlt':¬(S.length:Int)<n:=by omega
   have hie:S.length=n:=by omega
   repeat'((try(conv=>whnf));first|(refine fG ?_))
   rw[hie]
   obtain⟨sb,rfl⟩:∃sb,a=some ⟨sb,0,none⟩:=by
    rcases hB.how with ⟨h,_,_⟩|⟨b,_,h,_⟩
    ·rw[h] at hie;simp at hie;omega
    ·exact⟨b,h⟩
   have hV0:(fun i=>if i<4*0 then q7M (fun _=>0) n i else .slice none 0 0)=(fun _=>Value.slice none 0 0):=by funext i;rw[if_neg (by omega)]
   refine q0Z (σ:=Nat×(Nat→Nat)) (fun s=> [(35, .int .i64 s.1)]) (fun s=>match s with|(w,bs)=>(tb,fun o=>o=Obj.cells #[.int .i64 n] 3)::(cb,fun o=>o=Obj.cells (ckV 0 0 (.slice (some ⟨eb,0,none⟩) n n) (.slice (some ⟨sb,0,none⟩) n c) (.slice (some ⟨bb,0,none⟩) n n) (fun i=>if i<4*w then q7M bs n i else .slice none 0 0) nnR).toArray 151 (0,0))::q2J qM 3 eb (List.replicate n 0)::q2J q2Q 23 bb (List.replicate n (none,0,0))::(q4t bs (fun _=>List.replicate n (0,0)) (4*w)++(X++(D++own)))) (fun s=>s.1≤64) (fun s=>64-s.1) (0,fun _=>0) (by simp) (eF) (by dsimp only;rw[hV0];exact Ent.refl) rfl ?_
   rintro⟨w,bs⟩ junk hw
   dsimp only at hw ⊢
   have hn1:=fun(own':Own) (_:q3X tb (fun o=>o=Obj.cells #[.int .i64 n] 3) own')=>qi8 (W0:=W0) (own:=own') (tb:=tb) (n:=n) (by omega)
   by_cases hw64:w<64
   ·have hw':(w:Int)<64:=by omega
    repeat'((try(conv=>whnf));first|(refine fF ?_)|(refine q6u.mk ⟨q8X,?_⟩)|((with_reducible show qf _ _ _ _ _ _);first|((refine qZ (hn1 _ inferInstance) ?_ ?_ (fun c0 v hv=> ?_);(exact rfl);(exact rfl);(subst hv);(apply Stop.h)))))
    refine Stop.mk ?_
    repeat'((try(conv=>whnf));first|(refine q6u.mk ⟨q8X,?_⟩)|((with_reducible show qf _ _ _ _ _ _);first|((refine qZ (hn1 _ inferInstance) ?_ ?_ (fun c1 v hv=> ?_);(exact rfl);(exact rfl);(subst hv);(apply Stop.h)))))
    refine Stop.mk ?_
    repeat'((try(conv=>whnf));first|(refine q6u.mk ⟨q8X,?_⟩)|((with_reducible show qf _ _ _ _ _ _);first|((refine qZ (hn1 _ inferInstance) ?_ ?_ (fun c2 v hv=> ?_);(exact rfl);(exact rfl);(subst hv);(apply Stop.h)))))
    refine Stop.mk ?_
    repeat'((try(conv=>whnf));first|(refine q6u.mk ⟨q8X,?_⟩)|((with_reducible show qf _ _ _ _ _ _);first|((refine qZ (hn1 _ inferInstance) ?_ ?_ (fun c3 v hv=> ?_);(exact rfl);(exact rfl);(subst hv);(apply Stop.h)))))
    refine Stop.mk ?_
    obtain⟨bs',hb0,hb1,hb2,hb3,hbo⟩:∃bs':Nat→Nat,bs' (4*w)=c0∧bs' (4*w+1)=c1∧bs' (4*w+2)=c2∧bs' (4*w+3)=c3∧∀j,j<4*w→bs' j=bs j:=by
     refine⟨fun j=>if j<4*w then bs j else if j=4*w then c0 else if j=4*w+1 then c1 else if j=4*w+2 then c2 else c3,?_,?_,?_,?_,fun j hj=>if_pos hj⟩
     ·show(if 4*w<4*w then _ else _)=_;rw[if_neg (by omega),if_pos rfl]
     ·show(if 4*w+1<4*w then _ else _)=_;rw[if_neg (by omega),if_neg (by omega),if_pos rfl]
     ·show(if 4*w+2<4*w then _ else _)=_;rw[if_neg (by omega),if_neg (by omega),if_neg (by omega),if_pos rfl]
     ·show(if 4*w+3<4*w then _ else _)=_;rw[if_neg (by omega),if_neg (by omega),if_neg (by omega),if_neg (by omega)]
    have hg:∀k c,k<4→bs' (4*w+k)=c→(if 4*w+k<4*(w+1) then q7M bs' n (4*w+k) else Value.slice none 0 0)= .slice (some ⟨c,0,none⟩) n n:=fun k c hk hb=>by
     rw[if_pos (by omega)]
     show Value.slice (some ⟨bs' (4*w+k),0,none⟩) n n=_
     rw[hb]
    have hV:∀i,i<256→(i<4*w∨4*w+4≤i)→(fun i=>if i<4*(w+1) then q7M bs' n i else .slice none 0 0) i=(fun i=>if i<4*w then q7M bs n i else .slice none 0 0) i:=fun i _ hi=>by
     show(if i<4*(w+1) then q7M bs' n i else Value.slice none 0 0)=(if i<4*w then q7M bs n i else Value.slice none 0 0)
     rcases hi with hi|hi
     ·rw[if_pos (by omega),if_pos hi]
      show Value.slice (some ⟨bs' i,0,none⟩) n n=_
      rw[hbo i hi]
     ·rw[if_neg (by omega),if_neg (by omega)]
    have hac:q4t bs' (fun _=>List.replicate n (0,0)) (4*(w+1))=(((q4t bs (fun _=>List.replicate n (0,0)) (4*w)++ [q2J q1J 188 c0 (List.replicate n (0,0))])++ [q2J q1J 188 c1 (List.replicate n (0,0))])++ [q2J q1J 188 c2 (List.replicate n (0,0))])++ [q2J q1J 188 c3 (List.replicate n (0,0))]:=by
     show(((q4t bs' (fun _=>List.replicate n (0,0)) (4*w)++ [q2J q1J 188 (bs' (4*w)) (List.replicate n (0,0))])++ [q2J q1J 188 (bs' (4*w+1)) (List.replicate n (0,0))])++ [q2J q1J 188 (bs' (4*w+2)) (List.replicate n (0,0))])++ [q2J q1J 188 (bs' (4*w+3)) (List.replicate n (0,0))]=_
     rw[hb0,hb1,hb2,hb3,q1p (bs':=bs) (H':=(fun _=>List.replicate n (0,0))) fun j hj=>⟨hbo j hj,rfl⟩]
    repeat'((try(conv=>whnf));first|(refine ql5 (w:=w) (V2:=(fun i=>if i<4*(w+1) then q7M bs' n i else .slice none 0 0)) rfl hw64 (hg 0 c0 (by omega) hb0) (hg 1 c1 (by omega) hb1) (hg 2 c2 (by omega) hb2) (hg 3 c3 (by omega) hb3) hV rfl ?_)|(refine fB ?_)|(apply ixj;omega))
    refine⟨(w+1,bs'),by dsimp only;omega,by dsimp only;omega,⟨vi (by dsimp only;omega),trivial⟩,?_⟩
    dsimp only
    rw[hac]
    exact(qb2 (b0:=tb) (b1:=cb) (b2:=eb) (b3:=bb) rfl).trans (Ent.of_perm ((((qls.cons _).cons _).cons _).cons _))
   ·have hw':¬(w:Int)<64:=by omega
    have hw3:w=64:=by omega
    subst hw3
    have hce:ckV 0 0 (.slice (some ⟨eb,0,none⟩) n n) (.slice (some ⟨sb,0,none⟩) n c) (.slice (some ⟨bb,0,none⟩) n n) (fun i=>if i<4*64 then q7M bs n i else .slice none 0 0) nnR=ckL 0 0 eb sb bb n c (q7M bs n) nnR:=by
     unfold ckV ckL
     rw[q0C (g':=q7M bs n) fun j hj=>if_pos (by omega)]
    have hac:q4t bs (q1S [] n) 256=q4t bs (fun _=>List.replicate n (0,0)) (4*64):=q1p fun j _=>⟨rfl,qeH⟩
    rw[hce]
    repeat'((try(conv=>whnf));first|(refine fD ?_))
    refine⟨⟨cb,eb,sb,c,bb,bs,S,List.replicate n (none,0,0),D,X⟩,⟨rfl,WF0.nil h1 h2,hB,hie,by simp,fun u hu=> ?_,fun u hu h3=> ?_,fun u hu _=> ?_⟩,?_⟩
    ·rw[qdQ]
     exact hrow u (by omega)
    ·exact absurd h3 (by show(0:Int)≠3;decide)
    ·show(List.replicate n ((none,0,0):Sl))[u]? =_
     rw[List.getElem?_replicate,if_pos hu]
    ·show Ent W0 _ (ckO 0 0 (frst []) (q0d [] n) (q1S [] n) cb eb sb bb n c bs (List.replicate n (none,0,0)) D X++own)
     unfold ckO
     rw[qfa,qd4,hac]
     refine Ent.drop.trans (Ent.of_perm ?_)
     refine(((?_:List.Perm _ _).cons _).cons _).cons _
     have hp:(q4t bs (fun _=>List.replicate n (0,0)) (4*64)++(X++(D++own))).Perm ((D++(q4t bs (fun _=>List.replicate n (0,0)) (4*64)++X))++own):=by
      rw[←List.append_assoc,←List.append_assoc]
      exact List.perm_append_comm.append_right own
     exact hp
end
theorem qaU{n:Nat}:∀(l:List EH) (i:Nat) (pa:Int) (last:List Int),(qaT n l i pa last).2=0∨(qaT n l i pa last).2=91
 | [],_,_,_=> .inl rfl
 |e::l,i,pa,last=>by
  unfold qaT
  split
  ·exact qaU l _ _ _
  ·exact .inr rfl
theorem qgY{l:List EH}{n k:Nat}(h1:1≤n)(h2:n≤16)(hl:l.length≤65536)(hk:k<l.length)(hf:q61 l n k=false):(q7q l n).2=91:=by
 have h0:(q7q l n).2≠0:=fun h=>by
  have:=(qcZ.1 h).2.2.2.2 k hk
  rw[Int.toNat_natCast,hf] at this
  cases this
 unfold q7q at h0 ⊢
 rw[if_neg (by omega),if_neg (by omega)] at h0 ⊢
 exact(qaU _ _ _ _).resolve_left h0
theorem qdD{l:List EH}{n i:Nat}{e:EH}(he:l[i]? =some e):q61 l n i=q1m n ((l.take i).length==0) (q3V (l.take i) (l.take i).length) (lkL (l.take i) e.t (l.take i).length) e:=by
 have hi:=(List.getElem?_eq_some_iff.1 he).1
 have hl:(l.take i).length=i:=by rw[List.length_take];omega
 have e1:l=(l.take i++ [e])++l.drop (i+1):=by
  have:l.take i++ [e]=l.take (i+1):=by rw[List.take_add_one,he];rfl
  rw[this,List.take_append_drop]
 have h2:q61 l n i=q61 (l.take i++ [e]) n i:=by
  conv=>lhs;rw[e1]
  exact qbn (by rw[List.length_append,hl];simp)
 have h3:=qbo (l:=l.take i) (e:=e) (n:=n)
 rw[hl] at h3
 rw[h2,h3,hl]
theorem _root_.Go.Proofs.YtkieffpjjfebjaaGreatDoor.RdE.pre{α:Type}{enc:α→List Value}{sz:Nat}{W0:World}{own:Own}{a:Option Addr}{l r:List α}(h:RdE enc sz W0 own a (l++r)):RdE enc sz W0 own a l:=
 ⟨fun hne=>h.isS (fun e=>hne (List.append_eq_nil_iff.1 e).1),fun x hx=>h.wid x (List.mem_append_left _ hx),fun{j k x v} hx hv=>h.cell (by rw[List.getElem?_append_left (List.getElem?_eq_some_iff.1 hx).1];exact hx) hv⟩
section
variable{W0:World}{own:Own}
theorem qij{P:Program}{σ:Type}{k:FuncId}{args:List Value}{e1:Nat×(Obj→Prop)}{D r:Own}{R:σ→Value→Prop}{O:σ→Own}(h:q0E P W0 k args (D++([e1]++r)) fun v own'=>∃s,R s v∧Ent W0 own' (O s++([e1]++r))):q0E P W0 k args (e1::(D++r)) fun v own'=>∃s,R s v∧Ent W0 own' (e1::(O s++r)):=q5P (A:= [e1]) h
theorem qfQ{cnt at1:Int}{cb eb sb bb n sc:Nat}{bs:Nat→Nat}{r:q0G} [i1:qt own [ckN cnt at1 cb eb sb bb n sc bs r]]:qD Tryz.prog W0 57 [.pointer (some ⟨cb,0,none⟩)] own (.agg (encRc r).toArray):=by
 refine qe (qa qj q4b (by simp[q0u]) ?_)
 have hld:∀(own':Own) (_:qt own' [ckN cnt at1 cb eb sb bb n sc bs r]) (K:Array Value→Prop),K (encRc r).toArray→LdN W0 own' ⟨cb,261,none⟩ 3 K:=fun own' i K hk=>by
  obtain⟨vs,h1,h2,h3⟩:LdN W0 [ckN cnt at1 cb eb sb bb n sc bs r] ⟨cb,261,none⟩ 3 K:=q42 rfl hk
  exact⟨vs,h1,fun w hw=>h2 w (i.h W0 w hw),h3⟩
 repeat'((try(conv=>whnf));first|(refine fD ?_)|(refine hld _ inferInstance _ ?_)|(refine fL ?_)|(refine fM ?_)|(refine qc (fun bk hbk=> ?_)))
 exact⟨rfl,(eC)⟩
theorem sp_trun{a:Option Addr}{l:List EH}{cap:Nat}(hN:q1s W0 0 noneV)(hR:RdE EH.enc 6 W0 own a l)(hE:∀e∈l,EvR W0 own e)(hl:l.length≤65536)(th:Int):
  qD Tryz.prog W0 27 [.slice a l.length cap, .int .i64 th] own (.tuple #[.agg (encRc (frR l th)).toArray, .int .i64 (q7q l th).2]):=by
 refine qe (qa qj q9G (by simp[q3w]) ?_)
 by_cases hth:th<1∨16<th
 ·have hno:=fun own'=>qct (W0:=W0) (own:=own') th hth
  have hck:q7q l th=(0,54):=by unfold q7q;rw[if_pos hth]
  have hfr:frR l th=nnR:=by unfold frR;rw[hck,if_neg (by decide)]
  rw[hck,hfr]
  repeat'((try(conv=>whnf));first|(refine fE ?_)|(refine q15 hN _ rfl rfl ?_)|((with_reducible show qf _ _ _ _ _ _);first|((refine qh (hno _) ?_ ?_ ?_;(exact rfl);exact rfl)))|(refine fO ?_)|(refine fL ?_)|(refine fM ?_)|(refine qc (fun bk hbk=> ?_)))
  exact⟨rfl,(eC)⟩
 ·obtain⟨n,rfl⟩:∃n:Nat,th=n:=⟨th.toNat,by omega⟩
  have hnew:=fun own'=>qih (W0:=W0) (own:=own') hN (n:=n) (by omega) (by omega)
  repeat'((try(conv=>whnf));first|(refine qc (fun b4 hb4=> ?_))|((with_reducible show qf _ _ _ _ _ _);first|((refine qZ (hnew _) ?_ ?_ (fun s v hv=> ?_);(exact rfl);(exact rfl);(obtain⟨rfl,hM0⟩:=hv);(apply Stop.h)))))
  refine Stop.mk ?_
  repeat'((try(conv=>whnf));first|(refine fD ?_)|(refine fO ?_))
  refine q0Z (σ:=Nat×CkB) (fun q=> [(23, .int .i64 q.1)]) (fun q=>q.2.O (l.take q.1) n++((b4,fun o=>o=Obj.cells #[.int .i64 0, .int .i64 0, .int .i64 0] 56)::own)) (fun q=>q.1≤l.length∧q.2.cb=s.cb∧CkM W0 n (l.take q.1) q.2) (fun q=>l.length-q.1) (0,s) ⟨Nat.zero_le _,rfl,hM0⟩ (eF) Ent.refl rfl ?_
  clear hM0 hnew
  rintro⟨i,s'⟩ junk ⟨hi,hcb,hM⟩
  obtain⟨cb',eb',sb',sc',bb',bs',S',B',D',X'⟩:=s'
  dsimp only at hi hcb hM ⊢
  subst hcb
  by_cases hlt:i<l.length
  ·obtain⟨e,he⟩:∃e,l[i]? =some e:=⟨_,List.getElem?_eq_getElem hlt⟩
   have hlt':(i:Int)<l.length:=by omega
   have htl:(l.take i).length=i:=by rw[List.length_take];omega
   have htk:l.take (i+1)=l.take i++ [e]:=by rw[List.take_add_one,he];rfl
   have hok:=qdD (n:=n) he
   have hEe:=hE e (List.mem_of_getElem? he)
   by_cases hf:q61 l n i=true
   ·have hadd:=fun A:Own=>qie (r0:=A++((b4,fun o=>o=Obj.cells #[.int .i64 0, .int .i64 0, .int .i64 0] 56)::own)) hN hM hEe.up (by rw[←hok];exact hf) (by omega)
    obtain⟨ev,tt,k,wd,ra,rl,rc,wa,wl,wc⟩:=e
    dsimp only[EH.v] at hadd
    repeat'((try(conv=>whnf));first|(refine fD ?_)|(refine fF ?_)|((with_reducible show IxS _ _ _ _ _);first|((refine ixE hR he ?_ ?_;(first|rfl|omega))))|((with_reducible show LdN _ _ _ _ _);first|(refine q2e hR he rfl ?_))|((with_reducible show qf _ _ _ _ _ _);first|((refine qZ (qij (hadd [_])) ?_ ?_ (fun q v hv=> ?_);(exact rfl);(exact rfl);(obtain⟨rfl,hcb2,hM2⟩:=hv))))|(refine fB ?_)|(refine fO ?_)|(refine fL ?_)|(refine fM ?_)|(refine qc (fun bk hbk=> ?_)))
    refine⟨(i+1,q),⟨hlt,hcb2,by dsimp only;rw[htk];exact hM2⟩,by dsimp only;omega,(eF),?_⟩
    dsimp only
    rw[htk]
    exact Ent.drop.trans Ent.drop
   ·have hbad:=qgY (by omega) (by omega) hl hlt (Bool.eq_false_iff.2 hf)
    have hfr:frR l n=nnR:=by unfold frR;rw[hbad,if_neg (by decide)]
    rw[hbad,hfr]
    have hadd:=fun(own':Own) (j1:qt own' [ckN (l.take i).length (q3V (l.take i) (l.take i).length) s.cb eb' sb' bb' n sc' bs' (frst (l.take i))]) (j2:qt own' [q2J q2Q 23 bb' B']) (j3:qt own' own)=>qcs (own:=own') hN hM hEe (by rw[←hok];exact Bool.eq_false_iff.2 hf) (by omega)
    obtain⟨ev,tt,k,wd,ra,rl,rc,wa,wl,wc⟩:=e
    dsimp only[EH.v] at hadd
    repeat'((try(conv=>whnf));first|(refine fE ?_)|(refine fF ?_)|(refine q15 hN _ rfl rfl ?_)|((with_reducible show IxS _ _ _ _ _);first|((refine ixE hR he ?_ ?_;(first|rfl|omega))))|((with_reducible show LdN _ _ _ _ _);first|(refine q2e hR he rfl ?_))|((with_reducible show qf _ _ _ _ _ _);first|((refine qh (hadd _ inferInstance inferInstance inferInstance) ?_ ?_ ?_;(exact rfl);exact rfl)))|(refine fO ?_)|(refine fL ?_)|(refine fM ?_)|(refine qc (fun bk hbk=> ?_)))
    exact⟨rfl,(eC)⟩
  ·have hlt':¬(i:Int)<l.length:=by omega
   have hie:i=l.length:=by omega
   subst hie
   have htl:l.take l.length=l:=List.take_length
   rw[htl] at hM ⊢
   have hck:(q7q l n).2=0:=qcZ.2 ⟨by omega,by rw[Int.toNat_natCast];exact hM.wf⟩
   have hfr:frR l n=frst l:=by unfold frR;rw[if_pos hck]
   rw[hck,hfr]
   have hrc:=fun(own':Own) (j1:qt own' [ckN l.length (q3V l l.length) s.cb eb' sb' bb' n sc' bs' (frst l)])=>qfQ (W0:=W0) (own:=own') (i1:=j1)
   repeat'((try(conv=>whnf));first|(refine fG ?_)|((with_reducible show qf _ _ _ _ _ _);first|((refine qh (hrc _ inferInstance) ?_ ?_ ?_;(exact rfl);exact rfl)))|(refine fL ?_)|(refine fM ?_))
   exact⟨rfl,(eC)⟩
end
end Ord
open Go
structure Sim(l l':List EH):Prop where
 len:l'.length=l.length
 kd:∀i,i<l.length→knd l' i=knd l i
 th:∀i j,i<l.length→j<l.length→(thr l' i=thr l' j↔thr l i=thr l j)
 wd:∀i,i<l.length→(at' l' i).w=(at' l i).w∧(at' l' i).rl=(at' l i).rl∧(at' l' i).wl=(at' l i).wl
section
variable{l l':List EH}
theorem Sim.symm(h:Sim l l'):Sim l' l:=
 ⟨h.len.symm,fun i hi=>(h.kd i (by rw[←h.len];exact hi)).symm,fun i j hi hj=>(h.th i j (by rw[←h.len];exact hi) (by rw[←h.len];exact hj)).symm,fun i hi=>by
  obtain⟨a,b,c⟩:=h.wd i (by rw[←h.len];exact hi)
  exact⟨a.symm,b.symm,c.symm⟩⟩
theorem Sim.prev(h:Sim l l'){i p:Nat}(hi:i<l.length)(a:qau l i p):qau l' i p:=by
 obtain⟨h1,h2,h3⟩:=a
 exact⟨h1,(h.th p i (by omega) hi).2 h2,fun q h4 h5 e=>h3 q h4 h5 ((h.th q i (by omega) hi).1 e)⟩
theorem Sim.cnt(h:Sim l l'){i:Nat}(a:q8v l i):q8v l' i:=by
 obtain⟨h1,h2⟩:=a
 refine⟨by rw[h.len];exact h1,?_⟩
 rcases h2 with h2|⟨e,he,h3,h4⟩
 ·exact .inl (by rw[h.kd i h1];exact h2)
 ·exact .inr ⟨e,by rw[h.len];exact he,h.prev he h3,by rw[h.kd e he];exact h4⟩
theorem Sim.pl(h:Sim l l'){i:Nat}(hi:i<l.length):q2i l' i↔q2i l i:=by unfold q2i;rw[h.kd i hi]
theorem Sim.hb(h:Sim l l'){i j:Nat}(a:HB l i j):HB l' i j:=by
 obtain⟨h1,h2,h3,h4⟩:=a
 have hj:j<l.length:=h3.1
 have hi:i<l.length:=h2.1
 refine⟨h1,h.cnt h2,h.cnt h3,?_⟩
 rcases h4 with h4|⟨hp,e,f,a1,a2,a3,a4,a5,a6,a7⟩|⟨hp,e,a1,a2,a3,a4⟩
 ·exact .inl ((h.th i j hi hj).2 h4)
 ·exact .inr (.inl ⟨(h.pl hj).2 hp,e,f,a1,a2,a3,by rw[h.kd e (by omega)];exact a4,by rw[h.kd f (by omega)];exact a5,(h.th e i (by omega) hi).2 a6,(h.th f j (by omega) hj).2 a7⟩)
 ·exact .inr (.inr ⟨fun e=>hp ((h.pl hj).1 e),e,a1,a2,by rw[h.kd e (by omega)];exact a3,(h.th e i (by omega) hi).2 a4⟩)
theorem Sim.hbB(h:Sim l l')(i j:Nat):Ord.hbB l' i j=Ord.hbB l i j:=by
 rw[Bool.eq_iff_iff,Ord.hbB_iff,Ord.hbB_iff]
 exact⟨h.symm.hb,h.hb⟩
theorem Sim.bg(h:Sim l l'){y:Nat}(hy:y<l.length):∀j,j≤l.length→Ord.bgL l' (thr l' y) j=Ord.bgL l (thr l y) j
 |0,_=>rfl
 |j+1,hj=>by
  unfold Ord.bgL
  rw[h.bg hy j (by omega)]
  by_cases e:thr l j=thr l y
  ·rw[if_pos e,if_pos ((h.th j y (by omega) hy).2 e)]
  ·rw[if_neg e,if_neg fun e2=>e ((h.th j y (by omega) hy).1 e2)]
theorem Sim.toP(h:Sim l l'){y:Nat}(hy:y<l.length):Ord.toP l' y=Ord.toP l y:=by
 unfold Ord.toP
 rw[h.kd y hy,h.bg hy y (by omega)]
theorem Sim.conf(h:Sim l l'){x y:Nat}(hx:x<l.length)(hy:y<l.length)(w:Int):Ord.confB (at' l' x) (at' l' y) w=Ord.confB (at' l x) (at' l y) w:=by
 have kx:(at' l' x).k=(at' l x).k:=h.kd x hx
 have ky:(at' l' y).k=(at' l y).k:=h.kd y hy
 obtain⟨x1,x2,x3⟩:=h.wd x hx
 obtain⟨y1,y2,y3⟩:=h.wd y hy
 have ht:decide ((at' l' x).t=(at' l' y).t)=decide ((at' l x).t=(at' l y).t):=decide_eq_decide.2 (h.th x y hx hy)
 unfold Ord.confB Ord.cfP
 rw[kx,ky,x1,x2,x3,y1,y2,y3,ht]
theorem Sim.prs(h:Sim l l'):∀m,m≤l.length→Ord.prs l' m=Ord.prs l m
 |0,_=>rfl
 |m+1,hm=>by
  have ih:=h.prs m (by omega)
  unfold Ord.prs at ih ⊢
  rw[List.range_succ (n:=m),List.flatMap_append,List.flatMap_append,ih,List.flatMap_singleton,List.flatMap_singleton,h.kd m (by omega)]
theorem qjF{m:Nat}{p:Nat×Int}(h:p∈Ord.prs l m):p.1<m:=(Ord.prs_mem h).1
theorem Sim.frst(h:Sim l l'):Ord.frst l'=Ord.frst l:=by
 unfold Ord.frst
 rw[h.len,h.prs _ (Nat.le_refl _)]
 congr 1
 apply Ord.findSome_congr
 intro p hp
 have hy:=qjF hp
 congr 1
 unfold Ord.rcL
 congr 1
 apply List.filter_congr
 intro x hx
 have hxl:=List.mem_range.1 hx
 unfold Ord.rcB
 rw[h.kd x (by omega),h.conf (by omega) hy,h.toP hy,h.hbB]
end
def qgC(ρ:Int→Int):List EH→List EH→Prop
 | [],[]=>True
 |e::l,e'::l'=>(e'.t=ρ e.t∧e'.k=e.k∧e'.w=e.w∧e'.rl=e.rl∧e'.wl=e.wl)∧qgC ρ l l'
 |_,_=>False
theorem qgC.len{ρ:Int→Int}:∀{l l':List EH},qgC ρ l l'→l'.length=l.length
 | [],[],_=>rfl
 |_::_,_::_,⟨_,h⟩=>by rw[List.length_cons,List.length_cons,h.len]
theorem qgC.get{ρ:Int→Int}:∀{l l':List EH} (_:qgC ρ l l') (i:Nat),i<l.length→(at' l' i).t=ρ (at' l i).t∧(at' l' i).k=(at' l i).k∧(at' l' i).w=(at' l i).w∧(at' l' i).rl=(at' l i).rl∧(at' l' i).wl=(at' l i).wl
 |e::l,e'::l',⟨h,_⟩,0,_=>h
 |e::l,e'::l',⟨_,h⟩,i+1,hi=>by
  have:=h.get i (by simpa using hi)
  simpa [at'] using this
theorem qgC.sim{ρ:Int→Int}(hρ:∀a b,ρ a=ρ b→a=b){l l':List EH}(h:qgC ρ l l'):Sim l l':=
 ⟨h.len,fun i hi=>(h.get i hi).2.1,fun i j hi hj=>by
  unfold thr
  rw[(h.get i hi).1,(h.get j hj).1]
  exact⟨hρ _ _,fun e=>by rw[e]⟩,fun i hi=>(h.get i hi).2.2⟩
def evH(e:EvM):EH:=⟨e.ev,e.t,e.k,e.w,none,e.r,0,none,e.wl,0⟩
def rcC(n:Nat)(E:List EvM):Bool:=decide ((q7q (E.map evH) n).2=0∧0≤(Ord.frstC (E.map evH)).2.1)
theorem qjI{n:Nat}{E:List EvM}:rcC n E=decide (0≤(Ord.frR (E.map evH) n).2.1):=by
 unfold rcC Ord.frR
 by_cases h:(q7q (E.map evH) n).2=0
 ·rw[if_pos h,Ord.frst_C (Ord.chk_wf h).1]
  simp only[h,true_and]
 ·rw[if_neg h]
  simp[h]
theorem qga{n:Nat}:∀(L:List EH) (i:Nat) (pa:Int) (last:List Int),qaT n ((L.map EH.m).map evH) i pa last=qaT n L i pa last
 | [],_,_,_=>rfl
 |e::L,i,pa,last=>by
  have hf:∀a b c,q1m n a b c (evH e.m)=q1m n a b c e:=fun _ _ _=>rfl
  simp only[List.map_cons,qaT]
  rw[hf,qga L]
  rfl
theorem qgD:∀L:List EH,qgC id L ((L.map EH.m).map evH)
 | []=>trivial
 |_::L=>⟨⟨rfl,rfl,rfl,rfl,rfl⟩,qgD L⟩
theorem qly{n:Nat}{L:List EH}{E:List EvM}(h:L.map EH.m=E):Ord.frR L n=Ord.frR (E.map evH) n∧q7q L n=q7q (E.map evH) n:=by
 subst h
 have hc:q7q ((L.map EH.m).map evH) n=q7q L n:=by
  unfold q7q
  rw[List.length_map,List.length_map,qga]
 refine⟨?_,hc.symm⟩
 unfold Ord.frR
 rw[hc,((qgD L).sim fun _ _ h=>h).frst]
open Go
structure EB where
 vb:Nat
 mb:Nat
 tb:Nat
 ib:Nat
 fb:Nat
 nb:Nat
 lb:Nat
abbrev vB(vb:Nat)(x:SS)(fa:Option Addr)(fc:Nat):Nat×(Obj→Prop):=(vb,fun o=>o=Obj.cells #[.bool x.racy, .slice fa x.found.length fc, .int .i64 x.runs] 37 (0,0))
abbrev mB(mb:Nat)(x:SS):Nat×(Obj→Prop):=(mb,fun o=>o=Obj.cells #[.bool x.many] 4 (0,0))
abbrev iB(b:Nat)(n:Int):Nat×(Obj→Prop):=(b,fun o=>o=Obj.cells #[.int .i64 n] 3 (0,0))
abbrev EB.fin(e:EB):Value:= .func (.func 26) #[] #[.pointer (some ⟨e.vb,0,none⟩), .pointer (some ⟨e.lb,0,none⟩), .pointer (some ⟨e.mb,0,none⟩), .pointer (some ⟨e.tb,0,none⟩)]
abbrev EB.vis(e:EB):Value:= .func (.func 30) #[] #[.pointer (some ⟨e.tb,0,none⟩), .pointer (some ⟨e.ib,0,none⟩), .pointer (some ⟨e.fb,0,none⟩), .pointer (some ⟨e.mb,0,none⟩), .pointer (some ⟨e.vb,0,none⟩), .pointer (some ⟨e.nb,0,none⟩)]
abbrev EB.F(e:EB)(N:Nat)(lim:Int)(foa:Option Addr)(fol foc:Nat):Own:= [iB e.tb N,(e.ib,fun o=>o=Obj.cells #[e.vis] 80 (0,0)),(e.fb,fun o=>o=Obj.cells #[.slice foa fol foc] 23 (0,0)),(e.nb,fun o=>o=Obj.cells #[e.fin] 80 (0,0)),iB e.lb lim]
section
variable{W0:World}{Kp K Y:Own}{g:GP}{c:Cfg}{ps:List PH}{P:List (List Ins)}{s:GS}{N:Nat}{lim:Int}{x:SS}{e:EB}
theorem qd6{v m:Nat×(Obj→Prop)}{F G q:Own}:Ent W0 (v::(m::(F++(G++q)))) (G++(v::(m::(F++q)))):=qo []
theorem qhd{b v m:Nat×(Obj→Prop)}{D R F G q:Own}:Ent W0 (D++(b::(R++(G++(v::(m::(F++q))))))) (v::(m::(F++(G++(D++q))))):=qo (b::R)
theorem qhe{b v m:Nat×(Obj→Prop)}{R F G q:Own}:Ent W0 (b::(R++(G++(v::(m::(F++q)))))) (v::(m::(F++(G++q)))):=qo (b::R)
theorem qhf{b v m:Nat×(Obj→Prop)}{R F G q:Own}:Ent W0 (R++(G++(b::(v::(m::(F++q)))))) (v::(m::(F++(G++q)))):=qo (b::R)
theorem qhg{b v m:Nat×(Obj→Prop)}{D R F G q:Own}:Ent W0 (D++(R++(G++(b::(v::(m::(F++q))))))) (v::(m::(F++(G++(D++q))))):=qo (b::R)
theorem qd7{b v m:Nat×(Obj→Prop)}{F G q:Own}:Ent W0 (b::(v::(m::(F++(G++q))))) (G++(b::(v::(m::(F++q))))):=qo []
theorem qe0(hN:q1s W0 0 Ord.noneV)(h:g.ok W0 Kp ps s)(hv:g.ev W0 Y)(hG:GOk c P s)(hn:s.n≤5000)(hP16:P.length≤16)(hx:x.found= []∧x.racy=false)(hru:x.runs≤100000){la:Option Addr}{l:List ChM}{lc:Nat}(hL:RdE q8x 3 W0 K la l)(hll:l.length≤100000)
  {foa:Option Addr} {fol foc:Nat} (q:Own) [ek2:qt q K]:
  q0E Tryz.prog W0 26 [.pointer (some ⟨g.gb,0,none⟩), .slice la l.length lc, .pointer (some ⟨e.vb,0,none⟩), .pointer (some ⟨e.lb,0,none⟩), .pointer (some ⟨e.mb,0,none⟩), .pointer (some ⟨e.tb,0,none⟩)]
   (vB e.vb x none 0::(mB e.mb x::(e.F N lim foa fol foc++(g.O c ps.length s++q)))) fun _ own'=>∃y:Option Addr×Nat×Own,
    (RdE q8x 3 W0 y.2.2 y.1 (qey (rcC N) lim s l x).found∧((qey (rcC N) lim s l x).racy=false→y.1=none∧y.2.1=0))∧Ent W0 own' (vB e.vb (qey (rcC N) lim s l x) y.1 y.2.1::(mB e.mb (qey (rcC N) lim s l x)::(e.F N lim foa fol foc++(g.O c ps.length s++(y.2.2++q))))):=by
 refine qa qj q44 (by simp[q0o]) ?_
 obtain⟨runs,racy,many,found⟩:=x
 dsimp only at hx hru
 obtain⟨rfl,rfl⟩:=hx
 dsimp only[vB,mB]
 have hz:=hG.sz hn hP16
 unfold qey
 dsimp only
 by_cases hlim:(runs:Int)=lim
 ·rw[if_pos hlim]
  repeat'((try(conv=>whnf));first|(refine fF ?_)|(refine fA ?_)|(refine fN ?_))
  all_goals exact⟨(none,0,[]),⟨RdE.nil,fun _=>⟨rfl,rfl⟩⟩,(eC)⟩
 ·rw[if_neg hlim]
  have hrs:=fun q=>qi9 (c:=c) rfl h hv hz q
  have hcl:=fun(own':Own) [qt own' K]=>q4h (cap:=lc) (hL.up (own:=own')) (by omega)
  have hrc:rcC N s.E=decide (0≤(Ord.frR (s.E.map evH) N).2.1):=qjI
  have htr:∀(r:RG) (own':Own) (_:r.at W0 s own'),qD Tryz.prog W0 27 [.slice r.ea r.L.length r.ec, .int .i64 N] own' (.tuple #[.agg (Ord.encRc (Ord.frR (s.E.map evH) N)).toArray, .int .i64 (q7q r.L N).2]):=fun r own' ha=>by
   have:=Ord.sp_trun (cap:=r.ec) hN ha.e (fun y hy=>⟨(ha.ev y hy).1,(ha.ev y hy).2,by have:=(hz.ev y.m (by rw[←ha.em];exact List.mem_map_of_mem hy)).1;exact Nat.le_trans this (by decide),by have:=(hz.ev y.m (by rw[←ha.em];exact List.mem_map_of_mem hy)).2;exact Nat.le_trans this (by decide)⟩) (by rw[ha.el];have:=hG.el;omega) N
   rw[(qly ha.em).1] at this
   exact this
  generalize Ord.frR (s.E.map evH) N=fr at*
  obtain⟨f1,f2,f3⟩:=fr
  dsimp only at hrc htr
  rw[hrc]
  have hst:(⟨runs+1,false,many,[]⟩:SS).runs=runs+1:=rfl
  by_cases hf:0≤f2
  ·have hf':f2≥0:=hf
   simp only[decide_eq_true hf,if_true]
   repeat'((try(conv=>whnf));first|(refine fF ?_)|(refine fG ?_)|(refine qc (fun b8 hb8=> ?_))|((with_reducible show qf _ _ _ _ _ _);first|((refine qm (hrs _) qd6 ?_ ?_ (fun r v hv=> ?_);(exact rfl);(exact rfl);(obtain⟨rfl,hr⟩:=hv)))|((refine qm (hrs _) qd7 ?_ ?_ (fun r v hv=> ?_);(exact rfl);(exact rfl);(obtain⟨rfl,hr⟩:=hv)))|((refine qZ (hcl _) ?_ ?_ (fun y v hv=> ?_);(exact rfl);(exact rfl);(obtain⟨a1,c1,D1⟩:=y;obtain⟨rfl,hB1⟩:=hv;dsimp only at hB1))))|((with_reducible show q0b _ _ _ _ _ _);first|((refine qq (fun ex=>htr r _ (hr.at (Ent.app Ent.left))) ?_ ?_ ?_;(exact rfl);(exact rfl))))|(refine fB ?_)|(refine fO ?_)|(refine fA ?_)|(refine fN ?_)|(refine fM ?_)|(refine q4T.mk ?_ ?_))
   all_goals exact⟨(a1,c1,D1),⟨hB1.rd,fun h=>by cases h⟩,by first|exact qhd|exact qhg⟩
  ·have hf':¬f2≥0:=hf
   simp only[decide_eq_false hf,Bool.false_eq_true,if_false]
   repeat'((try(conv=>whnf));first|(refine fG ?_)|(refine qc (fun b8 hb8=> ?_))|((with_reducible show qf _ _ _ _ _ _);first|((refine qm (hrs _) qd6 ?_ ?_ (fun r v hv=> ?_);(exact rfl);(exact rfl);(obtain⟨rfl,hr⟩:=hv)))|((refine qm (hrs _) qd7 ?_ ?_ (fun r v hv=> ?_);(exact rfl);(exact rfl);(obtain⟨rfl,hr⟩:=hv))))|((with_reducible show q0b _ _ _ _ _ _);first|((refine qq (fun ex=>htr r _ (hr.at (Ent.app Ent.left))) ?_ ?_ ?_;(exact rfl);(exact rfl))))|(refine fB ?_)|(refine fO ?_)|(refine fA ?_)|(refine fN ?_)|(refine fM ?_)|(refine q4T.mk ?_ ?_))
   all_goals exact⟨(none,0,[]),⟨RdE.nil,fun _=>⟨rfl,rfl⟩⟩,by first|exact qhe|exact qhf⟩
end
end Go.Proofs.YtkieffpjjfebjaaGreatDoor
