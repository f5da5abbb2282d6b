/- What the laws share, part 26. No condition. -/
import Derived.Test.YtkieffpjjfebjaaGreatDoorZ25
set_option maxHeartbeats 4000000
set_option maxRecDepth 10000
namespace Go.Proofs.YtkieffpjjfebjaaGreatDoor
namespace Ord
open Go
def q4t(bs:Nat→Nat)(H:Nat→List (Int×Int)):Nat→Own
 |0=> []
 |k+1=>q4t bs H k++ [q2J q1J 188 (bs k) (H k)]
theorem q1p{bs bs':Nat→Nat}{H H':Nat→List (Int×Int)}:∀{k},(∀j,j<k→bs j=bs' j∧H j=H' j)→q4t bs H k=q4t bs' H' k
 |0,_=>rfl
 |k+1,h=>by unfold q4t;rw[q1p fun j hj=>h j (by omega),(h k (by omega)).1,(h k (by omega)).2]
theorem q8n{bs:Nat→Nat}{H:Nat→List (Int×Int)}{i:Nat}:∀{k},i<k→∃C,At [q2J q1J 188 (bs i) (H i)] (q4t bs H k) C∧∀h,C [q2J q1J 188 (bs i) h]=q4t bs (fun j=>if j=i then h else H j) k
 |0,h=>by omega
 |k+1,h=>by
  by_cases e:i=k
  ·subst e
   refine⟨fun X=>q4t bs H i++(X++ []),At.skip (A:=q4t bs H i) (At.head (D:= [q2J q1J 188 (bs i) (H i)]) (r:= [])),fun h=> ?_⟩
   show q4t bs H i++ [q2J q1J 188 (bs i) h]=q4t bs (fun j=>if j=i then h else H j) i++ [q2J q1J 188 (bs i) (if i=i then h else H i)]
   rw[if_pos rfl,q1p (H:=fun j=>if j=i then h else H j) (H':=H) (bs':=bs) fun j hj=>⟨rfl,if_neg (by omega)⟩]
  ·obtain⟨C,hC,hh⟩:=q8n (bs:=bs) (H:=H) (i:=i) (k:=k) (by omega)
   refine⟨fun X=>C X++ [q2J q1J 188 (bs k) (H k)],hC.left,fun h=> ?_⟩
   show C _++_=q4t bs (fun j=>if j=i then h else H j) k++ [q2J q1J 188 (bs k) (if k=i then h else H k)]
   rw[hh,if_neg (fun x:k=i=>e x.symm)]
theorem qaL{bs:Nat→Nat}{H:Nat→List (Int×Int)}{i:Nat}:∀{k},i<k→q2J q1J 188 (bs i) (H i)∈q4t bs H k
 |0,h=>by omega
 |k+1,h=>by
  unfold q4t
  by_cases e:i=k
  ·subst e;simp
  ·exact List.mem_append_left _ (qaL (by omega))
section
variable{W0:World}{own:Own}
theorem qgP{bs:Nat→Nat}{H:Nat→List (Int×Int)}{i k:Nat}(h:i<k):RdE q1J 2 W0 (q4t bs H k) (some ⟨bs i,0,none⟩) (H i):=q4E (qaL h) (fun _ _=>rfl) rfl
theorem qi8{tb n:Nat} [m:q3X tb (fun o=>o=Obj.cells #[.int .i64 n] 3) own](hn:n≤65536):
  q0E Tryz.prog W0 84 [.pointer (some ⟨tb,0,none⟩)] own fun v own'=>∃b:Nat,v= .slice (some ⟨b,0,none⟩) n n∧Ent W0 own' (q2J q1J 188 b (List.replicate n (0,0))::own):=by
 refine qa qj q7D (by simp[q2D]) ?_
 repeat'((try(conv=>whnf));first|(refine mkC (enc:=q1J) n (0,0) rfl rfl rfl (by omega) (fun b6=> ?_))|(refine fA ?_))
 exact⟨b6,rfl,Ent.refl⟩
end
section
variable{W0:World}{own:Own}{a:Option Addr}{cap:Nat}{l:List Int}
theorem qcu(W0:World)(own:Own)(x:Int):qD Tryz.prog W0 140 [.int .i64 x] own (.bool (!inW x)):=by
 refine qe (qa qj q6j (by simp[q1F]) ?_)
 by_cases hw:0≤x∧x<64
 ·have hx1:inW x=true:=by unfold inW;exact decide_eq_true hw
  rw[hx1]
  repeat'((try(conv=>whnf));first|(refine fH ?_)|(refine fK ?_))
  exact⟨q0N (vb (decide_eq_false (by omega))),(eC)⟩
 ·have hx1:inW x=false:=by unfold inW;exact decide_eq_false hw
  rw[hx1]
  repeat'((try(conv=>whnf));first|(refine fH ?_)|(refine fI ?_)|(apply q4P;(exact rfl);(exact rfl);all_goals intro hc))
  all_goals first|exact⟨q0N rfl,(eC)⟩|exact⟨q0N (vb (decide_eq_true (by omega))),(eC)⟩
theorem qkM:okF Tryz.prog 140=true:=by kernel_rfl
theorem q7f(hR:RdE qM 1 W0 own a l)(hl:l.length≤9223372036854775807):qD Tryz.prog W0 114 [.slice a l.length cap] own (.bool (l.all inW)):=by
 refine qe (qa qj q7E (by simp[q2E]) ?_)
 have h:=q9Q (cap:=cap) qkM (fun own x=>qcu W0 own x) hR hl
 have e:l.all inW= !l.any (fun x=> !inW x):=by simp[List.all_eq_not_any_not]
 rw[e]
 generalize l.any (fun x=> !inW x)=z at*
 repeat'((try(conv=>whnf));first|((with_reducible show qf _ _ _ _ _ _);first|((refine qh (h) ?_ ?_ ?_;(exact rfl);exact rfl))))
 exact⟨rfl,(eC)⟩
end
abbrev q2Q(x:Option Addr×Nat×Nat):List Value:= [.slice x.1 x.2.1 x.2.2]
section
variable{W0:World}{own:Own}
theorem qfO{e:EH}{cb n eb ec bb bc:Nat}{cnt at1 last:Int}{B:List (Option Addr×Nat×Nat)}(hE:EvR W0 own e)(h0:Cl W0 own cb 0 (.int .i64 cnt))(h1:Cl W0 own cb 1 (.int .i64 at1))(h2:Cl W0 own cb 2 (.slice (some ⟨eb,0,none⟩) n ec))(h4:Cl W0 own cb 4 (.slice (some ⟨bb,0,none⟩) B.length bc))
  (hB:RdE q2Q 1 W0 own (some ⟨bb,0,none⟩) B) (hl:B.length=n) (hc:0≤cnt) (hlast:∀x,B[e.t.toNat]? =some x→(x.1≠none↔last=3)):
  qD Tryz.prog W0 85 [.pointer (some ⟨cb,0,none⟩),e.v] own (.bool (q1m n (cnt==0) at1 last e)):=by
 refine qe (qa qj q4c (by simp[q0v]) ?_)
 have hr:∀own' [qt own' own],qD Tryz.prog W0 114 [.slice e.ra e.rl.length e.rc] own' (.bool (e.rl.all inW)):=fun own' h=>q7f (hE.r.ent (h.h W0)) hE.rn
 have hw:∀own' [qt own' own],qD Tryz.prog W0 114 [.slice e.wa e.wl.length e.wc] own' (.bool (e.wl.all inW)):=fun own' h=>q7f (hE.w.ent (h.h W0)) hE.wn
 have h1w:∀(own':Own) (b:Nat),qt own' [(b,fun o=>o=Obj.cells #[.int .i64 e.w] 3)]→qD Tryz.prog W0 114 [.slice (some ⟨b,0,none⟩) 1 1] own' (.bool (inW e.w)):=fun own' b h=>by
  have:=q7f (W0:=W0) (own:=own') (a:=some ⟨b,0,none⟩) (cap:=1) (l:= [e.w]) ((q9t (enc:=qM) (sz:=1) (T:=3) (fun _ _=>rfl)).ent (h.h W0)) (by simp)
  simpa using this
 unfold q1m
 have er:decide (e.rl= []∧e.wl= [])=decide (e.rl.length=0∧e.wl.length=0):=by
  refine decide_eq_decide.2 ?_
  rw[List.length_eq_zero_iff,List.length_eq_zero_iff]
 have ea:e.rl.length=0→e.rl.all inW=true:=fun h=>by rw[List.length_eq_zero_iff.1 h];rfl
 have eb2:e.wl.length=0→e.wl.all inW=true:=fun h=>by rw[List.length_eq_zero_iff.1 h];rfl
 rw[er]
 clear hE er
 obtain⟨ev,t,k,w,ra,rl,rc,wa,wl,wc⟩:=e
 dsimp only[EH.v] at*
 generalize rl.all inW=zr at*
 generalize wl.all inW=zw at*
 generalize rl.length=lr at*
 generalize wl.length=lw at*
 have hf:(cnt==0)=true↔cnt=0:=by simp
 generalize (cnt==0)=fs at*
 by_cases hg:0≤t∧t<n∧1≤k∧k≤4
 ·by_cases hw0:0≤w∧w<64
  ·have hw0':inW w=true:=decide_eq_true hw0
   rw[hw0'] at h1w
   by_cases ha:cnt>0∧ev<at1
   ·rw[decide_eq_false (fun h=>h.2.2.2.2.1.elim (fun h=>absurd (hf.1 h) (by omega)) (fun h=>by omega))]
    obtain⟨a1,a2,a3,a4⟩:=hg
    obtain⟨a5,a6⟩:=ha
    repeat'((try(conv=>whnf));first|(refine fH ?_)|(refine fF ?_)|(refine fJ ?_)|(refine fK ?_)|((with_reducible show Ld _ _ _ _);first|(refine ldK h0 ?_)|(refine ldK h1 ?_)|(refine ldK h2 ?_))|((with_reducible show q0b _ _ _ _ _ _);first|(((refine qq (fun ex=>h1w _ _ ⟨fun _=>Ent.app (Ent.left (D:= [_]))⟩) ?_ ?_ ?_;(exact rfl);exact rfl))))|(refine fA ?_)|(refine qc (fun bk hbk=> ?_)))
    all_goals first|exact⟨rfl,(eC)⟩|(exfalso;omega)
   ·have ha':fs=true∨at1≤ev:=by
     by_cases h:cnt=0
     ·exact .inl (hf.2 h)
     ·exact .inr (by omega)
    rw[decide_eq_true ⟨hg.1,hg.2.1,hg.2.2.1,hg.2.2.2,ha',hw0.1,hw0.2⟩,Bool.true_and]
    by_cases hk:k=4
    ·rw[if_pos hk]
     obtain⟨j,rfl⟩:∃j:Nat,t=j:=⟨t.toNat,by omega⟩
     obtain⟨x,hx⟩:∃x,B[j]? =some x:=⟨_,List.getElem?_eq_getElem (by omega)⟩
     have hlx:=hlast x (by rw[Int.toNat_natCast];exact hx)
     clear hlast
     obtain⟨x1,x2,x3⟩:=x
     dsimp only at hlx
     cases x1 with
     |none=>
      rw[decide_eq_false (fun h=>(hlx.2 h) rfl),Bool.and_false]
      repeat'((try(conv=>whnf));first|(refine fH ?_)|(refine fI ?_)|(refine fD ?_)|(refine fG ?_)|(refine fK ?_)|((with_reducible show Ld _ _ _ _);first|(refine q1M hB hx rfl ?_)|(refine ldK h0 ?_)|(refine ldK h1 ?_)|(refine ldK h2 ?_)|(refine ldK h4 ?_))|((with_reducible show IxS _ _ _ _ _);first|((refine ixE hB hx ?_ ?_;(first|rfl|omega))))|((with_reducible show q0b _ _ _ _ _ _);first|(((refine qq (fun ex=>h1w _ _ ⟨fun _=>Ent.app (Ent.left (D:= [_]))⟩) ?_ ?_ ?_;(exact rfl);exact rfl))))|(refine fA ?_)|(refine qc (fun bk hbk=> ?_))|(apply q0e;(exact rfl);(exact rfl);all_goals intro hc))
      all_goals first|exact⟨rfl,(eC)⟩|(exfalso;omega)
     |some ad=>
      rw[decide_eq_true (hlx.1 (by simp)),Bool.and_true]
      cases zr <;>cases zw
      all_goals
       repeat'((try(conv=>whnf));first|(refine fH ?_)|(refine fI ?_)|(refine fD ?_)|(refine fG ?_)|(refine fK ?_)|((with_reducible show Ld _ _ _ _);first|(refine q1M hB hx rfl ?_)|(refine ldK h0 ?_)|(refine ldK h1 ?_)|(refine ldK h2 ?_)|(refine ldK h4 ?_))|((with_reducible show IxS _ _ _ _ _);first|((refine ixE hB hx ?_ ?_;(first|rfl|omega))))|((with_reducible show q0b _ _ _ _ _ _);first|(((refine qq (fun ex=>h1w _ _ ⟨fun _=>Ent.app (Ent.left (D:= [_]))⟩) ?_ ?_ ?_;(exact rfl);exact rfl)))|(((refine qq (fun ex=>hr (ex++_)) ?_ ?_ ?_;(exact rfl);exact rfl)))|(((refine qq (fun ex=>hw (ex++_)) ?_ ?_ ?_;(exact rfl);exact rfl))))|(refine fA ?_)|(refine qc (fun bk hbk=> ?_))|(apply q0e;(exact rfl);(exact rfl);all_goals intro hc))
       all_goals first|exact⟨rfl,(eC)⟩|(exfalso;omega)
    ·rw[if_neg hk]
     clear hlast
     by_cases hz:lr=0∧lw=0
     ·obtain⟨hz1,hz2⟩:=hz
      rw[decide_eq_true ⟨hz1,hz2⟩,ea hz1,eb2 hz2]
      repeat'((try(conv=>whnf));first|(refine fH ?_)|(refine fI ?_)|(refine fD ?_)|(refine fF ?_)|(refine fG ?_)|(refine fJ ?_)|(refine fK ?_)|((with_reducible show Ld _ _ _ _);first|(refine ldK h0 ?_)|(refine ldK h1 ?_)|(refine ldK h2 ?_))|((with_reducible show q0b _ _ _ _ _ _);first|(((refine qq (fun ex=>h1w _ _ ⟨fun _=>Ent.app (Ent.left (D:= [_]))⟩) ?_ ?_ ?_;(exact rfl);exact rfl))))|(refine fA ?_)|(refine qc (fun bk hbk=> ?_))|(apply q0e;(exact rfl);(exact rfl);all_goals intro hc))
      all_goals first|exact⟨q0N (vb (by simp[hz2])),(eC)⟩|(exfalso;omega)
     ·rw[decide_eq_false hz,Bool.and_false]
      repeat'((try(conv=>whnf));first|(refine fH ?_)|(refine fI ?_)|(refine fD ?_)|(refine fF ?_)|(refine fG ?_)|(refine fK ?_)|((with_reducible show Ld _ _ _ _);first|(refine ldK h0 ?_)|(refine ldK h1 ?_)|(refine ldK h2 ?_))|((with_reducible show q0b _ _ _ _ _ _);first|(((refine qq (fun ex=>h1w _ _ ⟨fun _=>Ent.app (Ent.left (D:= [_]))⟩) ?_ ?_ ?_;(exact rfl);exact rfl))))|(refine fA ?_)|(refine qc (fun bk hbk=> ?_))|(apply q0e;(exact rfl);(exact rfl);all_goals intro hc))
      all_goals first|exact⟨rfl,(eC)⟩|exact⟨q0N (vb (decide_eq_false (by omega))),(eC)⟩|(exfalso;omega)
  ·have hw0':inW w=false:=decide_eq_false hw0
   rw[hw0'] at h1w
   rw[decide_eq_false (fun h=>hw0 ⟨h.2.2.2.2.2.1,h.2.2.2.2.2.2⟩)]
   obtain⟨a1,a2,a3,a4⟩:=hg
   repeat'((try(conv=>whnf));first|(refine fH ?_)|(refine fI ?_)|(refine fE ?_)|(refine fK ?_)|((with_reducible show Ld _ _ _ _);first|(refine ldK h2 ?_))|((with_reducible show q0b _ _ _ _ _ _);first|(((refine qq (fun ex=>h1w _ _ ⟨fun _=>Ent.app (Ent.left (D:= [_]))⟩) ?_ ?_ ?_;(exact rfl);exact rfl))))|(refine fA ?_)|(refine qc (fun bk hbk=> ?_)))
   all_goals first|exact⟨rfl,(eC)⟩|(exfalso;omega)
 ·rw[decide_eq_false (fun h=>hg ⟨h.1,h.2.1,h.2.2.1,h.2.2.2.1⟩)]
  repeat'((try(conv=>whnf));first|(refine fH ?_)|(refine fI ?_)|(refine fE ?_)|(refine fJ ?_)|((with_reducible show Ld _ _ _ _);first|(refine ldK h2 ?_))|(refine fA ?_)|(refine qc (fun bk hbk=> ?_))|(apply q4P;(exact rfl);(exact rfl);all_goals intro hc))
  all_goals first|exact⟨rfl,(eC)⟩|(exfalso;omega)
end
def ckL(cnt at1:Int)(eb sb bb n sc:Nat)(V:Nat→Value)(r:q0G):List Value:=
 [.int .i64 cnt, .int .i64 at1, .slice (some ⟨eb,0,none⟩) n n, .slice (some ⟨sb,0,none⟩) n sc, .slice (some ⟨bb,0,none⟩) n n]++(q3W 256 V++encRc r)
section
variable{cnt at1:Int}{eb sb bb n sc:Nat}{V:Nat→Value}{r:q0G}
theorem q8r:(ckL cnt at1 eb sb bb n sc V r).length=264:=by
 unfold ckL
 rw[List.length_append,List.length_append,qP]
 rfl
theorem qaV{i:Nat}(h:i<256):(ckL cnt at1 eb sb bb n sc V r)[5+i]? =some (V i):=by
 unfold ckL
 rw[List.getElem?_append_right (by simp)]
 have e:5+i- [Value.int .i64 cnt, .int .i64 at1, .slice (some ⟨eb,0,none⟩) n n, .slice (some ⟨sb,0,none⟩) n sc, .slice (some ⟨bb,0,none⟩) n n].length=i:=by simp
 rw[e,List.getElem?_append_left (by rw[qP];exact h),q0Y h]
theorem qeT(r':q0G):(ckL cnt at1 eb sb bb n sc V r).take 261++encRc r'++(ckL cnt at1 eb sb bb n sc V r).drop 264=ckL cnt at1 eb sb bb n sc V r':=by
 have e:∀r:q0G,ckL cnt at1 eb sb bb n sc V r=([.int .i64 cnt, .int .i64 at1, .slice (some ⟨eb,0,none⟩) n n, .slice (some ⟨sb,0,none⟩) n sc, .slice (some ⟨bb,0,none⟩) n n]++q3W 256 V)++encRc r:=fun r=>by
  unfold ckL
  rw[List.append_assoc]
 have hl:([.int .i64 cnt, .int .i64 at1, .slice (some ⟨eb,0,none⟩) n n, .slice (some ⟨sb,0,none⟩) n sc, .slice (some ⟨bb,0,none⟩) n n]++q3W 256 V:List Value).length=261:=by
  rw[List.length_append,qP];rfl
 have hd:(ckL cnt at1 eb sb bb n sc V r).drop 264= []:=List.drop_of_length_le (by rw[q8r];exact Nat.le_refl _)
 rw[hd,List.append_nil,e,e,List.take_left' hl]
end
section
variable{W0:World}{own:Own}
theorem qb9:∀l:List Value,l=(l.map fun v=> [v]).flatten
 | []=>rfl
 |x::r=>congrArg (x:: ·) (qb9 r)
theorem q9w{b i:Nat}{cs:List Value}{T:TypeId}{v:Value}(hm:(b,fun o=>o=Obj.cells cs.toArray T)∈own)(hv:cs[i]? =some v):Cl W0 own b i v:=by
 have h:=q4E (W0:=W0) (enc:=fun v:Value=> [v]) (sz:=1) (l:=cs) hm (fun _ _=>rfl) (qb9 cs)
 have:=h.cell (j:=i) (k:=0) hv (by rfl)
 have this:Kn W0 own fun w=>w.cell? ⟨b,0+i*1+0,none⟩=some v:=this
 rw[Nat.mul_one,Nat.add_zero,Nat.zero_add] at this
 exact this
end
section
variable{W0:World}{own:Own}
theorem qbN{cnt at1:Int}{cb eb sb bb n sc k:Nat}{V:Nat→Value}{r:q0G}{T:TypeId}{K:Own→Prop}{C:(Obj→Prop)→Own}(r':q0G) [m:UpC cb (fun o=>o=Obj.cells (ckL cnt at1 eb sb bb n sc V r).toArray T (0,0)) own C](hk3:3=k)
  (hk:K (C fun o=>o=Obj.cells (ckL cnt at1 eb sb bb n sc V r').toArray T (0,0))):(encRc r').length=k∧StN W0 own ⟨cb,261,none⟩ (encRc r') K:=by
 subst hk3
 refine qfT (cs:=(ckL cnt at1 eb sb bb n sc V r).toArray) (T:=T) rfl ?_ rfl ?_
 ·show Nat.ble (261+3) (ckL cnt at1 eb sb bb n sc V r).length=true
  rw[q8r]
  rfl
 ·show K (C fun o=>o=Obj.cells ((ckL cnt at1 eb sb bb n sc V r).take 261++encRc r'++(ckL cnt at1 eb sb bb n sc V r).drop 264).toArray T (0,0))
  rw[qeT]
  exact hk
def qit(n:Nat)(k o:Int)(wr:Bool)(ck:Nat→Int)(R W TR TW:List (Int×Int)):Int:=
 let p0:=ltM o ck (fAc W) (-1) n
 let p1:=if wr=true then ltM o ck (fAc R) p0 n else p0
 let p2:=if k≠4 then ltM o ck (fAc TW) p1 n else p1
 if k≠4∧wr=true then ltM o ck (fAc TR) p2 n else p2
theorem qhq{n:Nat}{g:Nat→Int×Int}{t:Nat}(h:t<n):fAc (q3W n g) t=g t:=qdf (q0Y h)
theorem qk5{l:List EH}{n:Nat}{k o w:Int}{wr:Bool}{C:List Int}{ck:Nat→Int}(hC:∀t,t<n→gtC C t=ck t):
  qit n k o wr (fun t=>gtC C t) (q7P l n qR w) (q7P l n qW w) (q7P l n qTR w) (q7P l n qTW w)=qbR l n l.length k o w wr ck:=by
 unfold qit qbR
 have h:∀(Q:List EH→Int→Nat→Bool) (pl:Int),ltM o (fun t=>gtC C t) (fAc (q7P l n Q w)) pl n=ltM o ck (fun t=>q4W l (Q l w) t l.length) pl n:=fun Q pl=>q9J fun t ht=>⟨qhq ht,hC t ht⟩
 simp only[h]
end
section
variable{W0:World}{own:Own}
theorem qig{e:EH}{cb eb sb bb n sc w bR bW bTR bTW cc:Nat}{cnt at1:Int}{V:Nat→Value}{r:q0G}{c:Option Addr}{Cl1:List Int}{R W TR TW:List (Int×Int)}{wr:Bool}{Cf:(Obj→Prop)→Own}
  [u:UpC cb (fun o=>o=Obj.cells (ckL cnt at1 eb sb bb n sc V r).toArray 151 (0,0)) own Cf]
  (k0:Cl W0 own cb 0 (.int .i64 cnt)) (hw:w<64)
  (c0:Cl W0 own cb (5+w*4+0) (.slice (some ⟨bR,0,none⟩) n n)) (c1:Cl W0 own cb (5+w*4+1) (.slice (some ⟨bW,0,none⟩) n n))
  (c2:Cl W0 own cb (5+w*4+2) (.slice (some ⟨bTR,0,none⟩) n n)) (c3:Cl W0 own cb (5+w*4+3) (.slice (some ⟨bTW,0,none⟩) n n))
  (hR:RdE q1J 2 W0 own (some ⟨bR,0,none⟩) R) (hW:RdE q1J 2 W0 own (some ⟨bW,0,none⟩) W) (hTR:RdE q1J 2 W0 own (some ⟨bTR,0,none⟩) TR) (hTW:RdE q1J 2 W0 own (some ⟨bTW,0,none⟩) TW)
  (lR0:R.length=n) (lW0:W.length=n) (lTR0:TR.length=n) (lTW0:TW.length=n) (hn16:n≤65536) (hC:RdE qM 1 W0 own c Cl1):
  q0E Tryz.prog W0 118 [.pointer (some ⟨cb,0,none⟩),e.v, .int .i64 w, .bool wr, .slice c Cl1.length cc] own fun v own'=>v= .bool (decide (0≤qit n e.k e.t wr (fun t=>gtC Cl1 t) R W TR TW))∧Ent W0 own' (if 0≤qit n e.k e.t wr (fun t=>gtC Cl1 t) R W TR TW then Cf (fun o=>o=Obj.cells (ckL cnt at1 eb sb bb n sc V (qit n e.k e.t wr (fun t=>gtC Cl1 t) R W TR TW,cnt,(w:Int))).toArray 151 (0,0)) else own):=by
 refine qa qj q4d (by simp[q0w]) ?_
 have lat:∀{A:List (Int×Int)} {b:Nat},RdE q1J 2 W0 own (some ⟨b,0,none⟩) A→A.length=n→∀(own':Own) [qt own' own] (pl:Int),qD Tryz.prog W0 144 [.int .i64 pl, .slice (some ⟨b,0,none⟩) n n, .int .i64 e.t, .slice c Cl1.length cc] own' (.int .i64 (ltM e.t (fun t=>gtC Cl1 t) (fAc A) pl n)):=fun{A b} hA hl own' _ pl=>by
  have:=qe8 (W0:=W0) (own:=own') (cap:=n) (cc:=cc) hC.up hA.up (by omega) pl e.t
  rwa[hl] at this
 have lR:=fun own' [qt own' own]=>lat hR lR0 own'
 have lW:=fun own' [qt own' own]=>lat hW lW0 own'
 have lTR:=fun own' [qt own' own]=>lat hTR lTR0 own'
 have lTW:=fun own' [qt own' own]=>lat hTW lTW0 own'
 have hw1:(w:Int)<64:=by omega
 clear lat hR hW hTR hTW
 unfold qit
 obtain⟨ev,t,k,wd,ra,rl,rc,wa,wl,wc⟩:=e
 dsimp only[EH.v] at*
 cases wr with
 |false=>
  by_cases hk:k=4
  ·have hk':¬k≠4:=fun h=>h hk
   simp only[hk,ne_eq,not_true_eq_false,and_false,if_false,Bool.false_eq_true]
   have g0:=fun(own':Own) [qt own' own]=>lW own' (-1)
   generalize ltM t (fun t=>gtC Cl1 t) (fAc W) (-1) n=p at*
   by_cases hn:p<0
   ·rw[decide_eq_false (by omega),if_neg (by omega)]
    repeat'((try(conv=>whnf));first|(refine fD ?_)|(refine fF ?_)|((with_reducible show Ld _ _ _ _);first|(refine ldK c1 ?_))|((with_reducible show q0b _ _ _ _ _ _);first|(((refine qq (fun ex=>g0 (ex++_)) ?_ ?_ ?_;(exact rfl);exact rfl))))|(apply ixj;omega)|(refine fA ?_)|(refine qc (fun bk hbk=> ?_)))
    exact⟨rfl,(eC)⟩
   ·rw[decide_eq_true (by omega),if_pos (by omega)]
    repeat'((try(conv=>whnf));first|(refine fD ?_)|(refine fG ?_)|(refine qbN (p,cnt,(w:Int)) ?_ ?_;(exact rfl))|((with_reducible show Ld _ _ _ _);first|(refine ldK k0 ?_)|(refine ldK c1 ?_))|((with_reducible show q0b _ _ _ _ _ _);first|(((refine qq (fun ex=>g0 (ex++_)) ?_ ?_ ?_;(exact rfl);exact rfl))))|(apply ixj;omega)|(refine fA ?_)|(refine qc (fun bk hbk=> ?_)))
    exact⟨rfl,(eC)⟩
  ·have hk':k≠4:=hk
   simp only[hk,ne_eq,not_false_eq_true,and_false,if_true,if_false,Bool.false_eq_true]
   have g0:=fun(own':Own) [qt own' own]=>lW own' (-1)
   generalize ltM t (fun t=>gtC Cl1 t) (fAc W) (-1) n=p0 at*
   have g1:=fun(own':Own) [qt own' own]=>lTW own' p0
   generalize ltM t (fun t=>gtC Cl1 t) (fAc TW) p0 n=p at*
   by_cases hn:p<0
   ·rw[decide_eq_false (by omega),if_neg (by omega)]
    repeat'((try(conv=>whnf));first|(refine fD ?_)|(refine fF ?_)|((with_reducible show Ld _ _ _ _);first|(refine ldK c1 ?_)|(refine ldK c3 ?_))|((with_reducible show q0b _ _ _ _ _ _);first|(((refine qq (fun ex=>g0 (ex++_)) ?_ ?_ ?_;(exact rfl);exact rfl)))|(((refine qq (fun ex=>g1 (ex++_)) ?_ ?_ ?_;(exact rfl);exact rfl))))|(apply ixj;omega)|(refine fA ?_)|(refine qc (fun bk hbk=> ?_)))
    exact⟨rfl,(eC)⟩
   ·rw[decide_eq_true (by omega),if_pos (by omega)]
    repeat'((try(conv=>whnf));first|(refine fD ?_)|(refine fF ?_)|(refine fG ?_)|(refine qbN (p,cnt,(w:Int)) ?_ ?_;(exact rfl))|((with_reducible show Ld _ _ _ _);first|(refine ldK k0 ?_)|(refine ldK c1 ?_)|(refine ldK c3 ?_))|((with_reducible show q0b _ _ _ _ _ _);first|(((refine qq (fun ex=>g0 (ex++_)) ?_ ?_ ?_;(exact rfl);exact rfl)))|(((refine qq (fun ex=>g1 (ex++_)) ?_ ?_ ?_;(exact rfl);exact rfl))))|(apply ixj;omega)|(refine fA ?_)|(refine qc (fun bk hbk=> ?_)))
    exact⟨rfl,(eC)⟩
 |true=>
  by_cases hk:k=4
  ·have hk':¬k≠4:=fun h=>h hk
   simp only[hk,ne_eq,not_true_eq_false,and_true,if_true,if_false]
   have g0:=fun(own':Own) [qt own' own]=>lW own' (-1)
   generalize ltM t (fun t=>gtC Cl1 t) (fAc W) (-1) n=p0 at*
   have g1:=fun(own':Own) [qt own' own]=>lR own' p0
   generalize ltM t (fun t=>gtC Cl1 t) (fAc R) p0 n=p at*
   by_cases hn:p<0
   ·rw[decide_eq_false (by omega),if_neg (by omega)]
    repeat'((try(conv=>whnf));first|(refine fE ?_)|(refine fD ?_)|(refine fF ?_)|((with_reducible show Ld _ _ _ _);first|(refine ldK c0 ?_)|(refine ldK c1 ?_))|((with_reducible show q0b _ _ _ _ _ _);first|(((refine qq (fun ex=>g0 (ex++_)) ?_ ?_ ?_;(exact rfl);exact rfl)))|(((refine qq (fun ex=>g1 (ex++_)) ?_ ?_ ?_;(exact rfl);exact rfl))))|(apply ixj;omega)|(refine fA ?_)|(refine qc (fun bk hbk=> ?_)))
    exact⟨rfl,(eC)⟩
   ·rw[decide_eq_true (by omega),if_pos (by omega)]
    repeat'((try(conv=>whnf));first|(refine fE ?_)|(refine fD ?_)|(refine fG ?_)|(refine qbN (p,cnt,(w:Int)) ?_ ?_;(exact rfl))|((with_reducible show Ld _ _ _ _);first|(refine ldK k0 ?_)|(refine ldK c0 ?_)|(refine ldK c1 ?_))|((with_reducible show q0b _ _ _ _ _ _);first|(((refine qq (fun ex=>g0 (ex++_)) ?_ ?_ ?_;(exact rfl);exact rfl)))|(((refine qq (fun ex=>g1 (ex++_)) ?_ ?_ ?_;(exact rfl);exact rfl))))|(apply ixj;omega)|(refine fA ?_)|(refine qc (fun bk hbk=> ?_)))
    exact⟨rfl,(eC)⟩
  ·have hk':k≠4:=hk
   simp only[hk,ne_eq,not_false_eq_true,and_true,if_true]
   have g0:=fun(own':Own) [qt own' own]=>lW own' (-1)
   generalize ltM t (fun t=>gtC Cl1 t) (fAc W) (-1) n=p0 at*
   have g1:=fun(own':Own) [qt own' own]=>lR own' p0
   generalize ltM t (fun t=>gtC Cl1 t) (fAc R) p0 n=p1 at*
   have g2:=fun(own':Own) [qt own' own]=>lTW own' p1
   generalize ltM t (fun t=>gtC Cl1 t) (fAc TW) p1 n=p2 at*
   have g3:=fun(own':Own) [qt own' own]=>lTR own' p2
   generalize ltM t (fun t=>gtC Cl1 t) (fAc TR) p2 n=p at*
   by_cases hn:p<0
   ·rw[decide_eq_false (by omega),if_neg (by omega)]
    repeat'((try(conv=>whnf));first|(refine fE ?_)|(refine fF ?_)|((with_reducible show Ld _ _ _ _);first|(refine ldK c0 ?_)|(refine ldK c1 ?_)|(refine ldK c2 ?_)|(refine ldK c3 ?_))|((with_reducible show q0b _ _ _ _ _ _);first|(((refine qq (fun ex=>g0 (ex++_)) ?_ ?_ ?_;(exact rfl);exact rfl)))|(((refine qq (fun ex=>g1 (ex++_)) ?_ ?_ ?_;(exact rfl);exact rfl)))|(((refine qq (fun ex=>g2 (ex++_)) ?_ ?_ ?_;(exact rfl);exact rfl)))|(((refine qq (fun ex=>g3 (ex++_)) ?_ ?_ ?_;(exact rfl);exact rfl))))|(apply ixj;omega)|(refine fA ?_)|(refine qc (fun bk hbk=> ?_)))
    exact⟨rfl,(eC)⟩
   ·rw[decide_eq_true (by omega),if_pos (by omega)]
    repeat'((try(conv=>whnf));first|(refine fE ?_)|(refine fF ?_)|(refine fG ?_)|(refine qbN (p,cnt,(w:Int)) ?_ ?_;(exact rfl))|((with_reducible show Ld _ _ _ _);first|(refine ldK k0 ?_)|(refine ldK c0 ?_)|(refine ldK c1 ?_)|(refine ldK c2 ?_)|(refine ldK c3 ?_))|((with_reducible show q0b _ _ _ _ _ _);first|(((refine qq (fun ex=>g0 (ex++_)) ?_ ?_ ?_;(exact rfl);exact rfl)))|(((refine qq (fun ex=>g1 (ex++_)) ?_ ?_ ?_;(exact rfl);exact rfl)))|(((refine qq (fun ex=>g2 (ex++_)) ?_ ?_ ?_;(exact rfl);exact rfl)))|(((refine qq (fun ex=>g3 (ex++_)) ?_ ?_ ?_;(exact rfl);exact rfl))))|(apply ixj;omega)|(refine fA ?_)|(refine qc (fun bk hbk=> ?_)))
    exact⟨rfl,(eC)⟩
end
abbrev nnR:q0G:=(-1, -1, -1)
theorem q8B{l:List EH}:(frst l=nnR∧rcA l l.length= [])∨(frst l≠nnR∧(frst l).2.1≥0):=by
 by_cases h:rcA l l.length= []
 ·exact .inl ⟨q54 h,h⟩
 ·have:=qhv.2 h
  exact .inr ⟨fun e=>by rw[e] at this;revert this;decide,this⟩
def qap(L:List EH)(n:Nat)(e:EH)(w:Int)(wr:Bool)(C:List Int):Int:=qit n e.k e.t wr (fun t=>gtC C t) (q7P L n qR w) (q7P L n qW w) (q7P L n qTR w) (q7P L n qTW w)
theorem qbd{L:List EH}{n:Nat}{e:EH}{w:Int}{wr:Bool}{C:List Int}{ck:Nat→Int}(hw:Wf (L++ [e]) n)(h3:e.k≠3)
  (hA:(e.k≠4∧e.w=w∧wr=decide (e.k=2))∨(e.k=4∧wr=e.wl.contains w∧(e.wl.contains w=true∨e.rl.contains w=true))) (hC:∀t,t<n→gtC C t=ck t) (hck:∀t,0≤ck t)
  (hH:∀x,x<L.length→knd (L++ [e]) x≠3→thr (L++ [e]) x≠thr (L++ [e]) L.length→(HB (L++ [e]) x (toP (L++ [e]) L.length)↔(q0B (L++ [e]) (thr (L++ [e]) x) x:Int)+1≤ck (thr (L++ [e]) x).toNat)):
  (qap L n e w wr C<0→rcL (L++ [e]) L.length w L.length= [])∧(0≤qap L n e w wr C→(rcL (L++ [e]) L.length w L.length).getLast? =some (qap L n e w wr C,(L.length:Int),w)):=by
 have h:=qfX (l:=L++ [e]) (n:=n) (y:=L.length) (w:=w) (wr:=wr) (ck:=ck) hw (by simp) (by rw[q1G];exact h3) (by rw[q1G,q2b];exact hA) hck hH
 have e1:qap L n e w wr C=qbR (L++ [e]) n L.length (knd (L++ [e]) L.length) (thr (L++ [e]) L.length) w wr ck:=by
  unfold qap
  rw[qfW,q1G,q3I,qk5 hC]
 rw[e1]
 exact h
theorem qca{L:List EH}{n:Nat}{e:EH}(hw:Wf (L++ [e]) n)(hw0:Wf L n)(hk:e.k=1∨e.k=2):
  frst (L++ [e])=if frst L=nnR then(if 0≤qap L n e e.w (decide (e.k=2)) (q5O L n e.t) then(qap L n e e.w (decide (e.k=2)) (q5O L n e.t),(L.length:Int),e.w) else nnR) else frst L:=by
 have hr:=qbd (w:=e.w) (wr:=decide (e.k=2)) (C:=q5O L n e.t) (ck:=fun t=>(q77 (L++ [e]) e.t L.length (t:Int):Int)) hw (by omega) (.inl ⟨by omega,rfl,rfl⟩) (fun t ht=>by
  unfold q5O
  rw[qdn (q0Y ht),q9O (Nat.le_refl _)]) (fun t=>by omega) (by
  have:=qfb (y:=L.length) hw (by simp) (by rw[q1G];exact hk)
  rwa[q3I] at this ⊢)
 have ht:q8j e= [e.w]:=by unfold q8j;rw[if_pos hk]
 rcases q8B (l:=L) with ⟨h1,h2⟩|⟨h1,h2⟩
 ·rw[if_pos h1]
  split
  ·rename_i hp
   exact qgl (i:=0) hw hw0 h2 (by omega) (by rw[ht];rfl) (fun j w' hj=>by omega) (hr.2 hp)
  ·rename_i hp
   exact qao hw hw0 h2 fun _ w hwm=>by
    rw[ht,List.mem_singleton] at hwm
    subst hwm
    exact hr.1 (by omega)
 ·rw[if_neg h1]
  exact q8C hw0 h2
theorem qbX{L:List EH}{n:Nat}{e:EH}(hw:Wf (L++ [e]) n)(hw0:Wf L n)(hk:e.k=3):frst (L++ [e])=frst L:=by
 rcases q8B (l:=L) with ⟨h1,h2⟩|⟨h1,h2⟩
 ·rw[h1]
  exact qao hw hw0 h2 fun h=>absurd hk h
 ·exact q8C hw0 h2
theorem qf0{L:List EH}{n:Nat}{e:EH}{w:Int}(hw:Wf (L++ [e]) n)(hk:e.k=4)(hm:w∈q8j e):
  (qap L n e w (e.wl.contains w) (qbV L n e.t)<0→rcL (L++ [e]) L.length w L.length= [])∧(0≤qap L n e w (e.wl.contains w) (qbV L n e.t)→(rcL (L++ [e]) L.length w L.length).getLast? =some (qap L n e w (e.wl.contains w) (qbV L n e.t),(L.length:Int),w)):=by
 have h2:=((q3m e).2.1 w).1 hm
 rw[if_neg (by omega)] at h2
 refine qbd (ck:=fun t=>(qeO (L++ [e]) e.t L.length (t:Int):Int)) hw (by omega) (.inr ⟨hk,rfl,?_⟩) (fun t ht=> ?_) (fun t=>by omega) ?_
 ·simp only[List.contains_iff_mem]
  exact h2.symm
 ·unfold qbV
  rw[qdn (q0Y ht)]
  unfold qeO
  rw[q8p L.length (Nat.le_refl _),q2V (qcP (Nat.le_refl _))]
 ·have:=qjs (y:=L.length) hw (by simp) (by rw[q1G];exact hk)
  rwa[q3I] at this ⊢
def qgn(q:Nat):List EH→Int→Nat→Bool:=if q=0 then qR else if q=1 then qW else if q=2 then qTR else qTW
def q1S(L:List EH)(n:Nat)(j:Nat):List (Int×Int):=q7P L n (qgn (j % 4)) ((j/4:Nat):Int)
theorem q6n{L:List EH}{n j:Nat}:(q1S L n j).length=n:=qP
def qhy(e:EH)(q:Nat)(w:Int):Bool:=if q=0 then decide (e.k=1∧e.w=w) else if q=1 then decide (e.k=2∧e.w=w) else if q=2 then decide (e.k=4)&&e.rl.contains w else decide (e.k=4)&&e.wl.contains w
theorem q8D{L:List EH}{e:EH}{q:Nat}{w:Int}:∀i,i<L.length→qgn q (L++ [e]) w i=qgn q L w i:=fun i hi=>by
 unfold qgn
 split
 ·unfold qR;rw[q02 hi,q2U hi]
 split
 ·unfold qW;rw[q02 hi,q2U hi]
 split
 ·unfold qTR;rw[q02 hi,q2U hi]
 ·unfold qTW;rw[q02 hi,q2U hi]
theorem q8E{L:List EH}{e:EH}{q:Nat}{w:Int}:qgn q (L++ [e]) w L.length=qhy e q w:=by
 unfold qgn qhy
 split
 ·unfold qR;rw[q1G,q2b]
 split
 ·unfold qW;rw[q1G,q2b]
 split
 ·unfold qTR;rw[q1G,q2b]
 ·unfold qTW;rw[q1G,q2b]
theorem qbc{L:List EH}{e:EH}{n u j:Nat}(hu:e.t=u):q1S (L++ [e]) n j=if qhy e (j % 4) ((j/4:Nat):Int)=true then(q1S L n j).set u ((L.length:Int),(q0B L u L.length:Int)+1) else q1S L n j:=by
 unfold q1S
 split
 ·rename_i h
  exact(qeI q8D hu (by rw[q8E];exact h)).symm
 ·rename_i h
  exact q9k q8D (by rw[q8E];simpa using h)
theorem qc3{L:List EH}{e:EH}{n j:Nat}(hk:e.k=3):q1S (L++ [e]) n j=q1S L n j:=by
 unfold q1S
 refine q9k q8D ?_
 rw[q8E]
 unfold qhy
 simp[hk]
theorem qc4{L:List EH}{e:EH}{n u w j:Nat}(hu:e.t=u)(hk:e.k=1∨e.k=2)(hwd:e.w=w):
  q1S (L++ [e]) n j=if j=4*w+(if e.k=2 then 1 else 0) then(q1S L n (4*w+(if e.k=2 then 1 else 0))).set u ((L.length:Int),(q0B L u L.length:Int)+1) else q1S L n j:=by
 rw[qbc hu]
 have h:qhy e (j % 4) ((j/4:Nat):Int)=true↔j=4*w+(if e.k=2 then 1 else 0):=by
  obtain⟨i,q,hj,hq⟩:∃i q,j=4*i+q∧q<4:=⟨j/4,j % 4,by omega,by omega⟩
  have e1:j % 4=q:=by omega
  have e2:j/4=i:=by omega
  rw[e1,e2]
  subst hj
  unfold qhy
  have hq4:q=0∨q=1∨q=2∨q=3:=by omega
  rcases hk with hk|hk <;>rcases hq4 with rfl|rfl|rfl|rfl <;>simp[hk,hwd] <;>omega
 by_cases hj:j=4*w+(if e.k=2 then 1 else 0)
 ·rw[if_pos (h.2 hj),if_pos hj,←hj]
 ·rw[if_neg (fun x=>hj (h.1 x)),if_neg hj]
instance qt.mem{b:Nat}{p:Obj→Prop}{own:Own} [m:q3X b p own]:qt own [(b,p)]:=⟨fun _=>Ent.of_sub (List.singleton_sublist.2 m.h)⟩
abbrev Sl:=Option Addr×Nat×Nat
abbrev q7M(bs:Nat→Nat)(n:Nat)(i:Nat):Value:= .slice (some ⟨bs i,0,none⟩) n n
abbrev ckN(cnt at1:Int)(cb eb sb bb n sc:Nat)(bs:Nat→Nat)(r:q0G):Nat×(Obj→Prop):=(cb,fun o=>o=Obj.cells (ckL cnt at1 eb sb bb n sc (q7M bs n) r).toArray 151 (0,0))
abbrev ckO(cnt at1:Int)(r:q0G)(E:List Int)(H:Nat→List (Int×Int))(cb eb sb bb n sc:Nat)(bs:Nat→Nat)(B:List Sl)(D X:Own):Own:=
 ckN cnt at1 cb eb sb bb n sc bs r::q2J qM 3 eb E::q2J q2Q 23 bb B::(D++(q4t bs H 256++X))
section
variable{W0:World}{own:Own}{cnt at1:Int}{cb eb sb bb n sc:Nat}{V:Nat→Value}{bs:Nat→Nat}{r:q0G}{T:TypeId}
theorem q42{k:Nat}{K:Array Value→Prop} [m:q3X cb (fun o=>o=Obj.cells (ckL cnt at1 eb sb bb n sc V r).toArray T (0,0)) own](hk3:3=k)(hk:K (encRc r).toArray):LdN W0 own ⟨cb,261,none⟩ k K:=by
 subst hk3
 refine q3y (encRc r) m.h ?_ rfl hk
 rw[List.toList_toArray]
 have e:ckL cnt at1 eb sb bb n sc V r=([.int .i64 cnt, .int .i64 at1, .slice (some ⟨eb,0,none⟩) n n, .slice (some ⟨sb,0,none⟩) n sc, .slice (some ⟨bb,0,none⟩) n n]++q3W 256 V)++encRc r:=by
  unfold ckL
  rw[List.append_assoc]
 have hl:([.int .i64 cnt, .int .i64 at1, .slice (some ⟨eb,0,none⟩) n n, .slice (some ⟨sb,0,none⟩) n sc, .slice (some ⟨bb,0,none⟩) n n]++q3W 256 V:List Value).length=261:=by
  rw[List.length_append,qP];rfl
 rw[e,List.drop_left' hl]
 rfl
theorem qjV{c:Int}{K:Own→Prop}{C:(Obj→Prop)→Own} [m:UpC cb (fun o=>o=Obj.cells (ckL cnt at1 eb sb bb n sc V r).toArray T (0,0)) own C](h:K (C fun o=>o=Obj.cells (ckL c at1 eb sb bb n sc V r).toArray T (0,0))):StT W0 own ⟨cb,0,none⟩ (.int .i64 c) K:=
 qjY (by show Nat.ble 1 (ckL cnt at1 eb sb bb n sc V r).length=true;rw[q8r];rfl) rfl h
theorem qjW{c:Int}{K:Own→Prop}{C:(Obj→Prop)→Own} [m:UpC cb (fun o=>o=Obj.cells (ckL cnt at1 eb sb bb n sc V r).toArray T (0,0)) own C](h:K (C fun o=>o=Obj.cells (ckL cnt c eb sb bb n sc V r).toArray T (0,0))):StT W0 own ⟨cb,1,none⟩ (.int .i64 c) K:=
 qjY (by show Nat.ble 2 (ckL cnt at1 eb sb bb n sc V r).length=true;rw[q8r];rfl) rfl h
theorem qgZ{w q:Nat}(hw:w<64)(hq:q<4):Cl W0 [(cb,fun o=>o=Obj.cells (ckL cnt at1 eb sb bb n sc (q7M bs n) r).toArray T (0,0))] cb (5+w*4+q) (q7M bs n (4*w+q)):=by
 have e:5+w*4+q=5+(4*w+q):=by omega
 rw[e]
 exact q9w (List.mem_singleton.2 rfl) (qaV (by omega))
theorem ldW{w q:Nat}{K:Value→Prop} [m:q3X cb (fun o=>o=Obj.cells (ckL cnt at1 eb sb bb n sc (q7M bs n) r).toArray T (0,0)) own](hw:w<64)(hq:Nat.blt q 4=true)(hk:K (q7M bs n (4*w+q))):Ld W0 own ⟨cb,5+w*4+q,none⟩ K:=by
 have hq':q<4:=by simpa using hq
 have e:5+w*4+q=5+(4*w+q):=by omega
 rw[e]
 exact ldK (own':=own) (q9w m.h (qaV (by omega))) (m:=⟨fun _=>Ent.refl⟩) hk
theorem qhx{L:List EH}{w q:Nat}(hq:q<4):q1S L n (4*w+q)=q7P L n (qgn q) (w:Int):=by
 unfold q1S
 have e1:(4*w+q) % 4=q:=by omega
 have e2:(4*w+q)/4=w:=by omega
 rw[e1,e2]
theorem q6x{P:Program}{k k0:FuncId}{args args0:List Value}{v0:Value}{O:Own}{K:Value→Own→Prop}(h:q0E P W0 k0 args0 own fun v own'=>v=v0∧Ent W0 own' O)(ek:k=k0)(ea:args=args0)(hk:K v0 O):qf P W0 own k args K:=
 qZ (σ:=Unit) (R:=fun _ v=>v=v0) (O:=fun _=>O) (fun w hw=>(h w hw).mono fun _ _ ⟨v,o,a,b,c,d⟩=>⟨v,o,a,b,(),c,d⟩) ek ea (fun _ _ e=>by subst e;exact hk)
theorem qgJ{α:Type}{enc:α→List Value}{sz:Nat}{l:List α}{T:TypeId}{b j o k:Nat}{C:Own→Own}{x:α}{vs:List Value}{K:Own→Prop}(x':α)(hw:∀x∈l,(enc x).length=sz)(hx:l[j]? =some x) [m:AtC [q2J enc T b l] own C](hn:vs.length=k)(ho:o=j*sz)(hv:enc x'=vs)(hwv:vs.length=sz)(h1:vs.all q4A=true)
  (hk:K (C [q2J enc T b (l.set j x')])):vs.length=k∧StN W0 own ⟨b,o,none⟩ vs K:=
 qjU (T:=T) (D:= [q2J enc T b l]) (a:=some ⟨b,0,none⟩) x' (q8q hw) hx hn (by simp[ao,ho]) hv hwv h1 (fun D' hb=>by
  have hne:l.set j x'≠ []:=fun e=>by
   have:=congrArg List.length e
   rw[List.length_set] at this
   have:=List.eq_nil_of_length_eq_zero this
   subst this
   simp at hx
  have:=qg9 hne (by rw[List.length_set];exact hb)
  subst this
  exact hk)
theorem qjk{a b:q0G}:eqC [0,0,0] (encRc a) (encRc b)=some (decide (a=b)):=by
 obtain⟨a1,a2,a3⟩:=a
 obtain⟨b1,b2,b3⟩:=b
 simp[eqC,q1w,Prod.mk.injEq]
end
section
variable{W0:World}{r0:Own}{at1:Int}{cb eb sb bb n sc:Nat}{bs:Nat→Nat}{B S:List Sl}{D X:Own}
theorem q3L{l:List Int}:∀x∈l,(qM x).length=1:=fun _ _=>rfl
theorem q5V{l:List (Int×Int)}:∀x∈l,(q1J x).length=2:=fun _ _=>rfl
theorem qel{L:List EH}{e:EH}{w:Nat}{wr:Bool}{own:Own}{r:q0G}{c:Option Addr}{cc:Nat}{C1:List Int}{Cf:(Obj→Prop)→Own}(hw:w<64)(hn:n≤16)(hcl:C1.length=n)
  [u:UpC cb (fun o=>o=Obj.cells (ckL L.length at1 eb sb bb n sc (q7M bs n) r).toArray 151 (0,0)) own Cf]
  [i1:qt own [ckN L.length at1 cb eb sb bb n sc bs r]] [i2:qt own (q4t bs (q1S L n) 256)] [i3:qt own X] (hC:RdE qM 1 W0 X c C1):
  q0E Tryz.prog W0 118 [.pointer (some ⟨cb,0,none⟩),e.v, .int .i64 w, .bool wr, .slice c n cc] own fun v own'=>v= .bool (decide (0≤qap L n e w wr C1))∧Ent W0 own' (if 0≤qap L n e w wr C1 then Cf (fun o=>o=Obj.cells (ckL L.length at1 eb sb bb n sc (q7M bs n) (qap L n e w wr C1,(L.length:Int),(w:Int))).toArray 151 (0,0)) else own):=by
 have h0:∀q,q<4→RdE q1J 2 W0 own (some ⟨bs (4*w+q),0,none⟩) (q7P L n (qgn q) w):=fun q hq=>by
  have:=(qgP (W0:=W0) (bs:=bs) (H:=q1S L n) (i:=4*w+q) (k:=256) (by omega)).ent (i2.h W0)
  rwa[qhx hq] at this
 have hc:∀q,q<4→Cl W0 own cb (5+w*4+q) (q7M bs n (4*w+q)):=fun q hq=>(qgZ hw hq).ent (i1.h W0)
 have hl:∀Q,(q7P L n Q w).length=n:=fun Q=>qP
 have hk0:Cl W0 own cb 0 (.int .i64 L.length):=Kn.ent (q9w (List.mem_singleton.2 rfl) rfl) (i1.h W0)
 have:=qig (e:=e) (wr:=wr) (cc:=cc) hk0 hw (hc 0 (by omega)) (hc 1 (by omega)) (hc 2 (by omega)) (hc 3 (by omega)) (h0 0 (by omega)) (h0 1 (by omega)) (h0 2 (by omega)) (h0 3 (by omega)) (hl _) (hl _) (hl _) (hl _) (by omega) (hC.ent (i3.h W0))
 rw[hcl] at this
 exact this
theorem qeh{L:List EH}{e:EH}{t w xc:Nat}{xa:Option Addr}(hw:Wf (L++ [e]) n)(hw0:Wf L n)(hk:e.k=1∨e.k=2)(ht:e.t=t)(htn:t<n)(hwd:e.w=w)(hw64:w<64)(hn:n≤16)(hL:L.length≤65536)
  (hN:q1s W0 0 noneV) (hS:RdE q2Q 1 W0 D (some ⟨sb,0,none⟩) S) (hx:S[t]? =some (xa,n,xc)) (hxr:RdE qM 1 W0 X xa (q5O L n t)):
  q0E Tryz.prog W0 87 [.pointer (some ⟨cb,0,none⟩),e.v] (ckO L.length at1 (frst L) (q0d L n) (q1S L n) cb eb sb bb n sc bs B D X++r0) fun v own'=>v= .tuple #[]∧Ent W0 own' (ckO L.length at1 (frst (L++ [e])) (q0d L n) (q1S (L++ [e]) n) cb eb sb bb n sc bs B D X++r0):=by
 refine qa qj q3T (by simp[q0m]) ?_
 have hfr:=qca hw hw0 hk
 have hE:(q0d L n)[t]? =some (q0B L t L.length:Int):=q0Y htn
 have hEl:n=(q0d L n).length:=qP.symm
 have hcl:(q5O L n t).length=n:=qP
 have hcn:=qak (l:=L) (t:=t) L.length
 obtain⟨q,hq⟩:∃q:Nat,q=if e.k=2 then 1 else 0:=⟨_,rfl⟩
 have hq2:q<2:=by rw[hq];split <;>omega
 have hhis:q4t bs (q1S (L++ [e]) n) 256=q4t bs (fun j=>if j=4*w+q then(q1S L n (4*w+q)).set t ((L.length:Int),(q0B L t L.length:Int)+1) else q1S L n j) 256:=q1p fun j _=>⟨rfl,by rw[hq];exact qc4 ht hk hwd⟩
 obtain⟨C0,hC0,hC1⟩:=q8n (bs:=bs) (H:=q1S L n) (i:=4*w+q) (k:=256) (by omega)
 have hH:(q1S L n (4*w+q))[t]? =some (fAc (q1S L n (4*w+q)) t):=by
  obtain⟨y,hy⟩:∃y,(q1S L n (4*w+q))[t]? =some y:=⟨_,List.getElem?_eq_getElem (by rw[q6n];exact htn)⟩
  rw[hy,qdf hy]
 have hHl:∀j,n=(q1S L n j).length:=fun j=>q6n.symm
 have hC2:=hC1 ((q1S L n (4*w+q)).set t ((L.length:Int),(q0B L t L.length:Int)+1))
 rw[←hhis] at hC2
 have htst:=fun(own':Own) (Cf:(Obj→Prop)→Own) (r:q0G) (i0:UpC cb (fun o=>o=Obj.cells (ckL L.length at1 eb sb bb n sc (q7M bs n) r).toArray 151 (0,0)) own' Cf) (i1:qt own' [ckN L.length at1 cb eb sb bb n sc bs r]) (i2:qt own' (q4t bs (q1S L n) 256)) (i3:qt own' X)=>qel (e:=e) (wr:=decide (e.k=2)) (cc:=xc) hw64 hn hcl hxr (u:=i0) (i1:=i1) (i2:=i2) (i3:=i3)
 obtain⟨ev,tt,k,wd,ra,rl,rc,wa,wl,wc⟩:=e
 dsimp only[EH.v] at*
 subst ht hwd
 generalize frst (L++ [_])=rN at*
 generalize qap L n _ _ _ _=p at*
 generalize frst L=r at*
 subst hfr
 have hLn:((L.length:Nat):Int)<65537:=by omega
 by_cases hrn:r=nnR
 ·subst hrn
  rw[if_pos rfl]
  by_cases hp:0≤p
  ·simp only[if_pos hp,decide_eq_true hp] at htst ⊢
   rcases hk with rfl|rfl
   ·obtain rfl:q=0:=hq
    haveI:AtC _ _ C0:=⟨hC0⟩
    repeat'((try(conv=>whnf));first|(refine fE ?_)|(refine fD ?_)|(refine q42 ?_ ?_;(exact rfl))|(refine q15 hN _ rfl rfl ?_)|(refine q7Z (by simp[eqC,q1w]) ?_)|(refine ldW hw64 ?_ ?_;(exact rfl))|(refine ixC hH (hHl _) ?_ ?_;(exact rfl))|(refine qgJ (T:=188) (x:=fAc _ t) ((L.length:Int),(q0B L t L.length:Int)+1) q5V hH ?_ ?_ ?_ ?_ ?_ ?_;(exact rfl);(exact rfl);(exact rfl);(exact rfl);(exact rfl))|((with_reducible show Ld _ _ _ _);first|(refine qkh hS hx rfl ?_)|(refine qbj q3L hE rfl ?_))|((with_reducible show qf _ _ _ _ _ _);first|((refine q6x (htst _ _ _ inferInstance inferInstance inferInstance inferInstance) ?_ ?_ ?_;(exact rfl);(exact rfl))))|(refine fB ?_)|(apply ixj;omega)|(refine fA ?_)|(refine fL ?_)|(refine fM ?_)|(refine qc (fun bk hbk=> ?_)))
    exact⟨rfl,by rw[hC2];exact Ent.drop.trans Ent.drop⟩
   ·obtain rfl:q=1:=hq
    haveI:AtC _ _ C0:=⟨hC0⟩
    repeat'((try(conv=>whnf));first|(refine fE ?_)|(refine q42 ?_ ?_;(exact rfl))|(refine q15 hN _ rfl rfl ?_)|(refine q7Z (by simp[eqC,q1w]) ?_)|(refine ldW hw64 ?_ ?_;(exact rfl))|(refine ixC hH (hHl _) ?_ ?_;(exact rfl))|(refine qgJ (T:=188) (x:=fAc _ t) ((L.length:Int),(q0B L t L.length:Int)+1) q5V hH ?_ ?_ ?_ ?_ ?_ ?_;(exact rfl);(exact rfl);(exact rfl);(exact rfl);(exact rfl))|((with_reducible show Ld _ _ _ _);first|(refine qkh hS hx rfl ?_)|(refine qbj q3L hE rfl ?_))|((with_reducible show qf _ _ _ _ _ _);first|((refine q6x (htst _ _ _ inferInstance inferInstance inferInstance inferInstance) ?_ ?_ ?_;(exact rfl);(exact rfl))))|(refine fB ?_)|(apply ixj;omega)|(refine fA ?_)|(refine fL ?_)|(refine fM ?_)|(refine qc (fun bk hbk=> ?_)))
    exact⟨rfl,by rw[hC2];exact Ent.drop.trans Ent.drop⟩
  ·simp only[if_neg hp,decide_eq_false hp] at htst ⊢
   rcases hk with rfl|rfl
   ·obtain rfl:q=0:=hq
    haveI:AtC _ _ C0:=⟨hC0⟩
    repeat'((try(conv=>whnf));first|(refine fE ?_)|(refine fD ?_)|(refine q42 ?_ ?_;(exact rfl))|(refine q15 hN _ rfl rfl ?_)|(refine q7Z (by simp[eqC,q1w]) ?_)|(refine ldW hw64 ?_ ?_;(exact rfl))|(refine ixC hH (hHl _) ?_ ?_;(exact rfl))|(refine qgJ (T:=188) (x:=fAc _ t) ((L.length:Int),(q0B L t L.length:Int)+1) q5V hH ?_ ?_ ?_ ?_ ?_ ?_;(exact rfl);(exact rfl);(exact rfl);(exact rfl);(exact rfl))|((with_reducible show Ld _ _ _ _);first|(refine qkh hS hx rfl ?_)|(refine qbj q3L hE rfl ?_))|((with_reducible show qf _ _ _ _ _ _);first|((refine q6x (htst _ _ _ inferInstance inferInstance inferInstance inferInstance) ?_ ?_ ?_;(exact rfl);(exact rfl))))|(refine fB ?_)|(apply ixj;omega)|(refine fA ?_)|(refine fL ?_)|(refine fM ?_)|(refine qc (fun bk hbk=> ?_)))
    exact⟨rfl,by rw[hC2];exact Ent.drop.trans Ent.drop⟩
   ·obtain rfl:q=1:=hq
    haveI:AtC _ _ C0:=⟨hC0⟩
    repeat'((try(conv=>whnf));first|(refine fE ?_)|(refine q42 ?_ ?_;(exact rfl))|(refine q15 hN _ rfl rfl ?_)|(refine q7Z (by simp[eqC,q1w]) ?_)|(refine ldW hw64 ?_ ?_;(exact rfl))|(refine ixC hH (hHl _) ?_ ?_;(exact rfl))|(refine qgJ (T:=188) (x:=fAc _ t) ((L.length:Int),(q0B L t L.length:Int)+1) q5V hH ?_ ?_ ?_ ?_ ?_ ?_;(exact rfl);(exact rfl);(exact rfl);(exact rfl);(exact rfl))|((with_reducible show Ld _ _ _ _);first|(refine qkh hS hx rfl ?_)|(refine qbj q3L hE rfl ?_))|((with_reducible show qf _ _ _ _ _ _);first|((refine q6x (htst _ _ _ inferInstance inferInstance inferInstance inferInstance) ?_ ?_ ?_;(exact rfl);(exact rfl))))|(refine fB ?_)|(apply ixj;omega)|(refine fA ?_)|(refine fL ?_)|(refine fM ?_)|(refine qc (fun bk hbk=> ?_)))
    exact⟨rfl,by rw[hC2];exact Ent.drop.trans Ent.drop⟩
 ·rw[if_neg hrn]
  have hno:eqC [0,0,0] (encRc r) (encRc nnR)=some false:=by rw[qjk,decide_eq_false hrn]
  rcases hk with rfl|rfl
  ·obtain rfl:q=0:=hq
   haveI:AtC _ _ C0:=⟨hC0⟩
   repeat'((try(conv=>whnf));first|(refine fD ?_)|(refine q42 ?_ ?_;(exact rfl))|(refine q15 hN _ rfl rfl ?_)|(refine qhm hno ?_)|(refine ldW hw64 ?_ ?_;(exact rfl))|(refine ixC hH (hHl _) ?_ ?_;(exact rfl))|(refine qgJ (T:=188) (x:=fAc _ t) ((L.length:Int),(q0B L t L.length:Int)+1) q5V hH ?_ ?_ ?_ ?_ ?_ ?_;(exact rfl);(exact rfl);(exact rfl);(exact rfl);(exact rfl))|((with_reducible show Ld _ _ _ _);first|(refine qbj q3L hE rfl ?_))|(refine fB ?_)|(apply ixj;omega)|(refine fA ?_)|(refine fL ?_)|(refine fM ?_)|(refine qc (fun bk hbk=> ?_)))
   exact⟨rfl,by rw[hC2];exact Ent.drop.trans Ent.drop⟩
  ·obtain rfl:q=1:=hq
   haveI:AtC _ _ C0:=⟨hC0⟩
   repeat'((try(conv=>whnf));first|(refine fE ?_)|(refine fD ?_)|(refine q42 ?_ ?_;(exact rfl))|(refine q15 hN _ rfl rfl ?_)|(refine qhm hno ?_)|(refine ldW hw64 ?_ ?_;(exact rfl))|(refine ixC hH (hHl _) ?_ ?_;(exact rfl))|(refine qgJ (T:=188) (x:=fAc _ t) ((L.length:Int),(q0B L t L.length:Int)+1) q5V hH ?_ ?_ ?_ ?_ ?_ ?_;(exact rfl);(exact rfl);(exact rfl);(exact rfl);(exact rfl))|((with_reducible show Ld _ _ _ _);first|(refine qbj q3L hE rfl ?_))|(refine fB ?_)|(apply ixj;omega)|(refine fA ?_)|(refine fL ?_)|(refine fM ?_)|(refine qc (fun bk hbk=> ?_)))
   exact⟨rfl,by rw[hC2];exact Ent.drop.trans Ent.drop⟩
end
structure CkB where
 cb:Nat
 eb:Nat
 sb:Nat
 sc:Nat
 bb:Nat
 bs:Nat→Nat
 S:List Sl
 B:List Sl
 D:Own
 X:Own
noncomputable abbrev CkB.O(s:CkB)(L:List EH)(n:Nat):Own:=ckO L.length (q3V L L.length) (frst L) (q0d L n) (q1S L n) s.cb s.eb s.sb s.bb n s.sc s.bs s.B s.D s.X
structure CkM(W0:World)(n:Nat)(L:List EH)(s:CkB):Prop where
 wf:WF0 L n
 sB:qr q2Q 23 1 (some ⟨s.sb,0,none⟩) s.sc s.S s.D
 sl:s.S.length=n
 bl:s.B.length=n
 sr:∀u,u<n→∃a c,s.S[u]? =some (a,n,c)∧RdE qM 1 W0 s.X a (q5O L n u)
 b3:∀u:Nat,u<n→lkL L u L.length=3→∃a c,s.B[u]? =some (some a,n,c)∧RdE qM 1 W0 s.X (some a) (qbV L n u)
 b0:∀u:Nat,u<n→lkL L u L.length≠3→s.B[u]? =some (none,0,0)
section
variable{W0:World}{own:Own}
theorem qbC{a:Option Addr}{l:List Int}{cap:Nat}(hR:RdE qM 1 W0 own a l)(hne:l≠ [])(hl:l.length≤65536):
  q0E Tryz.prog W0 60 [.slice a l.length cap] own fun v own'=>∃s:Option Addr×Nat×Own,(v= .slice s.1 l.length s.2.1∧qr qM 3 1 s.1 s.2.1 l s.2.2)∧Ent W0 own' (s.2.2++own):=by
 refine qa qj q2s (by simp[q00]) ?_
 have hs:=hR.isS hne
 generalize ab a=b0 at hs
 generalize ao a=o0 at hs
 subst hs
 repeat'((try(conv=>whnf));first|(refine fD ?_)|(refine q7m (enc:=qM) (l:= []) (l2:=l) qr.nil (At.head (D:= []) (r:=_)) hR.up rfl rfl (by omega) (fun _ _=>rfl) (fun _=>by simp;omega) (fun a1 c1 D1 hB1=> ?_);(rw[List.length_nil,Nat.zero_add l.length]);(apply Stop.h))|(refine qc (fun bk hbk=> ?_)))
 refine Stop.mk ?_
 rw[List.nil_append] at hB1
 exact⟨(a1,c1,D1),⟨rfl,hB1⟩,Ent.of_sub (((List.Sublist.refl own).cons _).append_left D1)⟩
end
end Ord
end Go.Proofs.YtkieffpjjfebjaaGreatDoor
