/- What the laws share, part 25. No condition. -/
import Derived.Test.YtbhbldllneadeaaGreatDoorQ24
set_option maxHeartbeats 8000000
set_option maxRecDepth 10000
namespace Go.Proofs.YtbhbldllneadeaaGreatDoor
namespace Ord
open Go
section
variable{W0:World}{own:Own}{a:Option Addr}{cap:Nat}{l:List Int}
theorem qb2(W0:World)(own:Own)(x:Int):qE Tryz.prog W0 101 [.int .i64 x] own (.bool (!inW x)):=by
 refine qg (sH [] ?_)
 by_cases hw:0≤x∧x<64
 ·have hx1:inW x=true:=by unfold inW;exact decide_eq_true hw
  rw[hx1]
  repeat'((try(conv=>whnf));first|(refine fH ?_)|(refine fK ?_))
  exact⟨q0J (vb (decide_eq_false Y6)),(eC)⟩
 ·have hx1:inW x=false:=by unfold inW;exact decide_eq_false hw
  rw[hx1]
  repeat'((try(conv=>whnf));first|(refine fH ?_)|(refine fI ?_)|(apply q6K;(exact rfl);(exact rfl);all_goals intro hc))
  all_goals first|exact⟨q0J rfl,(eC)⟩|exact⟨q0J (vb (decide_eq_true Y6)),(eC)⟩
theorem qmR:okF Tryz.prog 101=true:=by kernel_rfl
theorem q4X(hR:RdE qx 1 W0 own a l)(hl:l.length≤9223372036854775807):qE Tryz.prog W0 69 [.slice a l.length cap] own (.bool (l.all inW)):=by
 refine qg (sH [] ?_);have h:=q7r (cap:=cap) qmR (fun own x=>qb2 W0 own x) hR hl;have e:l.all inW= !l.any (fun x=> !inW x):=by simp[List.all_eq_not_any_not]
 rw[e];generalize l.any (fun x=> !inW x)=z at*
 repeat'((try(conv=>whnf));first|((apply qe);first|((refine qd (h) ?_))))
 exact⟨rfl,(eC)⟩
end
abbrev q1s(x:Option Addr×Nat×Nat):List Value:= [.slice x.1 x.2.1 x.2.2]
section
variable{W0:World}{own:Own}
theorem qg2{e:EH}{cb n eb ec bb bc:Nat}{cnt at1 last:Int}{B:List (Option Addr×Nat×Nat)}(hE:EvR W0 own e)(h0:Cl W0 own cb 0 (.int .i64 cnt))(h1:Cl W0 own cb 1 (.int .i64 at1))(h2:Cl W0 own cb 2 (.slice (some ⟨eb,0,none⟩) n ec))(h4:Cl W0 own cb 4 (.slice (some ⟨bb,0,none⟩) B.length bc))
  (hB:RdE q1s 1 W0 own (some ⟨bb,0,none⟩) B) (hl:B.length=n) (hc:0≤cnt) (hlast:∀x,B[e.t.toNat]? =some x→(x.1≠none↔last=3)):
  qE Tryz.prog W0 43 [.pointer (some ⟨cb,0,none⟩),e.v] own (.bool (q17 n (cnt==0) at1 last e)):=by
 refine qg (sH [3,5,7,9,11,13,15,17,19,21,23,25,27,29,31,33,35,37,39,41,43,45,47,49,51,53,56,57,59,61,63,65,67,69,71,73,75,77,79,81,83,85,87,89,91,93,0,3,5,7,9,11,13,15,17,19,21,23,25,27,29,31,33,35,37,39,41,0] ?_);have hr:∀own' [qv own' own],qE Tryz.prog W0 69 [.slice e.ra e.rl.length e.rc] own' (.bool (e.rl.all inW)):=fun own' h=>q4X (hE.r.ent (h.h W0)) hE.rn
 have hw:∀own' [qv own' own],qE Tryz.prog W0 69 [.slice e.wa e.wl.length e.wc] own' (.bool (e.wl.all inW)):=fun own' h=>q4X (hE.w.ent (h.h W0)) hE.wn
 have h1w:∀(own':Own) (b:Nat),qv own' [(b,fun o=>o=Obj.cells #[.int .i64 e.w] 3)]→qE Tryz.prog W0 69 [.slice (some ⟨b,0,none⟩) 1 1] own' (.bool (inW e.w)):=fun own' b h=>by
  have:=q4X (W0:=W0) (own:=own') (a:=some ⟨b,0,none⟩) (cap:=1) (l:= [e.w]) ((q6X (enc:=qx) (sz:=1) (T:=3) (fun _ _=>rfl)).ent (h.h W0)) Y8
  simpa using this
 unfold q17;have er:decide (e.rl= []∧e.wl= [])=decide (e.rl.length=0∧e.wl.length=0):=by
  refine decide_eq_decide.2 ?_;rw[zA,zA]
 have ea:e.rl.length=0→e.rl.all inW=true:=fun h=>by rw[zA.1 h];rfl
 have eb2:e.wl.length=0→e.wl.all inW=true:=fun h=>by rw[zA.1 h];rfl
 rw[er];clear hE er;obtain⟨ev,t,k,w,ra,rl,rc,wa,wl,wc⟩:=e;dsimp only[EH.v] at*;generalize rl.all inW=zr at*;generalize wl.all inW=zw at*;generalize rl.length=lr at*;generalize wl.length=lw at*;have hf:(cnt==0)=true↔cnt=0:=Y8;generalize (cnt==0)=fs at*
 by_cases hg:0≤t∧t<n∧1≤k∧k≤4
 ·by_cases hw0:0≤w∧w<64
  ·have hw0':inW w=true:=decide_eq_true hw0;rw[hw0'] at h1w
   by_cases ha:cnt>0∧ev<at1
   ·rw[decide_eq_false (fun h=>h.2.2.2.2.1.elim (fun h=>absurd (hf.1 h) Y6) (fun h=>by omega))];obtain⟨a1,a2,a3,a4⟩:=hg;obtain⟨a5,a6⟩:=ha
    repeat'((try(conv=>whnf));first|(refine fH ?_)|(refine fF ?_)|(refine fJ ?_)|(refine fK ?_)|((apply gLd);first|(refine ldK h0 ?_)|(refine ldK h1 ?_)|(refine ldK h2 ?_))|((apply qz);first|(((refine qj (fun ex=>h1w _ _ ⟨fun _=>Ent.app (Ent.left (D:= [_]))⟩) ?_))))|(refine fA ?_)|(refine qf (fun bk hbk=> ?_)))
    all_goals first|exact⟨rfl,(eC)⟩|(exfalso;omega)
   ·have ha':fs=true∨at1≤ev:=by
     by_cases h:cnt=0
     ·exact .inl (hf.2 h)
     ·exact .inr Y6
    rw[decide_eq_true ⟨hg.1,hg.2.1,hg.2.2.1,hg.2.2.2,ha',hw0.1,hw0.2⟩,yM]
    by_cases hk:k=4
    ·rw[if_pos hk];obtain⟨j,rfl⟩:∃j:Nat,t=j:=⟨t.toNat,Y6⟩
     obtain⟨x,hx⟩:∃x,B[j]? =some x:=⟨_,z6 Y6⟩
     have hlx:=hlast x (by rw[zB];exact hx);clear hlast;obtain⟨x1,x2,x3⟩:=x;dsimp only at hlx;cases x1 with
     |none=>
      rw[decide_eq_false (fun h=>(hlx.2 h) rfl),Y4]
      repeat'((try(conv=>whnf));first|(refine fH ?_)|(refine fI ?_)|(refine fD ?_)|(refine fG ?_)|(refine fK ?_)|((apply gLd);first|(refine q0r hB hx rfl ?_)|(refine ldK h0 ?_)|(refine ldK h1 ?_)|(refine ldK h2 ?_)|(refine ldK h4 ?_))|((apply qJ);first|((refine ixE hB hx ?_ ?_;(first|rfl|omega))))|((apply qz);first|(((refine qj (fun ex=>h1w _ _ ⟨fun _=>Ent.app (Ent.left (D:= [_]))⟩) ?_))))|(refine fA ?_)|(refine qf (fun bk hbk=> ?_))|(apply q53;(exact rfl);(exact rfl);all_goals intro hc))
      all_goals first|exact⟨rfl,(eC)⟩|(exfalso;omega)
     |some ad=>
      rw[decide_eq_true (hlx.1 Y8),Bool.and_true];cases zr <;>cases zw
      all_goals
       repeat'((try(conv=>whnf));first|(refine fH ?_)|(refine fI ?_)|(refine fD ?_)|(refine fG ?_)|(refine fK ?_)|((apply gLd);first|(refine q0r hB hx rfl ?_)|(refine ldK h0 ?_)|(refine ldK h1 ?_)|(refine ldK h2 ?_)|(refine ldK h4 ?_))|((apply qJ);first|((refine ixE hB hx ?_ ?_;(first|rfl|omega))))|((apply qz);first|(((refine qj (fun ex=>h1w _ _ ⟨fun _=>Ent.app (Ent.left (D:= [_]))⟩) ?_)))|(((refine qj (fun ex=>hr (ex++_)) ?_)))|(((refine qj (fun ex=>hw (ex++_)) ?_))))|(refine fA ?_)|(refine qf (fun bk hbk=> ?_))|(apply q53;(exact rfl);(exact rfl);all_goals intro hc))
       all_goals first|exact⟨rfl,(eC)⟩|(exfalso;omega)
    ·rw[if_neg hk];clear hlast
     by_cases hz:lr=0∧lw=0
     ·obtain⟨hz1,hz2⟩:=hz;rw[decide_eq_true ⟨hz1,hz2⟩,ea hz1,eb2 hz2]
      repeat'((try(conv=>whnf));first|(refine fH ?_)|(refine fI ?_)|(refine fD ?_)|(refine fF ?_)|(refine fG ?_)|(refine fJ ?_)|(refine fK ?_)|((apply gLd);first|(refine ldK h0 ?_)|(refine ldK h1 ?_)|(refine ldK h2 ?_))|((apply qz);first|(((refine qj (fun ex=>h1w _ _ ⟨fun _=>Ent.app (Ent.left (D:= [_]))⟩) ?_))))|(refine fA ?_)|(refine qf (fun bk hbk=> ?_))|(apply q53;(exact rfl);(exact rfl);all_goals intro hc))
      all_goals first|exact⟨q0J (vb (by simp[hz2])),(eC)⟩|(exfalso;omega)
     ·rw[decide_eq_false hz,Y4]
      repeat'((try(conv=>whnf));first|(refine fH ?_)|(refine fI ?_)|(refine fD ?_)|(refine fF ?_)|(refine fG ?_)|(refine fK ?_)|((apply gLd);first|(refine ldK h0 ?_)|(refine ldK h1 ?_)|(refine ldK h2 ?_))|((apply qz);first|(((refine qj (fun ex=>h1w _ _ ⟨fun _=>Ent.app (Ent.left (D:= [_]))⟩) ?_))))|(refine fA ?_)|(refine qf (fun bk hbk=> ?_))|(apply q53;(exact rfl);(exact rfl);all_goals intro hc))
      all_goals first|exact⟨rfl,(eC)⟩|exact⟨q0J (vb (decide_eq_false Y6)),(eC)⟩|(exfalso;omega)
  ·have hw0':inW w=false:=decide_eq_false hw0;rw[hw0'] at h1w;rw[decide_eq_false (fun h=>hw0 ⟨h.2.2.2.2.2.1,h.2.2.2.2.2.2⟩)];obtain⟨a1,a2,a3,a4⟩:=hg
   repeat'((try(conv=>whnf));first|(refine fH ?_)|(refine fI ?_)|(refine fE ?_)|(refine fK ?_)|((apply gLd);first|(refine ldK h2 ?_))|((apply qz);first|(((refine qj (fun ex=>h1w _ _ ⟨fun _=>Ent.app (Ent.left (D:= [_]))⟩) ?_))))|(refine fA ?_)|(refine qf (fun bk hbk=> ?_)))
   all_goals first|exact⟨rfl,(eC)⟩|(exfalso;omega)
 ·rw[decide_eq_false (fun h=>hg ⟨h.1,h.2.1,h.2.2.1,h.2.2.2.1⟩)]
  repeat'((try(conv=>whnf));first|(refine fH ?_)|(refine fI ?_)|(refine fE ?_)|(refine fJ ?_)|((apply gLd);first|(refine ldK h2 ?_))|(refine fA ?_)|(refine qf (fun bk hbk=> ?_))|(apply q6K;(exact rfl);(exact rfl);all_goals intro hc))
  all_goals first|exact⟨rfl,(eC)⟩|(exfalso;omega)
end
def ckL(cnt at1:Int)(eb sb bb n sc:Nat)(V:Nat→Value)(r:q0a):List Value:=
 [.int .i64 cnt, .int .i64 at1, .slice (some ⟨eb,0,none⟩) n n, .slice (some ⟨sb,0,none⟩) n sc, .slice (some ⟨bb,0,none⟩) n n]++(q2e 256 V++q1I r)
section
variable{cnt at1:Int}{eb sb bb n sc:Nat}{V:Nat→Value}{r:q0a}
theorem q66:(ckL cnt at1 eb sb bb n sc V r).length=264:=by
 unfold ckL;rw[z8,z8,qP];rfl
theorem q9e{i:Nat}(h:i<256):(ckL cnt at1 eb sb bb n sc V r)[5+i]? =some (V i):=by
 unfold ckL;rw[zP Y8];have e:5+i- [Value.int .i64 cnt, .int .i64 at1, .slice (some ⟨eb,0,none⟩) n n, .slice (some ⟨sb,0,none⟩) n sc, .slice (some ⟨bb,0,none⟩) n n].length=i:=Y8;rw[e,zy (by rw[qP];exact h),q0l h]
theorem qei(r':q0a):(ckL cnt at1 eb sb bb n sc V r).take 261++q1I r'++(ckL cnt at1 eb sb bb n sc V r).drop 264=ckL cnt at1 eb sb bb n sc V r':=by
 have e:∀r:q0a,ckL cnt at1 eb sb bb n sc V r=([.int .i64 cnt, .int .i64 at1, .slice (some ⟨eb,0,none⟩) n n, .slice (some ⟨sb,0,none⟩) n sc, .slice (some ⟨bb,0,none⟩) n n]++q2e 256 V)++q1I r:=fun r=>by
  unfold ckL;rw[zd]
 have hl:([.int .i64 cnt, .int .i64 at1, .slice (some ⟨eb,0,none⟩) n n, .slice (some ⟨sb,0,none⟩) n sc, .slice (some ⟨bb,0,none⟩) n n]++q2e 256 V:List Value).length=261:=by
  rw[z8,qP];rfl
 have hd:(ckL cnt at1 eb sb bb n sc V r).drop 264= []:=ZA (by rw[q66];exact zu _);rw[hd,zC,e,e,List.take_left' hl]
end
section
variable{W0:World}{own:Own}
theorem q9q:∀l:List Value,l=(l.map fun v=> [v]).flatten
 | []=>rfl
 |x::r=>congrArg (x:: ·) (q9q r)
theorem qk{b i:Nat}{cs:List Value}{T:TypeId}{v:Value}(hm:(b,fun o=>o=Obj.cells cs.toArray T)∈own)(hv:cs[i]? =some v):Cl W0 own b i v:=by
 have h:=q1A (W0:=W0) (enc:=fun v:Value=> [v]) (sz:=1) (l:=cs) hm (fun _ _=>rfl) (q9q cs);have:=h.cell (j:=i) (k:=0) hv (by rfl);have this:Kn W0 own fun w=>w.cell? ⟨b,0+i*1+0,none⟩=some v:=this
 rw[yl,Zy,zD] at this;exact this
end
section
variable{W0:World}{own:Own}
theorem qac{cnt at1:Int}{cb eb sb bb n sc k:Nat}{V:Nat→Value}{r:q0a}{T:TypeId}{K:Own→Prop}{C:(Obj→Prop)→Own}(r':q0a) [m:UpC cb (fun o=>o=Obj.cells (ckL cnt at1 eb sb bb n sc V r).toArray T (0,0)) own C](hk3:3=k)
  (hk:K (C fun o=>o=Obj.cells (ckL cnt at1 eb sb bb n sc V r').toArray T (0,0))):(q1I r').length=k∧StN W0 own ⟨cb,261,none⟩ (q1I r') K:=by
 subst hk3;refine qgb (cs:=(ckL cnt at1 eb sb bb n sc V r).toArray) (T:=T) rfl ?_ rfl ?_
 ·show Nat.ble (261+3) (ckL cnt at1 eb sb bb n sc V r).length=true;rw[q66];rfl
 ·show K (C fun o=>o=Obj.cells ((ckL cnt at1 eb sb bb n sc V r).take 261++q1I r'++(ckL cnt at1 eb sb bb n sc V r).drop 264).toArray T (0,0));rw[qei];exact hk
def qjC(n:Nat)(k o:Int)(wr:Bool)(ck:Nat→Int)(R W TR TW:List (Int×Int)):Int:=
 let p0:=ltM o ck (fAc W) (-1) n
 let p1:=if wr=true then ltM o ck (fAc R) p0 n else p0
 let p2:=if k≠4 then ltM o ck (fAc TW) p1 n else p1
 if k≠4∧wr=true then ltM o ck (fAc TR) p2 n else p2
theorem qhU{n:Nat}{g:Nat→Int×Int}{t:Nat}(h:t<n):fAc (q2e n g) t=g t:=qbO (q0l h)
theorem qlV{l:List EH}{n:Nat}{k o w:Int}{wr:Bool}{C:List Int}{ck:Nat→Int}(hC:∀t,t<n→gtC C t=ck t):
  qjC n k o wr (fun t=>gtC C t) (q5n l n qR w) (q5n l n qW w) (q5n l n qTR w) (q5n l n qTW w)=qae l n l.length k o w wr ck:=by
 unfold qjC qae;have h:∀(Q:List EH→Int→Nat→Bool) (pl:Int),ltM o (fun t=>gtC C t) (fAc (q5n l n Q w)) pl n=ltM o ck (fun t=>q31 l (Q l w) t l.length) pl n:=fun Q pl=>q7g fun t ht=>⟨qhU ht,hC t ht⟩
 simp only[h]
end
section
variable{W0:World}{own:Own}
theorem qji{e:EH}{cb eb sb bb n sc w bR bW bTR bTW cc:Nat}{cnt at1:Int}{V:Nat→Value}{r:q0a}{c:Option Addr}{Cl1:List Int}{R W TR TW:List (Int×Int)}{wr:Bool}{Cf:(Obj→Prop)→Own}
  [u:UpC cb (fun o=>o=Obj.cells (ckL cnt at1 eb sb bb n sc V r).toArray 127 (0,0)) own Cf]
  (k0:Cl W0 own cb 0 (.int .i64 cnt)) (hw:w<64)
  (c0:Cl W0 own cb (5+w*4+0) (.slice (some ⟨bR,0,none⟩) n n)) (c1:Cl W0 own cb (5+w*4+1) (.slice (some ⟨bW,0,none⟩) n n))
  (c2:Cl W0 own cb (5+w*4+2) (.slice (some ⟨bTR,0,none⟩) n n)) (c3:Cl W0 own cb (5+w*4+3) (.slice (some ⟨bTW,0,none⟩) n n))
  (hR:RdE q0S 2 W0 own (some ⟨bR,0,none⟩) R) (hW:RdE q0S 2 W0 own (some ⟨bW,0,none⟩) W) (hTR:RdE q0S 2 W0 own (some ⟨bTR,0,none⟩) TR) (hTW:RdE q0S 2 W0 own (some ⟨bTW,0,none⟩) TW)
  (lR0:R.length=n) (lW0:W.length=n) (lTR0:TR.length=n) (lTW0:TW.length=n) (hn16:n≤65536) (hC:RdE qx 1 W0 own c Cl1):
  qt Tryz.prog W0 73 [.pointer (some ⟨cb,0,none⟩),e.v, .int .i64 w, .bool wr, .slice c Cl1.length cc] own fun v own'=>v= .bool (decide (0≤qjC n e.k e.t wr (fun t=>gtC Cl1 t) R W TR TW))∧Ent W0 own' (if 0≤qjC n e.k e.t wr (fun t=>gtC Cl1 t) R W TR TW then Cf (fun o=>o=Obj.cells (ckL cnt at1 eb sb bb n sc V (qjC n e.k e.t wr (fun t=>gtC Cl1 t) R W TR TW,cnt,(w:Int))).toArray 127 (0,0)) else own):=by
 refine sH [3,5,7,9,11,13,15,17,19,0,3,5,7,9,11,13,15,17,19,21,0,3,5,7,9,11,13,15,17,19,21,0,3,5,7,9,11,13,15,17,19,21,0] ?_;have lat:∀{A:List (Int×Int)} {b:Nat},RdE q0S 2 W0 own (some ⟨b,0,none⟩) A→A.length=n→∀(own':Own) [qv own' own] (pl:Int),qE Tryz.prog W0 105 [.int .i64 pl, .slice (some ⟨b,0,none⟩) n n, .int .i64 e.t, .slice c Cl1.length cc] own' (.int .i64 (ltM e.t (fun t=>gtC Cl1 t) (fAc A) pl n)):=fun{A b} hA hl own' _ pl=>by
  have:=qd7 (W0:=W0) (own:=own') (cap:=n) (cc:=cc) hC.up hA.up Y6 pl e.t
  rwa[hl] at this
 have lR:=fun own' [qv own' own]=>lat hR lR0 own'
 have lW:=fun own' [qv own' own]=>lat hW lW0 own'
 have lTR:=fun own' [qv own' own]=>lat hTR lTR0 own'
 have lTW:=fun own' [qv own' own]=>lat hTW lTW0 own'
 have hw1:(w:Int)<64:=Y6;clear lat hR hW hTR hTW;unfold qjC;obtain⟨ev,t,k,wd,ra,rl,rc,wa,wl,wc⟩:=e;dsimp only[EH.v] at*;cases wr with
 |false=>
  by_cases hk:k=4
  ·have hk':¬k≠4:=fun h=>h hk
   simp only[hk,ne_eq,not_true_eq_false,and_false,if_false,zO];have g0:=fun(own':Own) [qv own' own]=>lW own' (-1)
   generalize ltM t (fun t=>gtC Cl1 t) (fAc W) (-1) n=p at*
   by_cases hn:p<0
   ·rw[decide_eq_false Y6,if_neg Y6]
    repeat'((try(conv=>whnf));first|(refine fD ?_)|(refine fF ?_)|((apply gLd);first|(refine ldK c1 ?_))|((apply qz);first|(((refine qj (fun ex=>g0 (ex++_)) ?_))))|(apply ixj;omega)|(refine fA ?_)|(refine qf (fun bk hbk=> ?_)))
    exact⟨rfl,(eC)⟩
   ·rw[decide_eq_true Y6,if_pos Y6]
    repeat'((try(conv=>whnf));first|(refine fD ?_)|(refine fG ?_)|(refine qac (p,cnt,(w:Int)) ?_ ?_;(exact rfl))|((apply gLd);first|(refine ldK k0 ?_)|(refine ldK c1 ?_))|((apply qz);first|(((refine qj (fun ex=>g0 (ex++_)) ?_))))|(apply ixj;omega)|(refine fA ?_)|(refine qf (fun bk hbk=> ?_)))
    exact⟨rfl,(eC)⟩
  ·have hk':k≠4:=hk;simp only[hk,ne_eq,not_false_eq_true,and_false,if_true,if_false,zO];have g0:=fun(own':Own) [qv own' own]=>lW own' (-1)
   generalize ltM t (fun t=>gtC Cl1 t) (fAc W) (-1) n=p0 at*;have g1:=fun(own':Own) [qv own' own]=>lTW own' p0
   generalize ltM t (fun t=>gtC Cl1 t) (fAc TW) p0 n=p at*
   by_cases hn:p<0
   ·rw[decide_eq_false Y6,if_neg Y6]
    repeat'((try(conv=>whnf));first|(refine fD ?_)|(refine fF ?_)|((apply gLd);first|(refine ldK c1 ?_)|(refine ldK c3 ?_))|((apply qz);first|(((refine qj (fun ex=>g0 (ex++_)) ?_)))|(((refine qj (fun ex=>g1 (ex++_)) ?_))))|(apply ixj;omega)|(refine fA ?_)|(refine qf (fun bk hbk=> ?_)))
    exact⟨rfl,(eC)⟩
   ·rw[decide_eq_true Y6,if_pos Y6]
    repeat'((try(conv=>whnf));first|(refine fD ?_)|(refine fF ?_)|(refine fG ?_)|(refine qac (p,cnt,(w:Int)) ?_ ?_;(exact rfl))|((apply gLd);first|(refine ldK k0 ?_)|(refine ldK c1 ?_)|(refine ldK c3 ?_))|((apply qz);first|(((refine qj (fun ex=>g0 (ex++_)) ?_)))|(((refine qj (fun ex=>g1 (ex++_)) ?_))))|(apply ixj;omega)|(refine fA ?_)|(refine qf (fun bk hbk=> ?_)))
    exact⟨rfl,(eC)⟩
 |true=>
  by_cases hk:k=4
  ·have hk':¬k≠4:=fun h=>h hk
   simp only[hk,ne_eq,not_true_eq_false,and_true,if_true,if_false];have g0:=fun(own':Own) [qv own' own]=>lW own' (-1)
   generalize ltM t (fun t=>gtC Cl1 t) (fAc W) (-1) n=p0 at*;have g1:=fun(own':Own) [qv own' own]=>lR own' p0
   generalize ltM t (fun t=>gtC Cl1 t) (fAc R) p0 n=p at*
   by_cases hn:p<0
   ·rw[decide_eq_false Y6,if_neg Y6]
    repeat'((try(conv=>whnf));first|(refine fE ?_)|(refine fD ?_)|(refine fF ?_)|((apply gLd);first|(refine ldK c0 ?_)|(refine ldK c1 ?_))|((apply qz);first|(((refine qj (fun ex=>g0 (ex++_)) ?_)))|(((refine qj (fun ex=>g1 (ex++_)) ?_))))|(apply ixj;omega)|(refine fA ?_)|(refine qf (fun bk hbk=> ?_)))
    exact⟨rfl,(eC)⟩
   ·rw[decide_eq_true Y6,if_pos Y6]
    repeat'((try(conv=>whnf));first|(refine fE ?_)|(refine fD ?_)|(refine fG ?_)|(refine qac (p,cnt,(w:Int)) ?_ ?_;(exact rfl))|((apply gLd);first|(refine ldK k0 ?_)|(refine ldK c0 ?_)|(refine ldK c1 ?_))|((apply qz);first|(((refine qj (fun ex=>g0 (ex++_)) ?_)))|(((refine qj (fun ex=>g1 (ex++_)) ?_))))|(apply ixj;omega)|(refine fA ?_)|(refine qf (fun bk hbk=> ?_)))
    exact⟨rfl,(eC)⟩
  ·have hk':k≠4:=hk;simp only[hk,ne_eq,not_false_eq_true,and_true,if_true];have g0:=fun(own':Own) [qv own' own]=>lW own' (-1)
   generalize ltM t (fun t=>gtC Cl1 t) (fAc W) (-1) n=p0 at*;have g1:=fun(own':Own) [qv own' own]=>lR own' p0
   generalize ltM t (fun t=>gtC Cl1 t) (fAc R) p0 n=p1 at*;have g2:=fun(own':Own) [qv own' own]=>lTW own' p1
   generalize ltM t (fun t=>gtC Cl1 t) (fAc TW) p1 n=p2 at*;have g3:=fun(own':Own) [qv own' own]=>lTR own' p2
   generalize ltM t (fun t=>gtC Cl1 t) (fAc TR) p2 n=p at*
   by_cases hn:p<0
   ·rw[decide_eq_false Y6,if_neg Y6]
    repeat'((try(conv=>whnf));first|(refine fE ?_)|(refine fF ?_)|((apply gLd);first|(refine ldK c0 ?_)|(refine ldK c1 ?_)|(refine ldK c2 ?_)|(refine ldK c3 ?_))|((apply qz);first|(((refine qj (fun ex=>g0 (ex++_)) ?_)))|(((refine qj (fun ex=>g1 (ex++_)) ?_)))|(((refine qj (fun ex=>g2 (ex++_)) ?_)))|(((refine qj (fun ex=>g3 (ex++_)) ?_))))|(apply ixj;omega)|(refine fA ?_)|(refine qf (fun bk hbk=> ?_)))
    exact⟨rfl,(eC)⟩
   ·rw[decide_eq_true Y6,if_pos Y6]
    repeat'((try(conv=>whnf));first|(refine fE ?_)|(refine fF ?_)|(refine fG ?_)|(refine qac (p,cnt,(w:Int)) ?_ ?_;(exact rfl))|((apply gLd);first|(refine ldK k0 ?_)|(refine ldK c0 ?_)|(refine ldK c1 ?_)|(refine ldK c2 ?_)|(refine ldK c3 ?_))|((apply qz);first|(((refine qj (fun ex=>g0 (ex++_)) ?_)))|(((refine qj (fun ex=>g1 (ex++_)) ?_)))|(((refine qj (fun ex=>g2 (ex++_)) ?_)))|(((refine qj (fun ex=>g3 (ex++_)) ?_))))|(apply ixj;omega)|(refine fA ?_)|(refine qf (fun bk hbk=> ?_)))
    exact⟨rfl,(eC)⟩
end
abbrev nnR:q0a:=(-1, -1, -1)
theorem q6f{l:List EH}:(q1K l=nnR∧rcA l l.length= [])∨(q1K l≠nnR∧(q1K l).2.1≥0):=by
 by_cases h:rcA l l.length= []
 ·exact .inl ⟨q2i h,h⟩
 ·have:=qhX.2 h;exact .inr ⟨fun e=>by rw[e] at this;revert this;decide,this⟩
def q8j(L:List EH)(n:Nat)(e:EH)(w:Int)(wr:Bool)(C:List Int):Int:=qjC n e.k e.t wr (fun t=>gtC C t) (q5n L n qR w) (q5n L n qW w) (q5n L n qTR w) (q5n L n qTW w)
theorem q9w{L:List EH}{n:Nat}{e:EH}{w:Int}{wr:Bool}{C:List Int}{ck:Nat→Int}(hw:Wf (L++ [e]) n)(h3:e.k≠3)
  (hA:(e.k≠4∧e.w=w∧wr=decide (e.k=2))∨(e.k=4∧wr=e.wl.contains w∧(e.wl.contains w=true∨e.rl.contains w=true))) (hC:∀t,t<n→gtC C t=ck t) (hck:∀t,0≤ck t)
  (hH:∀x,x<L.length→knd (L++ [e]) x≠3→thr (L++ [e]) x≠thr (L++ [e]) L.length→(HB (L++ [e]) x (toP (L++ [e]) L.length)↔(q03 (L++ [e]) (thr (L++ [e]) x) x:Int)+1≤ck (thr (L++ [e]) x).toNat)):
  (q8j L n e w wr C<0→rcL (L++ [e]) L.length w L.length= [])∧(0≤q8j L n e w wr C→(rcL (L++ [e]) L.length w L.length).getLast? =some (q8j L n e w wr C,(L.length:Int),w)):=by
 have h:=qgj (l:=L++ [e]) (n:=n) (y:=L.length) (w:=w) (wr:=wr) (ck:=ck) hw Y8 (by rw[q0Q];exact h3) (by rw[q0Q,q13];exact hA) hck hH;have e1:q8j L n e w wr C=qae (L++ [e]) n L.length (knd (L++ [e]) L.length) (thr (L++ [e]) L.length) w wr ck:=by
  unfold q8j;rw[qgi,q0Q,q25,qlV hC]
 rw[e1];exact h
theorem qaE{L:List EH}{n:Nat}{e:EH}(hw:Wf (L++ [e]) n)(hw0:Wf L n)(hk:e.k=1∨e.k=2):
  q1K (L++ [e])=if q1K L=nnR then(if 0≤q8j L n e e.w (decide (e.k=2)) (q3F L n e.t) then(q8j L n e e.w (decide (e.k=2)) (q3F L n e.t),(L.length:Int),e.w) else nnR) else q1K L:=by
 have hr:=q9w (w:=e.w) (wr:=decide (e.k=2)) (C:=q3F L n e.t) (ck:=fun t=>(q4I (L++ [e]) e.t L.length (t:Int):Int)) hw Y6 (.inl ⟨Y6,rfl,rfl⟩) (fun t ht=>by
  unfold q3F;rw[qbY (q0l ht),q7l (zu _)]) (fun t=>by omega) (by
  have:=qeE (y:=L.length) hw Y8 (by rw[q0Q];exact hk)
  rwa[q25] at this ⊢)
 have ht:q5T e= [e.w]:=by unfold q5T;rw[if_pos hk]
 rcases q6f (l:=L) with ⟨h1,h2⟩|⟨h1,h2⟩
 ·rw[if_pos h1]
  split
  ·rename_i hp;exact qgI (i:=0) hw hw0 h2 Y6 (by rw[ht];rfl) (fun j w' hj=>by omega) (hr.2 hp)
  ·rename_i hp;exact q8e hw hw0 h2 fun _ w hwm=>by
    rw[ht,zf] at hwm;subst hwm;exact hr.1 Y6
 ·rw[if_neg h1];exact q6g hw0 h2
theorem qao{L:List EH}{n:Nat}{e:EH}(hw:Wf (L++ [e]) n)(hw0:Wf L n)(hk:e.k=3):q1K (L++ [e])=q1K L:=by
 rcases q6f (l:=L) with ⟨h1,h2⟩|⟨h1,h2⟩
 ·rw[h1];exact q8e hw hw0 h2 fun h=>absurd hk h
 ·exact q6g hw0 h2
theorem qeq{L:List EH}{n:Nat}{e:EH}{w:Int}(hw:Wf (L++ [e]) n)(hk:e.k=4)(hm:w∈q5T e):
  (q8j L n e w (e.wl.contains w) (qam L n e.t)<0→rcL (L++ [e]) L.length w L.length= [])∧(0≤q8j L n e w (e.wl.contains w) (qam L n e.t)→(rcL (L++ [e]) L.length w L.length).getLast? =some (q8j L n e w (e.wl.contains w) (qam L n e.t),(L.length:Int),w)):=by
 have h2:=((q1S e).2.1 w).1 hm;rw[if_neg Y6] at h2;refine q9w (ck:=fun t=>(qeb (L++ [e]) e.t L.length (t:Int):Int)) hw Y6 (.inr ⟨hk,rfl,?_⟩) (fun t ht=> ?_) (fun t=>by omega) ?_
 ·simp only[ZU];exact h2.symm
 ·unfold qam;rw[qbY (q0l ht)];unfold qeb;rw[q63 L.length (zu _),q1w (qbn (zu _))]
 ·have:=qkU (y:=L.length) hw Y8 (by rw[q0Q];exact hk)
  rwa[q25] at this ⊢
def qgM(q:Nat):List EH→Int→Nat→Bool:=if q=0 then qR else if q=1 then qW else if q=2 then qTR else qTW
def q0Y(L:List EH)(n:Nat)(j:Nat):List (Int×Int):=q5n L n (qgM (j % 4)) ((j/4:Nat):Int)
theorem q47{L:List EH}{n j:Nat}:(q0Y L n j).length=n:=qP
def qi3(e:EH)(q:Nat)(w:Int):Bool:=if q=0 then decide (e.k=1∧e.w=w) else if q=1 then decide (e.k=2∧e.w=w) else if q=2 then decide (e.k=4)&&e.rl.contains w else decide (e.k=4)&&e.wl.contains w
theorem q6j{L:List EH}{e:EH}{q:Nat}{w:Int}:∀i,i<L.length→qgM q (L++ [e]) w i=qgM q L w i:=fun i hi=>by
 unfold qgM
 split
 ·unfold qR;rw[qU hi,q1v hi]
 split
 ·unfold qW;rw[qU hi,q1v hi]
 split
 ·unfold qTR;rw[qU hi,q1v hi]
 ·unfold qTW;rw[qU hi,q1v hi]
theorem q6k{L:List EH}{e:EH}{q:Nat}{w:Int}:qgM q (L++ [e]) w L.length=qi3 e q w:=by
 unfold qgM qi3
 split
 ·unfold qR;rw[q0Q,q13]
 split
 ·unfold qW;rw[q0Q,q13]
 split
 ·unfold qTR;rw[q0Q,q13]
 ·unfold qTW;rw[q0Q,q13]
theorem q9v{L:List EH}{e:EH}{n u j:Nat}(hu:e.t=u):q0Y (L++ [e]) n j=if qi3 e (j % 4) ((j/4:Nat):Int)=true then(q0Y L n j).set u ((L.length:Int),(q03 L u L.length:Int)+1) else q0Y L n j:=by
 unfold q0Y
 split
 ·rename_i h;exact(qe7 q6j hu (by rw[q6k];exact h)).symm
 ·rename_i h;exact q6P q6j (by rw[q6k];simpa using h)
theorem qav{L:List EH}{e:EH}{n j:Nat}(hk:e.k=3):q0Y (L++ [e]) n j=q0Y L n j:=by
 unfold q0Y;refine q6P q6j ?_;rw[q6k];unfold qi3;simp[hk]
theorem qaw{L:List EH}{e:EH}{n u w j:Nat}(hu:e.t=u)(hk:e.k=1∨e.k=2)(hwd:e.w=w):
  q0Y (L++ [e]) n j=if j=4*w+(if e.k=2 then 1 else 0) then(q0Y L n (4*w+(if e.k=2 then 1 else 0))).set u ((L.length:Int),(q03 L u L.length:Int)+1) else q0Y L n j:=by
 rw[q9v hu];have h:qi3 e (j % 4) ((j/4:Nat):Int)=true↔j=4*w+(if e.k=2 then 1 else 0):=by
  obtain⟨i,q,hj,hq⟩:∃i q,j=4*i+q∧q<4:=⟨j/4,j % 4,Y6,Y6⟩
  have e1:j % 4=q:=Y6;have e2:j/4=i:=Y6;rw[e1,e2];subst hj;unfold qi3;have hq4:q=0∨q=1∨q=2∨q=3:=Y6
  rcases hk with hk|hk <;>rcases hq4 with rfl|rfl|rfl|rfl <;>simp[hk,hwd] <;>omega
 by_cases hj:j=4*w+(if e.k=2 then 1 else 0)
 ·rw[if_pos (h.2 hj),if_pos hj,←hj]
 ·rw[if_neg (fun x=>hj (h.1 x)),if_neg hj]
instance qv.mem{b:Nat}{p:Obj→Prop}{own:Own} [m:qy b p own]:qv own [(b,p)]:=⟨fun _=>Ent.of_sub (List.singleton_sublist.2 m.h)⟩
abbrev Sl:=Option Addr×Nat×Nat
abbrev q5l(bs:Nat→Nat)(n:Nat)(i:Nat):Value:= .slice (some ⟨bs i,0,none⟩) n n
abbrev ckN(cnt at1:Int)(cb eb sb bb n sc:Nat)(bs:Nat→Nat)(r:q0a):Nat×(Obj→Prop):=(cb,fun o=>o=Obj.cells (ckL cnt at1 eb sb bb n sc (q5l bs n) r).toArray 127 (0,0))
abbrev ckO(cnt at1:Int)(r:q0a)(E:List Int)(H:Nat→List (Int×Int))(cb eb sb bb n sc:Nat)(bs:Nat→Nat)(B:List Sl)(D X:Own):Own:=
 ckN cnt at1 cb eb sb bb n sc bs r::q0K qx 3 eb E::q0K q1s 22 bb B::(D++(q2A bs H 256++X))
section
variable{W0:World}{own:Own}{cnt at1:Int}{cb eb sb bb n sc:Nat}{V:Nat→Value}{bs:Nat→Nat}{r:q0a}{T:TypeId}
theorem q2k{k:Nat}{K:Array Value→Prop} [m:qy cb (fun o=>o=Obj.cells (ckL cnt at1 eb sb bb n sc V r).toArray T (0,0)) own](hk3:3=k)(hk:K (q1I r).toArray):LdN W0 own ⟨cb,261,none⟩ k K:=by
 subst hk3;refine q1n (q1I r) m.h ?_ rfl hk;rw[zL];have e:ckL cnt at1 eb sb bb n sc V r=([.int .i64 cnt, .int .i64 at1, .slice (some ⟨eb,0,none⟩) n n, .slice (some ⟨sb,0,none⟩) n sc, .slice (some ⟨bb,0,none⟩) n n]++q2e 256 V)++q1I r:=by
  unfold ckL;rw[zd]
 have hl:([.int .i64 cnt, .int .i64 at1, .slice (some ⟨eb,0,none⟩) n n, .slice (some ⟨sb,0,none⟩) n sc, .slice (some ⟨bb,0,none⟩) n n]++q2e 256 V:List Value).length=261:=by
  rw[z8,qP];rfl
 rw[e,List.drop_left' hl];rfl
theorem qlH{c:Int}{K:Own→Prop}{C:(Obj→Prop)→Own} [m:UpC cb (fun o=>o=Obj.cells (ckL cnt at1 eb sb bb n sc V r).toArray T (0,0)) own C](h:K (C fun o=>o=Obj.cells (ckL c at1 eb sb bb n sc V r).toArray T (0,0))):StT W0 own ⟨cb,0,none⟩ (.int .i64 c) K:=
 qjO (by show Nat.ble 1 (ckL cnt at1 eb sb bb n sc V r).length=true;rw[q66];rfl) rfl h
theorem qlI{c:Int}{K:Own→Prop}{C:(Obj→Prop)→Own} [m:UpC cb (fun o=>o=Obj.cells (ckL cnt at1 eb sb bb n sc V r).toArray T (0,0)) own C](h:K (C fun o=>o=Obj.cells (ckL cnt c eb sb bb n sc V r).toArray T (0,0))):StT W0 own ⟨cb,1,none⟩ (.int .i64 c) K:=
 qjO (by show Nat.ble 2 (ckL cnt at1 eb sb bb n sc V r).length=true;rw[q66];rfl) rfl h
theorem qhG{w q:Nat}(hw:w<64)(hq:q<4):Cl W0 [(cb,fun o=>o=Obj.cells (ckL cnt at1 eb sb bb n sc (q5l bs n) r).toArray T (0,0))] cb (5+w*4+q) (q5l bs n (4*w+q)):=by
 have e:5+w*4+q=5+(4*w+q):=Y6;rw[e];exact qk (zf.2 rfl) (q9e Y6)
theorem ldW{w q:Nat}{K:Value→Prop} [m:qy cb (fun o=>o=Obj.cells (ckL cnt at1 eb sb bb n sc (q5l bs n) r).toArray T (0,0)) own](hw:w<64)(hq:Nat.blt q 4=true)(hk:K (q5l bs n (4*w+q))):Ld W0 own ⟨cb,5+w*4+q,none⟩ K:=by
 have hq':q<4:=by simpa using hq
 have e:5+w*4+q=5+(4*w+q):=Y6;rw[e];exact ldK (own':=own) (qk m.h (q9e Y6)) (m:=⟨fun _=>Ent.refl⟩) hk
theorem qi2{L:List EH}{w q:Nat}(hq:q<4):q0Y L n (4*w+q)=q5n L n (qgM q) (w:Int):=by
 unfold q0Y;have e1:(4*w+q) % 4=q:=Y6;have e2:(4*w+q)/4=w:=Y6;rw[e1,e2]
theorem q4m{P:Program}{k k0:FuncId}{args args0:List Value}{v0:Value}{O:Own}{K:Value→Own→Prop}(h:qt P W0 k0 args0 own fun v own'=>v=v0∧Ent W0 own' O)(ek:k=k0)(ea:args=args0)(hk:K v0 O):q0w P W0 own k args K:=
 q99 (σ:=Unit) (R:=fun _ v=>v=v0) (O:=fun _=>O) (fun w hw=>(h w hw).mono fun _ _ ⟨v,o,a,b,c,d⟩=>⟨v,o,a,b,(),c,d⟩) ek ea (fun _ _ e=>by subst e;exact hk)
theorem qha{α:Type}{enc:α→List Value}{sz:Nat}{l:List α}{T:TypeId}{b j o k:Nat}{C:Own→Own}{x:α}{vs:List Value}{K:Own→Prop}(x':α)(hw:∀x∈l,(enc x).length=sz)(hx:l[j]? =some x) [m:AtC [q0K enc T b l] own C](hn:vs.length=k)(ho:o=j*sz)(hv:enc x'=vs)(hwv:vs.length=sz)(h1:vs.all q2D=true)
  (hk:K (C [q0K enc T b (l.set j x')])):vs.length=k∧StN W0 own ⟨b,o,none⟩ vs K:=
 qlG (T:=T) (D:= [q0K enc T b l]) (a:=some ⟨b,0,none⟩) x' (q80 hw) hx hn (by simp[ao,ho]) hv hwv h1 (fun D' hb=>by
  have hne:l.set j x'≠ []:=fun e=>by
   have:=congrArg List.length e;rw[zj] at this;have:=Z9 this;subst this;simp at hx
  have:=qgA hne (by rw[zj];exact hb);subst this;exact hk)
theorem qkG{a b:q0a}:eqC [0,0,0] (q1I a) (q1I b)=some (decide (a=b)):=by
 obtain⟨a1,a2,a3⟩:=a;obtain⟨b1,b2,b3⟩:=b;simp[eqC,q0I,Prod.mk.injEq]
end
section
variable{W0:World}{r0:Own}{at1:Int}{cb eb sb bb n sc:Nat}{bs:Nat→Nat}{B S:List Sl}{D X:Own}
theorem q2b{l:List Int}:∀x∈l,(qx x).length=1:=fun _ _=>rfl
theorem q3O{l:List (Int×Int)}:∀x∈l,(q0S x).length=2:=fun _ _=>rfl
theorem qdF{L:List EH}{e:EH}{w:Nat}{wr:Bool}{own:Own}{r:q0a}{c:Option Addr}{cc:Nat}{C1:List Int}{Cf:(Obj→Prop)→Own}(hw:w<64)(hn:n≤16)(hcl:C1.length=n)
  [u:UpC cb (fun o=>o=Obj.cells (ckL L.length at1 eb sb bb n sc (q5l bs n) r).toArray 127 (0,0)) own Cf]
  [i1:qv own [ckN L.length at1 cb eb sb bb n sc bs r]] [i2:qv own (q2A bs (q0Y L n) 256)] [i3:qv own X] (hC:RdE qx 1 W0 X c C1):
  qt Tryz.prog W0 73 [.pointer (some ⟨cb,0,none⟩),e.v, .int .i64 w, .bool wr, .slice c n cc] own fun v own'=>v= .bool (decide (0≤q8j L n e w wr C1))∧Ent W0 own' (if 0≤q8j L n e w wr C1 then Cf (fun o=>o=Obj.cells (ckL L.length at1 eb sb bb n sc (q5l bs n) (q8j L n e w wr C1,(L.length:Int),(w:Int))).toArray 127 (0,0)) else own):=by
 have h0:∀q,q<4→RdE q0S 2 W0 own (some ⟨bs (4*w+q),0,none⟩) (q5n L n (qgM q) w):=fun q hq=>by
  have:=(qhn (W0:=W0) (bs:=bs) (H:=q0Y L n) (i:=4*w+q) (k:=256) Y6).ent (i2.h W0)
  rwa[qi2 hq] at this
 have hc:∀q,q<4→Cl W0 own cb (5+w*4+q) (q5l bs n (4*w+q)):=fun q hq=>(qhG hw hq).ent (i1.h W0)
 have hl:∀Q,(q5n L n Q w).length=n:=fun Q=>qP
 have hk0:Cl W0 own cb 0 (.int .i64 L.length):=Kn.ent (qk (zf.2 rfl) rfl) (i1.h W0);have:=qji (e:=e) (wr:=wr) (cc:=cc) hk0 hw (hc 0 Y6) (hc 1 Y6) (hc 2 Y6) (hc 3 Y6) (h0 0 Y6) (h0 1 Y6) (h0 2 Y6) (h0 3 Y6) (hl _) (hl _) (hl _) (hl _) Y6 (hC.ent (i3.h W0));rw[hcl] at this;exact this
theorem qdw{L:List EH}{e:EH}{t w xc:Nat}{xa:Option Addr}(hw:Wf (L++ [e]) n)(hw0:Wf L n)(hk:e.k=1∨e.k=2)(ht:e.t=t)(htn:t<n)(hwd:e.w=w)(hw64:w<64)(hn:n≤16)(hL:L.length≤65536)
  (hN:q12 W0 0 noneV) (hS:RdE q1s 1 W0 D (some ⟨sb,0,none⟩) S) (hx:S[t]? =some (xa,n,xc)) (hxr:RdE qx 1 W0 X xa (q3F L n t)):
  qt Tryz.prog W0 45 [.pointer (some ⟨cb,0,none⟩),e.v] (ckO L.length at1 (q1K L) (qZ L n) (q0Y L n) cb eb sb bb n sc bs B D X++r0) fun v own'=>v= .tuple #[]∧Ent W0 own' (ckO L.length at1 (q1K (L++ [e])) (qZ L n) (q0Y (L++ [e]) n) cb eb sb bb n sc bs B D X++r0):=by
 refine sH [3,5,7,9,11,13,0,3,5,7,9,11,13,15,17,19,21,23,25,27,30,0,3,5,7,9,11,13,15,17,19,21,23,25,27,29,32,34,0,3,5,7,9,11,13,15,17,19,21,23,25,28,0,3,5,7,9,11,13,15,17,19,21,23,25,28,0] ?_;have hfr:=qaE hw hw0 hk;have hE:(qZ L n)[t]? =some (q03 L t L.length:Int):=q0l htn;have hEl:n=(qZ L n).length:=qP.symm;have hcl:(q3F L n t).length=n:=qP;have hcn:=q8b (l:=L) (t:=t) L.length;obtain⟨q,hq⟩:∃q:Nat,q=if e.k=2 then 1 else 0:=⟨_,rfl⟩
 have hq2:q<2:=by rw[hq];split <;>omega
 have hhis:q2A bs (q0Y (L++ [e]) n) 256=q2A bs (fun j=>if j=4*w+q then(q0Y L n (4*w+q)).set t ((L.length:Int),(q03 L t L.length:Int)+1) else q0Y L n j) 256:=q0H fun j _=>⟨rfl,by rw[hq];exact qaw ht hk hwd⟩
 obtain⟨C0,hC0,hC1⟩:=q5Y (bs:=bs) (H:=q0Y L n) (i:=4*w+q) (k:=256) Y6;have hH:(q0Y L n (4*w+q))[t]? =some (fAc (q0Y L n (4*w+q)) t):=by
  obtain⟨y,hy⟩:∃y,(q0Y L n (4*w+q))[t]? =some y:=⟨_,z6 (by rw[q47];exact htn)⟩
  rw[hy,qbO hy]
 have hHl:∀j,n=(q0Y L n j).length:=fun j=>q47.symm
 have hC2:=hC1 ((q0Y L n (4*w+q)).set t ((L.length:Int),(q03 L t L.length:Int)+1));rw[←hhis] at hC2;have htst:=fun(own':Own) (Cf:(Obj→Prop)→Own) (r:q0a) (i0:UpC cb (fun o=>o=Obj.cells (ckL L.length at1 eb sb bb n sc (q5l bs n) r).toArray 127 (0,0)) own' Cf) (i1:qv own' [ckN L.length at1 cb eb sb bb n sc bs r]) (i2:qv own' (q2A bs (q0Y L n) 256)) (i3:qv own' X)=>qdF (e:=e) (wr:=decide (e.k=2)) (cc:=xc) hw64 hn hcl hxr (u:=i0) (i1:=i1) (i2:=i2) (i3:=i3)
 obtain⟨ev,tt,k,wd,ra,rl,rc,wa,wl,wc⟩:=e;dsimp only[EH.v] at*;subst ht hwd;generalize q1K (L++ [_])=rN at*;generalize q8j L n _ _ _ _=p at*;generalize q1K L=r at*;subst hfr;have hLn:((L.length:Nat):Int)<65537:=Y6
 by_cases hrn:r=nnR
 ·subst hrn;rw[if_pos rfl]
  by_cases hp:0≤p
  ·simp only[if_pos hp,decide_eq_true hp] at htst ⊢
   rcases hk with rfl|rfl
   ·obtain rfl:q=0:=hq
    haveI:AtC _ _ C0:=⟨hC0⟩
    repeat'((try(conv=>whnf));first|(refine fE ?_)|(refine fD ?_)|(refine q2k ?_ ?_;(exact rfl))|(refine q0s hN _ rfl rfl ?_)|(refine q4s (by simp[eqC,q0I]) ?_)|(refine ldW hw64 ?_ ?_;(exact rfl))|(refine ixC hH (hHl _) ?_ ?_;(exact rfl))|(refine qha (T:=196) (x:=fAc _ t) ((L.length:Int),(q03 L t L.length:Int)+1) q3O hH ?_ ?_ ?_ ?_ ?_ ?_;(exact rfl);(exact rfl);(exact rfl);(exact rfl);(exact rfl))|((apply gLd);first|(refine qmd hS hx rfl ?_)|(refine qaB q2b hE rfl ?_))|((apply qe);first|((refine q4m (htst _ _ _ Y9 Y9 Y9 Y9) ?_ ?_ ?_;(exact rfl);(exact rfl))))|(refine fB ?_)|(apply ixj;omega)|(refine fA ?_)|(refine fL ?_)|(refine fM ?_)|(refine qf (fun bk hbk=> ?_)))
    exact⟨rfl,by rw[hC2];exact Ent.drop.trans Ent.drop⟩
   ·obtain rfl:q=1:=hq
    haveI:AtC _ _ C0:=⟨hC0⟩
    repeat'((try(conv=>whnf));first|(refine fE ?_)|(refine q2k ?_ ?_;(exact rfl))|(refine q0s hN _ rfl rfl ?_)|(refine q4s (by simp[eqC,q0I]) ?_)|(refine ldW hw64 ?_ ?_;(exact rfl))|(refine ixC hH (hHl _) ?_ ?_;(exact rfl))|(refine qha (T:=196) (x:=fAc _ t) ((L.length:Int),(q03 L t L.length:Int)+1) q3O hH ?_ ?_ ?_ ?_ ?_ ?_;(exact rfl);(exact rfl);(exact rfl);(exact rfl);(exact rfl))|((apply gLd);first|(refine qmd hS hx rfl ?_)|(refine qaB q2b hE rfl ?_))|((apply qe);first|((refine q4m (htst _ _ _ Y9 Y9 Y9 Y9) ?_ ?_ ?_;(exact rfl);(exact rfl))))|(refine fB ?_)|(apply ixj;omega)|(refine fA ?_)|(refine fL ?_)|(refine fM ?_)|(refine qf (fun bk hbk=> ?_)))
    exact⟨rfl,by rw[hC2];exact Ent.drop.trans Ent.drop⟩
  ·simp only[if_neg hp,decide_eq_false hp] at htst ⊢
   rcases hk with rfl|rfl
   ·obtain rfl:q=0:=hq
    haveI:AtC _ _ C0:=⟨hC0⟩
    repeat'((try(conv=>whnf));first|(refine fE ?_)|(refine fD ?_)|(refine q2k ?_ ?_;(exact rfl))|(refine q0s hN _ rfl rfl ?_)|(refine q4s (by simp[eqC,q0I]) ?_)|(refine ldW hw64 ?_ ?_;(exact rfl))|(refine ixC hH (hHl _) ?_ ?_;(exact rfl))|(refine qha (T:=196) (x:=fAc _ t) ((L.length:Int),(q03 L t L.length:Int)+1) q3O hH ?_ ?_ ?_ ?_ ?_ ?_;(exact rfl);(exact rfl);(exact rfl);(exact rfl);(exact rfl))|((apply gLd);first|(refine qmd hS hx rfl ?_)|(refine qaB q2b hE rfl ?_))|((apply qe);first|((refine q4m (htst _ _ _ Y9 Y9 Y9 Y9) ?_ ?_ ?_;(exact rfl);(exact rfl))))|(refine fB ?_)|(apply ixj;omega)|(refine fA ?_)|(refine fL ?_)|(refine fM ?_)|(refine qf (fun bk hbk=> ?_)))
    exact⟨rfl,by rw[hC2];exact Ent.drop.trans Ent.drop⟩
   ·obtain rfl:q=1:=hq
    haveI:AtC _ _ C0:=⟨hC0⟩
    repeat'((try(conv=>whnf));first|(refine fE ?_)|(refine q2k ?_ ?_;(exact rfl))|(refine q0s hN _ rfl rfl ?_)|(refine q4s (by simp[eqC,q0I]) ?_)|(refine ldW hw64 ?_ ?_;(exact rfl))|(refine ixC hH (hHl _) ?_ ?_;(exact rfl))|(refine qha (T:=196) (x:=fAc _ t) ((L.length:Int),(q03 L t L.length:Int)+1) q3O hH ?_ ?_ ?_ ?_ ?_ ?_;(exact rfl);(exact rfl);(exact rfl);(exact rfl);(exact rfl))|((apply gLd);first|(refine qmd hS hx rfl ?_)|(refine qaB q2b hE rfl ?_))|((apply qe);first|((refine q4m (htst _ _ _ Y9 Y9 Y9 Y9) ?_ ?_ ?_;(exact rfl);(exact rfl))))|(refine fB ?_)|(apply ixj;omega)|(refine fA ?_)|(refine fL ?_)|(refine fM ?_)|(refine qf (fun bk hbk=> ?_)))
    exact⟨rfl,by rw[hC2];exact Ent.drop.trans Ent.drop⟩
 ·rw[if_neg hrn];have hno:eqC [0,0,0] (q1I r) (q1I nnR)=some false:=by rw[qkG,decide_eq_false hrn]
  rcases hk with rfl|rfl
  ·obtain rfl:q=0:=hq
   haveI:AtC _ _ C0:=⟨hC0⟩
   repeat'((try(conv=>whnf));first|(refine fD ?_)|(refine q2k ?_ ?_;(exact rfl))|(refine q0s hN _ rfl rfl ?_)|(refine qhP hno ?_)|(refine ldW hw64 ?_ ?_;(exact rfl))|(refine ixC hH (hHl _) ?_ ?_;(exact rfl))|(refine qha (T:=196) (x:=fAc _ t) ((L.length:Int),(q03 L t L.length:Int)+1) q3O hH ?_ ?_ ?_ ?_ ?_ ?_;(exact rfl);(exact rfl);(exact rfl);(exact rfl);(exact rfl))|((apply gLd);first|(refine qaB q2b hE rfl ?_))|(refine fB ?_)|(apply ixj;omega)|(refine fA ?_)|(refine fL ?_)|(refine fM ?_)|(refine qf (fun bk hbk=> ?_)))
   exact⟨rfl,by rw[hC2];exact Ent.drop.trans Ent.drop⟩
  ·obtain rfl:q=1:=hq
   haveI:AtC _ _ C0:=⟨hC0⟩
   repeat'((try(conv=>whnf));first|(refine fE ?_)|(refine fD ?_)|(refine q2k ?_ ?_;(exact rfl))|(refine q0s hN _ rfl rfl ?_)|(refine qhP hno ?_)|(refine ldW hw64 ?_ ?_;(exact rfl))|(refine ixC hH (hHl _) ?_ ?_;(exact rfl))|(refine qha (T:=196) (x:=fAc _ t) ((L.length:Int),(q03 L t L.length:Int)+1) q3O hH ?_ ?_ ?_ ?_ ?_ ?_;(exact rfl);(exact rfl);(exact rfl);(exact rfl);(exact rfl))|((apply gLd);first|(refine qaB q2b hE rfl ?_))|(refine fB ?_)|(apply ixj;omega)|(refine fA ?_)|(refine fL ?_)|(refine fM ?_)|(refine qf (fun bk hbk=> ?_)))
   exact⟨rfl,by rw[hC2];exact Ent.drop.trans Ent.drop⟩
end
structure CkB where
 cb:Nat
 eb:Nat
 sb:Nat
 sc:Nat
 bb:Nat
 bs:Nat→Nat
 S:List Sl
 B:List Sl
 D:Own
 X:Own
noncomputable abbrev CkB.O(s:CkB)(L:List EH)(n:Nat):Own:=ckO L.length (q2w L L.length) (q1K L) (qZ L n) (q0Y L n) s.cb s.eb s.sb s.bb n s.sc s.bs s.B s.D s.X
structure CkM(W0:World)(n:Nat)(L:List EH)(s:CkB):Prop where
 wf:WF0 L n
 sB:qu q1s 22 1 (some ⟨s.sb,0,none⟩) s.sc s.S s.D
 sl:s.S.length=n
 bl:s.B.length=n
 sr:∀u,u<n→∃a c,s.S[u]? =some (a,n,c)∧RdE qx 1 W0 s.X a (q3F L n u)
 b3:∀u:Nat,u<n→lkL L u L.length=3→∃a c,s.B[u]? =some (some a,n,c)∧RdE qx 1 W0 s.X (some a) (qam L n u)
 b0:∀u:Nat,u<n→lkL L u L.length≠3→s.B[u]? =some (none,0,0)
section
variable{W0:World}{own:Own}
theorem qa0{a:Option Addr}{l:List Int}{cap:Nat}(hR:RdE qx 1 W0 own a l)(hne:l≠ [])(hl:l.length≤65536):
  qt Tryz.prog W0 38 [.slice a l.length cap] own fun v own'=>∃s:Option Addr×Nat×Own,(v= .slice s.1 l.length s.2.1∧qu qx 3 1 s.1 s.2.1 l s.2.2)∧Ent W0 own' (s.2.2++own):=by
 refine sH [] ?_;have hs:=hR.isS hne;generalize ab a=b0 at hs;generalize ao a=o0 at hs;subst hs
 repeat'((try(conv=>whnf));first|(refine fD ?_)|(refine q62 (enc:=qx) (l:= []) (l2:=l) qu.nil (At.head (D:= []) (r:=_)) hR.up rfl rfl Y6 (fun _ _=>rfl) (fun _=>by simp;omega) (fun a1 c1 D1 hB1=> ?_);(rw[zM,zD l.length]);(apply Stop.h))|(refine qf (fun bk hbk=> ?_)))
 refine Stop.mk ?_;rw[zi] at hB1;exact⟨(a1,c1,D1),⟨rfl,hB1⟩,Ent.of_sub (((List.Sublist.refl own).cons _).append_left D1)⟩
end
def hsS(q:Nat)(l:List Int)(t:Nat)(x:Int×Int)(H:Nat→List (Int×Int))(j:Nat):List (Int×Int):=if j % 4=q∧l.contains ((j/4:Nat):Int)=true then(H j).set t x else H j
theorem q8k{q t n j:Nat}{l:List Int}{x:Int×Int}{H:Nat→List (Int×Int)}(h:∀j,(H j).length=n):(hsS q l t x H j).length=n:=by
 unfold hsS
 split
 ·rw[zj,h]
 ·exact h j
theorem q9x{bs:Nat→Nat}{q t w:Nat}{l:List Int}{x:Int×Int}{H:Nat→List (Int×Int)}(hq:q<4):
  q2A bs (fun j=>if j=4*w+q then(hsS q l t x H (4*w+q)).set t x else hsS q l t x H j) 256=q2A bs (hsS q (l++ [(w:Int)]) t x H) 256:=q0H fun j _=>⟨rfl,by
  by_cases hj:j=4*w+q
  ·rw[if_pos hj];subst hj;have e1:(4*w+q) % 4=q:=Y6;have e2:(4*w+q)/4=w:=Y6;unfold hsS;rw[e1,e2,if_pos (c:=q=q∧(l++ [(w:Int)]).contains (w:Int)=true) ⟨rfl,Y8⟩]
   split
   ·rw[yc]
   ·rfl
  ·rw[if_neg hj];unfold hsS;have e:(j % 4=q∧l.contains ((j/4:Nat):Int)=true)↔(j % 4=q∧(l++ [(w:Int)]).contains ((j/4:Nat):Int)=true):=by
    simp only[ZU,zz,zf];constructor
    ·exact fun h=>⟨h.1, .inl h.2⟩
    ·rintro⟨h1,h2|h2⟩
     ·exact⟨h1,h2⟩
     ·omega
   simp only[e]⟩
theorem qbZ{q t:Nat}{x:Int×Int}{H:Nat→List (Int×Int)}:hsS q [] t x H=H:=by
 funext j
 unfold hsS;rw[if_neg Y8]
theorem qi6{bs:Nat→Nat}{L:List EH}{e:EH}{n t:Nat}(ht:e.t=t)(h4:e.k=4):
  q2A bs (hsS 3 e.wl t ((L.length:Int),(q03 L t L.length:Int)+1) (hsS 2 e.rl t ((L.length:Int),(q03 L t L.length:Int)+1) (q0Y L n))) 256=q2A bs (q0Y (L++ [e]) n) 256:=q0H fun j _=>⟨rfl,by
  rw[q9v ht];unfold hsS qi3;simp only[h4]
  by_cases h2:j % 4=2
  ·simp[h2]
  ·by_cases h3:j % 4=3
   ·simp[h3]
   ·have h5:¬(j % 4=3∧e.wl.contains ((j/4:Nat):Int)=true):=fun h=>h3 h.1
    have h6:¬(j % 4=2∧e.rl.contains ((j/4:Nat):Int)=true):=fun h=>h2 h.1
    rw[if_neg h5,if_neg h6];have:j % 4=0∨j % 4=1:=Y6
    rcases this with h|h <;>simp[h]⟩
theorem qkr{W0:World}{D1 X r0 A D:Own}{e1 e2 e3 e4:Nat×(Obj→Prop)}:Ent W0 (D1++(e1::((e2::e3::e4::(D++(A++X)))++r0))) (e1::((e2::e3::e4::(D++(A++(D1++X))))++r0)):=by
 refine Ent.of_perm ?_;have h:(D1++(e1::e2::e3::e4::(D++(A++(X++r0))))).Perm (e1::e2::e3::e4::(D++(A++(D1++(X++r0))))):=by
  have h1:∀(P Q:Own),(D1++(P++Q)).Perm (P++(D1++Q)):=fun P Q=>by
   rw[←zd,←zd];exact Z5.append_right Q
  have h2:=h1 [e1,e2,e3,e4] (D++(A++(X++r0)));refine h2.trans (List.Perm.append_left [e1,e2,e3,e4] ((h1 D _).trans (List.Perm.append_left D (h1 A _))))
 simpa using h
section
variable{W0:World}{r0:Own}{at1:Int}{cb eb sb bb n sc:Nat}{bs:Nat→Nat}{B S:List Sl}{D X:Own}
theorem q5K{l:List Sl}:∀x∈l,(q1s x).length=1:=fun _ _=>rfl
theorem qjh{L:List EH}{e:EH}{t bc:Nat}{ba:Addr}(hw:Wf (L++ [e]) n)(hw0:Wf L n)(h4:e.k=4)(ht:e.t=t)(htn:t<n)(hn:n≤16)(hL:L.length≤65536)(hE:EvR W0 r0 e)
  (hN:q12 W0 0 noneV) (hS:qu q1s 22 1 (some ⟨sb,0,none⟩) sc S D) (hSl:n=S.length) (hBl:n=B.length) (hb:B[t]? =some (some ba,n,bc)) (hbr:RdE qx 1 W0 X (some ba) (qam L n t)):
  qt Tryz.prog W0 44 [.pointer (some ⟨cb,0,none⟩),e.v] (ckO L.length at1 (q1K L) (qZ L n) (q0Y L n) cb eb sb bb n sc bs B D X++r0) fun v own'=>∃s:Option Addr×Nat×Own×Own,(v= .tuple #[]∧qu qx 3 1 s.1 s.2.1 (qZ (L++ [e]) n) s.2.2.1∧qu q1s 22 1 (some ⟨sb,0,none⟩) sc (S.set t (s.1,n,s.2.1)) s.2.2.2)∧
   Ent W0 own' (ckO L.length at1 (q1K (L++ [e])) (qZ (L++ [e]) n) (q0Y (L++ [e]) n) cb eb sb bb n sc bs B s.2.2.2 (s.2.2.1++X)++r0):=by
 refine sC [120,375] [3,5,7,9,11,13,15,17,19,21,23,25,27,29,31,33,35,37,39,41,43,45,48,49,0,3,5,7,9,11,13,15,17,19,21,24,0,3,5,7,11,15,17,19,21,1,9,1,13,24,25,28,0,24,13,25,28,0,1,13,1,9,24,25,28,0,24,9,25,28,0,24,9,13,25,28,0,3,5,7,9,11,13,15,17,19,21,23,25,27,30,32,0,3,5,7,9,11,13,15,17,19,21,23,26,0,3,5,7,9,11,13,15,17,19,21,23,26,0] ?_;have hEn:(qZ L n)[t]? =some (q03 L t L.length:Int):=q0l htn;have hEl:n=(qZ L n).length:=qP.symm;have hcl:(qam L n t).length=n:=qP;have hcn:=q8b (l:=L) (t:=t) L.length;have htou:q5T e=cmp (srt (e.rl++e.wl)):=by unfold q5T;rw[if_neg Y6]
 have hrng:∀x∈q5T e,0≤x∧x<64:=by
  have:=q6J (y:=L.length) hw Y8
  rwa[q13] at this
 have hlen:=(q1S e).2.2;have hrb:=hE.rb;have hwb:=hE.wb;have htst:=fun(own':Own) (Cf:(Obj→Prop)→Own) (r:q0a) (w:Nat) (hw64:w<64) (i0:UpC cb (fun o=>o=Obj.cells (ckL L.length at1 eb sb bb n sc (q5l bs n) r).toArray 127 (0,0)) own' Cf) (i1:qv own' [ckN L.length at1 cb eb sb bb n sc bs r]) (i2:qv own' (q2A bs (q0Y L n) 256)) (i3:qv own' X)=>qdF (e:=e) (wr:=e.wl.contains (w:Int)) (cc:=bc) hw64 hn hcl hbr (u:=i0) (i1:=i1) (i2:=i2) (i3:=i3)
 have hrc:=fun(w:Int) (hm:w∈q5T e)=>qeq hw h4 hm
 have hcont:=fun(own':Own) [qv own' r0] (w:Int)=>q2T (W0:=W0) (own:=own') (cap:=e.wc) hE.w.up hE.wn w
 have hnone:=fun h0 h=>q8e (l:=L) (e:=e) hw hw0 h0 h
 have hhit:=fun h0 i w r h1 h2 h3=>qgI (l:=L) (e:=e) (i:=i) (w:=w) (r:=r) hw hw0 h0 Y6 h1 h2 h3
 have hends:(qZ L n).set t ((q03 L t L.length:Int)+1)=qZ (L++ [e]) n:=qbH ht h4;have hacc:=qi6 (bs:=bs) (L:=L) (n:=n) ht h4;have hEr:=hE.r;have hEw:=hE.w;have hrW:∀(own':Own) [qv own' r0],EvR W0 own' e:=fun own' _=>hE.up
 have hri:e.rl.all inW=true∧e.wl.all inW=true:=by
  have:=hw.kd L.length Y8;rw[q13] at this;exact this.2.2.2.2.2
 clear hE;obtain⟨ev,tt,k,wd,ra,rl,rc,wa,wl,wc⟩:=e;dsimp only[EH.v] at*;subst ht h4;generalize hrN:q1K (L++ [_])=rN at*
 repeat'((try(conv=>whnf));first|(refine qf (fun b3 hb3=> ?_);(apply Stop.h)))
 refine Stop.mk ?_
 repeat'((try(conv=>whnf));first|((apply qe);first|((refine qi (qcR (bq:=bk) (hEr.up) (hEw.up) Y6) (fun s v hv=> ?_);(obtain⟨a0,c0,D0⟩:=s;obtain⟨rfl,hB0⟩:=hv;dsimp only at hB0);(apply Stop.h))))|(refine fA ?_)|(refine qf (fun bk hbk=> ?_)))
 refine Stop.mk ?_;have hll:(rl++wl).length=rl.length+wl.length:=z8;have hso:=fun own' (C:Own→Own) (hat:At D0 own' C)=>q8O (W0:=W0) hB0 hat Y6
 repeat'((try(conv=>whnf));first|((apply qe);first|((refine qi (hso _ _ At.head) (fun s v hv=> ?_);(obtain⟨rfl,hB1⟩:=hv);(apply Stop.h)))))
 refine Stop.mk ?_;have hsl:=q1a (rl++wl);have hco:=fun own' (C:Own→Own) (hat:At s own' C)=>q3G (W0:=W0) hB1 hat Y6 (q1R (rl++wl))
 rw[hsl] at hco;rw[←htou] at hco;refine q3z (σ:=Unit) 4503599626321984 (fun _=> []) (fun _=>(b3,fun o=>o=Obj.cells #[.int .i64 ev, .int .i64 t, .int .i64 4, .int .i64 wd, .slice ra rl.length rc, .slice wa wl.length wc] 84)::(ckO L.length at1 rN (qZ L n) (q0Y L n) cb eb sb bb n sc bs B D X++r0)) (fun _=>True) rfl ?_ (fun _ junk _=> ?_)
 ·clear hends hacc hrW hri hEr hEn;generalize hT:q5T _=T at*
  repeat'((try(conv=>whnf));first|((apply qe);first|((refine qi (hco _ _ At.head) (fun s2 v hv=> ?_);(obtain⟨rfl,hB2⟩:=hv);(apply Stop.h)))))
  refine Stop.mk ?_;have hR2:RdE qx 1 W0 s2 a0 T:=hB2.rd;clear hco hso hB2 hB1 hB0
  rcases q6f (l:=L) with ⟨h1,h2⟩|⟨h1,h2⟩
  ·rw[h1];refine q1O (σ:=Nat) (fun i=> [(23, .int .i64 i)]) (fun i=>i≤T.length∧∀j w',j<i→T[j]? =some w'→rcL (L++ [(⟨ev,(t:Int),4,wd,ra,rl,rc,wa,wl,wc⟩:EH)]) L.length w' L.length= []) (fun i=>T.length-i) 0 ⟨Y6,fun j w' hj=>by omega⟩ (eF) rfl ?_;rintro i junk ⟨hi,hpre⟩
   by_cases hlt:i<T.length
   ·obtain⟨x,hx⟩:∃x,T[i]? =some x:=⟨_,z6 hlt⟩
    have hxm:=zg hx;have hxr:=hrng x hxm;have hlt':(i:Int)<T.length:=Y6;obtain⟨w,rfl⟩:∃w:Nat,x=w:=⟨x.toNat,Y6⟩
    have hr1:=(hrc w hxm).1;have hr2:=(hrc w hxm).2;have ht1:=fun(own':Own) (Cf:(Obj→Prop)→Own)=>htst own' Cf nnR w Y6
    have hh:=fun r=>hhit h2 i w r hx hpre
    generalize q8j L n _ _ _ _=p at*;have hcw:=fun(own':Own) [qv own' r0]=>hcont own' (w:Int)
    generalize wl.contains (w:Int)=zc at*
    by_cases hp:0≤p
    ·simp only[if_pos hp,decide_eq_true hp] at ht1;have hrN2:=hh _ (hr2 hp);subst hrN2
     repeat'((try(conv=>whnf));first|(refine fH ?_)|(refine fE ?_)|(refine fF ?_)|(refine q2k ?_ ?_;(exact rfl))|(refine q0s hN _ rfl rfl ?_)|(refine q4s (by simp[eqC,q0I]) ?_)|((apply gLd);first|(refine q0r hR2 hx rfl ?_)|(refine qaB q5K hb rfl ?_))|((apply qJ);first|((refine ixE hR2 hx ?_ ?_;(first|rfl|omega)))|((refine ixC hb hBl ?_ ?_;(first|rfl|omega))))|((apply qe);first|((refine q4m (ht1 _ _ Y9 Y9 Y9 Y9) ?_ ?_ ?_;(exact rfl);(exact rfl))))|((apply qz);first|(((refine qj (fun ex=>hcw (ex++_)) ?_))))|(refine fA ?_)|(refine fL ?_))
     exact⟨(),trivial,trivial,Ent.app (Ent.cons Ent.refl)⟩
    ·simp only[if_neg hp,decide_eq_false hp] at ht1;have hr3:=hr1 Y6
     repeat'((try(conv=>whnf));first|(refine fH ?_)|(refine fD ?_)|(refine fF ?_)|(refine q2k ?_ ?_;(exact rfl))|(refine q0s hN _ rfl rfl ?_)|(refine q4s (by simp[eqC,q0I]) ?_)|((apply gLd);first|(refine q0r hR2 hx rfl ?_)|(refine qaB q5K hb rfl ?_))|((apply qJ);first|((refine ixE hR2 hx ?_ ?_;(first|rfl|omega)))|((refine ixC hb hBl ?_ ?_;(first|rfl|omega))))|((apply qe);first|((refine q4m (ht1 _ _ Y9 Y9 Y9 Y9) ?_ ?_ ?_;(exact rfl);(exact rfl))))|((apply qz);first|(((refine qj (fun ex=>hcw (ex++_)) ?_))))|(refine fB ?_)|(refine fA ?_)|(refine fL ?_))
     refine⟨i+1,⟨Y6,fun j w' hj hw'=> ?_⟩,Y6,(eF),(eC)⟩
     by_cases hji:j=i
     ·subst hji;rw[hx] at hw';rw[←Option.some.inj hw'];exact hr3
     ·exact hpre j w' Y6 hw'
   ·have hlt':¬(i:Int)<T.length:=Y6;have hrN2:=hnone h2 (fun _ w hwm=>by
     obtain⟨j,hj⟩:=ZY hwm;exact hpre j w (by have:=(z7.1 hj).1;omega) hj)
    subst hrN2
    repeat'((try(conv=>whnf));first|(refine fG ?_))
    exact⟨(),trivial,trivial,Ent.app (Ent.cons Ent.refl)⟩
  ·have hfe:=q6g (e:=(⟨ev,(t:Int),4,wd,ra,rl,rc,wa,wl,wc⟩:EH)) hw0 h2;rw[hrN] at hfe;have hno:eqC [0,0,0] (q1I (q1K L)) (q1I nnR)=some false:=by rw[qkG,decide_eq_false h1]
   rw[←hfe] at hno ⊢;clear hfe;refine q1O (σ:=Nat) (fun i=> [(23, .int .i64 i)]) (fun i=>i≤T.length) (fun i=>T.length-i) 0 Y6 (eF) rfl ?_;intro i junk hi
   by_cases hlt:i<T.length
   ·obtain⟨x,hx⟩:∃x,T[i]? =some x:=⟨_,z6 hlt⟩
    have hlt':(i:Int)<T.length:=Y6
    repeat'((try(conv=>whnf));first|(refine fI ?_)|(refine fD ?_)|(refine fF ?_)|(refine q2k ?_ ?_;(exact rfl))|(refine q0s hN _ rfl rfl ?_)|(refine qhP hno ?_)|((apply gLd);first|(refine q0r hR2 hx rfl ?_))|((apply qJ);first|((refine ixE hR2 hx ?_ ?_;(first|rfl|omega))))|(refine fB ?_))
    exact⟨i+1,Y6,Y6,(eF),(eC)⟩
   ·have hlt':¬(i:Int)<T.length:=Y6
    repeat'((try(conv=>whnf));first|(refine fG ?_))
    exact⟨(),trivial,trivial,Ent.app (Ent.cons Ent.refl)⟩
 ·clear hrc htst hnone hhit hcont hso hco hB0 hB1 hrng hlen htou
  repeat'((try(conv=>whnf));first|(refine stC (T:=3) (k:=0) ((q03 L t L.length:Int)+1) q2b hEn ?_ ?_ ?_ ?_ ?_;(exact rfl);(omega);(exact rfl);(exact rfl);(apply Stop.h))|((apply gLd);first|(refine qaB q2b hEn rfl ?_))|((apply qJ);first|((refine ixC hEn hEl ?_ ?_;(first|rfl|omega))))|(refine fB ?_)|(refine fA ?_))
  refine Stop.mk ?_;rw[hends];have hEl':n=(qZ (L++ [(⟨ev,(t:Int),4,wd,ra,rl,rc,wa,wl,wc⟩:EH)]) n).length:=qP.symm;have hEn':(qZ (L++ [(⟨ev,(t:Int),4,wd,ra,rl,rc,wa,wl,wc⟩:EH)]) n)[t]? =some ((q03 L t L.length:Int)+1):=by rw[←hends,zv,if_pos rfl,if_pos Y6]
  have hclo:=fun(own':Own) [qv own' [q0K qx 3 eb (qZ (L++ [(⟨ev,(t:Int),4,wd,ra,rl,rc,wa,wl,wc⟩:EH)]) n)]]=>qa0 (W0:=W0) (own:=own') (cap:=n) (l:=qZ (L++ [(⟨ev,(t:Int),4,wd,ra,rl,rc,wa,wl,wc⟩:EH)]) n) (RdE.up (q6X (T:=3) (b:=eb) q2b)) (fun h=>by rw[h] at hEn';simp at hEn') Y6
  rw[←hEl'] at hclo;obtain⟨y,hy⟩:∃y,S[t]? =some y:=⟨_,z6 Y6⟩
  refine q3z (σ:=Option Addr×Nat×Own×Own) 18884854245460153466880 (fun _=> []) (fun s=>(b3,fun o=>o=Obj.cells #[.int .i64 ev, .int .i64 t, .int .i64 4, .int .i64 wd, .slice ra rl.length rc, .slice wa wl.length wc] 84)::(ckO L.length at1 rN (qZ (L++ [(⟨ev,(t:Int),4,wd,ra,rl,rc,wa,wl,wc⟩:EH)]) n) (q0Y L n) cb eb sb bb n sc bs B s.2.2.2 (s.2.2.1++X)++r0))
   (fun s=>qu qx 3 1 s.1 s.2.1 (qZ (L++ [(⟨ev,(t:Int),4,wd,ra,rl,rc,wa,wl,wc⟩:EH)]) n) s.2.2.1∧qu q1s 22 1 (some ⟨sb,0,none⟩) sc (S.set t (s.1,n,s.2.1)) s.2.2.2) rfl ?_ (fun s junk hs=> ?_)
  ·repeat'((try(conv=>whnf));first|(refine q3o (enc:=q1s) (j:=t) (k:=0) (a1,n,c1) hS hy ?_ ?_ ?_ ?_ ?_;(exact rfl);(omega);(exact rfl);(exact rfl);(intro D2 hB2))|((apply qe);first|((refine qi (hclo _) (fun s v hv=> ?_);(obtain⟨a1,c1,D1⟩:=s;obtain⟨rfl,hB1⟩:=hv;dsimp only at hB1))))|(refine q8m ?_ ?_;omega)|(refine fA ?_)|(refine q1c.mk ?_ ?_))
   all_goals exact⟨(a1,c1,D1,D2),⟨hB1,hB2⟩,trivial,qkr⟩
  ·obtain⟨a1,c1,D1,D2⟩:=s;obtain⟨hB1,hB2⟩:=hs;dsimp only at hB1 hB2 ⊢;clear hclo hS hy hb hbr hcl
   repeat'((try(conv=>whnf));first|(refine qf (fun b7 hb7=> ?_))|((apply gLd);first|(refine qaB q2b hEn' rfl ?_))|((apply qJ);first|((refine ixC hEn' hEl' ?_ ?_;(first|rfl|omega))))|(refine fA ?_)|(refine fM ?_))
   have hz2:hsS 2 (rl.take 0) t ((L.length:Int),(q03 L t L.length:Int)+1) (q0Y L n)=q0Y L n:=qbZ;refine qX (σ:=Nat) (fun i=> [(90, .int .i64 i)]) (fun i=>(b7,fun o=>o=Obj.cells #[.int .i64 L.length, .int .i64 ((q03 L t L.length:Int)+1)] 196)::(b3,fun o=>o=Obj.cells #[.int .i64 ev, .int .i64 t, .int .i64 4, .int .i64 wd, .slice ra rl.length rc, .slice wa wl.length wc] 84)::(ckO L.length at1 rN (qZ (L++ [(⟨ev,(t:Int),4,wd,ra,rl,rc,wa,wl,wc⟩:EH)]) n) (hsS 2 (rl.take i) t ((L.length:Int),(q03 L t L.length:Int)+1) (q0Y L n)) cb eb sb bb n sc bs B D2 (D1++X)++r0)) (fun i=>i≤rl.length) (fun i=>rl.length-i) 0 Y6 (eF) (by rw[hz2];exact Ent.refl) rfl ?_;intro i junk hi
   by_cases hlt:i<rl.length
   ·obtain⟨x,hx⟩:∃x,rl[i]? =some x:=⟨_,z6 hlt⟩
    have hxr:0≤x∧x<64:=of_decide_eq_true (Z7.1 hri.1 x (zg hx));have hlt':(i:Int)<rl.length:=Y6;obtain⟨w,rfl⟩:∃w:Nat,x=w:=⟨x.toNat,Y6⟩
    obtain⟨C0,hC0,hC1⟩:=q5Y (bs:=bs) (H:=hsS 2 (rl.take i) t ((L.length:Int),(q03 L t L.length:Int)+1) (q0Y L n)) (i:=4*w+2) (k:=256) Y6;have hC2:=(hC1 ((hsS 2 (rl.take i) t ((L.length:Int),(q03 L t L.length:Int)+1) (q0Y L n) (4*w+2)).set t ((L.length:Int),(q03 L t L.length:Int)+1))).trans (q9x Y6);have htk:rl.take i++ [(w:Int)]=rl.take (i+1):=by rw[zZ,hx];rfl
    rw[htk] at hC2;have hHl:n=(hsS 2 (rl.take i) t ((L.length:Int),(q03 L t L.length:Int)+1) (q0Y L n) (4*w+2)).length:=(q8k (fun _=>q47)).symm;obtain⟨y,hH⟩:∃y,(hsS 2 (rl.take i) t ((L.length:Int),(q03 L t L.length:Int)+1) (q0Y L n) (4*w+2))[t]? =some y:=⟨_,z6 Y6⟩
    haveI:AtC _ _ C0:=⟨hC0⟩
    have hw64:w<64:=Y6
    repeat'((try(conv=>whnf));first|(refine fF ?_)|(refine ldW hw64 ?_ ?_;(exact rfl))|(refine ixC hH hHl ?_ ?_;(exact rfl))|(refine qha (T:=196) (x:=y) ((L.length:Int),(q03 L t L.length:Int)+1) q3O hH ?_ ?_ ?_ ?_ ?_ ?_;(exact rfl);(exact rfl);(exact rfl);(exact rfl);(exact rfl))|((apply gLd);first|(refine q0r hEr hx rfl ?_))|((apply qJ);first|((refine ixE hEr hx ?_ ?_;(first|rfl|omega))))|(refine fB ?_)|(apply ixj;omega)|(refine fA ?_)|(refine fL ?_))
    exact⟨i+1,Y6,Y6,(eF),by rw[hC2];exact Ent.refl⟩
   ·have hlt':¬(i:Int)<rl.length:=Y6;have hie:i=rl.length:=Y6;subst hie;have htl:rl.take rl.length=rl:=Z4;rw[htl]
    repeat'((try(conv=>whnf));first|(refine fG ?_)|(refine fA ?_))
    have hz3:hsS 3 (wl.take 0) t ((L.length:Int),(q03 L t L.length:Int)+1) (hsS 2 rl t ((L.length:Int),(q03 L t L.length:Int)+1) (q0Y L n))=hsS 2 rl t ((L.length:Int),(q03 L t L.length:Int)+1) (q0Y L n):=qbZ;refine qX (σ:=Nat) (fun i=> [(109, .int .i64 i)]) (fun i=>(b7,fun o=>o=Obj.cells #[.int .i64 L.length, .int .i64 ((q03 L t L.length:Int)+1)] 196)::(b3,fun o=>o=Obj.cells #[.int .i64 ev, .int .i64 t, .int .i64 4, .int .i64 wd, .slice ra rl.length rc, .slice wa wl.length wc] 84)::(ckO L.length at1 rN (qZ (L++ [(⟨ev,(t:Int),4,wd,ra,rl,rc,wa,wl,wc⟩:EH)]) n) (hsS 3 (wl.take i) t ((L.length:Int),(q03 L t L.length:Int)+1) (hsS 2 rl t ((L.length:Int),(q03 L t L.length:Int)+1) (q0Y L n))) cb eb sb bb n sc bs B D2 (D1++X)++r0)) (fun i=>i≤wl.length) (fun i=>wl.length-i) 0 Y6 (eF) (by rw[hz3];exact Ent.refl) rfl ?_;intro i junk hi
    by_cases hlt:i<wl.length
    ·obtain⟨x,hx⟩:∃x,wl[i]? =some x:=⟨_,z6 hlt⟩
     have hxr:0≤x∧x<64:=of_decide_eq_true (Z7.1 hri.2 x (zg hx));have hlt':(i:Int)<wl.length:=Y6;obtain⟨w,rfl⟩:∃w:Nat,x=w:=⟨x.toNat,Y6⟩
     obtain⟨C0,hC0,hC1⟩:=q5Y (bs:=bs) (H:=hsS 3 (wl.take i) t ((L.length:Int),(q03 L t L.length:Int)+1) (hsS 2 rl t ((L.length:Int),(q03 L t L.length:Int)+1) (q0Y L n))) (i:=4*w+3) (k:=256) Y6;have hC2:=(hC1 ((hsS 3 (wl.take i) t ((L.length:Int),(q03 L t L.length:Int)+1) (hsS 2 rl t ((L.length:Int),(q03 L t L.length:Int)+1) (q0Y L n)) (4*w+3)).set t ((L.length:Int),(q03 L t L.length:Int)+1))).trans (q9x Y6);have htk:wl.take i++ [(w:Int)]=wl.take (i+1):=by rw[zZ,hx];rfl
     rw[htk] at hC2;have hHl:n=(hsS 3 (wl.take i) t ((L.length:Int),(q03 L t L.length:Int)+1) (hsS 2 rl t ((L.length:Int),(q03 L t L.length:Int)+1) (q0Y L n)) (4*w+3)).length:=(q8k (fun _=>q8k (fun _=>q47))).symm;obtain⟨y,hH⟩:∃y,(hsS 3 (wl.take i) t ((L.length:Int),(q03 L t L.length:Int)+1) (hsS 2 rl t ((L.length:Int),(q03 L t L.length:Int)+1) (q0Y L n)) (4*w+3))[t]? =some y:=⟨_,z6 Y6⟩
     haveI:AtC _ _ C0:=⟨hC0⟩
     have hw64:w<64:=Y6
     repeat'((try(conv=>whnf));first|(refine fF ?_)|(refine ldW hw64 ?_ ?_;(exact rfl))|(refine ixC hH hHl ?_ ?_;(exact rfl))|(refine qha (T:=196) (x:=y) ((L.length:Int),(q03 L t L.length:Int)+1) q3O hH ?_ ?_ ?_ ?_ ?_ ?_;(exact rfl);(exact rfl);(exact rfl);(exact rfl);(exact rfl))|((apply gLd);first|(refine q0r hEw hx rfl ?_))|((apply qJ);first|((refine ixE hEw hx ?_ ?_;(first|rfl|omega))))|(refine fB ?_)|(apply ixj;omega)|(refine fA ?_)|(refine fL ?_))
     exact⟨i+1,Y6,Y6,(eF),by rw[hC2];exact Ent.refl⟩
    ·have hlt':¬(i:Int)<wl.length:=Y6;have hie:i=wl.length:=Y6;subst hie;have htl:wl.take wl.length=wl:=Z4;rw[htl]
     repeat'((try(conv=>whnf));first|(refine fG ?_))
     exact⟨(a1,c1,D1,D2),⟨rfl,hB1,hB2⟩,by unfold ckO;rw[hacc];exact Ent.drop.trans Ent.drop⟩
end
theorem q4L{α:Type}{l:List α}{t u:Nat}{x:α}(ht:t<l.length):(l.set t x)[u]? =if u=t then some x else l[u]? :=by
 rw[zv]
 by_cases h:u=t
 ·subst h;rw[if_pos rfl,if_pos rfl,if_pos ht]
 ·rw[if_neg (fun x=>h x.symm),if_neg h]
section
variable{W0:World}{r0:Own}{n t:Nat}{L:List EH}{e:EH}
theorem CkM.next{s s':CkB}(h:CkM W0 n L s)(hw:WF0 (L++ [e]) n)(ht:e.t=t)(htn:t<n)(hS:qu q1s 22 1 (some ⟨s'.sb,0,none⟩) s'.sc s'.S s'.D) [qv s'.X s.X]
  (hSe:(e.k≠4∧s'.S=s.S)∨(e.k=4∧∃a c,s'.S=s.S.set t (a,n,c)∧RdE qx 1 W0 s'.X a (qZ (L++ [e]) n)))
  (hBe:(e.k≠3∧s'.B=s.B.set t (none,0,0))∨(e.k=3∧∃a c,s'.B=s.B.set t (some a,n,c)∧RdE qx 1 W0 s'.X (some a) (qZ L n))):CkM W0 n (L++ [e]) s':=by
 have htS:t<s.S.length:=by rw[h.sl];exact htn
 have htB:t<s.B.length:=by rw[h.bl];exact htn
 have hlk:∀u:Nat,lkL (L++ [e]) u (L++ [e]).length=if u=t then e.k else lkL L u L.length:=fun u=>by
  rw[qb6,qc9,ht]
  by_cases hu:u=t
  ·rw[if_pos Y6,if_pos hu]
  ·rw[if_neg Y6,if_neg hu]
 refine⟨hw,hS,?_,?_,fun u hu=> ?_,fun u hu h3=> ?_,fun u hu h3=> ?_⟩
 ·rcases hSe with ⟨_,h1⟩|⟨_,a,c,h1,_⟩ <;>rw[h1]
  ·exact h.sl
  ·rw[zj];exact h.sl
 ·rcases hBe with ⟨_,h1⟩|⟨_,a,c,h1,_⟩ <;>rw[h1,zj] <;>exact h.bl
 ·obtain⟨a0,c0,hx,hr⟩:=h.sr u hu
  rcases hSe with ⟨h4,h1⟩|⟨h4,a,c,h1,h2⟩
  ·rw[h1,q5I (.inl h4)];exact⟨a0,c0,hx,hr.up⟩
  ·rw[h1,q4L htS]
   by_cases hut:u=t
   ·rw[if_pos hut,hut,←ht,qcF h4];exact⟨a,c,rfl,h2⟩
   ·rw[if_neg hut,q5I (.inr Y6)];exact⟨a0,c0,hx,hr.up⟩
 ·rw[hlk] at h3
  rcases hBe with ⟨h4,h1⟩|⟨h4,a,c,h1,h2⟩
  ·rw[h1,q4L htB]
   by_cases hut:u=t
   ·rw[if_pos hut] at h3;exact absurd h3 h4
   ·rw[if_neg hut] at h3 ⊢;obtain⟨a0,c0,hx,hr⟩:=h.b3 u hu h3;rw[q6V Y6];exact⟨a0,c0,hx,hr.up⟩
  ·rw[h1,q4L htB]
   by_cases hut:u=t
   ·rw[if_pos hut,hut,←ht,qan];exact⟨a,c,rfl,h2⟩
   ·rw[if_neg hut] at h3 ⊢;obtain⟨a0,c0,hx,hr⟩:=h.b3 u hu h3;rw[q6V Y6];exact⟨a0,c0,hx,hr.up⟩
 ·rw[hlk] at h3
  rcases hBe with ⟨h4,h1⟩|⟨h4,a,c,h1,h2⟩
  ·rw[h1,q4L htB]
   by_cases hut:u=t
   ·rw[if_pos hut]
   ·rw[if_neg hut] at h3 ⊢;exact h.b0 u hu h3
  ·rw[h1,q4L htB]
   by_cases hut:u=t
   ·rw[if_pos hut] at h3;exact absurd h4 h3
   ·rw[if_neg hut] at h3 ⊢;exact h.b0 u hu h3
theorem qef{α:Type}{enc:α→List Value}{T:TypeId}{sz cap:Nat}{a:Option Addr}{l:List α}{D:Own}(h:qu enc T sz a cap l D)(hne:l≠ []):∃a',a=some a':=by
 rcases h.how with ⟨h,_,_⟩|⟨b,_,h,_⟩
 ·exact absurd h hne
 ·exact⟨_,h⟩
theorem EvR.ent'{own own':Own}(h:EvR W0 own' e)(k:Ent W0 own own'):EvR W0 own e:=⟨h.r.ent k,h.w.ent k,h.rb,h.wb⟩
theorem qdE{own:Own}{s:CkB}(hM:CkM W0 n L s)(hE:EvR W0 r0 e) [i1:qv own [ckN L.length (q2w L L.length) s.cb s.eb s.sb s.bb n s.sc s.bs (q1K L)]] [i2:qv own [q0K q1s 22 s.bb s.B]] [i3:qv own r0]:
  qE Tryz.prog W0 43 [.pointer (some ⟨s.cb,0,none⟩),e.v] own (.bool (q17 n (L.length==0) (q2w L L.length) (lkL L e.t L.length) e)):=by
 have h0:Cl W0 own s.cb 0 (.int .i64 L.length):=Kn.ent (qk (zf.2 rfl) rfl) (i1.h W0);have h1:Cl W0 own s.cb 1 (.int .i64 (q2w L L.length)):=Kn.ent (qk (zf.2 rfl) rfl) (i1.h W0);have h2:Cl W0 own s.cb 2 (.slice (some ⟨s.eb,0,none⟩) n n):=Kn.ent (qk (zf.2 rfl) rfl) (i1.h W0);have h4:Cl W0 own s.cb 4 (.slice (some ⟨s.bb,0,none⟩) n n):=Kn.ent (qk (zf.2 rfl) rfl) (i1.h W0);have hB:RdE q1s 1 W0 own (some ⟨s.bb,0,none⟩) s.B:=(q6X (T:=22) (b:=s.bb) q5K).ent (i2.h W0);have hbl:=hM.bl;rw[←hbl] at h4;have:=qg2 (e:=e) (last:=lkL L (e.t.toNat:Int) L.length) (hE.ent' (i3.h W0)) h0 h1 h2 (by rwa[hbl] at h4 ⊢) hB hbl Y6 (fun x hx=>by
  have hlt:=(z7.1 hx).1;rw[hbl] at hlt
  by_cases h3:lkL L (e.t.toNat:Int) L.length=3
  ·obtain⟨a,c,hb,_⟩:=hM.b3 _ hlt h3;rw[hb] at hx;rw[←Option.some.inj hx];exact⟨fun _=>h3,fun _=>Option.some_ne_none _⟩
  ·have hb:=hM.b0 _ hlt h3;rw[hb] at hx;rw[←Option.some.inj hx];exact⟨fun h=>absurd rfl h,fun h=>absurd h h3⟩)
 have e1:((L.length:Int)==0)=(L.length==0):=by
  rw[Bool.eq_iff_iff];simp
 have e2:q17 n (L.length==0) (q2w L L.length) (lkL L (e.t.toNat:Int) L.length) e=q17 n (L.length==0) (q2w L L.length) (lkL L e.t L.length) e:=by
  by_cases h:0≤e.t
  ·rw[Z6 h]
  ·unfold q17;rw[decide_eq_false (fun x=>h x.1)];rfl
 rw[e1,e2] at this;exact this
theorem qhO{D1 X A D:Own}{e0 e1 e2 e3 e4:Nat×(Obj→Prop)}:Ent W0 (D1++(e0::e1::((e2::e3::e4::(D++(A++X)))++r0))) (e0::e1::((e2::e3::e4::(D++(A++(D1++X))))++r0)):=by
 refine Ent.of_perm ?_;have h:(D1++(e0::e1::e2::e3::e4::(D++(A++(X++r0))))).Perm (e0::e1::e2::e3::e4::(D++(A++(D1++(X++r0))))):=by
  have h1:∀(P Q:Own),(D1++(P++Q)).Perm (P++(D1++Q)):=fun P Q=>by
   rw[←zd,←zd];exact Z5.append_right Q
  have h2:=h1 [e0,e1,e2,e3,e4] (D++(A++(X++r0)));exact h2.trans (List.Perm.append_left [e0,e1,e2,e3,e4] ((h1 D _).trans (List.Perm.append_left D (h1 A _))))
 simpa using h
theorem qb0{own:Own}{s:CkB}(hN:q12 W0 0 noneV)(hM:CkM W0 n L s)(hE:EvR W0 r0 e) [i1:qv own [ckN L.length (q2w L L.length) s.cb s.eb s.sb s.bb n s.sc s.bs (q1K L)]] [i2:qv own [q0K q1s 22 s.bb s.B]] [i3:qv own r0]
  (hf:q17 n (L.length==0) (q2w L L.length) (lkL L e.t L.length) e=false) (hl:L.length<65536):
  qE Tryz.prog W0 23 [.pointer (some ⟨s.cb,0,none⟩),e.v] own (.tuple #[.agg noneV.toArray, .int .i64 91]):=by
 refine qg (sC [138] [3,5,7,11,15,17,19,21,1,9,1,13,24,25,28,0,24,13,25,28,0,1,13,1,9,24,25,28,0,24,9,25,28,0,24,9,13,25,28,0,3,5,7,9,11,13,15,18,0,3,5,7,9,11,13,15,18,0] ?_);have hft:=fun(own':Own) (j1:qv own' [ckN L.length (q2w L L.length) s.cb s.eb s.sb s.bb n s.sc s.bs (q1K L)]) (j2:qv own' [q0K q1s 22 s.bb s.B]) (j3:qv own' r0)=>qdE (own:=own') hM hE
 rw[hf] at hft;have h0:Cl W0 own s.cb 0 (.int .i64 L.length):=Kn.ent (qk (zf.2 rfl) rfl) (i1.h W0);have hl':¬(L.length:Int)=65536:=Y6;obtain⟨ev,tt,k,wd,ra,rl,rc,wa,wl,wc⟩:=e;dsimp only[EH.v] at*
 repeat'((try(conv=>whnf));first|(refine fE ?_)|(refine fD ?_)|(refine fG ?_)|(refine q0s hN _ rfl rfl ?_)|((apply gLd);first|(refine ldK h0 ?_))|((apply qe);first|((refine qd (hft _ Y9 Y9 Y9) ?_)))|(refine fL ?_)|(refine fM ?_)|(refine qf (fun bk hbk=> ?_)))
 exact⟨rfl,(eC)⟩
theorem q3K{P:Program}{σ:Type}{k:FuncId}{args:List Value}{A D r:Own}{R:σ→Value→Prop}{O:σ→Own}(h:qt P W0 k args (D++(A++r)) fun v own'=>∃s,R s v∧Ent W0 own' (O s++(A++r))):qt P W0 k args (A++(D++r)) fun v own'=>∃s,R s v∧Ent W0 own' (A++(O s++r)):=by
 have hp:∀D:Own,(A++(D++r)).Perm (D++(A++r)):=fun D=>by
  rw[←zd,←zd];exact Z5.append_right r
 intro w hw;exact(h w (Ent.of_perm (hp D) w hw)).mono fun _ _ ⟨v,o,a,b,s,c,d⟩=>⟨v,o,a,b,s,c,d.trans (Ent.of_perm (hp _).symm)⟩
theorem qdB{P:Program}{k:FuncId}{args:List Value}{own:Own}{v0:Value}{O:Own}(h:qt P W0 k args own fun v own'=>v=v0∧Ent W0 own' O):qt P W0 k args own fun v own'=>∃_:Unit,v=v0∧Ent W0 own' O:=fun w hw=>
 (h w hw).mono fun _ _ ⟨v,o,a,b,c,d⟩=>⟨v,o,a,b,(),c,d⟩
theorem qjg{s:CkB}(hN:q12 W0 0 noneV)(hM:CkM W0 n L s)(hE:EvR W0 r0 e)(hf:q17 n (L.length==0) (q2w L L.length) (lkL L e.t L.length) e=true)(hl:L.length<65536):
  qt Tryz.prog W0 23 [.pointer (some ⟨s.cb,0,none⟩),e.v] (s.O L n++r0) fun v own'=>∃s':CkB,(v= .tuple #[.agg (q1I (q1K (L++ [e]))).toArray, .int .i64 0]∧s'.cb=s.cb∧CkM W0 n (L++ [e]) s')∧Ent W0 own' (s'.O (L++ [e]) n++r0):=by
 refine sC [138] [3,5,7,11,15,17,19,21,1,9,1,13,24,25,28,0,24,13,25,28,0,1,13,1,9,24,25,28,0,24,9,25,28,0,24,9,13,25,28,0,3,5,7,9,11,13,15,18,0,3,5,7,9,11,13,15,18,0] ?_;have hft:=fun(own':Own) (j1:qv own' [ckN L.length (q2w L L.length) s.cb s.eb s.sb s.bb n s.sc s.bs (q1K L)]) (j2:qv own' [q0K q1s 22 s.bb s.B]) (j3:qv own' r0)=>qdE (own:=own') hM hE
 rw[hf] at hft;have hl':¬(L.length:Int)=65536:=Y6;have hwf:=hM.wf.snoc Y6 hf;have hw:=hwf.wf;have hw0:=hM.wf.wf;have hn16:=hwf.2.1;have hkd:=hw.kd L.length Y8;unfold thr knd at hkd;rw[q13] at hkd;obtain⟨k1,k2,k3,k4,k5,_⟩:=hkd;have hfk:e.k=4→lkL L e.t L.length=3:=fun h4=>by
  unfold q17 at hf;rw[if_pos h4] at hf;simp only[zx,decide_eq_true_eq] at hf;exact hf.2
 clear hf;have hpa:=qeY (l:=L) (e:=e);rw[←qb6 (l:=L) (e:=e)] at hpa;have hln:((L++ [e]).length:Int)=(L.length:Int)+1:=by rw[qb6];omega
 have hw64:=of_decide_eq_true k5;obtain⟨t,ht⟩:∃t:Nat,e.t=t:=⟨e.t.toNat,Y6⟩
 obtain⟨w,hwd⟩:∃w:Nat,e.w=w:=⟨e.w.toNat,Y6⟩
 have htn:t<n:=Y6;obtain⟨xa,xc,hx,hxr⟩:=hM.sr t htn;have hpl:=fun(hk:e.k=1∨e.k=2) (R:Own)=>qdw (W0:=W0) (r0:=R) (at1:=q2w L L.length) (cb:=s.cb) (eb:=s.eb) (bb:=s.bb) (sc:=s.sc) (bs:=s.bs) (B:=s.B) (X:=s.X) hw hw0 hk ht htn hwd Y6 Y6 Y6 hN hM.sB.rd hx hxr
 have hnx:=fun(s':CkB)=>hM.next (s':=s') hwf ht htn
 have hpl0:=fun(hk:e.k≠4)=>qas (l:=L) (n:=n) hk
 have hbg:=fun(hk:e.k=3)=>qao hw hw0 hk
 have hbh:=fun(hk:e.k=3)=>q0H (bs:=s.bs) (H:=q0Y (L++ [e]) n) (k:=256) fun j _=>⟨rfl,qav (L:=L) (n:=n) (j:=j) hk⟩
 have hEl:n=(qZ L n).length:=qP.symm;have hEn:(qZ L n)[t]? =some (q03 L t L.length:Int):=q0l htn;have hclo:=fun(own':Own) [qv own' [q0K qx 3 s.eb (qZ L n)]]=>qa0 (W0:=W0) (own:=own') (cap:=n) (l:=qZ L n) (RdE.up (q6X (T:=3) (b:=s.eb) q2b)) (fun h=>by rw[h] at hEn;simp at hEn) Y6
 rw[←hEl] at hclo;have hEne:qZ L n≠ []:=fun h=>by rw[h] at hEn;simp at hEn
 have hbl:=hM.bl.symm;obtain⟨y,hy⟩:∃y,s.B[t]? =some y:=⟨_,z6 Y6⟩
 have hen:=fun(hk:e.k=4)=>hM.b3 t htn (by rw[←ht];exact hfk hk)
 have hend:=fun(hk:e.k=4) (a:Addr) (c:Nat) (R:Own) (hER:EvR W0 R e) (hb:s.B[t]? =some (some a,n,c)) (hbr:RdE qx 1 W0 s.X (some a) (qam L n t))=>qjh (W0:=W0) (r0:=R) (at1:=q2w L L.length) (cb:=s.cb) (eb:=s.eb) (sb:=s.sb) (bb:=s.bb) (sc:=s.sc) (bs:=s.bs) (B:=s.B) (X:=s.X) hw hw0 hk ht htn Y6 Y6 hER hN hM.sB hM.sl.symm hbl hb hbr
 have hER:∀(R:Own) [qv R r0],EvR W0 R e:=fun R _=>hE.up
 have hR5:∀(a:Option Addr) (c:Nat) (D1:Own),qu qx 3 1 a c (qZ (L++ [e]) n) D1→RdE qx 1 W0 (D1++s.X) a (qZ (L++ [e]) n):=fun a c D1 h=>h.rd.up
 have hR6:∀(a:Option Addr) (c:Nat) (D1:Own),qu qx 3 1 a c (qZ L n) D1→RdE qx 1 W0 (D1++s.X) a (qZ L n):=fun a c D1 h=>h.rd.up
 obtain⟨ev,tt,k,wd,ra,rl,rc,wa,wl,wc⟩:=e;dsimp only[EH.v] at*;subst ht hwd
 repeat'((try(conv=>whnf));first|(refine qf (fun b3 hb3=> ?_);(apply Stop.h)))
 refine Stop.mk ?_
 repeat'((try(conv=>whnf));first|(refine fD ?_)|(refine fG ?_)|(refine qf (fun b4 hb4=> ?_))|((apply qe);first|((refine qd (hft _ Y9 Y9 Y9) ?_)))|(refine fA ?_)|(refine fL ?_))
 refine q3z (σ:=CkB) 2305843009205305344 (fun _=> []) (fun s'=>(b4,fun o=>o=Obj.cells #[.int .i64 0, .int .i64 0, .int .i64 0] 46)::(b3,fun o=>o=Obj.cells #[.int .i64 ev, .int .i64 t, .int .i64 k, .int .i64 w, .slice ra rl.length rc, .slice wa wl.length wc] 84)::(ckO L.length (q2w L L.length) (q1K (L++ [(⟨ev,(t:Int),k,(w:Int),ra,rl,rc,wa,wl,wc⟩:EH)])) (qZ (L++ [(⟨ev,(t:Int),k,(w:Int),ra,rl,rc,wa,wl,wc⟩:EH)]) n) (q0Y (L++ [(⟨ev,(t:Int),k,(w:Int),ra,rl,rc,wa,wl,wc⟩:EH)]) n) s'.cb s'.eb s'.sb s'.bb n s'.sc s'.bs s'.B s'.D s'.X++r0)) (fun s'=>s'.cb=s.cb∧CkM W0 n (L++ [(⟨ev,(t:Int),k,(w:Int),ra,rl,rc,wa,wl,wc⟩:EH)]) s') rfl ?_ (fun s' junk hs=> ?_)
 ·clear hft
  by_cases h3:k=3
  ·subst h3;rw[hbg rfl,hpl0 Y6]
   repeat'((try(conv=>whnf));first|(refine fE ?_)|(refine stC (T:=22) (k:=0) (a1,n,c1) q5K hy ?_ ?_ ?_ ?_ ?_;(exact rfl);(omega);(exact rfl);(exact rfl))|((apply qJ);first|((refine ixC hy hbl ?_ ?_;(first|rfl|omega))))|((apply qe);first|((refine qi (hclo _) (fun q v hv=> ?_);(obtain⟨a1,c1,D1⟩:=q;obtain⟨rfl,hB1⟩:=hv;dsimp only at hB1))))|(refine fA ?_)|(refine q1c.mk ?_ ?_))
   all_goals
    obtain⟨a2,rfl⟩:=qef hB1 hEne;exact⟨⟨s.cb,s.eb,s.sb,s.sc,s.bb,s.bs,s.S,s.B.set t (some a2,n,c1),s.D,D1++s.X⟩,⟨rfl,hnx _ hM.sB (.inl ⟨Y6,rfl⟩) (.inr ⟨rfl,a2,c1,rfl,hR6 _ _ _ hB1⟩)⟩,trivial,by unfold ckO;rw[hbh rfl];exact qhO (D:=s.D) (A:=q2A s.bs (q0Y L n) 256) (X:=s.X) (D1:=D1)⟩
  by_cases h4:k=4
  ·subst h4;obtain⟨ba,bc,hb,hbr⟩:=hen rfl;have hcall:=q3K (r:=r0) (A:= [(b4,fun o=>o=Obj.cells #[.int .i64 0, .int .i64 0, .int .i64 0] 46),(b3,fun o=>o=Obj.cells #[.int .i64 ev, .int .i64 t, .int .i64 4, .int .i64 w, .slice ra rl.length rc, .slice wa wl.length wc] 84)]) (hend rfl ba bc _ (hER _) hb hbr)
   repeat'((try(conv=>whnf));first|(refine fE ?_)|(refine fD ?_)|(refine stC (T:=22) (k:=0) (none,0,0) q5K hy ?_ ?_ ?_ ?_ ?_;(exact rfl);(omega);(exact rfl);(exact rfl))|((apply qJ);first|((refine ixC hy hbl ?_ ?_;(first|rfl|omega))))|((apply qe);first|((refine qi hcall (fun q v hv=> ?_);(obtain⟨a1,c1,D1,D2⟩:=q;obtain⟨rfl,hB1,hB2⟩:=hv;dsimp only at hB1 hB2))))|(refine fA ?_)|(refine fL ?_))
   exact⟨⟨s.cb,s.eb,s.sb,s.sc,s.bb,s.bs,s.S.set t (a1,n,c1),s.B.set t (none,0,0),D2,D1++s.X⟩,⟨rfl,hnx _ hB2 (.inr ⟨rfl,a1,c1,rfl,hR5 _ _ _ hB1⟩) (.inl ⟨Y6,rfl⟩)⟩,trivial,Ent.refl⟩
  ·have hcall:=q3K (r:=r0) (A:= [(b4,fun o=>o=Obj.cells #[.int .i64 0, .int .i64 0, .int .i64 0] 46),(b3,fun o=>o=Obj.cells #[.int .i64 ev, .int .i64 t, .int .i64 k, .int .i64 w, .slice ra rl.length rc, .slice wa wl.length wc] 84)]) (qdB (hpl Y6 _));rw[hpl0 h4]
   repeat'((try(conv=>whnf));first|(refine fG ?_)|(refine stC (T:=22) (k:=0) (none,0,0) q5K hy ?_ ?_ ?_ ?_ ?_;(exact rfl);(omega);(exact rfl);(exact rfl))|((apply qJ);first|((refine ixC hy hbl ?_ ?_;(first|rfl|omega))))|((apply qe);first|((refine qi hcall (fun q v hv=> ?_);(subst hv))))|(refine fA ?_)|(refine fL ?_))
   exact⟨⟨s.cb,s.eb,s.sb,s.sc,s.bb,s.bs,s.S,s.B.set t (none,0,0),s.D,s.X⟩,⟨rfl,hnx _ hM.sB (.inl ⟨h4,rfl⟩) (.inl ⟨h3,rfl⟩)⟩,trivial,Ent.refl⟩
 ·obtain⟨hcb,hM'⟩:=hs;obtain⟨cb',eb',sb',sc',bb',bs',S',B',D',X'⟩:=s';dsimp only at hcb hM' ⊢;subst hcb;clear hft hM hpl hnx hpl0 hbg hbh hclo hen hend hER hR5 hR6
  repeat'((try(conv=>whnf));first|(refine qlI ?_)|(refine qlH ?_)|(refine q2k ?_ ?_;(exact rfl))|(refine fB ?_)|(refine fA ?_)|(refine fL ?_)|(refine fM ?_))
  refine⟨⟨s.cb,eb',sb',sc',bb',bs',S',B',D',X'⟩,⟨rfl,rfl,hM'⟩,?_⟩;show Ent W0 _ (ckO ((L++ [(⟨ev,(t:Int),k,(w:Int),ra,rl,rc,wa,wl,wc⟩:EH)]).length:Int) (q2w (L++ [(⟨ev,(t:Int),k,(w:Int),ra,rl,rc,wa,wl,wc⟩:EH)]) (L++ [(⟨ev,(t:Int),k,(w:Int),ra,rl,rc,wa,wl,wc⟩:EH)]).length) _ _ _ _ _ _ _ _ _ _ _ _ _++r0);rw[hpa,hln];exact Ent.drop.trans Ent.drop
end
end Ord
end Go.Proofs.YtbhbldllneadeaaGreatDoor
