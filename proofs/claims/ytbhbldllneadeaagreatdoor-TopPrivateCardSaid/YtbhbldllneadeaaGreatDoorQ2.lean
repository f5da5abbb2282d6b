/- What the laws share, part 2. No condition. -/
import Derived.Deep.Quiet
import Derived.OrdersIn
import Derived.TacticsIn
import Derived.RangeFuncCalls
import Derived.Test.YtbhbldllneadeaaGreatDoorQ1
namespace Go.Proofs.YtbhbldllneadeaaGreatDoor
open Go
def q1u(P:Program)(R:Value→World→Prop):Result Next→Prop
 | .ok (.value u) w'=>R u w'
 | .ok .skip w'=>R undef w'
 | .ok (.enter k args) w'=>Calls P k args w' fun e w''=>∃v,e= .returned v∧R v w''
 | .ok (.round l k tmps assign body) w'=>RoundIn Fence.wide 0 P l k tmps assign body w' fun e w''=>∃v,e= .returned v∧R v w''
 |_=>False
theorem q1u.mono{P:Program}{R R':Value→World→Prop}(h:∀v w,R v w→R' v w):∀{r:Result Next},q1u P R r→q1u P R' r:=by
 intro r hr;unfold q1u at*
 split <;>simp only at hr
 ·exact h _ _ hr
 ·exact h _ _ hr
 ·exact hr.mono fun e w'' ⟨v,he,hv⟩=>⟨v,he,h _ _ hv⟩
 ·exact hr.mono fun e w'' ⟨v,he,hv⟩=>⟨v,he,h _ _ hv⟩
abbrev WF(r:Option Nat):Fence:={Fence.wide with round:=r}
theorem q5w{P:Program}{r:Option Nat}{m:Nat}{k:FuncId}{args:Array Value}{w:World}{R:Ending→World→Prop}(h:Calls P k args w R):CallsIn (WF r) m P k args w R:=by
 cases r with
 |none=>exact callsIn_wide.2 h
 |some l=>exact CallsIn.inRound l (callsIn_wide.2 h)
theorem q5E{P:Program}{r:Option Nat}{m l:Nat}{k:FuncId}{tmps:Array Value}{assign body:Code}{w:World}{R:Ending→World→Prop}(h:RoundIn Fence.wide 0 P l k tmps assign body w R):RoundIn (WF r) m P l k tmps assign body w R:=
 ⟨trivial,fun c cs _=>h.2 c cs (fun _ h=>by cases h)⟩
theorem q9W{P:Program}{o:Oper}{ρ:Operand→Value}{w:World}{r:Option Nat}(h:∀d w',(execOp ρ o).run P w≠ .ok (.defer d) w')(h2:∀x w',(execOp ρ o).run P w≠ .halt x w'):(o.semAt r ρ).run P w=(execOp ρ o).run P w:=by
 by_cases hd:∃c,o.op= .defer c
 ·obtain⟨c,hc⟩:=hd;exfalso;have he:execOp ρ o=(do pure (.defer (←resolve ρ c o.type))):=by unfold execOp;rw[hc]
  rw[he] at h h2;simp only[Sem.run_bind] at h h2;cases hq:(resolve ρ c o.type).run P w with
  |ok d w'=>rw[hq] at h;exact h d w' rfl
  |halt x w'=>rw[hq] at h2;exact h2 x w' rfl
 ·rw[Oper.semAt_eq _ _ _ (fun c hc=>hd ⟨c,hc⟩)]
theorem q1u.wp{P:Program}{o:Oper}{a:Act}{w:World}{R:Value→World→Prop}{next:Act→World→Prop}{Q:Exit→Act→World→Prop}{r:Option Nat}{m:Nat}(h:q1u P R ((execOp a.eval o).run P w))
  (hn:∀v w',R v w'→next (a.put o.dst v) w'):o.wpIn (WF r) m P a w next Q:=by
 unfold Oper.wpIn;refine⟨fun _ _=>trivial,?_⟩;rw[q9W (fun d w' e=>by rw[e] at h;exact h.elim) (fun x w' e=>by rw[e] at h;exact h.elim)];generalize (execOp a.eval o).run P w=q at h;unfold q1u at h
 split at h
 ·exact hn _ _ h
 ·exact hn _ _ h
 ·rw[Oper.uponIn_enter];refine⟨fun h=>(by cases h),q5w ?_⟩;exact h.mono fun e w'' ⟨v,he,hv⟩=>by subst he;exact hn _ _ hv
 ·rw[Oper.uponIn_round];refine⟨fun h=>(by cases h),q5E ?_⟩;exact h.mono fun e w'' ⟨v,he,hv⟩=>by subst he;exact hn _ _ hv
 ·exact h.elim
inductive Kd
 |f|n|m
section
variable{P:Program}{W0:World}{md:Region.Mode}{ops:Array Oper}{kd:Nat→Kd}
def q40(P:Program)(ops:Array Oper)(W0:World)(kd:Nat→Kd)(i:Nat)(K:Act→Own→Prop)(a:Act)(own:Own):Prop:=
 match ops[i]? with
 |none=>K a own
 |some o=>if Region.wanted o (yielded ops a.tmps) then
   match kd i with
   | .f=>∀w,St W0 own w→q1u P (fun u w'=>St W0 own w'∧K (a.put o.dst u) own) ((execOp a.eval o).run P w)
   | .n=>∀w,St W0 own w→q1u P (fun u w'=>∃e,St W0 (e::own) w'∧K (a.put o.dst u) (e::own)) ((execOp a.eval o).run P w)
   | .m=>∀w,St W0 own w→q1u P (fun u w'=>∃own',St W0 own' w'∧K (a.put o.dst u) own') ((execOp a.eval o).run P w)
  else K (a.put o.dst undef) own
def wpG(P:Program)(md:Region.Mode)(ops:Array Oper)(W0:World)(kd:Nat→Kd)(Q:Act→Own→Prop):Nat→Array Bool→Act→Own→Prop
 |0,listed,a,own=>Region.ready md ops listed= []∧Q a own
 |f+1,listed,a,own=>(Region.ready md ops listed= []→Q a own)∧∀i∈Region.ready md ops listed,q40 P ops W0 kd i (wpG P md ops W0 kd Q f (listed.setIfInBounds i true)) a own
theorem q0W{r:Option Nat}{m:Nat}{Q:Act→Own→Prop}{Q':Exit→Act→World→Prop}(hQ:∀a own w,St W0 own w→Q a own→Q' .normal a w):∀(f:Nat) (listed:Array Bool) (a:Act) (own:Own) (w:World),St W0 own w→
  wpG P md ops W0 kd Q f listed a own→wpAnyIn (WF r) m P md ops Q' f listed a w
 |0,_,_,_,_,hw,h=>⟨h.1,hQ _ _ _ hw h.2⟩
 |f+1,listed,a,own,w,hw,h=>⟨fun h0=>hQ _ _ _ hw (h.1 h0),fun i hi=>by
   have h1:=h.2 i hi;unfold q40 at h1;unfold wpOpIn
   split
   ·rename_i ho;simp only[ho] at h1;exact q0W hQ f _ a own w hw h1
   ·rename_i o ho;simp only[ho] at h1
    split
    ·rename_i hwant;simp only[hwant,if_true] at h1
     split at h1
     ·exact(h1 w hw).wp fun v w' ⟨hs,hk⟩=>q0W hQ f _ _ _ w' hs hk
     ·exact(h1 w hw).wp fun v w' ⟨e,hs,hk⟩=>q0W hQ f _ _ _ w' hs hk
     ·exact(h1 w hw).wp fun v w' ⟨own',hs,hk⟩=>q0W hQ f _ _ _ w' hs hk
    ·rename_i hwant;simp only[hwant] at h1;exact⟨fun _ _=>trivial,q0W hQ f _ _ own w hw h1⟩⟩
theorem qat{i:Nat}{K K':Act→Own→Prop}{a:Act}{own:Own}(h:∀a own,K a own→K' a own)(hh:q40 P ops W0 kd i K a own):q40 P ops W0 kd i K' a own:=by
 unfold q40 at*
 split
 ·rename_i ho;simp only[ho] at hh;exact h _ _ hh
 ·rename_i o ho;simp only[ho] at hh
  split
  ·rename_i hwant;simp only[hwant,if_true] at hh
   split at hh
   ·exact fun w hw=>(hh w hw).mono fun v w' ⟨h1,h2⟩=>⟨h1,h _ _ h2⟩
   ·exact fun w hw=>(hh w hw).mono fun v w' ⟨e,h1,h2⟩=>⟨e,h1,h _ _ h2⟩
   ·exact fun w hw=>(hh w hw).mono fun v w' ⟨e,h1,h2⟩=>⟨e,h1,h _ _ h2⟩
  ·rename_i hwant;simp only[hwant] at hh;exact h _ _ hh
def q29(P:Program)(ops:Array Oper)(W0:World)(V:Own→Prop)(o:Oper)(v:Value)(a:Act):Prop:=
 (Region.wanted o (yielded ops a.tmps)=true∧∀own,V own→∀w,St W0 own w→q1u P (fun u w'=>u=v∧St W0 own w') ((execOp a.eval o).run P w))∨
 (Region.wanted o (yielded ops a.tmps)=false∧v=undef)
theorem q29.step{V:Own→Prop}{i:Nat}{o:Oper}{v:Value}{a:Act}{own:Own}{K:Act→Own→Prop}(hi:ops[i]? =some o)(hk:kd i= .f)(hy:q29 P ops W0 V o v a)(hV:V own)(h:K (a.put o.dst v) own):
  q40 P ops W0 kd i K a own:=by
 unfold q40;simp only[hi,hk]
 rcases hy with ⟨hw,hv⟩|⟨hw,rfl⟩
 ·simp only[hw,if_true];exact fun w hs=>(hv own hV w hs).mono fun u w' ⟨hu,hs'⟩=>⟨hs',by rw[hu];exact h⟩
 ·simp only[hw,zO,if_false];exact h
theorem q29.same{V:Own→Prop}{o:Oper}{v:Value}{a a':Act}(hy:q29 P ops W0 V o v a)(he:execOp a'.eval o=execOp a.eval o)
  (hw:Region.wanted o (yielded ops a'.tmps)=Region.wanted o (yielded ops a.tmps)):q29 P ops W0 V o v a':=by
 unfold q29 at*;rw[he,hw];exact hy
theorem qbU{V:Own→Prop}{j:Nat}{oi oj:Oper}{v:Value}(hj:ops[j]? =some oj)(hap:oi.apart ops oj=true)
  (hsi:∀cs b,oi.op≠ .select cs b) (hsj:∀cs b,oj.op≠ .select cs b) {K:Act→Own→Prop} {a:Act} {own:Own}
  (hy:q29 P ops W0 V oi v a) (h:q40 P ops W0 kd j K (a.put oi.dst v) own):
  q40 P ops W0 kd j (fun a' own'=>q29 P ops W0 V oi v a'∧K (a'.put oi.dst v) own'∧(kd j= .m∨own'=own∨∃e,own'=e::own)) a own:=by
 obtain⟨h1,h2,h3⟩:=Oper.apart_spec hap;have keep:∀(a:Act),q29 P ops W0 V oi v a→∀u,q29 P ops W0 V oi v (a.put oj.dst u):=fun a hy u=>
  hy.same (execOp_put oi hsi a oj.dst u h3) (wanted_put oi a oj.dst u h3)
 unfold q40 at*;simp only[hj] at*;rw[wanted_put oj a oi.dst v h1] at h
 split
 ·rename_i hw;simp only[hw,if_true] at h;rw[execOp_put oj hsj a oi.dst v h1] at h;cases hkd:kd j <;>simp only[hkd] at h ⊢
  ·exact fun w hs=>(h w hs).mono fun u w' ⟨hs',hk⟩=>⟨hs',keep a hy u,by rw[←Act.put_comm a v u h2];exact hk,Y8⟩
  ·exact fun w hs=>(h w hs).mono fun u w' ⟨e,hs',hk⟩=>⟨e,hs',keep a hy u,by rw[←Act.put_comm a v u h2];exact hk,Y8⟩
  ·exact fun w hs=>(h w hs).mono fun u w' ⟨e,hs',hk⟩=>⟨e,hs',keep a hy u,by rw[←Act.put_comm a v u h2];exact hk,Y8⟩
 ·rename_i hw;simp only[hw] at h;exact⟨keep a hy _,by rw[←Act.put_comm a v undef h2];exact h,Y8⟩
def q2Y(md:Region.Mode)(ops:Array Oper)(listed:Array Bool):Prop:=
 ∀j oj,ops[j]? =some oj→listed.getD j false=true→∀e∈oj.after,Region.binds md e=true→listed.getD e.on false=true
theorem q2Y.start{m:Nat}:q2Y md ops (Array.replicate m false):=fun j oj _ hl=>by rw[getD_replicate_false'] at hl;cases hl
where getD_replicate_false' {m j:Nat}:(Array.replicate m false).getD j false=false:=by
        rcases yn j m with h|h <;>simp[h]
theorem q2Y.set{i:Nat}{listed:Array Bool}(inv:q2Y md ops listed)(hi:i∈Region.ready md ops listed):q2Y md ops (listed.setIfInBounds i true):=by
 obtain⟨_,oi,hoi,hall⟩:=mem_ready.1 hi;intro j oj hj hl e he hb
 by_cases hij:i=j
 ·subst hij;have:oj=oi:=Option.some.inj (hj.symm.trans hoi);subst this;exact getD_set_true (hall e he hb)
 ·rw[getD_set_ne false hij] at hl;exact getD_set_true (inv j oj hj hl e he hb)
def q7M(md:Region.Mode)(ops:Array Oper):Nat→Nat→Nat→Bool
 |0,_,_=>false
 |f+1,j,i=>match ops[j]? with
  |some oj=>(oj.after.any fun e=>Region.binds md e&&e.on==i)||(oj.after.any fun e=>Region.binds md e&&q7M md ops f e.on i)
  |none=>false
theorem q3Y{listed:Array Bool}(inv:q2Y md ops listed):∀(f j i:Nat),q7M md ops f j i=true→(∀oj,ops[j]? =some oj→∀e∈oj.after,Region.binds md e=true→listed.getD e.on false=true)→listed.getD i false=true
 |0,_,_,h,_=>by cases h
 |f+1,j,i,h,hl=>by
  unfold q7M at h
  split at h
  ·rename_i oj hj;simp only[ZB] at h
   rcases h with h|h
   ·obtain⟨e,he,hb⟩:=Array.any_eq_true'.1 h;simp only[zx,beq_iff_eq] at hb;rw[←hb.2];exact hl oj hj e he hb.1
   ·obtain⟨e,he,hb⟩:=Array.any_eq_true'.1 h;simp only[zx] at hb;exact q3Y inv f e.on i hb.2 fun oj' hj' e' he' hb'=>inv e.on oj' hj' (hl oj hj e he hb.1) e' he' hb'
  ·cases h
theorem q2t{listed:Array Bool}{i:Nat}(h:listed.getD i true=false):listed.getD i false=false:=by
 rcases yn i listed.size with h'|h'
 ·simp[h'] at h ⊢;exact h
 ·simp[Array.getElem?_eq_none h'] at h
theorem qdV{Q:Act→Own→Prop}{i:Nat}{oi:Oper}{v:Value}{tl:Bool}(hi:ops[i]? =some oi)(hk:kd i= .f)(hsel:∀(j:Nat) (o:Oper) cs b,ops[j]? =some o→o.op≠ .select cs b)
  {g:Nat} (V:Own→Prop) (hVn:∀e own,V own→V (e::own)) (hVt:tl=true→∀own,V own):
  ∀(f:Nat) (listed:Array Bool) (a:Act) (own:Own),q2Y md ops listed→(tl=false→∀j oj,ops[j]? =some oj→kd j= .m→listed.getD j false=true∨q7M md ops g j i=true)→
   (∀j oj,ops[j]? =some oj→j≠i→listed.getD j true=false→(∀e∈oj.after,Region.binds md e=true→e.on≠i)→oi.apart ops oj=true)→
   i∈Region.ready md ops listed→q29 P ops W0 V oi v a→V own→
   wpG P md ops W0 kd Q f (listed.setIfInBounds i true) (a.put oi.dst v) own→wpG P md ops W0 kd Q (f+1) listed a own:=by
 intro f
 induction f with
 |zero=>
  intro listed a own _ _ _ hr hy hV H;refine⟨fun h=>(by rw[h] at hr;cases hr),fun j hj=> ?_⟩
  by_cases hji:j=i
  ·subst hji;exact hy.step hi hk hV H
  ·have:=ready_mono hj hji;rw[H.1] at this;cases this
 |succ f ih=>
  intro listed a own inv htl hfree hr hy hV H;refine⟨fun h=>(by rw[h] at hr;cases hr),fun j hj=> ?_⟩
  by_cases hji:j=i
  ·subst hji;exact hy.step hi hk hV H
  ·have h1:=H.2 j (ready_mono hj hji);obtain⟨hjun,oj,hoj,hall⟩:=mem_ready.1 hj;have hun:=(mem_ready.1 hr).1;have hnot:∀e∈oj.after,Region.binds md e=true→e.on≠i:=fun e he hb heq=>by
    have h1:=hall e he hb;rw[heq,q2t hun] at h1;cases h1
   have hm:tl=false→kd j≠ .m:=fun ht hm=>by
    rcases htl ht j oj hoj hm with hl|hl
    ·rw[q2t hjun] at hl;cases hl
    ·have:=q3Y inv g j i hl fun oj' hoj' e he hb=>by
      have:oj'=oj:=Option.some.inj (hoj'.symm.trans hoj);subst this;exact hall e he hb
     rw[q2t hun] at this;cases this
   have h2:=qbU hoj (hfree j oj hoj hji hjun hnot) (fun cs b=>hsel i oi cs b hi) (fun cs b=>hsel j oj cs b hoj) hy h1;have hfree':∀k ok,ops[k]? =some ok→k≠i→(listed.setIfInBounds j true).getD k true=false→
     (∀e∈ok.after,Region.binds md e=true→e.on≠i)→oi.apart ops ok=true:=fun k ok hk hki hun hno=>by
    refine hfree k ok hk hki ?_ hno
    by_cases hjk:j=k
    ·subst hjk;exact hjun
    ·rw[getD_set_ne true hjk] at hun;exact hun
   refine qat (fun a' own' h3=>ih (listed.setIfInBounds j true) a' own' (inv.set hj) (fun ht k ok hk hm=>(htl ht k ok hk hm).imp getD_set_true id) hfree' (ready_mono hr (Ne.symm hji)) h3.1 ?_ ?_) h2
   ·rcases h3.2.2 with h|rfl|⟨e,rfl⟩
    ·cases ht:tl with
     |false=>exact absurd h (hm ht)
     |true=>exact hVt ht _
    ·exact hV
    ·exact hVn e own hV
   ·rw[Array.setIfInBounds_comm _ _ hji];exact h3.2.1
end
end Go.Proofs.YtbhbldllneadeaaGreatDoor
