/- What the laws share, part 2. No condition. -/
import Derived.Deep.Quiet
import Derived.OrdersIn
import Derived.TacticsIn
import Derived.RangeFuncCalls
import Derived.Test.YtikpjajangpdjaaGreatDoorQ1
namespace Go.Proofs.YtikpjajangpdjaaGreatDoor
open Go
abbrev jh:=Array Value
def q1N(P:Program)(R:Value->World->Prop):Result Next->Prop
 | .ok (.value u) a=>R u a
 | .ok .skip a=>R undef a
 | .ok (.enter k args) a=>Calls P k args a fun e b=>∃v,e= .returned v/\R v b
 | .ok (.round l k tmps assign body) a=>RoundIn Fence.wide 0 P l k tmps assign body a fun e b=>∃v,e= .returned v/\R v b
 |_=>False
theorem q1N.mono{P:Program}{R d:Value->World->Prop}(h:∀v w,R v w->d v w):∀{r:Result Next},q1N P R r->q1N P d r:=by
 intro r a;unfold q1N at*
 split <;>simp only at a
 ·exact h _ _ a
 ·exact h _ _ a
 ·exact a.mono fun e c ⟨v,he,b⟩=>⟨v,he,h _ _ b⟩
 ·exact a.mono fun e c ⟨v,he,b⟩=>⟨v,he,h _ _ b⟩
abbrev WF(r:Option Nat):Fence:={Fence.wide with round:=r}
theorem q73{P:Program}{r:Option Nat}{m:Nat}{k:FuncId}{args:jh}{w:World}{R:Ending->World->Prop}(h:Calls P k args w R):CallsIn (WF r) m P k args w R:=by
 cases r with
 |none=>exact callsIn_wide.2 h
 |some l=>exact CallsIn.inRound l (callsIn_wide.2 h)
theorem q7g{P:Program}{r:Option Nat}{m l:Nat}{k:FuncId}{tmps:jh}{assign body:Code}{w:World}{R:Ending->World->Prop}(h:RoundIn Fence.wide 0 P l k tmps assign body w R):RoundIn (WF r) m P l k tmps assign body w R:=
 ⟨trivial,fun c cs _=>h.2 c cs (fun _ h=>by cases h)⟩
theorem qck{P:Program}{o:Oper}{ρ:Operand->Value}{w:World}{r:Option Nat}(h:∀d a,(execOp ρ o).run P w≠ .ok (.defer d) a)(b:∀x a,(execOp ρ o).run P w≠ .halt x a):(o.semAt r ρ).run P w=(execOp ρ o).run P w:=by
 by_cases hd:∃c,o.op= .defer c
 ·obtain⟨c,e⟩:=hd;exfalso;have he:execOp ρ o=(do pure (.defer (<-resolve ρ c o.type))):=by unfold execOp;rw[e]
  rw[he] at h b;simp only[Sem.run_bind] at h b;cases f:(resolve ρ c o.type).run P w with
  |ok d a=>rw[f] at h;exact h d a rfl
  |halt x a=>rw[f] at b;exact b x a rfl
 ·rw[Oper.semAt_eq _ _ _ (fun c e=>hd ⟨c,e⟩)]
theorem q1N.wp{P:Program}{o:Oper}{a:Act}{w:World}{R:Value->World->Prop}{next:Act->World->Prop}{Q:Exit->Act->World->Prop}{r:Option Nat}{m:Nat}(h:q1N P R ((execOp a.eval o).run P w))
  (b:∀v c,R v c->next (a.put o.dst v) c):o.wpIn (WF r) m P a w next Q:=by
 unfold Oper.wpIn;refine⟨fun _ _=>trivial,?_⟩;rw[qck (fun d c e=>by rw[e] at h;exact h.elim) (fun x c e=>by rw[e] at h;exact h.elim)];generalize (execOp a.eval o).run P w=q at h;unfold q1N at h
 split at h
 ·exact b _ _ h
 ·exact b _ _ h
 ·rw[Oper.uponIn_enter];refine⟨fun h=>(by cases h),q73 ?_⟩;exact h.mono fun e g ⟨v,he,f⟩=>by subst he;exact b _ _ f
 ·rw[Oper.uponIn_round];refine⟨fun h=>(by cases h),q7g ?_⟩;exact h.mono fun e g ⟨v,he,f⟩=>by subst he;exact b _ _ f
 ·exact h.elim
inductive Kd
 |f|n|m
section
variable{P:Program}{W0:World}{md:Region.Mode}{ops:Array Oper}{kd:Nat->Kd}
def q53(P:Program)(ops:Array Oper)(W0:World)(kd:Nat->Kd)(i:Nat)(K:Act->Own->Prop)(a:Act)(own:Own):Prop:=
 match ops[i]? with
 |none=>K a own
 |some o=>if Region.wanted o (yielded ops a.tmps) then
   match kd i with
   | .f=>∀w,St W0 own w->q1N P (fun u b=>St W0 own b/\K (a.put o.dst u) own) ((execOp a.eval o).run P w)
   | .n=>∀w,St W0 own w->q1N P (fun u b=>∃e,St W0 (e::own) b/\K (a.put o.dst u) (e::own)) ((execOp a.eval o).run P w)
   | .m=>∀w,St W0 own w->q1N P (fun u b=>∃own',St W0 own' b/\K (a.put o.dst u) own') ((execOp a.eval o).run P w)
  else K (a.put o.dst undef) own
def wpG(P:Program)(md:Region.Mode)(ops:Array Oper)(W0:World)(kd:Nat->Kd)(Q:Act->Own->Prop):Nat->Array Bool->Act->Own->Prop
 |0,listed,a,own=>Region.ready md ops listed= []/\Q a own
 |f+1,listed,a,own=>(Region.ready md ops listed= []->Q a own)/\∀i∈Region.ready md ops listed,q53 P ops W0 kd i (wpG P md ops W0 kd Q f (listed.setIfInBounds i true)) a own
theorem q1d{r:Option Nat}{m:Nat}{Q:Act->Own->Prop}{n:Exit->Act->World->Prop}(d:∀a own w,St W0 own w->Q a own->n .normal a w):∀(f:Nat) (listed:Array Bool) (a:Act) (own:Own) (w:World),St W0 own w->
  wpG P md ops W0 kd Q f listed a own->wpAnyIn (WF r) m P md ops n f listed a w
 |0,_,_,_,_,hw,h=>⟨h.1,d _ _ _ hw h.2⟩
 |f+1,listed,a,own,w,hw,h=>⟨fun p=>d _ _ _ hw (h.1 p),fun i q=>by
   have c:=h.2 i q;unfold q53 at c;unfold wpOpIn
   split
   ·rename_i l;simp only[l] at c;exact q1d d f _ a own w hw c
   ·rename_i o l;simp only[l] at c
    split
    ·rename_i b;simp only[b,if_true] at c
     split at c
     ·exact(c w hw).wp fun v k ⟨j,g⟩=>q1d d f _ _ _ k j g
     ·exact(c w hw).wp fun v k ⟨e,j,g⟩=>q1d d f _ _ _ k j g
     ·exact(c w hw).wp fun v k ⟨own',j,g⟩=>q1d d f _ _ _ k j g
    ·rename_i b;simp only[b] at c;exact⟨fun _ _=>trivial,q1d d f _ _ own w hw c⟩⟩
theorem qd3{i:Nat}{K j:Act->Own->Prop}{a:Act}{own:Own}(h:∀a own,K a own->j a own)(c:q53 P ops W0 kd i K a own):q53 P ops W0 kd i j a own:=by
 unfold q53 at*
 split
 ·rename_i g;simp only[g] at c;exact h _ _ c
 ·rename_i o g;simp only[g] at c
  split
  ·rename_i b;simp only[b,if_true] at c
   split at c
   ·exact fun w hw=>(c w hw).mono fun v k ⟨d,f⟩=>⟨d,h _ _ f⟩
   ·exact fun w hw=>(c w hw).mono fun v k ⟨e,d,f⟩=>⟨e,d,h _ _ f⟩
   ·exact fun w hw=>(c w hw).mono fun v k ⟨e,d,f⟩=>⟨e,d,h _ _ f⟩
  ·rename_i b;simp only[b] at c;exact h _ _ c
def q2z(P:Program)(ops:Array Oper)(W0:World)(V:Own->Prop)(o:Oper)(v:Value)(a:Act):Prop:=
 (Region.wanted o (yielded ops a.tmps)=true/\∀own,V own->∀w,St W0 own w->q1N P (fun u b=>u=v/\St W0 own b) ((execOp a.eval o).run P w))\/
 (Region.wanted o (yielded ops a.tmps)=false/\v=undef)
theorem q2z.step{V:Own->Prop}{i:Nat}{o:Oper}{v:Value}{a:Act}{own:Own}{K:Act->Own->Prop}(d:ops[i]? =some o)(e:kd i= .f)(j:q2z P ops W0 V o v a)(c:V own)(h:K (a.put o.dst v) own):
  q53 P ops W0 kd i K a own:=by
 unfold q53;simp only[d,e]
 rcases j with ⟨hw,g⟩|⟨hw,rfl⟩
 ·simp only[hw,if_true];exact fun w f=>(g own c w f).mono fun u w' ⟨hu,b⟩=>⟨b,by rw[hu];exact h⟩
 ·simp only[hw,zL,if_false];exact h
theorem q2z.same{V:Own->Prop}{o:Oper}{v:Value}{a b:Act}(c:q2z P ops W0 V o v a)(he:execOp b.eval o=execOp a.eval o)
  (hw:Region.wanted o (yielded ops b.tmps)=Region.wanted o (yielded ops a.tmps)):q2z P ops W0 V o v b:=by
 unfold q2z at*;rw[he,hw];exact c
theorem qf4{V:Own->Prop}{j:Nat}{c f:Oper}{v:Value}(x:ops[j]? =some f)(m:c.apart ops f=true)
  (o:∀cs b,c.op≠ .select cs b) (p:∀cs b,f.op≠ .select cs b) {K:Act->Own->Prop} {a:Act} {own:Own}
  (g:q2z P ops W0 V c v a) (h:q53 P ops W0 kd j K (a.put c.dst v) own):
  q53 P ops W0 kd j (fun q own'=>q2z P ops W0 V c v q/\K (q.put c.dst v) own'/\(kd j= .m\/own'=own\/∃e,own'=e::own)) a own:=by
 obtain⟨r,l,s⟩:=Oper.apart_spec m;have keep:∀(a:Act),q2z P ops W0 V c v a->∀u,q2z P ops W0 V c v (a.put f.dst u):=fun a g u=>
  g.same (execOp_put c o a f.dst u s) (wanted_put c a f.dst u s)
 unfold q53 at*;simp only[x] at*;rw[wanted_put f a c.dst v r] at h
 split
 ·rename_i hw;simp only[hw,if_true] at h;rw[execOp_put f p a c.dst v r] at h;cases n:kd j <;>simp only[n] at h ⊢
  ·exact fun w k=>(h w k).mono fun u t ⟨d,i⟩=>⟨d,keep a g u,by rw[<-Act.put_comm a v u l];exact i,Yw⟩
  ·exact fun w k=>(h w k).mono fun u t ⟨e,d,i⟩=>⟨e,d,keep a g u,by rw[<-Act.put_comm a v u l];exact i,Yw⟩
  ·exact fun w k=>(h w k).mono fun u t ⟨e,d,i⟩=>⟨e,d,keep a g u,by rw[<-Act.put_comm a v u l];exact i,Yw⟩
 ·rename_i hw;simp only[hw] at h;exact⟨keep a g _,by rw[<-Act.put_comm a v undef l];exact h,Yw⟩
def q3J(md:Region.Mode)(ops:Array Oper)(listed:Array Bool):Prop:=
 ∀j a,ops[j]? =some a->listed.getD j false=true->∀e∈a.after,Region.binds md e=true->listed.getD e.on false=true
theorem q3J.start{m:Nat}:q3J md ops (Array.replicate m false):=fun j oj _ a=>by rw[getD_replicate_false'] at a;cases a
where getD_replicate_false' {m j:Nat}:(Array.replicate m false).getD j false=false:=by
        rcases yJ j m with h|h <;>simp[h]
theorem q3J.set{i:Nat}{listed:Array Bool}(inv:q3J md ops listed)(h:i∈Region.ready md ops listed):q3J md ops (listed.setIfInBounds i true):=by
 obtain⟨_,k,c,a⟩:=mem_ready.1 h;intro j g d f e he hb
 by_cases b:i=j
 ·subst b;have:g=k:=Option.some.inj (d.symm.trans c);subst this;exact getD_set_true (a e he hb)
 ·rw[getD_set_ne false b] at f;exact getD_set_true (inv j g d f e he hb)
def q9Q(md:Region.Mode)(ops:Array Oper):Nat->Nat->Nat->Bool
 |0,_,_=>false
 |f+1,j,i=>match ops[j]? with
  |some a=>(a.after.any fun e=>Region.binds md e&&e.on==i)||(a.after.any fun e=>Region.binds md e&&q9Q md ops f e.on i)
  |none=>false
theorem q4Z{listed:Array Bool}(inv:q3J md ops listed):∀(f j i:Nat),q9Q md ops f j i=true->(∀a,ops[j]? =some a->∀e∈a.after,Region.binds md e=true->listed.getD e.on false=true)->listed.getD i false=true
 |0,_,_,h,_=>by cases h
 |f+1,j,i,h,l=>by
  unfold q9Q at h
  split at h
  ·rename_i a k;simp only[Zd] at h
   rcases h with h|h
   ·obtain⟨e,he,hb⟩:=Array.any_eq_true'.1 h;simp only[zu,beq_iff_eq] at hb;rw[<-hb.2];exact l a k e he hb.1
   ·obtain⟨e,he,hb⟩:=Array.any_eq_true'.1 h;simp only[zu] at hb;exact q4Z inv f e.on i hb.2 fun g d e' c b=>inv e.on g d (l a k e he hb.1) e' c b
  ·cases h
theorem q39{listed:Array Bool}{i:Nat}(h:listed.getD i true=false):listed.getD i false=false:=by
 rcases yJ i listed.size with a|a
 ·simp[a] at h ⊢;exact h
 ·simp[Array.getElem?_eq_none a] at h
theorem qhm{Q:Act->Own->Prop}{i:Nat}{x:Oper}{v:Value}{tl:Bool}(L:ops[i]? =some x)(u:kd i= .f)(s:∀(j:Nat) (o:Oper) cs b,ops[j]? =some o->o.op≠ .select cs b)
  {g:Nat} (V:Own->Prop) (J:∀e own,V own->V (e::own)) (K:tl=true->∀own,V own):
  ∀(f:Nat) (listed:Array Bool) (a:Act) (own:Own),q3J md ops listed->(tl=false->∀j p,ops[j]? =some p->kd j= .m->listed.getD j false=true\/q9Q md ops g j i=true)->
   (∀j p,ops[j]? =some p->j≠i->listed.getD j true=false->(∀e∈p.after,Region.binds md e=true->e.on≠i)->x.apart ops p=true)->
   i∈Region.ready md ops listed->q2z P ops W0 V x v a->V own->
   wpG P md ops W0 kd Q f (listed.setIfInBounds i true) (a.put x.dst v) own->wpG P md ops W0 kd Q (f+1) listed a own:=by
 intro f
 induction f with
 |zero=>
  intro listed a own _ _ _ t G y H;refine⟨fun h=>(by rw[h] at t;cases t),fun j z=>?_⟩
  by_cases c:j=i
  ·subst c;exact G.step L u y H
  ·have:=ready_mono z c;rw[H.1] at this;cases this
 |succ f T=>
  intro listed a own inv D d t G y H;refine⟨fun h=>(by rw[h] at t;cases t),fun j z=>?_⟩
  by_cases c:j=i
  ·subst c;exact G.step L u y H
  ·have E:=H.2 j (ready_mono z c);obtain⟨l,p,m,r⟩:=mem_ready.1 z;have n:=(mem_ready.1 t).1;have B:∀e∈p.after,Region.binds md e=true->e.on≠i:=fun e he hb heq=>by
    have E:=r e he hb;rw[heq,q39 n] at E;cases E
   have hm:tl=false->kd j≠ .m:=fun w hm=>by
    rcases D w j p m hm with F|F
    ·rw[q39 l] at F;cases F
    ·have:=q4Z inv g j i F fun O C e he hb=>by
      have:O=p:=Option.some.inj (C.symm.trans m);subst this;exact r e he hb
     rw[q39 n] at this;cases this
   have S:=qf4 m (d j p m c l B) (fun cs b=>s i x cs b L) (fun cs b=>s j p cs b m) G E;have q:∀k ok,ops[k]? =some ok->k≠i->(listed.setIfInBounds j true).getD k true=false->
     (∀e∈ok.after,Region.binds md e=true->e.on≠i)->x.apart ops ok=true:=fun k ok u M n N=>by
    refine d k ok u M ?_ N
    by_cases A:j=k
    ·subst A;exact l
    ·rw[getD_set_ne true A] at n;exact n
   refine qd3 (fun R own' I=>T (listed.setIfInBounds j true) R own' (inv.set z) (fun w k ok u hm=>(D w k ok u hm).imp getD_set_true id) q (ready_mono t (Ne.symm c)) I.1 ?_ ?_) S
   ·rcases I.2.2 with h|rfl|⟨e,rfl⟩
    ·cases w:tl with
     |false=>exact absurd h (hm w)
     |true=>exact K w _
    ·exact y
    ·exact J e own y
   ·rw[Array.setIfInBounds_comm _ _ c];exact I.2.1
end
end Go.Proofs.YtikpjajangpdjaaGreatDoor
