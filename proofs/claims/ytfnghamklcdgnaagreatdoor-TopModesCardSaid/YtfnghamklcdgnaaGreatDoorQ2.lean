/- What the laws share, part 2. No condition. -/
import Derived.Deep.Quiet
import Derived.OrdersIn
import Derived.TacticsIn
import Derived.RangeFuncCalls
import Derived.Test.YtfnghamklcdgnaaGreatDoorQ1
namespace Go.Proofs.YtfnghamklcdgnaaGreatDoor
open Go
abbrev jg:=Array Value
def q1L(P:Program)(R:Value->World->Prop):Result Next->Prop
 | .ok (.value u) a=>R u a
 | .ok .skip a=>R undef a
 | .ok (.enter k args) a=>Calls P k args a fun e b=>∃v,e= .returned v/\R v b
 | .ok (.round l k tmps assign body) a=>RoundIn Fence.wide 0 P l k tmps assign body a fun e b=>∃v,e= .returned v/\R v b
 |_=>False
theorem q1L.mono{P:Program}{R d:Value->World->Prop}(h:∀v w,R v w->d v w):∀{r:Result Next},q1L P R r->q1L P d r:=by
 intro r a;unfold q1L at*
 split <;>simp only at a
 ·exact h _ _ a
 ·exact h _ _ a
 ·exact a.mono fun e c ⟨v,he,b⟩=>⟨v,he,h _ _ b⟩
 ·exact a.mono fun e c ⟨v,he,b⟩=>⟨v,he,h _ _ b⟩
abbrev WF(r:Option Nat):Fence:={Fence.wide with round:=r}
theorem q65{P:Program}{r:Option Nat}{m:Nat}{k:FuncId}{args:jg}{w:World}{R:Ending->World->Prop}(h:Calls P k args w R):CallsIn (WF r) m P k args w R:=by
 cases r with
 |none=>exact callsIn_wide.2 h
 |some l=>exact CallsIn.inRound l (callsIn_wide.2 h)
theorem q6b{P:Program}{r:Option Nat}{m l:Nat}{k:FuncId}{tmps:jg}{assign body:Code}{w:World}{R:Ending->World->Prop}(h:RoundIn Fence.wide 0 P l k tmps assign body w R):RoundIn (WF r) m P l k tmps assign body w R:=
 ⟨trivial,fun c cs _=>h.2 c cs (fun _ h=>by cases h)⟩
theorem qaF{P:Program}{o:Oper}{ρ:Operand->Value}{w:World}{r:Option Nat}(h:∀d a,(execOp ρ o).run P w≠ .ok (.defer d) a)(b:∀x a,(execOp ρ o).run P w≠ .halt x a):(o.semAt r ρ).run P w=(execOp ρ o).run P w:=by
 by_cases hd:∃c,o.op= .defer c
 ·obtain⟨c,e⟩:=hd;exfalso;have he:execOp ρ o=(do pure (.defer (<-resolve ρ c o.type))):=by unfold execOp;rw[e]
  rw[he] at h b;simp only[Sem.run_bind] at h b;cases f:(resolve ρ c o.type).run P w with
  |ok d a=>rw[f] at h;exact h d a rfl
  |halt x a=>rw[f] at b;exact b x a rfl
 ·rw[Oper.semAt_eq _ _ _ (fun c e=>hd ⟨c,e⟩)]
theorem q1L.wp{P:Program}{o:Oper}{a:Act}{w:World}{R:Value->World->Prop}{next:Act->World->Prop}{Q:Exit->Act->World->Prop}{r:Option Nat}{m:Nat}(h:q1L P R ((execOp a.eval o).run P w))
  (b:∀v c,R v c->next (a.put o.dst v) c):o.wpIn (WF r) m P a w next Q:=by
 unfold Oper.wpIn;refine⟨fun _ _=>trivial,?_⟩;rw[qaF (fun d c e=>by rw[e] at h;exact h.elim) (fun x c e=>by rw[e] at h;exact h.elim)];generalize (execOp a.eval o).run P w=q at h;unfold q1L at h
 split at h
 ·exact b _ _ h
 ·exact b _ _ h
 ·rw[Oper.uponIn_enter];refine⟨fun h=>(by cases h),q65 ?_⟩;exact h.mono fun e g ⟨v,he,f⟩=>by subst he;exact b _ _ f
 ·rw[Oper.uponIn_round];refine⟨fun h=>(by cases h),q6b ?_⟩;exact h.mono fun e g ⟨v,he,f⟩=>by subst he;exact b _ _ f
 ·exact h.elim
inductive Kd
 |f|n|m
section
variable{P:Program}{W0:World}{md:Region.Mode}{ops:Array Oper}{kd:Nat->Kd}
def q4t(P:Program)(ops:Array Oper)(W0:World)(kd:Nat->Kd)(i:Nat)(K:Act->Own->Prop)(a:Act)(own:Own):Prop:=
 match ops[i]? with
 |none=>K a own
 |some o=>if Region.wanted o (yielded ops a.tmps) then
   match kd i with
   | .f=>∀w,St W0 own w->q1L P (fun u b=>St W0 own b/\K (a.put o.dst u) own) ((execOp a.eval o).run P w)
   | .n=>∀w,St W0 own w->q1L P (fun u b=>∃e,St W0 (e::own) b/\K (a.put o.dst u) (e::own)) ((execOp a.eval o).run P w)
   | .m=>∀w,St W0 own w->q1L P (fun u b=>∃own',St W0 own' b/\K (a.put o.dst u) own') ((execOp a.eval o).run P w)
  else K (a.put o.dst undef) own
def wpG(P:Program)(md:Region.Mode)(ops:Array Oper)(W0:World)(kd:Nat->Kd)(Q:Act->Own->Prop):Nat->Array Bool->Act->Own->Prop
 |0,listed,a,own=>Region.ready md ops listed= []/\Q a own
 |f+1,listed,a,own=>(Region.ready md ops listed= []->Q a own)/\∀i∈Region.ready md ops listed,q4t P ops W0 kd i (wpG P md ops W0 kd Q f (listed.setIfInBounds i true)) a own
theorem q1a{r:Option Nat}{m:Nat}{Q:Act->Own->Prop}{n:Exit->Act->World->Prop}(d:∀a own w,St W0 own w->Q a own->n .normal a w):∀(f:Nat) (listed:Array Bool) (a:Act) (own:Own) (w:World),St W0 own w->
  wpG P md ops W0 kd Q f listed a own->wpAnyIn (WF r) m P md ops n f listed a w
 |0,_,_,_,_,hw,h=>⟨h.1,d _ _ _ hw h.2⟩
 |f+1,listed,a,own,w,hw,h=>⟨fun p=>d _ _ _ hw (h.1 p),fun i hi=>by
   have c:=h.2 i hi;unfold q4t at c;unfold wpOpIn
   split
   ·rename_i l;simp only[l] at c;exact q1a d f _ a own w hw c
   ·rename_i o l;simp only[l] at c
    split
    ·rename_i b;simp only[b,if_true] at c
     split at c
     ·exact(c w hw).wp fun v k ⟨j,g⟩=>q1a d f _ _ _ k j g
     ·exact(c w hw).wp fun v k ⟨e,j,g⟩=>q1a d f _ _ _ k j g
     ·exact(c w hw).wp fun v k ⟨own',j,g⟩=>q1a d f _ _ _ k j g
    ·rename_i b;simp only[b] at c;exact⟨fun _ _=>trivial,q1a d f _ _ own w hw c⟩⟩
theorem qbg{i:Nat}{K j:Act->Own->Prop}{a:Act}{own:Own}(h:∀a own,K a own->j a own)(c:q4t P ops W0 kd i K a own):q4t P ops W0 kd i j a own:=by
 unfold q4t at*
 split
 ·rename_i g;simp only[g] at c;exact h _ _ c
 ·rename_i o g;simp only[g] at c
  split
  ·rename_i b;simp only[b,if_true] at c
   split at c
   ·exact fun w hw=>(c w hw).mono fun v k ⟨d,f⟩=>⟨d,h _ _ f⟩
   ·exact fun w hw=>(c w hw).mono fun v k ⟨e,d,f⟩=>⟨e,d,h _ _ f⟩
   ·exact fun w hw=>(c w hw).mono fun v k ⟨e,d,f⟩=>⟨e,d,h _ _ f⟩
  ·rename_i b;simp only[b] at c;exact h _ _ c
def q2h(P:Program)(ops:Array Oper)(W0:World)(V:Own->Prop)(o:Oper)(v:Value)(a:Act):Prop:=
 (Region.wanted o (yielded ops a.tmps)=true/\∀own,V own->∀w,St W0 own w->q1L P (fun u b=>u=v/\St W0 own b) ((execOp a.eval o).run P w))\/
 (Region.wanted o (yielded ops a.tmps)=false/\v=undef)
theorem q2h.step{V:Own->Prop}{i:Nat}{o:Oper}{v:Value}{a:Act}{own:Own}{K:Act->Own->Prop}(hi:ops[i]? =some o)(d:kd i= .f)(g:q2h P ops W0 V o v a)(c:V own)(h:K (a.put o.dst v) own):
  q4t P ops W0 kd i K a own:=by
 unfold q4t;simp only[hi,d]
 rcases g with ⟨hw,f⟩|⟨hw,rfl⟩
 ·simp only[hw,if_true];exact fun w e=>(f own c w e).mono fun u w' ⟨hu,b⟩=>⟨b,by rw[hu];exact h⟩
 ·simp only[hw,zV,if_false];exact h
theorem q2h.same{V:Own->Prop}{o:Oper}{v:Value}{a b:Act}(c:q2h P ops W0 V o v a)(he:execOp b.eval o=execOp a.eval o)
  (hw:Region.wanted o (yielded ops b.tmps)=Region.wanted o (yielded ops a.tmps)):q2h P ops W0 V o v b:=by
 unfold q2h at*;rw[he,hw];exact c
theorem qcX{V:Own->Prop}{j:Nat}{c f:Oper}{v:Value}(x:ops[j]? =some f)(m:c.apart ops f=true)
  (o:∀cs b,c.op≠ .select cs b) (p:∀cs b,f.op≠ .select cs b) {K:Act->Own->Prop} {a:Act} {own:Own}
  (g:q2h P ops W0 V c v a) (h:q4t P ops W0 kd j K (a.put c.dst v) own):
  q4t P ops W0 kd j (fun q own'=>q2h P ops W0 V c v q/\K (q.put c.dst v) own'/\(kd j= .m\/own'=own\/∃e,own'=e::own)) a own:=by
 obtain⟨r,l,s⟩:=Oper.apart_spec m;have keep:∀(a:Act),q2h P ops W0 V c v a->∀u,q2h P ops W0 V c v (a.put f.dst u):=fun a g u=>
  g.same (execOp_put c o a f.dst u s) (wanted_put c a f.dst u s)
 unfold q4t at*;simp only[x] at*;rw[wanted_put f a c.dst v r] at h
 split
 ·rename_i hw;simp only[hw,if_true] at h;rw[execOp_put f p a c.dst v r] at h;cases n:kd j <;>simp only[n] at h ⊢
  ·exact fun w k=>(h w k).mono fun u t ⟨d,i⟩=>⟨d,keep a g u,by rw[<-Act.put_comm a v u l];exact i,Yd⟩
  ·exact fun w k=>(h w k).mono fun u t ⟨e,d,i⟩=>⟨e,d,keep a g u,by rw[<-Act.put_comm a v u l];exact i,Yd⟩
  ·exact fun w k=>(h w k).mono fun u t ⟨e,d,i⟩=>⟨e,d,keep a g u,by rw[<-Act.put_comm a v u l];exact i,Yd⟩
 ·rename_i hw;simp only[hw] at h;exact⟨keep a g _,by rw[<-Act.put_comm a v undef l];exact h,Yd⟩
def q3k(md:Region.Mode)(ops:Array Oper)(listed:Array Bool):Prop:=
 ∀j a,ops[j]? =some a->listed.getD j false=true->∀e∈a.after,Region.binds md e=true->listed.getD e.on false=true
theorem q3k.start{m:Nat}:q3k md ops (Array.replicate m false):=fun j oj _ a=>by rw[getD_replicate_false'] at a;cases a
where getD_replicate_false' {m j:Nat}:(Array.replicate m false).getD j false=false:=by
        rcases yP j m with h|h <;>simp[h]
theorem q3k.set{i:Nat}{listed:Array Bool}(inv:q3k md ops listed)(hi:i∈Region.ready md ops listed):q3k md ops (listed.setIfInBounds i true):=by
 obtain⟨_,h,c,a⟩:=mem_ready.1 hi;intro j g d f e he hb
 by_cases b:i=j
 ·subst b;have:g=h:=Option.some.inj (d.symm.trans c);subst this;exact getD_set_true (a e he hb)
 ·rw[getD_set_ne false b] at f;exact getD_set_true (inv j g d f e he hb)
def q8s(md:Region.Mode)(ops:Array Oper):Nat->Nat->Nat->Bool
 |0,_,_=>false
 |f+1,j,i=>match ops[j]? with
  |some a=>(a.after.any fun e=>Region.binds md e&&e.on==i)||(a.after.any fun e=>Region.binds md e&&q8s md ops f e.on i)
  |none=>false
theorem q4p{listed:Array Bool}(inv:q3k md ops listed):∀(f j i:Nat),q8s md ops f j i=true->(∀a,ops[j]? =some a->∀e∈a.after,Region.binds md e=true->listed.getD e.on false=true)->listed.getD i false=true
 |0,_,_,h,_=>by cases h
 |f+1,j,i,h,l=>by
  unfold q8s at h
  split at h
  ·rename_i a k;simp only[yd] at h
   rcases h with h|h
   ·obtain⟨e,he,hb⟩:=Array.any_eq_true'.1 h;simp only[zH,beq_iff_eq] at hb;rw[<-hb.2];exact l a k e he hb.1
   ·obtain⟨e,he,hb⟩:=Array.any_eq_true'.1 h;simp only[zH] at hb;exact q4p inv f e.on i hb.2 fun g d e' c b=>inv e.on g d (l a k e he hb.1) e' c b
  ·cases h
theorem q2F{listed:Array Bool}{i:Nat}(h:listed.getD i true=false):listed.getD i false=false:=by
 rcases yP i listed.size with a|a
 ·simp[a] at h ⊢;exact h
 ·simp[Array.getElem?_eq_none a] at h
theorem qf3{Q:Act->Own->Prop}{i:Nat}{x:Oper}{v:Value}{tl:Bool}(hi:ops[i]? =some x)(u:kd i= .f)(s:∀(j:Nat) (o:Oper) cs b,ops[j]? =some o->o.op≠ .select cs b)
  {g:Nat} (V:Own->Prop) (J:∀e own,V own->V (e::own)) (K:tl=true->∀own,V own):
  ∀(f:Nat) (listed:Array Bool) (a:Act) (own:Own),q3k md ops listed->(tl=false->∀j p,ops[j]? =some p->kd j= .m->listed.getD j false=true\/q8s md ops g j i=true)->
   (∀j p,ops[j]? =some p->j≠i->listed.getD j true=false->(∀e∈p.after,Region.binds md e=true->e.on≠i)->x.apart ops p=true)->
   i∈Region.ready md ops listed->q2h P ops W0 V x v a->V own->
   wpG P md ops W0 kd Q f (listed.setIfInBounds i true) (a.put x.dst v) own->wpG P md ops W0 kd Q (f+1) listed a own:=by
 intro f
 induction f with
 |zero=>
  intro listed a own _ _ _ t G y H;refine⟨fun h=>(by rw[h] at t;cases t),fun j z=>?_⟩
  by_cases c:j=i
  ·subst c;exact G.step hi u y H
  ·have:=ready_mono z c;rw[H.1] at this;cases this
 |succ f S=>
  intro listed a own inv D d t G y H;refine⟨fun h=>(by rw[h] at t;cases t),fun j z=>?_⟩
  by_cases c:j=i
  ·subst c;exact G.step hi u y H
  ·have E:=H.2 j (ready_mono z c);obtain⟨l,p,m,r⟩:=mem_ready.1 z;have n:=(mem_ready.1 t).1;have B:∀e∈p.after,Region.binds md e=true->e.on≠i:=fun e he hb heq=>by
    have E:=r e he hb;rw[heq,q2F n] at E;cases E
   have hm:tl=false->kd j≠ .m:=fun w hm=>by
    rcases D w j p m hm with F|F
    ·rw[q2F l] at F;cases F
    ·have:=q4p inv g j i F fun N C e he hb=>by
      have:N=p:=Option.some.inj (C.symm.trans m);subst this;exact r e he hb
     rw[q2F n] at this;cases this
   have R:=qcX m (d j p m c l B) (fun cs b=>s i x cs b hi) (fun cs b=>s j p cs b m) G E;have q:∀k ok,ops[k]? =some ok->k≠i->(listed.setIfInBounds j true).getD k true=false->
     (∀e∈ok.after,Region.binds md e=true->e.on≠i)->x.apart ops ok=true:=fun k ok u L n M=>by
    refine d k ok u L ?_ M
    by_cases A:j=k
    ·subst A;exact l
    ·rw[getD_set_ne true A] at n;exact n
   refine qbg (fun O own' I=>S (listed.setIfInBounds j true) O own' (inv.set z) (fun w k ok u hm=>(D w k ok u hm).imp getD_set_true id) q (ready_mono t (Ne.symm c)) I.1 ?_ ?_) R
   ·rcases I.2.2 with h|rfl|⟨e,rfl⟩
    ·cases w:tl with
     |false=>exact absurd h (hm w)
     |true=>exact K w _
    ·exact y
    ·exact J e own y
   ·rw[Array.setIfInBounds_comm _ _ c];exact I.2.1
end
end Go.Proofs.YtfnghamklcdgnaaGreatDoor
