/- What the laws share, part 4. No condition. -/
import Derived.Deep.QuietTactic
import Derived.Test.YtkieffpjjfebjaaGreatDoorZ3
namespace Go.Proofs.YtkieffpjjfebjaaGreatDoor
open Go
section
variable{P:Program}{W0:World}{f:Fr}{own:Own}{K K':Value→Own→Prop}
theorem qa9{op:BinOp}{k k':IntKind}{m n:Int}{K K':Value→Prop}(hk:∀v,K v→K' v)(h:q4Y op k m k' n K):q4Y op k m k' n K':=by
 cases op <;>simp only[q4Y] at h ⊢
 case add|sub|mul=>obtain⟨rfl,g⟩:=h.h;exact .mk ⟨hk _ g.h⟩
 case quo|rem=>obtain⟨rfl,g⟩:=h.h;exact .mk ⟨g.h.1,hk _ g.h.2⟩
 case shl|shr=>exact⟨h.h.1,hk _ h.h.2⟩
 case and|or|xor|andNot=>obtain⟨rfl,g⟩:=h.h;exact .mk ⟨hk _ g.h⟩
 all_goals(obtain⟨rfl,g⟩:=h.h;exact .mk (hk _ g))
theorem qbY{op:BinOp}{k k':IntKind}{m n:Int}{K:Value→Prop}(h:q4Y op k m k' n K):∃v,K v∧q4Y op k m k' n (fun v'=>v'=v):=by
 cases op <;>simp only[q4Y] at h ⊢
 case add|sub|mul=>obtain⟨rfl,g⟩:=h.h;exact⟨_,g.h, .mk ⟨rfl⟩⟩
 case quo|rem=>obtain⟨rfl,g⟩:=h.h;exact⟨_,g.h.2, .mk ⟨g.h.1,rfl⟩⟩
 case shl|shr=>exact⟨_,h.h.2,⟨h.h.1,rfl⟩⟩
 case and|or|xor|andNot=>obtain⟨rfl,g⟩:=h.h;exact⟨_,g.h, .mk ⟨rfl⟩⟩
 all_goals(obtain⟨rfl,g⟩:=h.h;exact⟨_,g, .mk rfl⟩)
theorem q3n:∀(l:List (Nat×Nat×Operand)) (cs:List Value) {K K':List Value→Prop},(∀cs,K cs→K' cs)→Bld f l cs K→Bld f l cs K'
 | [],cs,K,K',hk,h=>hk cs h
 |(off,sz,x)::l,cs,K,K',hk,h=>by
  rw[q4S] at h ⊢
  split at h
  ·split at h
   ·exact q3n l _ hk h
   ·exact h.elim
  ·rename_i v hne
   have h':=Mv.h (K:=fun v=>(match Nat.beq sz 1 with|true=>Bld f l (cs.set off v) K|false=>False)) h
   refine Mv.mk ?_
   split at h'
   ·rename_i hb;first|exact q3n l _ hk h'|(rw[hb];exact q3n l _ hk h')
   ·exact h'.elim
theorem qa6:∀(l:List (Nat×Nat×Operand)) (cs:List Value) {K:List Value→Prop},Bld f l cs K→∃c',K c'∧Bld f l cs (fun x=>x=c')
 | [],cs,K,h=>⟨cs,h,rfl⟩
 |(off,sz,x)::l,cs,K,h=>by
  rw[q4S] at h
  split at h
  ·rename_i vs hx
   split at h
   ·rename_i hb
    obtain⟨c',h1,h2⟩:=qa6 l _ h
    refine⟨c',h1,?_⟩
    rw[q4S,hx]
    simp only[hb]
    exact h2
   ·exact h.elim
  ·rename_i v hne
   have h':=Mv.h (K:=fun v=>(match Nat.beq sz 1 with|true=>Bld f l (cs.set off v) K|false=>False)) h
   split at h'
   ·rename_i hb
    obtain⟨c',h1,h2⟩:=qa6 l _ h'
    refine⟨c',h1,?_⟩
    rw[q4S]
    split
    ·rename_i vs hx;exact(hne vs hx).elim
    ·refine Mv.mk ?_
     rw[hb]
     exact h2
   ·exact h'.elim
theorem q4F{io:IOp}(hk:∀v own,K v own→K' v own)(h:XO P W0 f own io K):XO P W0 f own io K':=by
 cases io <;>simp only[XO] at h ⊢
 case mov=>exact .mk (hk _ _ h.h)
 case pick=>split at h <;>first|exact .mk (hk _ _ h.h)|exact h.elim
 case bin=>split at h <;>first|exact qa9 (fun v=>hk v own) h|exact h.elim
 case beq=>split at h <;>first|exact hk _ _ h|exact h.elim
 case not=>split at h <;>first|exact hk _ _ h|exact h.elim
 case sbin=>split at h <;>first|(unfold qcS at h ⊢;split <;>simp_all)|exact h.elim
 case fbin=>split at h <;>first|exact⟨hk _ _ h.h⟩|exact h.elim
 case flt=>split at h <;>first|exact⟨fun r hr=>hk _ _ (h.h.1 r hr),fun hn r hr=>hk _ _ (h.h.2 hn r hr)⟩|exact h.elim
 case i2f=>split at h <;>first|exact hk _ _ h|exact h.elim
 case f2i=>split at h <;>first|(obtain⟨n,hn,h⟩:=h.h;exact⟨n,hn,hk _ _ h⟩)|exact h.elim
 case fbits=>split at h <;>first|exact hk _ _ h|exact h.elim
 case ffrom=>split at h <;>first|exact hk _ _ h|exact h.elim
 case fpk=>split at h <;>first|exact hk _ _ h|exact h.elim
 case neg=>split at h <;>first|exact⟨hk _ _ h.h⟩|exact h.elim
 case conv=>split at h <;>first|exact⟨hk _ _ h.h⟩|exact h.elim
 case fad=>split at h <;>first|exact hk _ _ h|exact h.elim
 case fld=>split at h <;>first|(obtain⟨v,hv,h⟩:=h.h;exact⟨v,hv,hk _ _ h⟩)|exact h.elim
 case fldN=>split at h <;>first|exact⟨hk _ _ h.h⟩|exact h.elim
 case ixs=>split at h <;>first|(obtain⟨v,b,o,h1,h2,h3,h⟩:=h.h;exact⟨v,b,o,h1,h2,h3,hk _ _ h⟩)|exact h.elim
 case sls=>split at h <;>first|(obtain⟨l,r,m,h1,h2,h3,h4,h5,h6,h7,h⟩:=h.h;exact⟨l,r,m,h1,h2,h3,h4,h5,h6,h7,hk _ _ h⟩)|exact h.elim
 case sslc=>split at h <;>first|(obtain⟨l,r,h1,h2,h3,h4,h⟩:=h.h;exact⟨l,r,h1,h2,h3,h4,hk _ _ h⟩)|exact h.elim
 case sidx=>split at h <;>first|(obtain⟨j,b,h1,h2,h⟩:=h.h;exact⟨j,b,h1,h2,hk _ _ h⟩)|exact h.elim
 case scat=>split at h <;>first|exact⟨h.h.1,hk _ _ h.h.2⟩|exact h.elim
 case ibs=>split at h <;>first|exact hk _ _ h|exact h.elim
 case capb=>split at h <;>first|exact hk _ _ h|exact h.elim
 case nilq=>split at h <;>first|exact hk _ _ h|exact h.elim
 case nifc=>split at h <;>first|exact hk _ _ h|exact h.elim
 case iter=>split at h <;>first|exact⟨fun b hb hl=>hk _ _ (h.h b hb hl)⟩|exact h.elim
 case next=>split at h <;>first|(obtain⟨s,pos,h1,h2,h3⟩:=h.h;exact⟨s,pos,h1,fun hl=>(let ⟨o',a,b⟩:=h2 hl;⟨o',a,hk _ _ b⟩),fun hl=>hk _ _ (h3 hl)⟩)|exact h.elim
 case ageq=>split at h <;>first|(obtain⟨r,h1,h⟩:=h.h;exact⟨r,h1,hk _ _ h⟩)|exact h.elim
 case mkm=>exact⟨fun b hb=>hk _ _ (h.h b hb)⟩
 case mlk=>split at h <;>first|exact hk _ _ h|(obtain⟨l,r,h1,h2,h⟩:=h.h;exact⟨l,r,h1,h2,hk _ _ h⟩)|exact h.elim
 case mup=>split at h <;>first|(obtain⟨l,o',h1,h2,h⟩:=h.h;exact⟨l,o',h1,h2,hk _ _ h⟩)|exact h.elim
 case mkf=>exact hk _ _ h
 case mk=>split at h <;>first|(obtain⟨l,c,h1,h2,h3,h4,h⟩:=h.h;exact⟨l,c,h1,h2,h3,h4,fun b hb=>hk _ _ (h b hb)⟩)|exact h.elim
 case app=>split at h <;>first|(obtain⟨cs,ys,h1,h2,h3,h4,h5,h6,h7,h8,h9⟩:=h.h;exact⟨cs,ys,h1,h2,h3,h4,h5,h6,h7,fun hl=>(let ⟨o',a,b⟩:=h8 hl;⟨o',a,hk _ _ b⟩),fun hl=>⟨(h9 hl).1,fun b c' hb hc=>(let ⟨o',a,b⟩:=(h9 hl).2 b c' hb hc;⟨o',a,hk _ _ b⟩)⟩⟩)|exact h.elim
 case appz=>split at h <;>first|(obtain⟨h1,h2,m',h3,h4,h5,h6⟩:=h.h;exact⟨h1,h2,m',h3,h4,h5,fun b c' hb hc=>hk _ _ (h6 b c' hb hc)⟩)|exact h.elim
 case clr=>split at h <;>first|(obtain⟨h1,o',h2,h3⟩:=h.h;exact⟨h1,o',h2,hk _ _ h3⟩)|exact hk _ _ h|exact h.elim
 case callv=>split at h <;>first|exact⟨h.h.1,⟨fun w hw=>(h.h.2.h w hw).mono fun e w' ⟨v,o',he,hs,h⟩=>⟨v,o',he,hs,hk _ _ h⟩⟩⟩|exact⟨fun w hw=>(h.h w hw).imp fun k h=>h.imp fun t h=>h.imp fun a h=>h.imp fun b h=>⟨h.1,h.2.mono fun e w' ⟨v,o',he,hs,h⟩=>⟨v,o',he,hs,hk _ _ h⟩⟩⟩|exact h.elim
 case ixa=>split at h <;>first|(obtain⟨v,h1,h2,h⟩:=h.h;exact⟨v,h1,h2,hk _ _ h⟩)|exact h.elim
 case idx=>split at h <;>first|(obtain⟨j,h1,h2,h⟩:=h.h;obtain⟨v,hv,h⟩:=h.h;exact⟨j,h1,h2,v,hv,hk _ _ h⟩)|exact h.elim
 case idxN=>split at h <;>first|(obtain⟨j,h1,h2,h⟩:=h.h;exact⟨j,h1,h2,⟨hk _ _ h.h⟩⟩)|exact h.elim
 case ld=>split at h <;>first|(obtain⟨v,hv,h⟩:=h.h;exact⟨v,hv,hk _ _ h⟩)|exact h.elim
 case ldN=>split at h <;>first|(obtain⟨v,hl,hv,h⟩:=h.h;exact⟨v,hl,hv,hk _ _ h⟩)|exact h.elim
 case st=>split at h <;>first|(obtain⟨h1,o',h2,h⟩:=h.h.h;exact .mk ⟨h1,o',h2,hk _ _ h⟩)|exact h.elim
 case stN=>split at h <;>first|(obtain⟨h0,⟨h1,o',h2,h⟩⟩:=h;exact⟨h0,⟨h1,o',h2,hk _ _ h⟩⟩)|exact h.elim
 case box=>split at h <;>first|exact⟨fun b hb hl=>hk _ _ (h.h b hb hl)⟩|exact .mk ⟨fun b hb hl=>hk _ _ (h.h.h b hb hl)⟩
 case new=>split at h <;>exact⟨fun b hb hl=>hk _ _ (h.h b hb hl)⟩
 case ext=>split at h <;>first|(obtain⟨v,hv,h⟩:=h.h;exact⟨v,hv,hk _ _ h⟩)|exact h.elim
 case len=>split at h <;>first|exact hk _ _ h|exact h.elim
 case lens=>split at h <;>first|exact hk _ _ h|exact h.elim
 case nilc=>split at h <;>first|exact hk _ _ h|exact h.elim
 case mm=>split at h <;>first|exact⟨hk _ _ h.h⟩|exact h.elim
 case bld=>exact q3n _ _ (fun cs h=>hk _ _ h) h
 case blds=>exact q3n _ _ (fun cs h=>⟨fun b hb hl=>hk _ _ (h.h b hb hl)⟩) h
 case call=>exact⟨fun w hw=>(h.h w hw).mono fun e w' ⟨v,o',he,hs,h⟩=>⟨v,o',he,hs,hk _ _ h⟩⟩
theorem qiK{io:IOp}(hr:qdM io=true)(h:XO P W0 f own io K):∃v,K v own∧XO P W0 f own io (fun v' _=>v'=v):=by
 cases io <;>simp only[XO] at h ⊢ <;>(try simp[qdM] at hr)
 case mov=>exact⟨_,h.h, .mk rfl⟩
 case pick=>split at h <;>first|exact⟨_,h.h, .mk rfl⟩|exact h.elim
 case bin=>split at h <;>first|exact qbY h|exact h.elim
 case beq=>split at h <;>first|exact⟨_,h,rfl⟩|exact h.elim
 case not=>split at h <;>first|exact⟨_,h,rfl⟩|exact h.elim
 case sbin=>split at h <;>first|(unfold qcS at h ⊢;split at h <;>first|exact⟨_,h,rfl⟩|exact h.elim)|exact h.elim
 case fbin=>split at h <;>first|exact⟨_,h.h,⟨rfl⟩⟩|exact h.elim
 case i2f=>split at h <;>first|exact⟨_,h,rfl⟩|exact h.elim
 case f2i=>split at h <;>first|(obtain⟨n,hn,h⟩:=h.h;exact⟨_,h,⟨n,hn,rfl⟩⟩)|exact h.elim
 case fbits=>split at h <;>first|exact⟨_,h,rfl⟩|exact h.elim
 case ffrom=>split at h <;>first|exact⟨_,h,rfl⟩|exact h.elim
 case fpk=>split at h <;>first|exact⟨_,h,rfl⟩|exact h.elim
 case neg=>split at h <;>first|exact⟨_,h.h,⟨rfl⟩⟩|exact h.elim
 case conv=>split at h <;>first|exact⟨_,h.h,⟨rfl⟩⟩|exact h.elim
 case fad=>split at h <;>first|exact⟨_,h,rfl⟩|exact h.elim
 case fld=>split at h <;>first|(obtain⟨v,hv,h⟩:=h.h;exact⟨_,h,⟨v,hv,rfl⟩⟩)|exact h.elim
 case fldN=>split at h <;>first|exact⟨_,h.h,⟨rfl⟩⟩|exact h.elim
 case ixs=>split at h <;>first|(obtain⟨v,b,o,h1,h2,h3,h⟩:=h.h;exact⟨_,h,⟨v,b,o,h1,h2,h3,rfl⟩⟩)|exact h.elim
 case sls=>split at h <;>first|(obtain⟨l,r,m,h1,h2,h3,h4,h5,h6,h7,h⟩:=h.h;exact⟨_,h,⟨l,r,m,h1,h2,h3,h4,h5,h6,h7,rfl⟩⟩)|exact h.elim
 case sslc=>split at h <;>first|(obtain⟨l,r,h1,h2,h3,h4,h⟩:=h.h;exact⟨_,h,⟨l,r,h1,h2,h3,h4,rfl⟩⟩)|exact h.elim
 case sidx=>split at h <;>first|(obtain⟨j,b,h1,h2,h⟩:=h.h;exact⟨_,h,⟨j,b,h1,h2,rfl⟩⟩)|exact h.elim
 case scat=>split at h <;>first|exact⟨_,h.h.2,⟨h.h.1,rfl⟩⟩|exact h.elim
 case ibs=>split at h <;>first|exact⟨_,h,rfl⟩|exact h.elim
 case capb=>split at h <;>first|exact⟨_,h,rfl⟩|exact h.elim
 case nilq=>split at h <;>first|exact⟨_,h,rfl⟩|exact h.elim
 case nifc=>split at h <;>first|exact⟨_,h,rfl⟩|exact h.elim
 case ageq=>split at h <;>first|(obtain⟨r,h1,h⟩:=h.h;exact⟨_,h,⟨r,h1,rfl⟩⟩)|exact h.elim
 case mlk=>split at h <;>first|exact⟨_,h,rfl⟩|(obtain⟨l,r,h1,h2,h⟩:=h.h;exact⟨_,h,⟨l,r,h1,h2,rfl⟩⟩)|exact h.elim
 case mkf=>exact⟨_,h,rfl⟩
 case ixa=>split at h <;>first|(obtain⟨v,h1,h2,h⟩:=h.h;exact⟨_,h,⟨v,h1,h2,rfl⟩⟩)|exact h.elim
 case idx=>split at h <;>first|(obtain⟨j,h1,h2,h⟩:=h.h;obtain⟨v,hv,h⟩:=h.h;exact⟨_,h,⟨j,h1,h2,⟨v,hv,rfl⟩⟩⟩)|exact h.elim
 case idxN=>split at h <;>first|(obtain⟨j,h1,h2,h⟩:=h.h;exact⟨_,h.h,⟨j,h1,h2,⟨rfl⟩⟩⟩)|exact h.elim
 case ld=>split at h <;>first|(obtain⟨v,hv,h⟩:=h.h;exact⟨_,h,⟨v,hv,rfl⟩⟩)|exact h.elim
 case ldN=>split at h <;>first|(obtain⟨v,hl,hv,h⟩:=h.h;exact⟨_,h,⟨v,hl,hv,rfl⟩⟩)|exact h.elim
 case ext=>split at h <;>first|(obtain⟨v,hv,h⟩:=h.h;exact⟨_,h,⟨v,hv,rfl⟩⟩)|exact h.elim
 case len=>split at h <;>first|exact⟨_,h,rfl⟩|exact h.elim
 case lens=>split at h <;>first|exact⟨_,h,rfl⟩|exact h.elim
 case nilc=>split at h <;>first|exact⟨_,h,rfl⟩|exact h.elim
 case mm=>split at h <;>first|exact⟨_,h.h,⟨rfl⟩⟩|exact h.elim
 case bld=>
  obtain⟨c',h1,h2⟩:=qa6 _ _ h
  exact⟨_,h1,q3n _ _ (fun cs hc=>by rw[hc]) h2⟩
end
noncomputable def XR(P:Program)(W0:World)(l:List q3o):(Fr→Own→Prop)→Fr→Own→Prop:=
 List.rec (motive:=fun _=>(Fr→Own→Prop)→Fr→Own→Prop) (fun K f own=>K f own) (fun o _ ih K f own=>match o with
  |⟨d,op,none⟩=>XO P W0 f own op fun v own'=>ih K (updO f d v) own'
  |⟨d,op,some (g,b)⟩=>match f g with
   | .bool c=>q3Y c b
     (XO P W0 (upd f g (.bool b)) own op fun v own'=>ih K (updO (upd f g (.bool b)) d v) own')
     (ih K (updO (upd f g (.bool (!b))) d undef) own)
   |_=>ih K (updO f d undef) own) l
theorem qgO{P:Program}{W0:World}{d:Option Nat}{op:IOp}{r:List q3o}{K:Fr→Own→Prop}{f:Fr}{own:Own}:
  XR P W0 (⟨d,op,none⟩::r) K f own=XO P W0 f own op fun v own'=>XR P W0 r K (updO f d v) own':=rfl
theorem qa7{P:Program}{W0:World}{d:Option Nat}{op:IOp}{g:Nat}{b:Bool}{r:List q3o}{K:Fr→Own→Prop}{f:Fr}{own:Own}:
  XR P W0 (⟨d,op,some (g,b)⟩::r) K f own=match f g with
   | .bool c=>q3Y c b
     (XO P W0 (upd f g (.bool b)) own op fun v own'=>XR P W0 r K (updO (upd f g (.bool b)) d v) own')
     (XR P W0 r K (updO (upd f g (.bool (!b))) d undef) own)
   |_=>XR P W0 r K (updO f d undef) own:=rfl
structure q0b(P:Program)(W0:World)(own:Own)(k:FuncId)(args:List Value)(K:Value→Prop):Prop where
 h:∃v,(∀ex w,St W0 (ex++own) w→Calls P k args.toArray w fun e w'=>e= .returned v∧St W0 (ex++own) w')∧K v
def XQ(P:Program)(W0:World)(f:Fr)(own:Own)(op:IOp)(K:Value→Prop):Prop:=
 match op with
 | .call k args=>q0b P W0 own k (args.map (ev f)) K
 |op=>match qdM op with
  |true=>XO P W0 f own op fun v _=>K v
  |false=>False
def XG(gd:Option (Nat×Bool))(f:Fr)(Y N:Fr→Prop):Prop:=
 match gd with
 |none=>Y f
 |some (g,b)=>match f g with
  | .bool c=>q3Y c b (Y (upd f g (.bool b))) (N (upd f g (.bool (!b))))
  |_=>N f
inductive DT
 |done
 |f (o:q3o) (r:DT)
 |m (o:q3o) (r:DT)
 |both (a b:DT)
 |tt
 |bad
structure q4T(A B:Prop):Prop where
 l:A
 r:B
noncomputable def XD(P:Program)(W0:World)(t:DT):(Fr→Own→Prop)→Fr→Own→Prop:=
 DT.rec (motive:=fun _=>(Fr→Own→Prop)→Fr→Own→Prop) (fun K f own=>K f own)
  (fun o _ ih K f own=>XG o.guard f (fun f=>XQ P W0 f own o.op fun v=>ih K (updO f o.dst v) own) (fun f=>ih K (updO f o.dst undef) own))
  (fun o _ ih K f own=>XG o.guard f (fun f=>XO P W0 f own o.op fun v own'=>ih K (updO f o.dst v) own') (fun f=>ih K (updO f o.dst undef) own))
  (fun _ _ a b K f own=>q4T (a K f own) (b K f own))
  (fun _ _ _=>True) (fun _ _ _=>False) t
theorem qk8{P:Program}{W0:World}{o:q3o}{r:DT}{K:Fr→Own→Prop}{f:Fr}{own:Own}:
  XD P W0 (.f o r) K f own=XG o.guard f (fun f=>XQ P W0 f own o.op fun v=>XD P W0 r K (updO f o.dst v) own) (fun f=>XD P W0 r K (updO f o.dst undef) own):=rfl
theorem qk9{P:Program}{W0:World}{o:q3o}{r:DT}{K:Fr→Own→Prop}{f:Fr}{own:Own}:
  XD P W0 (.m o r) K f own=XG o.guard f (fun f=>XO P W0 f own o.op fun v own'=>XD P W0 r K (updO f o.dst v) own') (fun f=>XD P W0 r K (updO f o.dst undef) own):=rfl
structure Rel(n:Nat)(ds:List Deferred)(a:Act)(f:Fr):Prop where
 size:a.tmps.size=n
 get:∀t,a.tmps.getD t undef=f t
 defers:a.defers=ds
theorem q3b{f:Fr}{g:Nat}{v:Value}(h:f g=v):upd f g v=f:=by
 funext t
 unfold upd
 cases e:Nat.beq t g
 ·rfl
 ·rw[Nat.beq_eq] at e
  subst e
  simp[h]
theorem Rel.put{ds:List Deferred}{n:Nat}{a:Act}{f:Fr}(h:Rel n ds a f){d:Option Nat}(hd:∀t,d=some t→t<n)(v:Value):Rel n ds (a.put d v) (updO f d v):=by
 cases d with
 |none=>exact h
 |some d=>
  have hd:=hd d rfl
  refine⟨by simp[Act.put,h.size],fun t=> ?_,h.defers⟩
  simp only[Act.put,updO,upd]
  cases e:Nat.beq t d
  ·have hne:t≠d:=fun e'=>by subst e';simp at e
   simp only[cond_false]
   rw[←h.get t]
   simp only[Array.getD_eq_getD_getElem?]
   rw[Array.getElem?_setIfInBounds_ne (fun h=>hne h.symm)]
  ·rw[Nat.beq_eq] at e
   subst e
   simp[Array.getD_eq_getD_getElem?,h.size,hd]
def q2G(ops:Array Oper)(n:Nat)(o:Oper):Bool:=
 (match o.dst with|some d=>decide (d<n)|none=>true)&&
 (match o.guard with|some (j,_)=>((ops[j]?).bind (·.dst)).isSome&&decide (((ops[j]?).bind (·.dst)).getD n<n)|none=>true)
theorem q8k{ds:List Deferred}{ops:Array Oper}{n:Nat}{o:Oper}{a:Act}{f:Fr}(hr:Rel n ds a f)(hok:q2G ops n o=true)(P:Program):
  Region.wanted o (yielded ops a.tmps)=match (q2r P ops o).guard with
   |none=>true
   |some (g,b)=>match f g with| .bool c=>c==b|_=>false:=by
 unfold Region.wanted q2r q2G at*
 cases hg:o.guard with
 |none=>simp
 |some jb=>
  obtain⟨j,b⟩:=jb
  simp only[hg,Bool.and_eq_true,decide_eq_true_eq] at hok
  obtain⟨_,h1,h2⟩:=hok
  obtain⟨d,hd⟩:=Option.isSome_iff_exists.1 h1
  simp only[hd,Option.getD_some] at h2
  simp only[hd]
  unfold yielded
  simp only[hd,Option.bind_some]
  have hget:=hr.get d
  rw[Array.getD_eq_getD_getElem?] at hget
  rw[←hr.size] at h2
  rw[Array.getElem?_eq_getElem h2] at hget ⊢
  simp only[Option.getD_some] at hget
  rw[←hget]
  cases a.tmps[d] <;>simp
theorem q7N.wpIn{P:Program}{a:Act}{f:Fr}{o:Oper}{w:World}{own:Own}{W0:World}{K:Value→Own→Prop}{ro:Bool}{next:Act→World→Prop}{Q:Exit→Act→World→Prop}{r:Option Nat}{m:Nat}
  (hf:∀t,a.tmps.getD t undef=f t) (hS:St W0 own w) (h:q7N P f o w own W0 K ro) (hn:∀v own' w',St W0 own' w'→K v own'→next (a.put o.dst v) w'):o.wpIn (WF r) m P a w next Q:=by
 unfold Oper.wpIn
 refine⟨fun _ _=>trivial,?_⟩
 rw[qde hf]
 rcases h with ⟨v,hr,hk⟩|⟨_,⟨v,w',own',hr,hs,hk⟩|⟨w',own',hr,hs,hk⟩|⟨k,args,hr,hc⟩|⟨l,k,tmps,assign,body,hr,hc⟩⟩
 all_goals rw[qbA (fun d w' e=>by rw[hr] at e;cases e) (fun x w' e=>by rw[hr] at e;cases e),hr]
 ·exact hn _ _ _ hS hk
 ·exact hn _ _ _ hs hk
 ·exact hn _ _ _ hs hk
 ·rw[Oper.uponIn_enter]
  have hc':=hc.h w hS
  simp only[Array.toArray_toList] at hc'
  refine⟨fun h=>(by cases h),q7V (hc'.mono fun e w' h=> ?_)⟩
  obtain⟨v,own',rfl,hs,hk⟩:=h
  exact hn _ _ _ hs hk
 ·rw[Oper.uponIn_round]
  refine⟨fun h=>(by cases h),q88 (hc.mono fun e w' h=> ?_)⟩
  obtain⟨v,own',rfl,hs,hk⟩:=h
  exact hn _ _ _ hs hk
theorem qaJ{ds:List Deferred}{P:Program}{W0:World}{ops:Array Oper}{n:Nat}{Q:Exit→Act→World→Prop}{K:Fr→Own→Prop}{r:Option Nat}{m:Nat}
  (hQ:∀f own a w,Rel n ds a f→St W0 own w→K f own→Q .normal a w):∀(l:List Oper) (f:Fr) (own:Own) (a:Act) (w:World),l.all (q2G ops n)=true→
  Rel n ds a f→St W0 own w→XR P W0 (l.map (q2r P ops)) K f own→wpListIn (WF r) m P ops Q l a w
 | [],f,own,a,w,_,hr,hs,h=>hQ f own a w hr hs h
 |o::l,f,own,a,w,hok,hr,hs,h=>by
  simp only[List.all_cons,Bool.and_eq_true] at hok
  obtain⟨hok,hokl⟩:=hok
  have hd:∀t,o.dst=some t→t<n:=fun t ht=>by
   unfold q2G at hok
   simp only[ht,Bool.and_eq_true,decide_eq_true_eq] at hok
   exact hok.1
  have hw:=q8k hr hok P
  have ih:=fun f own a w=>qaJ (P:=P) (ops:=ops) (r:=r) (m:=m) hQ l f own a w hokl
  unfold wpListIn
  rw[List.map_cons,show q2r P ops o=⟨o.dst,q43 P o.op,(q2r P ops o).guard⟩ from rfl] at h
  generalize (q2r P ops o).guard=gd at h hw
  cases gd with
  |none=>
   simp only[qgO] at h hw
   rw[if_pos hw]
   exact((q4m rfl hs h).wpIn hr.get hs fun v own' w' hs' hk=>ih _ _ _ _ (hr.put hd v) hs' hk)
  |some gb=>
   obtain⟨g,b⟩:=gb
   simp only[qa7] at h hw
   rw[hw]
   cases hfg:f g with
   |bool c=>
    rw[hfg] at h
    simp only at h
    by_cases hcb:c=b
    ·subst hcb
     have hsame:=q3b hfg
     have hy:=h.y rfl
     rw[hsame] at hy
     simp only[beq_self_eq_true,if_true]
     exact((q4m rfl hs hy).wpIn hr.get hs fun v own' w' hs' hk=>ih _ _ _ _ (hr.put hd v) hs' hk)
    ·have hcb':c= !b:=by cases c <;>cases b <;>simp_all
     have hn:=h.n hcb'
     rw[←hcb',q3b hfg] at hn
     have hne:(c==b)=false:=by simpa using hcb
     simp only[hne,Bool.false_eq_true,if_false]
     exact⟨fun _ _=>trivial,ih _ _ _ _ (hr.put hd undef) hs hn⟩
   |_=>
    rw[hfg] at h
    simp only[Bool.false_eq_true,if_false] at h ⊢
    exact⟨fun _ _=>trivial,ih _ _ _ _ (hr.put hd undef) hs h⟩
theorem q6l{ds:List Deferred}{ops:Array Oper}{n:Nat}{o:Oper}{a:Act}{f:Fr}(hr:Rel n ds a f)(hok:q2G ops n o=true){P:Program}{Y N:Fr→Prop}(h:XG (q2r P ops o).guard f Y N):
  (Region.wanted o (yielded ops a.tmps)=true∧Y f)∨(Region.wanted o (yielded ops a.tmps)=false∧N f):=by
 have hw:=q8k hr hok P
 generalize (q2r P ops o).guard=gd at h hw
 cases gd with
 |none=>exact .inl ⟨hw,h⟩
 |some gb=>
  obtain⟨g,b⟩:=gb
  simp only[XG] at h hw
  cases hfg:f g with
  |bool c=>
   rw[hfg] at h hw
   simp only at h hw
   by_cases hcb:c=b
   ·subst hcb
    have hy:=h.y rfl
    rw[q3b hfg] at hy
    exact .inl ⟨by simpa using hw,hy⟩
   ·have hcb':c= !b:=by cases c <;>cases b <;>simp_all
    have hn:=h.n hcb'
    rw[←hcb',q3b hfg] at hn
    exact .inr ⟨by rw[hw];simpa using hcb,hn⟩
  |_=>rw[hfg] at h hw;exact .inr ⟨hw,h⟩
def qir(io:IOp):Bool:=qdM io&&(match io with| .ld _| .ldN _ _| .mlk _ _ _ _ _=>false|_=>true)
theorem qku{P:Program}{W0 W1:World}{f:Fr}{own own1:Own}{io:IOp}{Φ:Value→Prop}(ht:qir io=true)(h:XO P W0 f own io (fun v _=>Φ v)):XO P W1 f own1 io (fun v _=>Φ v):=by
 cases io <;>first|exact h|(simp[qir,qdM] at ht)
theorem qaH{P:Program}{W0:World}{own:Own}{f:Fr}{a:Act}{o:Oper}{K:Value→Prop}(hf:∀t,a.tmps.getD t undef=f t)(hx:XQ P W0 f own (q43 P o.op) K):
  ∃v,K v∧∀own',(qir (q43 P o.op)=true∨∃ex,own'=ex++own)→∀w,St W0 own' w→q2T P (fun u w'=>u=v∧St W0 own' w') ((execOp a.eval o).run P w):=by
 have ro:∀io,q43 P o.op=io→qdM io=true→XO P W0 f own io (fun v _=>K v)→
   ∃v,K v∧∀own',(qir io=true∨∃ex,own'=ex++own)→∀w,St W0 own' w→q2T P (fun u w'=>u=v∧St W0 own' w') ((execOp a.eval o).run P w):=by
  intro io hio hro hx
  obtain⟨v,hk,hv⟩:=qiK hro hx
  refine⟨v,hk,fun own' hV w hw=> ?_⟩
  have hrun:(execOp (ev f) o).run P w= .ok (.value v) w:=by
   rcases hV with ht|⟨ex,rfl⟩
   ·rcases q4m hio hw (qku ht hv:XO P W0 f own' io (fun v' _=>v'=v)) with ⟨v',hr',rfl⟩|⟨h0,_⟩
    ·exact hr'
    ·rw[hro] at h0;cases h0
   ·have hw':St W0 own w:=Ent.of_sub (List.sublist_append_right ex own) w hw
    rcases q4m hio hw' hv with ⟨v',hr',rfl⟩|⟨h0,_⟩
    ·exact hr'
    ·rw[hro] at h0;cases h0
  rw[qde hf,hrun]
  exact⟨rfl,hw⟩
 unfold XQ at hx
 split at hx
 ·rename_i k args hio
  obtain⟨v,hc,hk⟩:=hx.h
  refine⟨v,hk,fun own' hV w hw=> ?_⟩
  rcases hV with ht|⟨ex,rfl⟩
  ·rw[hio] at ht;cases ht
  ·rw[qde hf,q7w hio]
   exact(hc ex w hw).mono fun e w' ⟨he,hs⟩=>⟨v,he,rfl,hs⟩
 ·split at hx
  ·exact ro _ rfl (by assumption) hx
  ·exact hx.elim
theorem q7N.goes{P:Program}{W0:World}{f:Fr}{own:Own}{a:Act}{o:Oper}{w:World}{K:Value→Own→Prop}{ro:Bool}(hf:∀t,a.tmps.getD t undef=f t)(hS:St W0 own w)(h:q7N P f o w own W0 K ro):
  q2T P (fun u w'=>∃own',St W0 own' w'∧K u own') ((execOp a.eval o).run P w):=by
 rw[qde hf]
 rcases h with ⟨v,hr,hk⟩|⟨_,⟨v,w',own',hr,hs,hk⟩|⟨w',own',hr,hs,hk⟩|⟨k,args,hr,hc⟩|⟨l,k,tmps,assign,body,hr,hc⟩⟩
 ·rw[hr];exact⟨_,hS,hk⟩
 ·rw[hr];exact⟨_,hs,hk⟩
 ·rw[hr];exact⟨_,hs,hk⟩
 ·rw[hr]
  have hc':=hc.h w hS
  simp only[Array.toArray_toList] at hc'
  exact hc'.mono fun e w' ⟨v,own',he,hs,hk⟩=>⟨v,he,own',hs,hk⟩
 ·rw[hr]
  exact hc.mono fun e w' ⟨v,own',he,hs,hk⟩=>⟨v,he,own',hs,hk⟩
def qfm:IOp→Bool
 | .new _ _| .box _ _=>true
 | .blds _ _ _ _=>true
 | .mk _ _ _ _ _ _=>true
 | .mkm=>true
 |_=>false
theorem qiL{P:Program}{W0:World}{f:Fr}{own:Own}{io:IOp}{K:Value→Own→Prop}(hn:qfm io=true)(h:XO P W0 f own io K):XO P W0 f own io (fun v own'=>K v own'∧∃e,own'=e::own):=by
 cases io <;>simp only[XO] at h ⊢ <;>(try simp[qfm] at hn)
 case box=>split at h <;>first|exact⟨fun b hb hl=>⟨h.h b hb hl,_,rfl⟩⟩|exact .mk ⟨fun b hb hl=>⟨h.h.h b hb hl,_,rfl⟩⟩
 case new=>split at h <;>exact⟨fun b hb hl=>⟨h.h b hb hl,_,rfl⟩⟩
 case blds=>exact q3n _ _ (fun cs h=>⟨fun b hb hl=>⟨h.h b hb hl,_,rfl⟩⟩) h
 case mk=>split at h <;>first|(obtain⟨l,c,h1,h2,h3,h4,h⟩:=h.h;exact⟨l,c,h1,h2,h3,h4,fun b hb=>⟨h b hb,_,rfl⟩⟩)|exact h.elim
 case mkm=>exact⟨fun b hb=>⟨h.h b hb,_,rfl⟩⟩
def qju(mv:List Nat)(io:IOp):Kd:=
 match io with
 | .call k _=>if mv.contains k then .m else .f
 |io=>if qdM io then .f else if qfm io then .n else .m
def qc5(P:Program)(ops:Array Oper)(mv:List Nat)(i:Nat):Kd:=
 match ops[i]? with
 |some o=>qju mv (q43 P o.op)
 |none=> .f
def fOk(P:Program)(ops:Array Oper)(mv:List Nat)(listed:Array Bool)(k:Nat):Bool:=
 match ops[k]? with
 |some o=>(match qju mv (q43 P o.op) with| .f=>true|_=>false)&&Region.free .any ops listed k&&
   (qir (q43 P o.op)||(List.range ops.size).all fun j=>match qc5 P ops mv j with| .m=>listed.getD j false||qa3 .any ops 3 j k|_=>true)
 |none=>false
def brs(P:Program)(ops:Array Oper)(mv:List Nat)(rec':Nat→DT):List Nat→DT
 | []=> .tt
 |k::r=>
  let x:=match qc5 P ops mv k with
   | .f=>(match ops[k]? with
    |some o=> .f (q2r P ops o) (rec' k)
    |none=> .bad)
   |_=>match ops[k]? with
    |some o=> .m (q2r P ops o) (rec' k)
    |none=> .bad
  match r with
  | []=>x
  |_=> .both x (brs P ops mv rec' r)
def qiA(P:Program)(ops:Array Oper)(mv:List Nat):Nat→Array Bool→DT
 |0,listed=>match Region.ready .any ops listed with
  | []=> .done
  |_=> .bad
 |g+1,listed=>match (Region.ready .any ops listed).find? (fOk P ops mv listed) with
  |some k=>match ops[k]? with
   |some o=> .f (q2r P ops o) (qiA P ops mv g (listed.setIfInBounds k true))
   |none=> .bad
  |none=>match Region.ready .any ops listed with
   | []=> .done
   |rd=>brs P ops mv (fun k=>qiA P ops mv g (listed.setIfInBounds k true)) rd
theorem qaS{P:Program}{W0:World}{ops:Array Oper}{mv:List Nat}{rec':Nat→DT}{K:Fr→Own→Prop}{f:Fr}{own:Own}:∀(l:List Nat),XD P W0 (brs P ops mv rec' l) K f own→
  ∀k∈l,∃o,ops[k]? =some o∧match qc5 P ops mv k with
   | .f=>XD P W0 (.f (q2r P ops o) (rec' k)) K f own
   |_=>XD P W0 (.m (q2r P ops o) (rec' k)) K f own
 | [],_,k,hk=>by cases hk
 |k0::r,h,k,hk=>by
  have hx:XD P W0 (match qc5 P ops mv k0 with
   | .f=>(match ops[k0]? with
    |some o=> .f (q2r P ops o) (rec' k0)
    |none=> .bad)
   |_=>match ops[k0]? with
    |some o=> .m (q2r P ops o) (rec' k0)
    |none=> .bad) K f own∧(r≠ []→XD P W0 (brs P ops mv rec' r) K f own):=by
   unfold brs at h
   cases r with
   |nil=>exact⟨h,fun h=>absurd rfl h⟩
   |cons a r=>exact⟨q4T.l (A:=XD P W0 _ K f own) (B:=XD P W0 _ K f own) h,fun _=>q4T.r (A:=XD P W0 _ K f own) (B:=XD P W0 _ K f own) h⟩
  rcases List.mem_cons.1 hk with rfl|hk
  ·have h1:=hx.1
   cases ho:ops[k]? with
   |none=>rw[ho] at h1;cases hkd:qc5 P ops mv k <;>rw[hkd] at h1 <;>exact h1.elim
   |some o=>
    rw[ho] at h1
    refine⟨o,rfl,?_⟩
    cases hkd:qc5 P ops mv k <;>rw[hkd] at h1 <;>exact h1
  ·exact qaS r (hx.2 (fun e=>by subst e;cases hk)) k hk
theorem q2u{ds:List Deferred}{P:Program}{W0:World}{ops:Array Oper}{mv:List Nat}{n:Nat}{Q:Act→Own→Prop}{K:Fr→Own→Prop}(hsel:Region.noSelect ops=true)(hok:ops.toList.all (q2G ops n)=true)
  (hQ:∀f own a,Rel n ds a f→K f own→Q a own):∀(g:Nat) (listed:Array Bool) (f:Fr) (a:Act) (own:Own),q4U .any ops listed→Rel n ds a f→
  XD P W0 (qiA P ops mv g listed) K f own→wpG P .any ops W0 (qc5 P ops mv) Q g listed a own
 |0,listed,f,a,own,_,hr,h=>by
  unfold qiA at h
  split at h
  ·rename_i hrd;exact⟨hrd,hQ _ _ _ hr h⟩
  ·exact h.elim
 |g+1,listed,f,a,own,inv,hr,h=>by
  have q61:∀(k:Nat) (o:Oper),ops[k]? =some o→q2G ops n o=true:=fun k o ho=>by
   rw[List.all_eq_true] at hok
   exact hok o (by rw[←Array.getElem?_toList] at ho;exact List.mem_of_getElem? ho)
  have dstAt:∀(k:Nat) (o:Oper),ops[k]? =some o→∀t,o.dst=some t→t<n:=fun k o ho t ht=>by
   have:=q61 k o ho
   unfold q2G at this
   simp only[ht,Bool.and_eq_true,decide_eq_true_eq] at this
   exact this.1
  unfold qiA at h
  split at h
  ·rename_i k hk
   have hkr:=List.mem_of_find?_eq_some hk
   have hf:=List.find?_some hk
   split at h
   ·rename_i o ho
    unfold fOk at hf
    simp only[ho,Bool.and_eq_true,Bool.or_eq_true] at hf
    obtain⟨⟨hkd,hfree⟩,htl⟩:=hf
    have hkf:qc5 P ops mv k= .f:=by
     unfold qc5
     simp only[ho]
     cases hh:qju mv (q43 P o.op) <;>rw[hh] at hkd <;>first|rfl|cases hkd
    have first:=fun(v:Value) (hy:q3J P ops W0 (fun own'=>qir (q43 P o.op)=true∨∃ex,own'=ex++own) o v a) (H:wpG P .any ops W0 (qc5 P ops mv) Q g (listed.setIfInBounds k true) (a.put o.dst v) own)=>
     qeu (tl:=qir (q43 P o.op)) (g:=3) ho hkf (Region.noSelect_spec hsel) _ (fun e own' hV=>hV.imp id (fun⟨ex,he⟩=>⟨e::ex,by rw[he];rfl⟩)) (fun ht _=> .inl ht) g listed a own inv (fun ht j oj hj hm=>by
      rcases htl with h|h
      ·rw[h] at ht;cases ht
      ·rw[List.all_eq_true] at h
       have:=h j (List.mem_range.2 (Array.getElem?_eq_some_iff.1 hj).1)
       rw[hm] at this
       simpa only[Bool.or_eq_true] using this) (Region.free_spec ho hfree) hkr hy (.inr ⟨[],rfl⟩) H
    rw[qk8] at h
    rcases q6l hr (q61 k o ho) h with ⟨hw,hx⟩|⟨hw,hx⟩
    ·obtain⟨v,hk',hv⟩:=qaH hr.get hx
     exact first v (.inl ⟨hw,hv⟩) (q2u hsel hok hQ g _ _ _ own (inv.set hkr) (hr.put (dstAt k o ho) v) hk')
    ·exact first undef (.inr ⟨hw,rfl⟩) (q2u hsel hok hQ g _ _ _ own (inv.set hkr) (hr.put (dstAt k o ho) undef) hx)
   ·exact h.elim
  ·split at h
   ·rename_i hrd
    exact⟨fun _=>hQ _ _ _ hr h,fun i hi=>by rw[hrd] at hi;cases hi⟩
   ·rename_i hne
    refine⟨fun h0=>absurd h0 hne,fun i hi=> ?_⟩
    obtain⟨o,ho,hx⟩:=qaS _ h i hi
    have hkk:qc5 P ops mv i=qju mv (q43 P o.op):=by unfold qc5;simp only[ho]
    unfold q6J
    simp only[ho]
    cases hkd':qc5 P ops mv i with
    |f=>
     rw[hkd'] at hx
     simp only at hx
     rw[qk8] at hx
     rcases q6l hr (q61 i o ho) hx with ⟨hw,hx⟩|⟨hw,hx⟩
     ·simp only[hw,if_true]
      intro w hs
      obtain⟨v,hk',hv⟩:=qaH hr.get hx
      refine(hv own (.inr ⟨[],rfl⟩) w hs).mono fun u w' ⟨hu,hs'⟩=> ?_
      subst hu
      exact⟨hs',q2u hsel hok hQ g _ _ _ own (inv.set hi) (hr.put (dstAt i o ho) u) hk'⟩
     ·simp only[hw,Bool.false_eq_true,if_false]
      exact q2u hsel hok hQ g _ _ _ own (inv.set hi) (hr.put (dstAt i o ho) undef) hx
    |n=>
     rw[hkd'] at hx
     simp only at hx
     rw[qk9] at hx
     rcases q6l hr (q61 i o ho) hx with ⟨hw,hx⟩|⟨hw,hx⟩
     ·simp only[hw,if_true]
      intro w hs
      have hnew:qfm (q43 P o.op)=true:=by
       rw[hkk] at hkd'
       unfold qju at hkd'
       split at hkd'
       ·split at hkd' <;>cases hkd'
       ·split at hkd'
        ·cases hkd'
        ·split at hkd'
         ·assumption
         ·cases hkd'
      refine(q7N.goes hr.get hs (q4m rfl hs (qiL hnew hx))).mono fun u w' ⟨own',hs',hk',e,he⟩=> ?_
      subst he
      exact⟨e,hs',q2u hsel hok hQ g _ _ _ _ (inv.set hi) (hr.put (dstAt i o ho) u) hk'⟩
     ·simp only[hw,Bool.false_eq_true,if_false]
      exact q2u hsel hok hQ g _ _ _ own (inv.set hi) (hr.put (dstAt i o ho) undef) hx
    |m=>
     rw[hkd'] at hx
     simp only at hx
     rw[qk9] at hx
     rcases q6l hr (q61 i o ho) hx with ⟨hw,hx⟩|⟨hw,hx⟩
     ·simp only[hw,if_true]
      intro w hs
      exact(q7N.goes hr.get hs (q4m rfl hs hx)).mono fun u w' ⟨own',hs',hk'⟩=>⟨own',hs',q2u hsel hok hQ g _ _ _ _ (inv.set hi) (hr.put (dstAt i o ho) u) hk'⟩
     ·simp only[hw,Bool.false_eq_true,if_false]
      exact q2u hsel hok hQ g _ _ _ own (inv.set hi) (hr.put (dstAt i o ho) undef) hx
open Go
inductive IC
 |skip
 |region (ops:List q3o)
 |draw (t:DT)
 |seq (a b:IC)
 |cut (a b:IC)
 |cond (c:Operand) (a b:IC)
 |block (id:Nat) (b:IC)
 |loop (mask:Nat) (b:IC)
 |exit (id:Nat)
 |ret
 |bad
def qlq(m d:Nat):Nat:=m|||2 ^ d
def qez(m d:Nat):Bool:=Nat.beq (Nat.land (Nat.shiftRight m d) 1) 1
def qg5:List q3o→Nat→Nat
 | [],m=>m
 |o::r,m=>qg5 r (match o.dst with|some d=>qlq m d|none=>m)
def qkb:DT→Nat→Nat
 | .f o r,m| .m o r,m=>qkb r (match o.dst with|some d=>qlq m d|none=>m)
 | .both a b,m=>qkb b (qkb a m)
 |_,m=>m
def asg:IC→Nat→Nat
 | .region ops,m=>qg5 ops m
 | .draw t,m=>qkb t m
 | .seq a b,m| .cut a b,m| .cond _ a b,m=>asg b (asg a m)
 | .block _ b,m=>asg b m
 | .loop k _,m=>m|||k
 |_,m=>m
def q7v(P:Program)(mv:List Nat)(n:Nat):Code→IC
 | .skip=> .skip
 | .region _ ops d=>if ops.toList.all (q2G ops n) then
   (if d then(if Region.noSelect ops then .draw (qiA P ops mv ops.size (Array.replicate ops.size false)) else .bad) else .region (ops.toList.map (q2r P ops))) else .bad
 | .seq a b=> .seq (q7v P mv n a) (q7v P mv n b)
 | .cond c a b=> .cond c (q7v P mv n a) (q7v P mv n b)
 | .block id b=> .block id (q7v P mv n b)
 | .loop b=>let b':=q7v P mv n b; .loop (asg b' 0) b'
 | .exit id=> .exit id
 | .ret=> .ret
 |_=> .bad
def qi:IC→IC
 | .seq a b| .cut a b=> .seq (qi a) (qi b)
 | .cond c a b=> .cond c (qi a) (qi b)
 | .block id b=> .block id (qi b)
 | .loop m b=> .loop m (qi b)
 |c=>c
abbrev q6k:=Exit→Fr→Own→Prop
def q7K(next:Fr→Own→Prop)(Q:q6k):q6k:=fun e f own=>match e with
 | .normal=>next f own
 |e=>Q e f own
def q7R(id:Nat)(Q:q6k):q6k:=fun e f own=>match e with
 | .exit id'=>(match Nat.beq id' id with|true=>Q .normal f own|false=>Q (.exit id') f own)
 |e=>Q e f own
structure qeF(P:Program)(W0:World)(code:IC)(mask:Nat)(body:q6k→Fr→Own→Prop)(Q:q6k)(f:Fr)(own:Own):Prop where
 h:∃I:Nat→Fr→Own→Prop,(∃n o2,Ent W0 own o2∧I n f o2)∧∀n f own,I n f own→body (q7K (fun f' own'=>∃m o2,m<n∧Ent W0 own' o2∧I m f' o2) Q) f own
structure qkn(P:Program)(W0:World)(ca cb:IC)(a b:q6k→Fr→Own→Prop)(Q:q6k)(f:Fr)(own:Own):Prop where
 h:a (q7K (fun f' own'=>∃o2,Ent W0 own' o2∧b Q f' o2) Q) f own
noncomputable def XS(P:Program)(W0:World)(c:IC):q6k→Fr→Own→Prop:=
 IC.rec (motive:=fun _=>q6k→Fr→Own→Prop)
  (fun Q f own=>Q .normal f own)
  (fun ops Q f own=>XR P W0 ops (Q .normal) f own)
  (fun t Q f own=>XD P W0 t (Q .normal) f own)
  (fun _ _ a b Q f own=>a (q7K (b Q) Q) f own)
  (fun ca cb a b Q f own=>qkn P W0 ca cb a b Q f own)
  (fun c _ _ a b Q f own=>match ev f c with
   | .bool t=>Br t (a Q f own) (b Q f own)
   |_=>False)
  (fun id _ b Q f own=>b (q7R id Q) f own)
  (fun mask cb b Q f own=>qeF P W0 cb mask b Q f own)
  (fun id Q f own=>Q (.exit id) f own)
  (fun Q f own=>Q .ret f own)
  (fun _ _ _=>False) c
theorem qa8{P:Program}{W0:World}{c:Operand}{a b:IC}{Q:q6k}{f:Fr}{own:Own}:XS P W0 (.cond c a b) Q f own=match ev f c with
  | .bool t=>Br t (XS P W0 a Q f own) (XS P W0 b Q f own)
  |_=>False:=rfl
section mono
variable{P:Program}{W0:World}
theorem q8m{K K':Fr→Own→Prop}(hk:∀f own,K f own→K' f own):∀(l:List q3o) (f:Fr) (own:Own),XR P W0 l K f own→XR P W0 l K' f own
 | [],f,own,h=>hk f own h
 |⟨d,op,none⟩::l,f,own,h=>q4F (fun _ _ h=>q8m hk l _ _ h) h
 |⟨d,op,some (g,b)⟩::l,f,own,h=>by
   simp only[qa7] at h ⊢
   have ih:=q8m hk l
   split at h
   ·exact⟨fun e=>q4F (fun v own' h=>ih _ _ h) (h.y e),fun e=>ih _ _ (h.n e)⟩
   ·exact ih _ _ h
theorem qcF{f:Fr}{own:Own}{op:IOp}{K K':Value→Prop}(hk:∀v,K v→K' v)(h:XQ P W0 f own op K):XQ P W0 f own op K':=by
 unfold XQ at h ⊢
 split at h
 ·obtain⟨v,hc,h⟩:=h.h;exact⟨v,hc,hk v h⟩
 ·split at h
  ·exact q4F (fun v _ h=>hk v h) h
  ·exact h.elim
theorem qcE{gd:Option (Nat×Bool)}{f:Fr}{Y Y' N N':Fr→Prop}(hy:∀f,Y f→Y' f)(hn:∀f,N f→N' f)(h:XG gd f Y N):XG gd f Y' N':=by
 unfold XG at h ⊢
 split
 ·exact hy _ h
 ·simp only at h
  split
  ·rename_i hc;rw[hc] at h;exact⟨fun e=>hy _ (h.y e),fun e=>hn _ (h.n e)⟩
  ·rename_i hc;split at h
   ·rename_i hc';exact absurd hc' (hc _)
   ·exact hn _ h
theorem q3p{K K':Fr→Own→Prop}(hk:∀f own,K f own→K' f own):∀(t:DT) (f:Fr) (own:Own),XD P W0 t K f own→XD P W0 t K' f own
 | .done,f,own,h=>hk f own h
 | .f o r,f,own,h=>by
  rw[qk8] at h ⊢
  exact qcE (fun f h=>qcF (fun _ h=>q3p hk r _ _ h) h) (fun f h=>q3p hk r _ _ h) h
 | .m o r,f,own,h=>by
  rw[qk9] at h ⊢
  exact qcE (fun f h=>q4F (fun _ _ h=>q3p hk r _ _ h) h) (fun f h=>q3p hk r _ _ h) h
 | .both a b,f,own,h=>⟨q3p hk a f own (q4T.l (A:=XD P W0 a K f own) (B:=XD P W0 b K f own) h),q3p hk b f own (q4T.r (A:=XD P W0 a K f own) (B:=XD P W0 b K f own) h)⟩
 | .tt,_,_,h=>h
 | .bad,_,_,h=>h.elim
theorem q5U{n n':Fr→Own→Prop}{Q Q':q6k}(hn:∀f own,n f own→n' f own)(hq:∀e f own,Q e f own→Q' e f own):∀e f own,q7K n Q e f own→q7K n' Q' e f own:=by
 intro e f own h
 cases e <;>first|exact hn _ _ h|exact hq _ _ _ h
theorem qaa{id:Nat}{Q Q':q6k}(hq:∀e f own,Q e f own→Q' e f own):∀e f own,q7R id Q e f own→q7R id Q' e f own:=by
 intro e f own h
 cases e <;>simp only[q7R] at h ⊢
 case exit=>split <;>rename_i hc <;>rw[hc] at h <;>exact hq _ _ _ h
 all_goals exact hq _ _ _ h
theorem q0Q:∀(c:IC) (Q Q':q6k),(∀e f own,Q e f own→Q' e f own)→∀(f:Fr) (own:Own),XS P W0 c Q f own→XS P W0 c Q' f own
 | .skip,Q,Q',hq,f,own,h=>hq _ _ _ h
 | .region ops,Q,Q',hq,f,own,h=>q8m (hq .normal) ops f own h
 | .draw ops,Q,Q',hq,f,own,h=>q3p (hq .normal) ops f own h
 | .seq a b,Q,Q',hq,f,own,h=>q0Q a _ _ (q5U (fun f own h=>q0Q b Q Q' hq f own h) hq) f own h
 | .cut a b,Q,Q',hq,f,own,h=>⟨q0Q a _ _ (q5U (fun f own ⟨o2,he,h⟩=>⟨o2,he,q0Q b Q Q' hq f o2 h⟩) hq) f own h.h⟩
 | .cond c a b,Q,Q',hq,f,own,h=>by
  simp only[qa8] at h ⊢
  split at h
  ·exact⟨fun e=>q0Q a Q Q' hq f own (h.y e),fun e=>q0Q b Q Q' hq f own (h.n e)⟩
  ·exact h.elim
 | .block id b,Q,Q',hq,f,own,h=>q0Q b _ _ (qaa hq) f own h
 | .loop mask b,Q,Q',hq,f,own,h=>by
  obtain⟨I,h0,h1⟩:=h.h
  exact⟨I,h0,fun n f own hI=>q0Q b _ _ (q5U (fun _ _ h=>h) hq) f own (h1 n f own hI)⟩
 | .exit id,Q,Q',hq,f,own,h=>hq _ _ _ h
 | .ret,Q,Q',hq,f,own,h=>hq _ _ _ h
 | .bad,_,_,_,_,_,h=>h.elim
end mono
theorem qfh{p:Nat→Prop}:∀n,p n→∃m,p m∧∀k,p k→m≤k:=by
 intro n
 induction n using Nat.strongRecOn with
 |_ n ih=>
  intro hn
  by_cases h:∃k,k<n∧p k
  ·obtain⟨k,hk,hp⟩:=h
   exact ih k hk hp
  ·exact⟨n,hn,fun k hk=>Nat.le_of_not_lt fun hlt=>h ⟨k,hlt,hk⟩⟩
theorem qaD{P:Program}{r:Option Nat}{m:Nat}{c:Code}{Q:Exit→Act→World→Prop}{a:Act}{w:World}(I:Nat→Act→World→Prop)(h0:∃n,I n a w)
  (round:∀n a w,I n a w→c.wpIn (WF r) m P (Exit.then (fun a' w'=>∃m,m<n∧I m a' w') Q) a w):(Code.loop c).wpIn (WF r) m P Q a w:=by
 have hex:∀a w,∃m0:Nat,(∃n,I n a w)→I m0 a w∧∀k,I k a w→m0≤k:=fun a w=>by
  by_cases h:∃n,I n a w
  ·obtain⟨n,hn⟩:=h
   obtain⟨m0,hm⟩:=qfh (p:=fun n=>I n a w) n hn
   exact⟨m0,fun _=>hm⟩
  ·exact⟨0,fun h'=>(h h').elim⟩
 refine wpIn_loop (fun a w=>∃n,I n a w) (fun a w=>Classical.choose (hex a w)) h0 ?_
 intro a w h
 refine wpIn_mono (round _ a w (Classical.choose_spec (hex a w) h).1) ?_
 intro e a' w' q
 cases e with
 |normal=>
  obtain⟨m,hm,hI⟩:=q
  have h':∃n,I n a' w':=⟨m,hI⟩
  exact⟨h',Nat.lt_of_le_of_lt ((Classical.choose_spec (hex a' w') h').2 m hI) hm⟩
 |_=>exact q
theorem q2v{ds:List Deferred}{P:Program}{W0:World}{mv:List Nat}{n:Nat}{r:Option Nat}{m:Nat}(hm:P.follows .mixedOrders=true):∀(ic:IC) (c:Code),q7v P mv n c=qi ic→∀(Q:q6k) (Q':Exit→Act→World→Prop),
  (∀e f own a w,Rel n ds a f→St W0 own w→Q e f own→Q' e a w)→∀(f:Fr) (own:Own) (a:Act) (w:World),Rel n ds a f→St W0 own w→XS P W0 ic Q f own→c.wpIn (WF r) m P Q' a w
 |ic, .skip,hl,Q,Q',hq,f,own,a,w,hr,hs,h=>by
  cases ic <;>simp only[q7v,qi] at hl <;>(try exact IC.noConfusion hl)
  exact wpIn_skip (hq _ _ _ _ _ hr hs h)
 |ic, .region id ops d,hl,Q,Q',hq,f,own,a,w,hr,hs,h=>by
  unfold q7v at hl
  split at hl
  ·rename_i hok
   cases d with
   |true=>
    simp only[if_true] at hl
    split at hl
    ·rename_i hB
     cases ic <;>simp only[qi] at hl <;>(try exact IC.noConfusion hl)
     injection hl with hl
     subst hl
     exact wpIn_region_any hm (q2I (Q:=fun a own=>∀w,St W0 own w→Q' .normal a w) (fun a own w hs h=>h w hs) _ _ a own _ (hs.drawn _)
      (q2u (Q:=fun a own=>∀w,St W0 own w→Q' .normal a w) hB hok (fun f own a hr h w hs=>hq _ f own a w hr hs h) _ _ f a own q4U.start hr h))
    ·cases ic <;>simp only[qi] at hl <;>(try exact IC.noConfusion hl)
     exact h.elim
   |false=>
    simp only[Bool.false_eq_true,if_false] at hl
    cases ic <;>simp only[qi] at hl <;>(try exact IC.noConfusion hl)
    injection hl with hl
    subst hl
    exact wpIn_region_list (qaJ (fun f own a w hr hs h=>hq _ f own a w hr hs h) ops.toList f own a w hok hr hs h)
  ·cases ic <;>simp only[qi] at hl <;>(try exact IC.noConfusion hl)
   exact h.elim
 |ic, .seq x y,hl,Q,Q',hq,f,own,a,w,hr,hs,h=>by
  cases ic <;>simp only[q7v,qi] at hl <;>(try exact IC.noConfusion hl)
  case seq ia ib=>
   injection hl with h1 h2
   refine wpIn_seq (q2v hm ia x h1 _ _ ?_ f own a w hr hs h)
   intro e f own a w hr hs h
   cases e with
   |normal=>exact q2v hm ib y h2 Q Q' hq f own a w hr hs h
   |_=>exact hq _ _ _ _ _ hr hs h
  case cut ia ib=>
   injection hl with h1 h2
   refine wpIn_seq (q2v hm ia x h1 _ _ ?_ f own a w hr hs h.h)
   intro e f own a w hr hs h
   cases e with
   |normal=>
    obtain⟨o2,he,h⟩:=h
    exact q2v hm ib y h2 Q Q' hq f o2 a w hr (he w hs) h
   |_=>exact hq _ _ _ _ _ hr hs h
 |ic, .cond c x y,hl,Q,Q',hq,f,own,a,w,hr,hs,h=>by
  cases ic <;>simp only[q7v,qi] at hl <;>(try exact IC.noConfusion hl)
  case cond c' ia ib=>
  injection hl with h0 h1 h2
  subst h0
  simp only[qa8] at h
  split at h
  ·rename_i t ht
   refine wpIn_cond_split (t:=t) (by rw[qde hr.get];exact ht) (fun e=> ?_) (fun e=> ?_)
   ·exact q2v hm ia x h1 Q Q' hq f own a w hr hs (h.y e)
   ·exact q2v hm ib y h2 Q Q' hq f own a w hr hs (h.n e)
  ·exact h.elim
 |ic, .block id b,hl,Q,Q',hq,f,own,a,w,hr,hs,h=>by
  cases ic <;>simp only[q7v,qi] at hl <;>(try exact IC.noConfusion hl)
  case block id' ib=>
  injection hl with h0 h1
  subst h0
  refine wpIn_block (q2v hm ib b h1 _ _ ?_ f own a w hr hs h)
  intro e f own a w hr hs h
  cases e with
  |exit id'=>
   simp only[q7R,Exit.inBlock] at h ⊢
   split at h
   ·rename_i hc;rw[if_pos (Nat.eq_of_beq_eq_true hc)];exact hq _ _ _ _ _ hr hs h
   ·rename_i hc;rw[if_neg (Nat.ne_of_beq_eq_false hc)];exact hq _ _ _ _ _ hr hs h
  |_=>exact hq _ _ _ _ _ hr hs h
 |ic, .loop b,hl,Q,Q',hq,f,own,a,w,hr,hs,h=>by
  cases ic <;>simp only[q7v,qi] at hl <;>(try exact IC.noConfusion hl)
  case loop m ib=>
  injection hl with _ hb
  obtain⟨I,⟨n0,o2,he,h0⟩,h1⟩:=h.h
  refine qaD (fun k a w=>∃f own,Rel n ds a f∧St W0 own w∧I k f own) ⟨n0,f,o2,hr,he w hs,h0⟩ ?_
  rintro k a w ⟨f,own,hr,hs,hI⟩
  refine q2v hm ib b hb _ _ ?_ f own a w hr hs (h1 k f own hI)
  intro e f own a w hr hs h
  cases e with
  |normal=>
   obtain⟨m,o2,hm,he,hI⟩:=h
   exact⟨m,hm,f,o2,hr,he w hs,hI⟩
  |_=>exact hq _ _ _ _ _ hr hs h
 |ic, .exit id,hl,Q,Q',hq,f,own,a,w,hr,hs,h=>by
  cases ic <;>simp only[q7v,qi] at hl <;>(try exact IC.noConfusion hl)
  injection hl with hl
  subst hl
  exact wpIn_exit (hq _ _ _ _ _ hr hs h)
 |ic, .ret,hl,Q,Q',hq,f,own,a,w,hr,hs,h=>by
  cases ic <;>simp only[q7v,qi] at hl <;>(try exact IC.noConfusion hl)
  exact wpIn_ret (hq _ _ _ _ _ hr hs h)
 |ic, .rangeFunc ..,hl,_,_,_,_,_,_,_,_,_,h=>by cases ic <;>simp only[q7v,qi] at hl <;>first|exact IC.noConfusion hl|exact h.elim
 |ic, .scope ..,hl,_,_,_,_,_,_,_,_,_,h=>by cases ic <;>simp only[q7v,qi] at hl <;>first|exact IC.noConfusion hl|exact h.elim
 |ic, .label ..,hl,_,_,_,_,_,_,_,_,_,h=>by cases ic <;>simp only[q7v,qi] at hl <;>first|exact IC.noConfusion hl|exact h.elim
 |ic, .goto ..,hl,_,_,_,_,_,_,_,_,_,h=>by cases ic <;>simp only[q7v,qi] at hl <;>first|exact IC.noConfusion hl|exact h.elim
 |ic, .refuse ..,hl,_,_,_,_,_,_,_,_,_,h=>by cases ic <;>simp only[q7v,qi] at hl <;>first|exact IC.noConfusion hl|exact h.elim
inductive qiz
 |tmp (t:Nat)
 |cell (a:Nat)
 |cellN (a n:Nat)
 |bad
def q6L(P:Program):ResultVar→qiz
 | .tmp t=> .tmp t
 | .cell a t=>match q5X P t,szT P t with
  |some true,some n=> .cellN a n
  |some false,some _=> .cell a
  |_,_=> .bad
structure IFn where
 n:Nat
 body:IC
 res:List qiz
def qn(P:Program)(mv:List Nat)(k:FuncId):Option IFn:=
 match P.funcs[k]? with
 |some fn=>match fn.body with
  |some c=>some ⟨fn.ntmps,q7v P mv fn.ntmps c,fn.results.toList.map (q6L P)⟩
  |none=>none
 |none=>none
noncomputable def qeG(W0:World)(f:Fr)(own:Own)(l:List qiz):(List Value→Prop)→Prop:=
 List.rec (motive:=fun _=>(List Value→Prop)→Prop) (fun K=>K []) (fun r _ ih K=>match r with
  | .tmp t=>Mv (f t) fun v=>ih fun vs=>K (v::vs)
  | .cell a=>match f a with
   | .pointer (some a)=>Ld W0 own a fun v=>ih fun vs=>K (v::vs)
   |_=>False
  | .cellN a n=>match f a with
   | .pointer (some a)=>LdN W0 own a n fun v=>ih fun vs=>K (.agg v::vs)
   |_=>False
  | .bad=>False) l
theorem qcG{W0:World}{f:Fr}{own:Own}{a:Nat}{r:List qiz}{K:List Value→Prop}:qeG W0 f own (.cell a::r) K=match f a with
   | .pointer (some a)=>Ld W0 own a fun v=>qeG W0 f own r fun vs=>K (v::vs)
   |_=>False:=rfl
theorem qbT{W0:World}{f:Fr}{own:Own}{a n:Nat}{r:List qiz}{K:List Value→Prop}:qeG W0 f own (.cellN a n::r) K=match f a with
   | .pointer (some a)=>LdN W0 own a n fun v=>qeG W0 f own r fun vs=>K (.agg v::vs)
   |_=>False:=rfl
def qiD:List Value→Value
 | [v]=>v
 |vs=> .tuple vs.toArray
def qlp(W0:World)(res:List qiz)(K:Value→Own→Prop):q6k:=fun e f own=>match e with
 | .ret| .normal=>qeG W0 f own res fun vs=>K (qiD vs) own
 |_=>False
def qhB(args:List Value):Fr:=fun t=>args.getD t undef
def q0E(P:Program)(W0:World)(k:FuncId)(args:List Value)(own:Own)(R:Value→Own→Prop):Prop:=
 ∀w,St W0 own w→Calls P k args.toArray w fun e w'=>∃v own',e= .returned v∧St W0 own' w'∧R v own'
def q74(a:Act):ResultVar→Sem Value
 | .tmp t=>pure (a.tmps.getD t undef)
 | .cell x t=>do loadVar t (←asAddr (a.tmps.getD x undef))
theorem q7O{P:Program}{W0:World}{f:Fr}{own:Own}{a:Act}{w:World}(hf:∀t,a.tmps.getD t undef=f t)(hs:St W0 own w):
  ∀(l:List ResultVar) (K:List Value→Prop),qeG W0 f own (l.map (q6L P)) K→∃vs,(l.mapM (q74 a)).run P w= .ok vs w∧K vs
 | [],K,h=>⟨[],by simp,h⟩
 |r::l,K,h=>by
  have hone:∀(u:Value) (K':List Value→Prop),(q74 a r).run P w= .ok u w→qeG W0 f own (l.map (q6L P)) (fun vs=>K' (u::vs))→∃vs,((r::l).mapM (q74 a)).run P w= .ok vs w∧K' vs:=by
   intro u K' hu h
   obtain⟨vs,hr,hk⟩:=q7O hf hs l _ h
   exact⟨u::vs,by simp[List.mapM_cons,hu,hr],hk⟩
  cases r with
  |tmp t=>exact hone (f t) K (by simp only[q74,hf,Sem.run_pure]) (Mv.h (K:=fun v=>qeG W0 f own (l.map (q6L P)) fun vs=>K (v::vs)) h)
  |cell x t=>
   simp only[List.map_cons,q6L] at h
   split at h
   ·rename_i n ha hn
    simp only[qbT] at h
    split at h
    ·rename_i ad hx
     obtain⟨us,hlen,hv,h⟩:=h.h
     exact hone _ K (by simp only[q74,hf,hx,asAddr];simp[loadVar,q1a ha,q1o hn,q5g (vs:=us.toList) hlen (hv w hs)]) h
    ·exact h.elim
   ·rename_i n ha hn
    simp only[qcG] at h
    split at h
    ·rename_i ad hx
     obtain⟨u,hv,h⟩:=h.h
     have hv':=hv w hs
     exact hone u K (by simp only[q74,hf,hx,asAddr];simp[loadVar,q1a ha,hv']) h
    ·exact h.elim
   ·exact h.elim
theorem q94{P:Program}{W0:World}{f:Fr}{own:Own}{a:Act}{w:World}{fn:Func}{K:Value→Prop}(hf:∀t,a.tmps.getD t undef=f t)(hs:St W0 own w)
  (h:qeG W0 f own (fn.results.toList.map (q6L P)) fun vs=>K (qiD vs)):∃v,(results fn a.tmps).run P w= .ok v w∧K v:=by
 obtain⟨vs,hr,hk⟩:=q7O hf hs _ _ h
 refine⟨qiD vs,?_,hk⟩
 have he:results fn a.tmps=(do
   let vs ←fn.results.mapM (q74 a)
   pure (if h:vs.size=1 then vs[0] else .tuple vs)):=rfl
 rw[he,←Array.toArray_toList (xs:=fn.results),List.mapM_toArray]
 simp only[Sem.run_bind,Sem.run_map,hr,Result.andThen_ok,Sem.run_pure]
 congr 1
 match vs with
 | []=>rfl
 | [v]=>rfl
 |_::_::_=>rfl
theorem qa{P:Program}{W0:World}{mv:List Nat}{k:FuncId}{fn:IFn}{args:List Value}{own:Own}{R:Value→Own→Prop}(hm:P.follows .mixedOrders=true)
  (hl:qn P mv k=some {fn with body:=qi fn.body}) (hlen:args.length≤fn.n) (h:XS P W0 fn.body (qlp W0 fn.res R) (qhB args) own):q0E P W0 k args own R:=by
 intro w hw
 unfold qn at hl
 split at hl
 ·rename_i f hf
  split at hl
  ·rename_i c hc
   simp only[Option.some.injEq,IFn.mk.injEq] at hl
   obtain⟨h1,h2,h3⟩:=hl
   refine calls_of_wp hf hc ?_
   refine(wpIn_wide (n:=0)).1 ?_
   rw[←h3] at h
   refine q2v (ds:= []) (r:=none) (m:=0) hm fn.body c h2 (qlp W0 (f.results.toList.map (q6L P)) R) _ ?_ (qhB args) own _ w ?_ hw h
   ·intro e f' own' a' w' hr hs hq
    cases e <;>first|exact hq.elim|skip
    all_goals
     obtain⟨v,hv,hk⟩:=q94 (fn:=f) (K:=fun v=>R v own') hr.get hs hq
     exact⟨hr.defers,v,hv,v,own',rfl,hs,hk⟩
   ·rw[←h1] at hlen
    refine⟨by simp;omega,fun t=> ?_,rfl⟩
    simp only[qhB,Array.getD_eq_getD_getElem?,List.getD_eq_getElem?_getD,Array.getElem?_append,List.getElem?_toArray,List.size_toArray,Array.getElem?_replicate]
    split
    ·rfl
    ·rename_i hge
     rw[List.getElem?_eq_none (by omega)]
     split <;>rfl
  ·cases hl
 ·cases hl
end Go.Proofs.YtkieffpjjfebjaaGreatDoor
