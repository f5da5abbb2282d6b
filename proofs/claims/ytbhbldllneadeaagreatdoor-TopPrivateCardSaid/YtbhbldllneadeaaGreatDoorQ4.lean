/- What the laws share, part 4. No condition. -/
import Derived.Deep.QuietTactic
import Derived.Test.YtbhbldllneadeaaGreatDoorQ3
namespace Go.Proofs.YtbhbldllneadeaaGreatDoor
open Go
section
variable{P:Program}{W0:World}{f:Fr}{own:Own}{K K':Value→Own→Prop}
theorem q7X{op:BinOp}{k k':IntKind}{m n:Int}{K K':Value→Prop}(hk:∀v,K v→K' v)(h:q33 op k m k' n K):q33 op k m k' n K':=by
 cases op <;>simp only[q33] at h ⊢
 case add|sub|mul=>obtain⟨rfl,g⟩:=h.h;exact .mk ⟨hk _ g.h⟩
 case quo|rem=>obtain⟨rfl,g⟩:=h.h;exact .mk ⟨g.h.1,hk _ g.h.2⟩
 case shl|shr=>exact⟨h.h.1,hk _ h.h.2⟩
 case and|or|xor|andNot=>obtain⟨rfl,g⟩:=h.h;exact .mk ⟨hk _ g.h⟩
 all_goals(obtain⟨rfl,g⟩:=h.h;exact .mk (hk _ g))
theorem qap{op:BinOp}{k k':IntKind}{m n:Int}{K:Value→Prop}(h:q33 op k m k' n K):∃v,K v∧q33 op k m k' n (fun v'=>v'=v):=by
 cases op <;>simp only[q33] at h ⊢
 case add|sub|mul=>obtain⟨rfl,g⟩:=h.h;exact⟨_,g.h, .mk ⟨rfl⟩⟩
 case quo|rem=>obtain⟨rfl,g⟩:=h.h;exact⟨_,g.h.2, .mk ⟨g.h.1,rfl⟩⟩
 case shl|shr=>exact⟨_,h.h.2,⟨h.h.1,rfl⟩⟩
 case and|or|xor|andNot=>obtain⟨rfl,g⟩:=h.h;exact⟨_,g.h, .mk ⟨rfl⟩⟩
 all_goals(obtain⟨rfl,g⟩:=h.h;exact⟨_,g, .mk rfl⟩)
theorem q1U:∀(l:List (Nat×Nat×Operand)) (cs:List Value) {K K':List Value→Prop},(∀cs,K cs→K' cs)→Bld f l cs K→Bld f l cs K'
 | [],cs,K,K',hk,h=>hk cs h
 |(off,sz,x)::l,cs,K,K',hk,h=>by
  rw[q1T] at h ⊢
  split at h
  ·split at h
   ·exact q1U l _ hk h
   ·exact h.elim
  ·rename_i v hne;have h':=Mv.h (K:=fun v=>(match Nat.beq sz 1 with|true=>Bld f l (cs.set off v) K|false=>False)) h;refine Mv.mk ?_
   split at h'
   ·rename_i hb;first|exact q1U l _ hk h'|(rw[hb];exact q1U l _ hk h')
   ·exact h'.elim
theorem q7R:∀(l:List (Nat×Nat×Operand)) (cs:List Value) {K:List Value→Prop},Bld f l cs K→∃c',K c'∧Bld f l cs (fun x=>x=c')
 | [],cs,K,h=>⟨cs,h,rfl⟩
 |(off,sz,x)::l,cs,K,h=>by
  rw[q1T] at h
  split at h
  ·rename_i vs hx
   split at h
   ·rename_i hb;obtain⟨c',h1,h2⟩:=q7R l _ h;refine⟨c',h1,?_⟩;rw[q1T,hx];simp only[hb];exact h2
   ·exact h.elim
  ·rename_i v hne;have h':=Mv.h (K:=fun v=>(match Nat.beq sz 1 with|true=>Bld f l (cs.set off v) K|false=>False)) h
   split at h'
   ·rename_i hb;obtain⟨c',h1,h2⟩:=q7R l _ h';refine⟨c',h1,?_⟩;rw[q1T]
    split
    ·rename_i vs hx;exact(hne vs hx).elim
    ·refine Mv.mk ?_;rw[hb];exact h2
   ·exact h'.elim
theorem q2N{io:IOp}(hk:∀v own,K v own→K' v own)(h:XO P W0 f own io K):XO P W0 f own io K':=by
 cases io <;>simp only[XO] at h ⊢
 case mov=>exact .mk (hk _ _ h.h)
 case pick=>split at h <;>first|exact .mk (hk _ _ h.h)|exact h.elim
 case bin=>split at h <;>first|exact q7X (fun v=>hk v own) h|exact h.elim
 case beq=>split at h <;>first|exact hk _ _ h|exact h.elim
 case not=>split at h <;>first|exact hk _ _ h|exact h.elim
 case sbin=>split at h <;>first|(unfold qbp at h ⊢;split <;>simp_all)|exact h.elim
 case fbin=>split at h <;>first|exact⟨hk _ _ h.h⟩|exact h.elim
 case flt=>split at h <;>first|exact⟨fun r hr=>hk _ _ (h.h.1 r hr),fun hn r hr=>hk _ _ (h.h.2 hn r hr)⟩|exact h.elim
 case i2f=>split at h <;>first|exact hk _ _ h|exact h.elim
 case f2i=>split at h <;>first|(obtain⟨n,hn,h⟩:=h.h;exact⟨n,hn,hk _ _ h⟩)|exact h.elim
 case fbits=>split at h <;>first|exact hk _ _ h|exact h.elim
 case ffrom=>split at h <;>first|exact hk _ _ h|exact h.elim
 case fpk=>split at h <;>first|exact hk _ _ h|exact h.elim
 case neg=>split at h <;>first|exact⟨hk _ _ h.h⟩|exact h.elim
 case conv=>split at h <;>first|exact⟨hk _ _ h.h⟩|exact h.elim
 case fad=>split at h <;>first|exact hk _ _ h|exact h.elim
 case fld=>split at h <;>first|(obtain⟨v,hv,h⟩:=h.h;exact⟨v,hv,hk _ _ h⟩)|exact h.elim
 case fldN=>split at h <;>first|exact⟨hk _ _ h.h⟩|exact h.elim
 case ixs=>split at h <;>first|(obtain⟨v,b,o,h1,h2,h3,h⟩:=h.h;exact⟨v,b,o,h1,h2,h3,hk _ _ h⟩)|exact h.elim
 case sls=>split at h <;>first|(obtain⟨l,r,m,h1,h2,h3,h4,h5,h6,h7,h⟩:=h.h;exact⟨l,r,m,h1,h2,h3,h4,h5,h6,h7,hk _ _ h⟩)|exact h.elim
 case sslc=>split at h <;>first|(obtain⟨l,r,h1,h2,h3,h4,h⟩:=h.h;exact⟨l,r,h1,h2,h3,h4,hk _ _ h⟩)|exact h.elim
 case sidx=>split at h <;>first|(obtain⟨j,b,h1,h2,h⟩:=h.h;exact⟨j,b,h1,h2,hk _ _ h⟩)|exact h.elim
 case scat=>split at h <;>first|exact⟨h.h.1,hk _ _ h.h.2⟩|exact h.elim
 case ibs=>split at h <;>first|exact hk _ _ h|exact h.elim
 case capb=>split at h <;>first|exact hk _ _ h|exact h.elim
 case nilq=>split at h <;>first|exact hk _ _ h|exact h.elim
 case nifc=>split at h <;>first|exact hk _ _ h|exact h.elim
 case iter=>split at h <;>first|exact⟨fun b hb hl=>hk _ _ (h.h b hb hl)⟩|exact h.elim
 case next=>split at h <;>first|(obtain⟨s,pos,h1,h2,h3⟩:=h.h;exact⟨s,pos,h1,fun hl=>(let ⟨o',a,b⟩:=h2 hl;⟨o',a,hk _ _ b⟩),fun hl=>hk _ _ (h3 hl)⟩)|exact h.elim
 case ageq=>split at h <;>first|(obtain⟨r,h1,h⟩:=h.h;exact⟨r,h1,hk _ _ h⟩)|exact h.elim
 case mkm=>exact⟨fun b hb=>hk _ _ (h.h b hb)⟩
 case mlk=>split at h <;>first|exact hk _ _ h|(obtain⟨l,r,h1,h2,h⟩:=h.h;exact⟨l,r,h1,h2,hk _ _ h⟩)|exact h.elim
 case mup=>split at h <;>first|(obtain⟨l,o',h1,h2,h⟩:=h.h;exact⟨l,o',h1,h2,hk _ _ h⟩)|exact h.elim
 case mkf=>exact hk _ _ h
 case mk=>split at h <;>first|(obtain⟨l,c,h1,h2,h3,h4,h⟩:=h.h;exact⟨l,c,h1,h2,h3,h4,fun b hb=>hk _ _ (h b hb)⟩)|exact h.elim
 case app=>split at h <;>first|(obtain⟨cs,ys,h1,h2,h3,h4,h5,h6,h7,h8,h9⟩:=h.h;exact⟨cs,ys,h1,h2,h3,h4,h5,h6,h7,fun hl=>(let ⟨o',a,b⟩:=h8 hl;⟨o',a,hk _ _ b⟩),fun hl=>⟨(h9 hl).1,fun b c' hb hc=>(let ⟨o',a,b⟩:=(h9 hl).2 b c' hb hc;⟨o',a,hk _ _ b⟩)⟩⟩)|exact h.elim
 case appz=>split at h <;>first|(rcases h.h with ⟨h1,h2,h3⟩|⟨h1,h2,m',h3,h4,h5,h6⟩;exact⟨.inl ⟨h1,h2,hk _ _ h3⟩⟩;exact⟨.inr ⟨h1,h2,m',h3,h4,h5,fun b c' hb hc=>hk _ _ (h6 b c' hb hc)⟩⟩)|exact h.elim
 case clr=>split at h <;>first|(obtain⟨h1,o',h2,h3⟩:=h.h;exact⟨h1,o',h2,hk _ _ h3⟩)|exact hk _ _ h|exact h.elim
 case callv=>split at h <;>first|exact⟨h.h.1,⟨fun w hw=>(h.h.2.h w hw).mono fun e w' ⟨v,o',he,hs,h⟩=>⟨v,o',he,hs,hk _ _ h⟩⟩⟩|exact⟨fun w hw=>(h.h w hw).imp fun k h=>h.imp fun t h=>h.imp fun a h=>h.imp fun b h=>⟨h.1,h.2.mono fun e w' ⟨v,o',he,hs,h⟩=>⟨v,o',he,hs,hk _ _ h⟩⟩⟩|exact h.elim
 case ixa=>split at h <;>first|(obtain⟨v,h1,h2,h⟩:=h.h;exact⟨v,h1,h2,hk _ _ h⟩)|exact h.elim
 case idx=>split at h <;>first|(obtain⟨j,h1,h2,h⟩:=h.h;obtain⟨v,hv,h⟩:=h.h;exact⟨j,h1,h2,v,hv,hk _ _ h⟩)|exact h.elim
 case idxN=>split at h <;>first|(obtain⟨j,h1,h2,h⟩:=h.h;exact⟨j,h1,h2,⟨hk _ _ h.h⟩⟩)|exact h.elim
 case ld=>split at h <;>first|(obtain⟨v,hv,h⟩:=h.h;exact⟨v,hv,hk _ _ h⟩)|exact h.elim
 case ldN=>split at h <;>first|(obtain⟨v,hl,hv,h⟩:=h.h;exact⟨v,hl,hv,hk _ _ h⟩)|exact h.elim
 case st=>split at h <;>first|(obtain⟨h1,o',h2,h⟩:=h.h.h;exact .mk ⟨h1,o',h2,hk _ _ h⟩)|exact h.elim
 case stN=>split at h <;>first|(obtain⟨h0,⟨h1,o',h2,h⟩⟩:=h;exact⟨h0,⟨h1,o',h2,hk _ _ h⟩⟩)|exact h.elim
 case box=>split at h <;>first|exact⟨fun b hb hl=>hk _ _ (h.h b hb hl)⟩|exact .mk ⟨fun b hb hl=>hk _ _ (h.h.h b hb hl)⟩
 case new=>split at h <;>exact⟨fun b hb hl=>hk _ _ (h.h b hb hl)⟩
 case ext=>split at h <;>first|(obtain⟨v,hv,h⟩:=h.h;exact⟨v,hv,hk _ _ h⟩)|exact h.elim
 case len=>split at h <;>first|exact hk _ _ h|exact h.elim
 case lens=>split at h <;>first|exact hk _ _ h|exact h.elim
 case nilc=>split at h <;>first|exact hk _ _ h|exact h.elim
 case mm=>split at h <;>first|exact⟨hk _ _ h.h⟩|exact h.elim
 case bld=>exact q1U _ _ (fun cs h=>hk _ _ h) h
 case blds=>exact q1U _ _ (fun cs h=>⟨fun b hb hl=>hk _ _ (h.h b hb hl)⟩) h
 case call=>exact⟨fun w hw=>(h.h w hw).mono fun e w' ⟨v,o',he,hs,h⟩=>⟨v,o',he,hs,hk _ _ h⟩⟩
theorem qjU{io:IOp}(hr:qcC io=true)(h:XO P W0 f own io K):∃v,K v own∧XO P W0 f own io (fun v' _=>v'=v):=by
 cases io <;>simp only[XO] at h ⊢ <;>(try simp[qcC] at hr)
 case mov=>exact⟨_,h.h, .mk rfl⟩
 case pick=>split at h <;>first|exact⟨_,h.h, .mk rfl⟩|exact h.elim
 case bin=>split at h <;>first|exact qap h|exact h.elim
 case beq=>split at h <;>first|exact⟨_,h,rfl⟩|exact h.elim
 case not=>split at h <;>first|exact⟨_,h,rfl⟩|exact h.elim
 case sbin=>split at h <;>first|(unfold qbp at h ⊢;split at h <;>first|exact⟨_,h,rfl⟩|exact h.elim)|exact h.elim
 case fbin=>split at h <;>first|exact⟨_,h.h,⟨rfl⟩⟩|exact h.elim
 case i2f=>split at h <;>first|exact⟨_,h,rfl⟩|exact h.elim
 case f2i=>split at h <;>first|(obtain⟨n,hn,h⟩:=h.h;exact⟨_,h,⟨n,hn,rfl⟩⟩)|exact h.elim
 case fbits=>split at h <;>first|exact⟨_,h,rfl⟩|exact h.elim
 case ffrom=>split at h <;>first|exact⟨_,h,rfl⟩|exact h.elim
 case fpk=>split at h <;>first|exact⟨_,h,rfl⟩|exact h.elim
 case neg=>split at h <;>first|exact⟨_,h.h,⟨rfl⟩⟩|exact h.elim
 case conv=>split at h <;>first|exact⟨_,h.h,⟨rfl⟩⟩|exact h.elim
 case fad=>split at h <;>first|exact⟨_,h,rfl⟩|exact h.elim
 case fld=>split at h <;>first|(obtain⟨v,hv,h⟩:=h.h;exact⟨_,h,⟨v,hv,rfl⟩⟩)|exact h.elim
 case fldN=>split at h <;>first|exact⟨_,h.h,⟨rfl⟩⟩|exact h.elim
 case ixs=>split at h <;>first|(obtain⟨v,b,o,h1,h2,h3,h⟩:=h.h;exact⟨_,h,⟨v,b,o,h1,h2,h3,rfl⟩⟩)|exact h.elim
 case sls=>split at h <;>first|(obtain⟨l,r,m,h1,h2,h3,h4,h5,h6,h7,h⟩:=h.h;exact⟨_,h,⟨l,r,m,h1,h2,h3,h4,h5,h6,h7,rfl⟩⟩)|exact h.elim
 case sslc=>split at h <;>first|(obtain⟨l,r,h1,h2,h3,h4,h⟩:=h.h;exact⟨_,h,⟨l,r,h1,h2,h3,h4,rfl⟩⟩)|exact h.elim
 case sidx=>split at h <;>first|(obtain⟨j,b,h1,h2,h⟩:=h.h;exact⟨_,h,⟨j,b,h1,h2,rfl⟩⟩)|exact h.elim
 case scat=>split at h <;>first|exact⟨_,h.h.2,⟨h.h.1,rfl⟩⟩|exact h.elim
 case ibs=>split at h <;>first|exact⟨_,h,rfl⟩|exact h.elim
 case capb=>split at h <;>first|exact⟨_,h,rfl⟩|exact h.elim
 case nilq=>split at h <;>first|exact⟨_,h,rfl⟩|exact h.elim
 case nifc=>split at h <;>first|exact⟨_,h,rfl⟩|exact h.elim
 case ageq=>split at h <;>first|(obtain⟨r,h1,h⟩:=h.h;exact⟨_,h,⟨r,h1,rfl⟩⟩)|exact h.elim
 case mlk=>split at h <;>first|exact⟨_,h,rfl⟩|(obtain⟨l,r,h1,h2,h⟩:=h.h;exact⟨_,h,⟨l,r,h1,h2,rfl⟩⟩)|exact h.elim
 case mkf=>exact⟨_,h,rfl⟩
 case ixa=>split at h <;>first|(obtain⟨v,h1,h2,h⟩:=h.h;exact⟨_,h,⟨v,h1,h2,rfl⟩⟩)|exact h.elim
 case idx=>split at h <;>first|(obtain⟨j,h1,h2,h⟩:=h.h;obtain⟨v,hv,h⟩:=h.h;exact⟨_,h,⟨j,h1,h2,⟨v,hv,rfl⟩⟩⟩)|exact h.elim
 case idxN=>split at h <;>first|(obtain⟨j,h1,h2,h⟩:=h.h;exact⟨_,h.h,⟨j,h1,h2,⟨rfl⟩⟩⟩)|exact h.elim
 case ld=>split at h <;>first|(obtain⟨v,hv,h⟩:=h.h;exact⟨_,h,⟨v,hv,rfl⟩⟩)|exact h.elim
 case ldN=>split at h <;>first|(obtain⟨v,hl,hv,h⟩:=h.h;exact⟨_,h,⟨v,hl,hv,rfl⟩⟩)|exact h.elim
 case ext=>split at h <;>first|(obtain⟨v,hv,h⟩:=h.h;exact⟨_,h,⟨v,hv,rfl⟩⟩)|exact h.elim
 case len=>split at h <;>first|exact⟨_,h,rfl⟩|exact h.elim
 case lens=>split at h <;>first|exact⟨_,h,rfl⟩|exact h.elim
 case nilc=>split at h <;>first|exact⟨_,h,rfl⟩|exact h.elim
 case mm=>split at h <;>first|exact⟨_,h.h,⟨rfl⟩⟩|exact h.elim
 case bld=>
  obtain⟨c',h1,h2⟩:=q7R _ _ h;exact⟨_,h1,q1U _ _ (fun cs hc=>by rw[hc]) h2⟩
end
noncomputable def XR(P:Program)(W0:World)(l:List q3Z):(Fr→Own→Prop)→Fr→Own→Prop:=
 List.rec (motive:=fun _=>(Fr→Own→Prop)→Fr→Own→Prop) (fun K f own=>K f own) (fun o _ ih K f own=>match o with
  |⟨d,op,none⟩=>XO P W0 f own op fun v own'=>ih K (updO f d v) own'
  |⟨d,op,some (g,b)⟩=>match f g with
   | .bool c=>q2f c b
     (XO P W0 (upd f g (.bool b)) own op fun v own'=>ih K (updO (upd f g (.bool b)) d v) own')
     (ih K (updO (upd f g (.bool (!b))) d undef) own)
   |_=>ih K (updO f d undef) own) l
theorem qhm{P:Program}{W0:World}{d:Option Nat}{op:IOp}{r:List q3Z}{K:Fr→Own→Prop}{f:Fr}{own:Own}:
  XR P W0 (⟨d,op,none⟩::r) K f own=XO P W0 f own op fun v own'=>XR P W0 r K (updO f d v) own':=rfl
theorem q7T{P:Program}{W0:World}{d:Option Nat}{op:IOp}{g:Nat}{b:Bool}{r:List q3Z}{K:Fr→Own→Prop}{f:Fr}{own:Own}:
  XR P W0 (⟨d,op,some (g,b)⟩::r) K f own=match f g with
   | .bool c=>q2f c b
     (XO P W0 (upd f g (.bool b)) own op fun v own'=>XR P W0 r K (updO (upd f g (.bool b)) d v) own')
     (XR P W0 r K (updO (upd f g (.bool (!b))) d undef) own)
   |_=>XR P W0 r K (updO f d undef) own:=rfl
structure q59(P:Program)(W0:World)(own:Own)(k:FuncId)(args:List Value)(K:Value→Prop):Prop where
 h:∃v,(∀ex w,St W0 (ex++own) w→Calls P k args.toArray w fun e w'=>e= .returned v∧St W0 (ex++own) w')∧K v
theorem qz{a b c d e f}(h:q59 a b c d e f):q59 a b c d e f:=h
def XQ(P:Program)(W0:World)(f:Fr)(own:Own)(op:IOp)(K:Value→Prop):Prop:=
 match op with
 | .call k args=>q59 P W0 own k (args.map (ev f)) K
 |op=>match qcC op with
  |true=>XO P W0 f own op fun v _=>K v
  |false=>False
def XG(gd:Option (Nat×Bool))(f:Fr)(Y N:Fr→Prop):Prop:=
 match gd with
 |none=>Y f
 |some (g,b)=>match f g with
  | .bool c=>q2f c b (Y (upd f g (.bool b))) (N (upd f g (.bool (!b))))
  |_=>N f
inductive DT
 |done
 |f (o:q3Z) (r:DT)
 |m (o:q3Z) (r:DT)
 |both (a b:DT)
 |tt
 |bad
structure q1c(A B:Prop):Prop where
 l:A
 r:B
noncomputable def XD(P:Program)(W0:World)(t:DT):(Fr→Own→Prop)→Fr→Own→Prop:=
 DT.rec (motive:=fun _=>(Fr→Own→Prop)→Fr→Own→Prop) (fun K f own=>K f own)
  (fun o _ ih K f own=>XG o.guard f (fun f=>XQ P W0 f own o.op fun v=>ih K (updO f o.dst v) own) (fun f=>ih K (updO f o.dst undef) own))
  (fun o _ ih K f own=>XG o.guard f (fun f=>XO P W0 f own o.op fun v own'=>ih K (updO f o.dst v) own') (fun f=>ih K (updO f o.dst undef) own))
  (fun _ _ a b K f own=>q1c (a K f own) (b K f own))
  (fun _ _ _=>True) (fun _ _ _=>False) t
theorem qm6{P:Program}{W0:World}{o:q3Z}{r:DT}{K:Fr→Own→Prop}{f:Fr}{own:Own}:
  XD P W0 (.f o r) K f own=XG o.guard f (fun f=>XQ P W0 f own o.op fun v=>XD P W0 r K (updO f o.dst v) own) (fun f=>XD P W0 r K (updO f o.dst undef) own):=rfl
theorem qm7{P:Program}{W0:World}{o:q3Z}{r:DT}{K:Fr→Own→Prop}{f:Fr}{own:Own}:
  XD P W0 (.m o r) K f own=XG o.guard f (fun f=>XO P W0 f own o.op fun v own'=>XD P W0 r K (updO f o.dst v) own') (fun f=>XD P W0 r K (updO f o.dst undef) own):=rfl
structure Rel(n:Nat)(ds:List Deferred)(a:Act)(f:Fr):Prop where
 size:a.tmps.size=n
 get:∀t,a.tmps.getD t undef=f t
 defers:a.defers=ds
theorem q1B{f:Fr}{g:Nat}{v:Value}(h:f g=v):upd f g v=f:=by
 funext t
 unfold upd;cases e:Nat.beq t g
 ·rfl
 ·rw[Y5] at e;subst e;simp[h]
theorem Rel.put{ds:List Deferred}{n:Nat}{a:Act}{f:Fr}(h:Rel n ds a f){d:Option Nat}(hd:∀t,d=some t→t<n)(v:Value):Rel n ds (a.put d v) (updO f d v):=by
 cases d with
 |none=>exact h
 |some d=>
  have hd:=hd d rfl;refine⟨by simp[Act.put,h.size],fun t=> ?_,h.defers⟩;simp only[Act.put,updO,upd];cases e:Nat.beq t d
  ·have hne:t≠d:=fun e'=>by subst e';simp at e
   simp only[cond_false];rw[←h.get t];simp only[zV];rw[Array.getElem?_setIfInBounds_ne (fun h=>hne h.symm)]
  ·rw[Y5] at e;subst e;simp[Array.getD_eq_getD_getElem?,h.size,hd]
def q0B(ops:Array Oper)(n:Nat)(o:Oper):Bool:=
 (match o.dst with|some d=>decide (d<n)|none=>true)&&
 (match o.guard with|some (j,_)=>((ops[j]?).bind (·.dst)).isSome&&decide (((ops[j]?).bind (·.dst)).getD n<n)|none=>true)
theorem q3M{ds:List Deferred}{ops:Array Oper}{n:Nat}{o:Oper}{a:Act}{f:Fr}(hr:Rel n ds a f)(hok:q0B ops n o=true)(P:Program):
  Region.wanted o (yielded ops a.tmps)=match (q0y P ops o).guard with
   |none=>true
   |some (g,b)=>match f g with| .bool c=>c==b|_=>false:=by
 unfold Region.wanted q0y q0B at*;cases hg:o.guard with
 |none=>simp
 |some jb=>
  obtain⟨j,b⟩:=jb;simp only[hg,zx,decide_eq_true_eq] at hok;obtain⟨_,h1,h2⟩:=hok;obtain⟨d,hd⟩:=Zk.1 h1;simp only[hd,Z3] at h2;simp only[hd];unfold yielded;simp only[hd,Option.bind_some];have hget:=hr.get d;rw[zV] at hget;rw[←hr.size] at h2;rw[ZC h2] at hget ⊢;simp only[Z3] at hget;rw[←hget];cases a.tmps[d] <;>simp
theorem q5a.wpIn{P:Program}{a:Act}{f:Fr}{o:Oper}{w:World}{own:Own}{W0:World}{K:Value→Own→Prop}{ro:Bool}{next:Act→World→Prop}{Q:Exit→Act→World→Prop}{r:Option Nat}{m:Nat}
  (hf:∀t,a.tmps.getD t undef=f t) (hS:St W0 own w) (h:q5a P f o w own W0 K ro) (hn:∀v own' w',St W0 own' w'→K v own'→next (a.put o.dst v) w'):o.wpIn (WF r) m P a w next Q:=by
 unfold Oper.wpIn;refine⟨fun _ _=>trivial,?_⟩;rw[qbJ hf]
 rcases h with ⟨v,hr,hk⟩|⟨_,⟨v,w',own',hr,hs,hk⟩|⟨w',own',hr,hs,hk⟩|⟨k,args,hr,hc⟩|⟨l,k,tmps,assign,body,hr,hc⟩⟩
 all_goals rw[q9W (fun d w' e=>by rw[hr] at e;cases e) (fun x w' e=>by rw[hr] at e;cases e),hr]
 ·exact hn _ _ _ hS hk
 ·exact hn _ _ _ hs hk
 ·exact hn _ _ _ hs hk
 ·rw[Oper.uponIn_enter];have hc':=hc.h w hS;simp only[yi] at hc';refine⟨fun h=>(by cases h),q5w (hc'.mono fun e w' h=> ?_)⟩;obtain⟨v,own',rfl,hs,hk⟩:=h;exact hn _ _ _ hs hk
 ·rw[Oper.uponIn_round];refine⟨fun h=>(by cases h),q5E (hc.mono fun e w' h=> ?_)⟩;obtain⟨v,own',rfl,hs,hk⟩:=h;exact hn _ _ _ hs hk
theorem q91{ds:List Deferred}{P:Program}{W0:World}{ops:Array Oper}{n:Nat}{Q:Exit→Act→World→Prop}{K:Fr→Own→Prop}{r:Option Nat}{m:Nat}
  (hQ:∀f own a w,Rel n ds a f→St W0 own w→K f own→Q .normal a w):∀(l:List Oper) (f:Fr) (own:Own) (a:Act) (w:World),l.all (q0B ops n)=true→
  Rel n ds a f→St W0 own w→XR P W0 (l.map (q0y P ops)) K f own→wpListIn (WF r) m P ops Q l a w
 | [],f,own,a,w,_,hr,hs,h=>hQ f own a w hr hs h
 |o::l,f,own,a,w,hok,hr,hs,h=>by
  simp only[List.all_cons,zx] at hok;obtain⟨hok,hokl⟩:=hok;have hd:∀t,o.dst=some t→t<n:=fun t ht=>by
   unfold q0B at hok;simp only[ht,zx,decide_eq_true_eq] at hok;exact hok.1
  have hw:=q3M hr hok P;have ih:=fun f own a w=>q91 (P:=P) (ops:=ops) (r:=r) (m:=m) hQ l f own a w hokl
  unfold wpListIn;rw[zF,show q0y P ops o=⟨o.dst,q1t P o.op,(q0y P ops o).guard⟩ from rfl] at h;generalize (q0y P ops o).guard=gd at h hw;cases gd with
  |none=>
   simp only[qhm] at h hw;rw[if_pos hw];exact((q1W rfl hs h).wpIn hr.get hs fun v own' w' hs' hk=>ih _ _ _ _ (hr.put hd v) hs' hk)
  |some gb=>
   obtain⟨g,b⟩:=gb;simp only[q7T] at h hw;rw[hw];cases hfg:f g with
   |bool c=>
    rw[hfg] at h;simp only at h
    by_cases hcb:c=b
    ·subst hcb;have hsame:=q1B hfg;have hy:=h.y rfl;rw[hsame] at hy;simp only[beq_self_eq_true,if_true];exact((q1W rfl hs hy).wpIn hr.get hs fun v own' w' hs' hk=>ih _ _ _ _ (hr.put hd v) hs' hk)
    ·have hcb':c= !b:=by cases c <;>cases b <;>simp_all
     have hn:=h.n hcb';rw[←hcb',q1B hfg] at hn;have hne:(c==b)=false:=by simpa using hcb
     simp only[hne,zO,if_false];exact⟨fun _ _=>trivial,ih _ _ _ _ (hr.put hd undef) hs hn⟩
   |_=>
    rw[hfg] at h;simp only[zO,if_false] at h ⊢;exact⟨fun _ _=>trivial,ih _ _ _ _ (hr.put hd undef) hs h⟩
theorem q43{ds:List Deferred}{ops:Array Oper}{n:Nat}{o:Oper}{a:Act}{f:Fr}(hr:Rel n ds a f)(hok:q0B ops n o=true){P:Program}{Y N:Fr→Prop}(h:XG (q0y P ops o).guard f Y N):
  (Region.wanted o (yielded ops a.tmps)=true∧Y f)∨(Region.wanted o (yielded ops a.tmps)=false∧N f):=by
 have hw:=q3M hr hok P;generalize (q0y P ops o).guard=gd at h hw;cases gd with
 |none=>exact .inl ⟨hw,h⟩
 |some gb=>
  obtain⟨g,b⟩:=gb;simp only[XG] at h hw;cases hfg:f g with
  |bool c=>
   rw[hfg] at h hw;simp only at h hw
   by_cases hcb:c=b
   ·subst hcb;have hy:=h.y rfl;rw[q1B hfg] at hy;exact .inl ⟨by simpa using hw,hy⟩
   ·have hcb':c= !b:=by cases c <;>cases b <;>simp_all
    have hn:=h.n hcb';rw[←hcb',q1B hfg] at hn;exact .inr ⟨by rw[hw];simpa using hcb,hn⟩
  |_=>rw[hfg] at h hw;exact .inr ⟨hw,h⟩
def qjA(io:IOp):Bool:=qcC io&&(match io with| .ld _| .ldN _ _| .mlk _ _ _ _ _=>false|_=>true)
theorem qmq{P:Program}{W0 W1:World}{f:Fr}{own own1:Own}{io:IOp}{Φ:Value→Prop}(ht:qjA io=true)(h:XO P W0 f own io (fun v _=>Φ v)):XO P W1 f own1 io (fun v _=>Φ v):=by
 cases io <;>first|exact h|(simp[qjA,qcC] at ht)
theorem q8Z{P:Program}{W0:World}{own:Own}{f:Fr}{a:Act}{o:Oper}{K:Value→Prop}(hf:∀t,a.tmps.getD t undef=f t)(hx:XQ P W0 f own (q1t P o.op) K):
  ∃v,K v∧∀own',(qjA (q1t P o.op)=true∨∃ex,own'=ex++own)→∀w,St W0 own' w→q1u P (fun u w'=>u=v∧St W0 own' w') ((execOp a.eval o).run P w):=by
 have ro:∀io,q1t P o.op=io→qcC io=true→XO P W0 f own io (fun v _=>K v)→
   ∃v,K v∧∀own',(qjA io=true∨∃ex,own'=ex++own)→∀w,St W0 own' w→q1u P (fun u w'=>u=v∧St W0 own' w') ((execOp a.eval o).run P w):=by
  intro io hio hro hx;obtain⟨v,hk,hv⟩:=qjU hro hx;refine⟨v,hk,fun own' hV w hw=> ?_⟩;have hrun:(execOp (ev f) o).run P w= .ok (.value v) w:=by
   rcases hV with ht|⟨ex,rfl⟩
   ·rcases q1W hio hw (qmq ht hv:XO P W0 f own' io (fun v' _=>v'=v)) with ⟨v',hr',rfl⟩|⟨h0,_⟩
    ·exact hr'
    ·rw[hro] at h0;cases h0
   ·have hw':St W0 own w:=Ent.of_sub (ZD ex own) w hw
    rcases q1W hio hw' hv with ⟨v',hr',rfl⟩|⟨h0,_⟩
    ·exact hr'
    ·rw[hro] at h0;cases h0
  rw[qbJ hf,hrun];exact⟨rfl,hw⟩
 unfold XQ at hx
 split at hx
 ·rename_i k args hio;obtain⟨v,hc,hk⟩:=hx.h;refine⟨v,hk,fun own' hV w hw=> ?_⟩
  rcases hV with ht|⟨ex,rfl⟩
  ·rw[hio] at ht;cases ht
  ·rw[qbJ hf,q5i hio];exact(hc ex w hw).mono fun e w' ⟨he,hs⟩=>⟨v,he,rfl,hs⟩
 ·split at hx
  ·exact ro _ rfl (by assumption) hx
  ·exact hx.elim
theorem q5a.goes{P:Program}{W0:World}{f:Fr}{own:Own}{a:Act}{o:Oper}{w:World}{K:Value→Own→Prop}{ro:Bool}(hf:∀t,a.tmps.getD t undef=f t)(hS:St W0 own w)(h:q5a P f o w own W0 K ro):
  q1u P (fun u w'=>∃own',St W0 own' w'∧K u own') ((execOp a.eval o).run P w):=by
 rw[qbJ hf]
 rcases h with ⟨v,hr,hk⟩|⟨_,⟨v,w',own',hr,hs,hk⟩|⟨w',own',hr,hs,hk⟩|⟨k,args,hr,hc⟩|⟨l,k,tmps,assign,body,hr,hc⟩⟩
 ·rw[hr];exact⟨_,hS,hk⟩
 ·rw[hr];exact⟨_,hs,hk⟩
 ·rw[hr];exact⟨_,hs,hk⟩
 ·rw[hr];have hc':=hc.h w hS;simp only[yi] at hc';exact hc'.mono fun e w' ⟨v,own',he,hs,hk⟩=>⟨v,he,own',hs,hk⟩
 ·rw[hr];exact hc.mono fun e w' ⟨v,own',he,hs,hk⟩=>⟨v,he,own',hs,hk⟩
def qeR:IOp→Bool
 | .new _ _| .box _ _=>true
 | .blds _ _ _ _=>true
 | .mk _ _ _ _ _ _=>true
 | .mkm=>true
 |_=>false
theorem qjV{P:Program}{W0:World}{f:Fr}{own:Own}{io:IOp}{K:Value→Own→Prop}(hn:qeR io=true)(h:XO P W0 f own io K):XO P W0 f own io (fun v own'=>K v own'∧∃e,own'=e::own):=by
 cases io <;>simp only[XO] at h ⊢ <;>(try simp[qeR] at hn)
 case box=>split at h <;>first|exact⟨fun b hb hl=>⟨h.h b hb hl,_,rfl⟩⟩|exact .mk ⟨fun b hb hl=>⟨h.h.h b hb hl,_,rfl⟩⟩
 case new=>split at h <;>exact⟨fun b hb hl=>⟨h.h b hb hl,_,rfl⟩⟩
 case blds=>exact q1U _ _ (fun cs h=>⟨fun b hb hl=>⟨h.h b hb hl,_,rfl⟩⟩) h
 case mk=>split at h <;>first|(obtain⟨l,c,h1,h2,h3,h4,h⟩:=h.h;exact⟨l,c,h1,h2,h3,h4,fun b hb=>⟨h b hb,_,rfl⟩⟩)|exact h.elim
 case mkm=>exact⟨fun b hb=>⟨h.h b hb,_,rfl⟩⟩
def qkX(mv:List Nat)(io:IOp):Kd:=
 match io with
 | .call k _=>if mv.contains k then .m else .f
 |io=>if qcC io then .f else if qeR io then .n else .m
def qay(P:Program)(ops:Array Oper)(mv:List Nat)(i:Nat):Kd:=
 match ops[i]? with
 |some o=>qkX mv (q1t P o.op)
 |none=> .f
def fOk(P:Program)(ops:Array Oper)(mv:List Nat)(listed:Array Bool)(k:Nat):Bool:=
 match ops[k]? with
 |some o=>(match qkX mv (q1t P o.op) with| .f=>true|_=>false)&&Region.free .any ops listed k&&
   (qjA (q1t P o.op)||(List.range ops.size).all fun j=>match qay P ops mv j with| .m=>listed.getD j false||q7M .any ops 3 j k|_=>true)
 |none=>false
def brs(P:Program)(ops:Array Oper)(mv:List Nat)(rec':Nat→DT):List Nat→DT
 | []=> .tt
 |k::r=>
  let x:=match qay P ops mv k with
   | .f=>(match ops[k]? with
    |some o=> .f (q0y P ops o) (rec' k)
    |none=> .bad)
   |_=>match ops[k]? with
    |some o=> .m (q0y P ops o) (rec' k)
    |none=> .bad
  match r with
  | []=>x
  |_=> .both x (brs P ops mv rec' r)
def qjJ(P:Program)(ops:Array Oper)(mv:List Nat):Nat→Array Bool→DT
 |0,listed=>match Region.ready .any ops listed with
  | []=> .done
  |_=> .bad
 |g+1,listed=>match (Region.ready .any ops listed).find? (fOk P ops mv listed) with
  |some k=>match ops[k]? with
   |some o=> .f (q0y P ops o) (qjJ P ops mv g (listed.setIfInBounds k true))
   |none=> .bad
  |none=>match Region.ready .any ops listed with
   | []=> .done
   |rd=>brs P ops mv (fun k=>qjJ P ops mv g (listed.setIfInBounds k true)) rd
theorem q97{P:Program}{W0:World}{ops:Array Oper}{mv:List Nat}{rec':Nat→DT}{K:Fr→Own→Prop}{f:Fr}{own:Own}:∀(l:List Nat),XD P W0 (brs P ops mv rec' l) K f own→
  ∀k∈l,∃o,ops[k]? =some o∧match qay P ops mv k with
   | .f=>XD P W0 (.f (q0y P ops o) (rec' k)) K f own
   |_=>XD P W0 (.m (q0y P ops o) (rec' k)) K f own
 | [],_,k,hk=>by cases hk
 |k0::r,h,k,hk=>by
  have hx:XD P W0 (match qay P ops mv k0 with
   | .f=>(match ops[k0]? with
    |some o=> .f (q0y P ops o) (rec' k0)
    |none=> .bad)
   |_=>match ops[k0]? with
    |some o=> .m (q0y P ops o) (rec' k0)
    |none=> .bad) K f own∧(r≠ []→XD P W0 (brs P ops mv rec' r) K f own):=by
   unfold brs at h;cases r with
   |nil=>exact⟨h,fun h=>absurd rfl h⟩
   |cons a r=>exact⟨q1c.l (A:=XD P W0 _ K f own) (B:=XD P W0 _ K f own) h,fun _=>q1c.r (A:=XD P W0 _ K f own) (B:=XD P W0 _ K f own) h⟩
  rcases zQ.1 hk with rfl|hk
  ·have h1:=hx.1;cases ho:ops[k]? with
   |none=>rw[ho] at h1;cases hkd:qay P ops mv k <;>rw[hkd] at h1 <;>exact h1.elim
   |some o=>
    rw[ho] at h1;refine⟨o,rfl,?_⟩;cases hkd:qay P ops mv k <;>rw[hkd] at h1 <;>exact h1
  ·exact q97 r (hx.2 (fun e=>by subst e;cases hk)) k hk
theorem q1d{ds:List Deferred}{P:Program}{W0:World}{ops:Array Oper}{mv:List Nat}{n:Nat}{Q:Act→Own→Prop}{K:Fr→Own→Prop}(hsel:Region.noSelect ops=true)(hok:ops.toList.all (q0B ops n)=true)
  (hQ:∀f own a,Rel n ds a f→K f own→Q a own):∀(g:Nat) (listed:Array Bool) (f:Fr) (a:Act) (own:Own),q2Y .any ops listed→Rel n ds a f→
  XD P W0 (qjJ P ops mv g listed) K f own→wpG P .any ops W0 (qay P ops mv) Q g listed a own
 |0,listed,f,a,own,_,hr,h=>by
  unfold qjJ at h
  split at h
  ·rename_i hrd;exact⟨hrd,hQ _ _ _ hr h⟩
  ·exact h.elim
 |g+1,listed,f,a,own,inv,hr,h=>by
  have q3a:∀(k:Nat) (o:Oper),ops[k]? =some o→q0B ops n o=true:=fun k o ho=>by
   rw[Z7] at hok;exact hok o (by rw[←Z1] at ho;exact zg ho)
  have dstAt:∀(k:Nat) (o:Oper),ops[k]? =some o→∀t,o.dst=some t→t<n:=fun k o ho t ht=>by
   have:=q3a k o ho;unfold q0B at this;simp only[ht,zx,decide_eq_true_eq] at this;exact this.1
  unfold qjJ at h
  split at h
  ·rename_i k hk;have hkr:=List.mem_of_find?_eq_some hk;have hf:=List.find?_some hk
   split at h
   ·rename_i o ho;unfold fOk at hf;simp only[ho,zx,ZB] at hf;obtain⟨⟨hkd,hfree⟩,htl⟩:=hf;have hkf:qay P ops mv k= .f:=by
     unfold qay;simp only[ho];cases hh:qkX mv (q1t P o.op) <;>rw[hh] at hkd <;>first|rfl|cases hkd
    have first:=fun(v:Value) (hy:q29 P ops W0 (fun own'=>qjA (q1t P o.op)=true∨∃ex,own'=ex++own) o v a) (H:wpG P .any ops W0 (qay P ops mv) Q g (listed.setIfInBounds k true) (a.put o.dst v) own)=>
     qdV (tl:=qjA (q1t P o.op)) (g:=3) ho hkf (Region.noSelect_spec hsel) _ (fun e own' hV=>hV.imp id (fun⟨ex,he⟩=>⟨e::ex,by rw[he];rfl⟩)) (fun ht _=> .inl ht) g listed a own inv (fun ht j oj hj hm=>by
      rcases htl with h|h
      ·rw[h] at ht;cases ht
      ·rw[Z7] at h;have:=h j (Zd.2 (Zo.1 hj).1);rw[hm] at this
       simpa only[ZB] using this) (Region.free_spec ho hfree) hkr hy (.inr ⟨[],rfl⟩) H
    rw[qm6] at h
    rcases q43 hr (q3a k o ho) h with ⟨hw,hx⟩|⟨hw,hx⟩
    ·obtain⟨v,hk',hv⟩:=q8Z hr.get hx;exact first v (.inl ⟨hw,hv⟩) (q1d hsel hok hQ g _ _ _ own (inv.set hkr) (hr.put (dstAt k o ho) v) hk')
    ·exact first undef (.inr ⟨hw,rfl⟩) (q1d hsel hok hQ g _ _ _ own (inv.set hkr) (hr.put (dstAt k o ho) undef) hx)
   ·exact h.elim
  ·split at h
   ·rename_i hrd;exact⟨fun _=>hQ _ _ _ hr h,fun i hi=>by rw[hrd] at hi;cases hi⟩
   ·rename_i hne;refine⟨fun h0=>absurd h0 hne,fun i hi=> ?_⟩;obtain⟨o,ho,hx⟩:=q97 _ h i hi;have hkk:qay P ops mv i=qkX mv (q1t P o.op):=by unfold qay;simp only[ho]
    unfold q40;simp only[ho];cases hkd':qay P ops mv i with
    |f=>
     rw[hkd'] at hx;simp only at hx;rw[qm6] at hx
     rcases q43 hr (q3a i o ho) hx with ⟨hw,hx⟩|⟨hw,hx⟩
     ·simp only[hw,if_true];intro w hs;obtain⟨v,hk',hv⟩:=q8Z hr.get hx;refine(hv own (.inr ⟨[],rfl⟩) w hs).mono fun u w' ⟨hu,hs'⟩=> ?_
      subst hu;exact⟨hs',q1d hsel hok hQ g _ _ _ own (inv.set hi) (hr.put (dstAt i o ho) u) hk'⟩
     ·simp only[hw,zO,if_false];exact q1d hsel hok hQ g _ _ _ own (inv.set hi) (hr.put (dstAt i o ho) undef) hx
    |n=>
     rw[hkd'] at hx;simp only at hx;rw[qm7] at hx
     rcases q43 hr (q3a i o ho) hx with ⟨hw,hx⟩|⟨hw,hx⟩
     ·simp only[hw,if_true];intro w hs;have hnew:qeR (q1t P o.op)=true:=by
       rw[hkk] at hkd';unfold qkX at hkd'
       split at hkd'
       ·split at hkd' <;>cases hkd'
       ·split at hkd'
        ·cases hkd'
        ·split at hkd'
         ·assumption
         ·cases hkd'
      refine(q5a.goes hr.get hs (q1W rfl hs (qjV hnew hx))).mono fun u w' ⟨own',hs',hk',e,he⟩=> ?_
      subst he;exact⟨e,hs',q1d hsel hok hQ g _ _ _ _ (inv.set hi) (hr.put (dstAt i o ho) u) hk'⟩
     ·simp only[hw,zO,if_false];exact q1d hsel hok hQ g _ _ _ own (inv.set hi) (hr.put (dstAt i o ho) undef) hx
    |m=>
     rw[hkd'] at hx;simp only at hx;rw[qm7] at hx
     rcases q43 hr (q3a i o ho) hx with ⟨hw,hx⟩|⟨hw,hx⟩
     ·simp only[hw,if_true];intro w hs;exact(q5a.goes hr.get hs (q1W rfl hs hx)).mono fun u w' ⟨own',hs',hk'⟩=>⟨own',hs',q1d hsel hok hQ g _ _ _ _ (inv.set hi) (hr.put (dstAt i o ho) u) hk'⟩
     ·simp only[hw,zO,if_false];exact q1d hsel hok hQ g _ _ _ own (inv.set hi) (hr.put (dstAt i o ho) undef) hx
open Go
inductive IC
 |skip
 |region (ops:List q3Z)
 |draw (t:DT)
 |par (ops:List (q3Z×List Nat))
 |seq (a b:IC)
 |cut (a b:IC)
 |cond (c:Operand) (a b:IC)
 |block (id:Nat) (b:IC)
 |loop (mask:Nat) (b:IC)
 |exit (id:Nat)
 |ret
 |bad
def qmW(m d:Nat):Nat:=m|||2 ^ d
def qe0(m d:Nat):Bool:=Nat.beq (Nat.land (Nat.shiftRight m d) 1) 1
def qgu:List q3Z→Nat→Nat
 | [],m=>m
 |o::r,m=>qgu r (match o.dst with|some d=>qmW m d|none=>m)
def qma:DT→Nat→Nat
 | .f o r,m| .m o r,m=>qma r (match o.dst with|some d=>qmW m d|none=>m)
 | .both a b,m=>qma b (qma a m)
 |_,m=>m
def qnk:List (q3Z×List Nat)→Nat→Nat
 | [],m=>m
 |o::r,m=>qnk r (match o.1.dst with|some d=>qmW m d|none=>m)
def asg:IC→Nat→Nat
 | .region ops,m=>qgu ops m
 | .draw t,m=>qma t m
 | .par l,m=>qnk l m
 | .seq a b,m| .cut a b,m| .cond _ a b,m=>asg b (asg a m)
 | .block _ b,m=>asg b m
 | .loop k _,m=>m|||k
 |_,m=>m
def qmD:IOp→Bool
 | .mup .. | .mlk .. =>true
 |_=>false
def qnK(P:Program)(ops:Array Oper):Bool:=decide (6≤(ops.toList.filter fun o=>qmD (q1t P o.op)).length)
def q72(o:Oper):List Nat:=(o.after.toList.filter fun e=>Region.binds .any e).map (·.on)
def q4p:List Oper→Nat→Bool
 | [],_=>true
 |o::r,k=>(q72 o).all (fun j=>decide (j<k))&&o.guard.isNone&&q4p r (k+1)
def qjK(P:Program)(ops:Array Oper):List (q3Z×List Nat):=ops.toList.map fun o=>(q0y P ops o,q72 o)
def q5h(P:Program)(mv:List Nat)(n:Nat):Code→IC
 | .skip=> .skip
 | .region _ ops d=>if ops.toList.all (q0B ops n) then
   (if d then(if Region.noSelect ops then(if qnK P ops then(if q4p ops.toList 0 then .par (qjK P ops) else .bad) else .draw (qjJ P ops mv ops.size (Array.replicate ops.size false))) else .bad) else .region (ops.toList.map (q0y P ops))) else .bad
 | .seq a b=> .seq (q5h P mv n a) (q5h P mv n b)
 | .cond c a b=> .cond c (q5h P mv n a) (q5h P mv n b)
 | .block id b=> .block id (q5h P mv n b)
 | .loop b=>let b':=q5h P mv n b; .loop (asg b' 0) b'
 | .exit id=> .exit id
 | .ret=> .ret
 |_=> .bad
def q0V:IC→IC
 | .seq a b| .cut a b=> .seq (q0V a) (q0V b)
 | .cond c a b=> .cond c (q0V a) (q0V b)
 | .block id b=> .block id (q0V b)
 | .loop m b=> .loop m (q0V b)
 |c=>c
abbrev q4k:=Exit→Fr→Own→Prop
def q6H(next:Fr→Own→Prop)(Q:q4k):q4k:=fun e f own=>match e with
 | .normal=>next f own
 |e=>Q e f own
def q5q(id:Nat)(Q:q4k):q4k:=fun e f own=>match e with
 | .exit id'=>(match Nat.beq id' id with|true=>Q .normal f own|false=>Q (.exit id') f own)
 |e=>Q e f own
structure qe5(P:Program)(W0:World)(code:IC)(mask:Nat)(body:q4k→Fr→Own→Prop)(Q:q4k)(f:Fr)(own:Own):Prop where
 h:∃I:Nat→Fr→Own→Prop,(∃n o2,Ent W0 own o2∧I n f o2)∧∀n f own,I n f own→body (q6H (fun f' own'=>∃m o2,m<n∧Ent W0 own' o2∧I m f' o2) Q) f own
structure qnc(P:Program)(W0:World)(ca cb:IC)(a b:q4k→Fr→Own→Prop)(Q:q4k)(f:Fr)(own:Own):Prop where
 h:a (q6H (fun f' own'=>∃o2,Ent W0 own' o2∧b Q f' o2) Q) f own
structure qng(P:Program)(W0:World)(ops:List (q3Z×List Nat))(K:Fr→Own→Prop)(f:Fr)(own:Own):Prop where
 h:∃J:(Nat→Bool)→Fr→Own→Prop,J (fun _=>false) f own∧(∀l f own,J l f own→(∀i,i<ops.length→l i=true)→K f own)∧
  ∀(i:Nat) (d:Option Nat) (op:IOp) (gd:Option (Nat×Bool)) (ds:List Nat) (l:Nat→Bool) (f:Fr) (own:Own),ops[i]? =some (⟨d,op,gd⟩,ds)→l i=false→(∀j∈ds,l j=true)→J l f own→XO P W0 f own op fun v own'=>J (fun k=>bif Nat.beq k i then true else l k) (updO f d v) own'
noncomputable def XS(P:Program)(W0:World)(c:IC):q4k→Fr→Own→Prop:=
 IC.rec (motive:=fun _=>q4k→Fr→Own→Prop)
  (fun Q f own=>Q .normal f own)
  (fun ops Q f own=>XR P W0 ops (Q .normal) f own)
  (fun t Q f own=>XD P W0 t (Q .normal) f own)
  (fun ops Q f own=>qng P W0 ops (Q .normal) f own)
  (fun _ _ a b Q f own=>a (q6H (b Q) Q) f own)
  (fun ca cb a b Q f own=>qnc P W0 ca cb a b Q f own)
  (fun c _ _ a b Q f own=>match ev f c with
   | .bool t=>Br t (a Q f own) (b Q f own)
   |_=>False)
  (fun id _ b Q f own=>b (q5q id Q) f own)
  (fun mask cb b Q f own=>qe5 P W0 cb mask b Q f own)
  (fun id Q f own=>Q (.exit id) f own)
  (fun Q f own=>Q .ret f own)
  (fun _ _ _=>False) c
theorem q7U{P:Program}{W0:World}{c:Operand}{a b:IC}{Q:q4k}{f:Fr}{own:Own}:XS P W0 (.cond c a b) Q f own=match ev f c with
  | .bool t=>Br t (XS P W0 a Q f own) (XS P W0 b Q f own)
  |_=>False:=rfl
section mono
variable{P:Program}{W0:World}
theorem q5X{K K':Fr→Own→Prop}(hk:∀f own,K f own→K' f own):∀(l:List q3Z) (f:Fr) (own:Own),XR P W0 l K f own→XR P W0 l K' f own
 | [],f,own,h=>hk f own h
 |⟨d,op,none⟩::l,f,own,h=>q2N (fun _ _ h=>q5X hk l _ _ h) h
 |⟨d,op,some (g,b)⟩::l,f,own,h=>by
   simp only[q7T] at h ⊢;have ih:=q5X hk l
   split at h
   ·exact⟨fun e=>q2N (fun v own' h=>ih _ _ h) (h.y e),fun e=>ih _ _ (h.n e)⟩
   ·exact ih _ _ h
theorem qbe{f:Fr}{own:Own}{op:IOp}{K K':Value→Prop}(hk:∀v,K v→K' v)(h:XQ P W0 f own op K):XQ P W0 f own op K':=by
 unfold XQ at h ⊢
 split at h
 ·obtain⟨v,hc,h⟩:=h.h;exact⟨v,hc,hk v h⟩
 ·split at h
  ·exact q2N (fun v _ h=>hk v h) h
  ·exact h.elim
theorem qbd{gd:Option (Nat×Bool)}{f:Fr}{Y Y' N N':Fr→Prop}(hy:∀f,Y f→Y' f)(hn:∀f,N f→N' f)(h:XG gd f Y N):XG gd f Y' N':=by
 unfold XG at h ⊢
 split
 ·exact hy _ h
 ·simp only at h
  split
  ·rename_i hc;rw[hc] at h;exact⟨fun e=>hy _ (h.y e),fun e=>hn _ (h.n e)⟩
  ·rename_i hc;split at h
   ·rename_i hc';exact absurd hc' (hc _)
   ·exact hn _ h
theorem q1V{K K':Fr→Own→Prop}(hk:∀f own,K f own→K' f own):∀(t:DT) (f:Fr) (own:Own),XD P W0 t K f own→XD P W0 t K' f own
 | .done,f,own,h=>hk f own h
 | .f o r,f,own,h=>by
  rw[qm6] at h ⊢;exact qbd (fun f h=>qbe (fun _ h=>q1V hk r _ _ h) h) (fun f h=>q1V hk r _ _ h) h
 | .m o r,f,own,h=>by
  rw[qm7] at h ⊢;exact qbd (fun f h=>q2N (fun _ _ h=>q1V hk r _ _ h) h) (fun f h=>q1V hk r _ _ h) h
 | .both a b,f,own,h=>⟨q1V hk a f own (q1c.l (A:=XD P W0 a K f own) (B:=XD P W0 b K f own) h),q1V hk b f own (q1c.r (A:=XD P W0 a K f own) (B:=XD P W0 b K f own) h)⟩
 | .tt,_,_,h=>h
 | .bad,_,_,h=>h.elim
theorem q3L{n n':Fr→Own→Prop}{Q Q':q4k}(hn:∀f own,n f own→n' f own)(hq:∀e f own,Q e f own→Q' e f own):∀e f own,q6H n Q e f own→q6H n' Q' e f own:=by
 intro e f own h;cases e <;>first|exact hn _ _ h|exact hq _ _ _ h
theorem q7Y{id:Nat}{Q Q':q4k}(hq:∀e f own,Q e f own→Q' e f own):∀e f own,q5q id Q e f own→q5q id Q' e f own:=by
 intro e f own h;cases e <;>simp only[q5q] at h ⊢
 case exit=>split <;>rename_i hc <;>rw[hc] at h <;>exact hq _ _ _ h
 all_goals exact hq _ _ _ h
theorem q0o:∀(c:IC) (Q Q':q4k),(∀e f own,Q e f own→Q' e f own)→∀(f:Fr) (own:Own),XS P W0 c Q f own→XS P W0 c Q' f own
 | .skip,Q,Q',hq,f,own,h=>hq _ _ _ h
 | .region ops,Q,Q',hq,f,own,h=>q5X (hq .normal) ops f own h
 | .draw ops,Q,Q',hq,f,own,h=>q1V (hq .normal) ops f own h
 | .par _,Q,Q',hq,f,own,h=>by
  obtain⟨J,h0,h1,h2⟩:=h.h;exact⟨J,h0,fun l f own hJ hl=>hq _ _ _ (h1 l f own hJ hl),h2⟩
 | .seq a b,Q,Q',hq,f,own,h=>q0o a _ _ (q3L (fun f own h=>q0o b Q Q' hq f own h) hq) f own h
 | .cut a b,Q,Q',hq,f,own,h=>⟨q0o a _ _ (q3L (fun f own ⟨o2,he,h⟩=>⟨o2,he,q0o b Q Q' hq f o2 h⟩) hq) f own h.h⟩
 | .cond c a b,Q,Q',hq,f,own,h=>by
  simp only[q7U] at h ⊢
  split at h
  ·exact⟨fun e=>q0o a Q Q' hq f own (h.y e),fun e=>q0o b Q Q' hq f own (h.n e)⟩
  ·exact h.elim
 | .block id b,Q,Q',hq,f,own,h=>q0o b _ _ (q7Y hq) f own h
 | .loop mask b,Q,Q',hq,f,own,h=>by
  obtain⟨I,h0,h1⟩:=h.h;exact⟨I,h0,fun n f own hI=>q0o b _ _ (q3L (fun _ _ h=>h) hq) f own (h1 n f own hI)⟩
 | .exit id,Q,Q',hq,f,own,h=>hq _ _ _ h
 | .ret,Q,Q',hq,f,own,h=>hq _ _ _ h
 | .bad,_,_,_,_,_,h=>h.elim
end mono
theorem q9B{p:Nat→Prop}:∀n,p n→∃m,p m∧∀k,p k→m≤k:=by
 intro n
 induction n using Nat.strongRecOn with
 |_ n ih=>
  intro hn
  by_cases h:∃k,k<n∧p k
  ·obtain⟨k,hk,hp⟩:=h;exact ih k hk hp
  ·exact⟨n,hn,fun k hk=>Nat.le_of_not_lt fun hlt=>h ⟨k,hlt,hk⟩⟩
theorem q8V{P:Program}{r:Option Nat}{m:Nat}{c:Code}{Q:Exit→Act→World→Prop}{a:Act}{w:World}(I:Nat→Act→World→Prop)(h0:∃n,I n a w)
  (round:∀n a w,I n a w→c.wpIn (WF r) m P (Exit.then (fun a' w'=>∃m,m<n∧I m a' w') Q) a w):(Code.loop c).wpIn (WF r) m P Q a w:=by
 have hex:∀a w,∃m0:Nat,(∃n,I n a w)→I m0 a w∧∀k,I k a w→m0≤k:=fun a w=>by
  by_cases h:∃n,I n a w
  ·obtain⟨n,hn⟩:=h;obtain⟨m0,hm⟩:=q9B (p:=fun n=>I n a w) n hn;exact⟨m0,fun _=>hm⟩
  ·exact⟨0,fun h'=>(h h').elim⟩
 refine wpIn_loop (fun a w=>∃n,I n a w) (fun a w=>Classical.choose (hex a w)) h0 ?_;intro a w h;refine wpIn_mono (round _ a w (Classical.choose_spec (hex a w) h).1) ?_;intro e a' w' q;cases e with
 |normal=>
  obtain⟨m,hm,hI⟩:=q;have h':∃n,I n a' w':=⟨m,hI⟩
  exact⟨h',Nat.lt_of_le_of_lt ((Classical.choose_spec (hex a' w') h').2 m hI) hm⟩
 |_=>exact q
theorem q2O:∀(l:List Oper) (k:Nat),q4p l k=true→∀i o,l[i]? =some o→o.guard=none∧∀j∈q72 o,j<k+i
 | [],_,_,i,o,h=>by simp at h
 |x::r,k,hd,0,o,h=>by
  simp only[Zw,Option.some.injEq] at h;subst h;unfold q4p at hd;simp only[zx,Z7,decide_eq_true_eq] at hd;exact⟨Zq.1 hd.1.2,fun j hj=>hd.1.1 j hj⟩
 |x::r,k,hd,i+1,o,h=>by
  unfold q4p at hd;simp only[zx] at hd;have:=q2O r (k+1) hd.2 i o (by simpa using h);exact⟨this.1,fun j hj=>by have:=this.2 j hj;omega⟩
theorem q9F{o:Oper}{j:Nat}:j∈q72 o↔ ∃e∈o.after,Region.binds .any e=true∧e.on=j:=by
 unfold q72;simp only[zK,yu,Array.mem_toList_iff];constructor
 ·rintro⟨e,⟨h1,h2⟩,h3⟩;exact⟨e,h1,h2,h3⟩
 ·rintro⟨e,h1,h2,h3⟩;exact⟨e,⟨h1,h2⟩,h3⟩
theorem qcA{ops:Array Oper}(hd:q4p ops.toList 0=true){listed:Array Bool}(hs:listed.size=ops.size)(h:Region.ready .any ops listed= []):∀i,i<ops.size→listed.getD i false=true:=by
 intro i
 induction i using Nat.strongRecOn with
 |_ i ih=>
  intro hi
  by_cases hl:listed.getD i false=true
  ·exact hl
  ·exfalso;have hio:ops[i]? =some ops[i]:=ZC hi;have hm:i∈Region.ready .any ops listed:=mem_ready.2 ⟨by
    have hi':i<listed.size:=Y6;simp only[zV,ZC hi',Z3] at hl ⊢
    simpa using hl,_,hio,fun e he hb=>by
    have:=(q2O _ 0 hd i ops[i] (by rw[Z1];exact hio)).2 e.on (q9F.2 ⟨e,he,hb,rfl⟩);exact ih e.on Y6 Y6⟩
   rw[h] at hm;cases hm
theorem qco{ds:List Deferred}{P:Program}{W0:World}{ops:Array Oper}{n:Nat}{Q:Act→Own→Prop}{K:Fr→Own→Prop}(hd:q4p ops.toList 0=true)(hok:ops.toList.all (q0B ops n)=true)
  (hQ:∀f own a,Rel n ds a f→K f own→Q a own) {J:(Nat→Bool)→Fr→Own→Prop} (h1:∀l f own,J l f own→(∀i,i<(qjK P ops).length→l i=true)→K f own)
  (h2:∀(i:Nat) (d:Option Nat) (op:IOp) (gd:Option (Nat×Bool)) (ds:List Nat) (l:Nat→Bool) (f:Fr) (own:Own),(qjK P ops)[i]? =some (⟨d,op,gd⟩,ds)→l i=false→(∀j∈ds,l j=true)→J l f own→XO P W0 f own op fun v own'=>J (fun k=>bif Nat.beq k i then true else l k) (updO f d v) own'):
  ∀(g:Nat) (listed:Array Bool) (f:Fr) (a:Act) (own:Own),listed.size=ops.size→(listed.toList.filter (!·)).length=g→Rel n ds a f→J (fun k=>listed.getD k false) f own→wpG P .any ops W0 (fun _=> .m) Q g listed a own:=by
 have hlen:(qjK P ops).length=ops.size:=by unfold qjK;simp
 have done:∀(listed:Array Bool) (f:Fr) (a:Act) (own:Own),listed.size=ops.size→Region.ready .any ops listed= []→Rel n ds a f→J (fun k=>listed.getD k false) f own→Q a own:=fun listed f a own hs hr hrel hJ=>
  hQ f own a hrel (h1 _ f own hJ fun i hi=>qcA hd hs hr i Y6)
 intro g
 induction g with
 |zero=>
  intro listed f a own hs hg hr hJ;have h0:Region.ready .any ops listed= []:=by
   cases hrd:Region.ready .any ops listed with
   |nil=>rfl
   |cons i r=>
    exfalso;have hi:=(mem_ready.1 (show i∈Region.ready .any ops listed by rw[hrd];exact zm)).1;have hlt:i<listed.size:=by
     rcases yn i listed.size with h|h
     ·exact h
     ·simp[Array.getD_eq_getD_getElem?,Array.getElem?_eq_none h] at hi
    rw[zA] at hg;have:listed[i]∈listed.toList.filter (!·):=yu.2 ⟨by rw[Array.mem_toList_iff];exact Array.getElem_mem hlt,by
     simp only[zV,ZC hlt,Z3] at hi;simp[hi]⟩
    rw[hg] at this;cases this
  exact⟨h0,done listed f a own hs h0 hr hJ⟩
 |succ g ih=>
  intro listed f a own hs hg hr hJ;refine⟨fun h0=>done listed f a own hs h0 hr hJ,fun i hi=> ?_⟩;obtain⟨hun,o,ho,hall⟩:=mem_ready.1 hi;have hlt:i<listed.size:=by
   rcases yn i listed.size with h|h
   ·exact h
   ·simp[Array.getD_eq_getD_getElem?,Array.getElem?_eq_none h] at hun
  have hgi:listed[i]=false:=by simpa only[zV,ZC hlt,Z3] using hun
  have hgd:=(q2O _ 0 hd i o (by rw[Z1];exact ho)).1;have q3a:q0B ops n o=true:=by
   rw[Z7] at hok;exact hok o (by rw[←Z1] at ho;exact zg ho)
  have dstAt:∀t,o.dst=some t→t<n:=fun t ht=>by
   have:=q3a;unfold q0B at this;simp only[ht,zx,decide_eq_true_eq] at this;exact this.1
  have hw:=q3M hr q3a P;have hlow:(q0y P ops o).guard=none:=by unfold q0y;simp[hgd]
  rw[hlow] at hw;have hx:=h2 i o.dst (q1t P o.op) none (q72 o) (fun k=>listed.getD k false) f own (by
   unfold qjK;rw[zI,Z1,ho];show some (q0y P ops o,q72 o)=_;rw[show q0y P ops o=⟨o.dst,q1t P o.op,none⟩ by rw[←hlow];rfl]) (q2t hun) (fun j hj=>by
   obtain⟨e,he,hb,rfl⟩:=q9F.1 hj;exact hall e he hb) hJ
  unfold q40;simp only[ho,hw,if_true];intro w hS;refine(q5a.goes hr.get hS (q1W rfl hS hx)).mono fun u w' ⟨own',hs',hJ'⟩=>⟨own',hs',ih _ _ _ _ (by simpa using hs) ?_ (hr.put dstAt u) ?_⟩
  ·have e1:listed.toList=listed.toList.take i++false::listed.toList.drop (i+1):=by
    conv=>lhs;rw[←ye i listed.toList,ZE (by simpa using hlt)]
    simp[hgi]
   have e2:(listed.setIfInBounds i true).toList=listed.toList.take i++true::listed.toList.drop (i+1):=by
    rw[Array.toList_setIfInBounds,Za,if_pos (by simpa using hlt)]
   rw[e1] at hg;rw[e2];simp only[yv,z8,List.filter_cons] at hg ⊢;simp at hg ⊢;omega
  ·have e:(fun k=>(listed.setIfInBounds i true).getD k false)=fun k=>bif Nat.beq k i then true else listed.getD k false:=by
    funext k
    simp only[zV,Array.getElem?_setIfInBounds];cases hk:Nat.beq k i with
    |true=>
     rw[Y5] at hk;subst hk;simp[hlt]
    |false=>
     have hne:¬i=k:=fun e=>by subst e;simp at hk
     simp[hne]
   rw[e];exact hJ'
theorem q1e{ds:List Deferred}{P:Program}{W0:World}{mv:List Nat}{n:Nat}{r:Option Nat}{m:Nat}(hm:P.follows .mixedOrders=true):∀(ic:IC) (c:Code),q5h P mv n c=q0V ic→∀(Q:q4k) (Q':Exit→Act→World→Prop),
  (∀e f own a w,Rel n ds a f→St W0 own w→Q e f own→Q' e a w)→∀(f:Fr) (own:Own) (a:Act) (w:World),Rel n ds a f→St W0 own w→XS P W0 ic Q f own→c.wpIn (WF r) m P Q' a w
 |ic, .skip,hl,Q,Q',hq,f,own,a,w,hr,hs,h=>by
  cases ic <;>simp only[q5h,q0V] at hl <;>(try exact IC.noConfusion hl)
  exact wpIn_skip (hq _ _ _ _ _ hr hs h)
 |ic, .region id ops d,hl,Q,Q',hq,f,own,a,w,hr,hs,h=>by
  unfold q5h at hl
  split at hl
  ·rename_i hok;cases d with
   |true=>
    simp only[if_true] at hl
    split at hl
    ·rename_i hB
     split at hl
     ·split at hl
      ·rename_i hD;cases ic <;>simp only[q0V] at hl <;>(try exact IC.noConfusion hl)
       injection hl with hl
       subst hl;obtain⟨J,h0,h1,h2⟩:=h.h;exact wpIn_region_any hm (q0W (Q:=fun a own=>∀w,St W0 own w→Q' .normal a w) (fun a own w hs h=>h w hs) _ _ a own _ (hs.drawn _)
        (qco (Q:=fun a own=>∀w,St W0 own w→Q' .normal a w) hD hok (fun f own a hr h w hs=>hq _ f own a w hr hs h) h1 h2 _ _ f a own Y8 Y8 hr (by
         have e:(fun k=>(Array.replicate ops.size false).getD k false)=fun _=>false:=by
          funext k
          simp only[zV,Array.getElem?_replicate]
          split <;>rfl
         rw[e];exact h0)))
      ·cases ic <;>simp only[q0V] at hl <;>(try exact IC.noConfusion hl)
       exact h.elim
     cases ic <;>simp only[q0V] at hl <;>(try exact IC.noConfusion hl)
     injection hl with hl
     subst hl;exact wpIn_region_any hm (q0W (Q:=fun a own=>∀w,St W0 own w→Q' .normal a w) (fun a own w hs h=>h w hs) _ _ a own _ (hs.drawn _)
      (q1d (Q:=fun a own=>∀w,St W0 own w→Q' .normal a w) hB hok (fun f own a hr h w hs=>hq _ f own a w hr hs h) _ _ f a own q2Y.start hr h))
    ·cases ic <;>simp only[q0V] at hl <;>(try exact IC.noConfusion hl)
     exact h.elim
   |false=>
    simp only[zO,if_false] at hl;cases ic <;>simp only[q0V] at hl <;>(try exact IC.noConfusion hl)
    injection hl with hl
    subst hl;exact wpIn_region_list (q91 (fun f own a w hr hs h=>hq _ f own a w hr hs h) ops.toList f own a w hok hr hs h)
  ·cases ic <;>simp only[q0V] at hl <;>(try exact IC.noConfusion hl)
   exact h.elim
 |ic, .seq x y,hl,Q,Q',hq,f,own,a,w,hr,hs,h=>by
  cases ic <;>simp only[q5h,q0V] at hl <;>(try exact IC.noConfusion hl)
  case seq ia ib=>
   injection hl with h1 h2
   refine wpIn_seq (q1e hm ia x h1 _ _ ?_ f own a w hr hs h);intro e f own a w hr hs h;cases e with
   |normal=>exact q1e hm ib y h2 Q Q' hq f own a w hr hs h
   |_=>exact hq _ _ _ _ _ hr hs h
  case cut ia ib=>
   injection hl with h1 h2
   refine wpIn_seq (q1e hm ia x h1 _ _ ?_ f own a w hr hs h.h);intro e f own a w hr hs h;cases e with
   |normal=>
    obtain⟨o2,he,h⟩:=h;exact q1e hm ib y h2 Q Q' hq f o2 a w hr (he w hs) h
   |_=>exact hq _ _ _ _ _ hr hs h
 |ic, .cond c x y,hl,Q,Q',hq,f,own,a,w,hr,hs,h=>by
  cases ic <;>simp only[q5h,q0V] at hl <;>(try exact IC.noConfusion hl)
  case cond c' ia ib=>
  injection hl with h0 h1 h2
  subst h0;simp only[q7U] at h
  split at h
  ·rename_i t ht;refine wpIn_cond_split (t:=t) (by rw[qbJ hr.get];exact ht) (fun e=> ?_) (fun e=> ?_)
   ·exact q1e hm ia x h1 Q Q' hq f own a w hr hs (h.y e)
   ·exact q1e hm ib y h2 Q Q' hq f own a w hr hs (h.n e)
  ·exact h.elim
 |ic, .block id b,hl,Q,Q',hq,f,own,a,w,hr,hs,h=>by
  cases ic <;>simp only[q5h,q0V] at hl <;>(try exact IC.noConfusion hl)
  case block id' ib=>
  injection hl with h0 h1
  subst h0;refine wpIn_block (q1e hm ib b h1 _ _ ?_ f own a w hr hs h);intro e f own a w hr hs h;cases e with
  |exit id'=>
   simp only[q5q,Exit.inBlock] at h ⊢
   split at h
   ·rename_i hc;rw[if_pos (Zt hc)];exact hq _ _ _ _ _ hr hs h
   ·rename_i hc;rw[if_neg (Nat.ne_of_beq_eq_false hc)];exact hq _ _ _ _ _ hr hs h
  |_=>exact hq _ _ _ _ _ hr hs h
 |ic, .loop b,hl,Q,Q',hq,f,own,a,w,hr,hs,h=>by
  cases ic <;>simp only[q5h,q0V] at hl <;>(try exact IC.noConfusion hl)
  case loop m ib=>
  injection hl with _ hb
  obtain⟨I,⟨n0,o2,he,h0⟩,h1⟩:=h.h;refine q8V (fun k a w=>∃f own,Rel n ds a f∧St W0 own w∧I k f own) ⟨n0,f,o2,hr,he w hs,h0⟩ ?_;rintro k a w ⟨f,own,hr,hs,hI⟩;refine q1e hm ib b hb _ _ ?_ f own a w hr hs (h1 k f own hI);intro e f own a w hr hs h;cases e with
  |normal=>
   obtain⟨m,o2,hm,he,hI⟩:=h;exact⟨m,hm,f,o2,hr,he w hs,hI⟩
  |_=>exact hq _ _ _ _ _ hr hs h
 |ic, .exit id,hl,Q,Q',hq,f,own,a,w,hr,hs,h=>by
  cases ic <;>simp only[q5h,q0V] at hl <;>(try exact IC.noConfusion hl)
  injection hl with hl
  subst hl;exact wpIn_exit (hq _ _ _ _ _ hr hs h)
 |ic, .ret,hl,Q,Q',hq,f,own,a,w,hr,hs,h=>by
  cases ic <;>simp only[q5h,q0V] at hl <;>(try exact IC.noConfusion hl)
  exact wpIn_ret (hq _ _ _ _ _ hr hs h)
 |ic, .rangeFunc ..,hl,_,_,_,_,_,_,_,_,_,h=>by cases ic <;>simp only[q5h,q0V] at hl <;>first|exact IC.noConfusion hl|exact h.elim
 |ic, .scope ..,hl,_,_,_,_,_,_,_,_,_,h=>by cases ic <;>simp only[q5h,q0V] at hl <;>first|exact IC.noConfusion hl|exact h.elim
 |ic, .label ..,hl,_,_,_,_,_,_,_,_,_,h=>by cases ic <;>simp only[q5h,q0V] at hl <;>first|exact IC.noConfusion hl|exact h.elim
 |ic, .goto ..,hl,_,_,_,_,_,_,_,_,_,h=>by cases ic <;>simp only[q5h,q0V] at hl <;>first|exact IC.noConfusion hl|exact h.elim
 |ic, .refuse ..,hl,_,_,_,_,_,_,_,_,_,h=>by cases ic <;>simp only[q5h,q0V] at hl <;>first|exact IC.noConfusion hl|exact h.elim
inductive qhg
 |tmp (t:Nat)
 |cell (a:Nat)
 |cellN (a n:Nat)
 |bad
def q3T(P:Program):ResultVar→qhg
 | .tmp t=> .tmp t
 | .cell a t=>match q3P P t,szT P t with
  |some true,some n=> .cellN a n
  |some false,some _=> .cell a
  |_,_=> .bad
structure IFn where
 n:Nat
 body:IC
 res:List qhg
def qeL(P:Program)(mv:List Nat)(k:FuncId):Option IFn:=
 match P.funcs[k]? with
 |some fn=>match fn.body with
  |some c=>some ⟨fn.ntmps,q5h P mv fn.ntmps c,fn.results.toList.map (q3T P)⟩
  |none=>none
 |none=>none
noncomputable def qak(W0:World)(f:Fr)(own:Own)(l:List qhg):(List Value→Prop)→Prop:=
 List.rec (motive:=fun _=>(List Value→Prop)→Prop) (fun K=>K []) (fun r _ ih K=>match r with
  | .tmp t=>Mv (f t) fun v=>ih fun vs=>K (v::vs)
  | .cell a=>match f a with
   | .pointer (some a)=>Ld W0 own a fun v=>ih fun vs=>K (v::vs)
   |_=>False
  | .cellN a n=>match f a with
   | .pointer (some a)=>LdN W0 own a n fun v=>ih fun vs=>K (.agg v::vs)
   |_=>False
  | .bad=>False) l
theorem qbf{W0:World}{f:Fr}{own:Own}{a:Nat}{r:List qhg}{K:List Value→Prop}:qak W0 f own (.cell a::r) K=match f a with
   | .pointer (some a)=>Ld W0 own a fun v=>qak W0 f own r fun vs=>K (v::vs)
   |_=>False:=rfl
theorem qal{W0:World}{f:Fr}{own:Own}{a n:Nat}{r:List qhg}{K:List Value→Prop}:qak W0 f own (.cellN a n::r) K=match f a with
   | .pointer (some a)=>LdN W0 own a n fun v=>qak W0 f own r fun vs=>K (.agg v::vs)
   |_=>False:=rfl
def qh7:List Value→Value
 | [v]=>v
 |vs=> .tuple vs.toArray
def qmj(W0:World)(res:List qhg)(K:Value→Own→Prop):q4k:=fun e f own=>match e with
 | .ret| .normal=>qak W0 f own res fun vs=>K (qh7 vs) own
 |_=>False
def qc4(args:List Value):Fr:=fun t=>args.getD t undef
def qt(P:Program)(W0:World)(k:FuncId)(args:List Value)(own:Own)(R:Value→Own→Prop):Prop:=
 ∀w,St W0 own w→Calls P k args.toArray w fun e w'=>∃v own',e= .returned v∧St W0 own' w'∧R v own'
def q4D(a:Act):ResultVar→Sem Value
 | .tmp t=>pure (a.tmps.getD t undef)
 | .cell x t=>do loadVar t (←asAddr (a.tmps.getD x undef))
theorem q5m{P:Program}{W0:World}{f:Fr}{own:Own}{a:Act}{w:World}(hf:∀t,a.tmps.getD t undef=f t)(hs:St W0 own w):
  ∀(l:List ResultVar) (K:List Value→Prop),qak W0 f own (l.map (q3T P)) K→∃vs,(l.mapM (q4D a)).run P w= .ok vs w∧K vs
 | [],K,h=>⟨[],Y8,h⟩
 |r::l,K,h=>by
  have hone:∀(u:Value) (K':List Value→Prop),(q4D a r).run P w= .ok u w→qak W0 f own (l.map (q3T P)) (fun vs=>K' (u::vs))→∃vs,((r::l).mapM (q4D a)).run P w= .ok vs w∧K' vs:=by
   intro u K' hu h;obtain⟨vs,hr,hk⟩:=q5m hf hs l _ h;exact⟨u::vs,by simp[List.mapM_cons,hu,hr],hk⟩
  cases r with
  |tmp t=>exact hone (f t) K (by simp only[q4D,hf,Sem.run_pure]) (Mv.h (K:=fun v=>qak W0 f own (l.map (q3T P)) fun vs=>K (v::vs)) h)
  |cell x t=>
   simp only[zF,q3T] at h
   split at h
   ·rename_i n ha hn;simp only[qal] at h
    split at h
    ·rename_i ad hx;obtain⟨us,hlen,hv,h⟩:=h.h;exact hone _ K (by simp only[q4D,hf,hx,asAddr];simp[loadVar,q0z ha,q0G hn,q3f (vs:=us.toList) hlen (hv w hs)]) h
    ·exact h.elim
   ·rename_i n ha hn;simp only[qbf] at h
    split at h
    ·rename_i ad hx;obtain⟨u,hv,h⟩:=h.h;have hv':=hv w hs;exact hone u K (by simp only[q4D,hf,hx,asAddr];simp[loadVar,q0z ha,hv']) h
    ·exact h.elim
   ·exact h.elim
theorem q6v{P:Program}{W0:World}{f:Fr}{own:Own}{a:Act}{w:World}{fn:Func}{K:Value→Prop}(hf:∀t,a.tmps.getD t undef=f t)(hs:St W0 own w)
  (h:qak W0 f own (fn.results.toList.map (q3T P)) fun vs=>K (qh7 vs)):∃v,(results fn a.tmps).run P w= .ok v w∧K v:=by
 obtain⟨vs,hr,hk⟩:=q5m hf hs _ _ h;refine⟨qh7 vs,?_,hk⟩;have he:results fn a.tmps=(do
   let vs ←fn.results.mapM (q4D a)
   pure (if h:vs.size=1 then vs[0] else .tuple vs)):=rfl
 rw[he,←yi (xs:=fn.results),List.mapM_toArray];simp only[Sem.run_bind,Sem.run_map,hr,Result.andThen_ok,Sem.run_pure]
 congr 1
 match vs with
 | []=>rfl
 | [v]=>rfl
 |_::_::_=>rfl
theorem qdA{P:Program}{W0:World}{mv:List Nat}{k:FuncId}{fn:IFn}{args:List Value}{own:Own}{R:Value→Own→Prop}(hm:P.follows .mixedOrders=true)
  (hl:qeL P mv k=some {fn with body:=q0V fn.body}) (hlen:args.length≤fn.n) (h:XS P W0 fn.body (qmj W0 fn.res R) (qc4 args) own):qt P W0 k args own R:=by
 intro w hw;unfold qeL at hl
 split at hl
 ·rename_i f hf
  split at hl
  ·rename_i c hc;simp only[Option.some.injEq,IFn.mk.injEq] at hl;obtain⟨h1,h2,h3⟩:=hl;refine calls_of_wp hf hc ?_;refine(wpIn_wide (n:=0)).1 ?_;rw[←h3] at h;refine q1e (ds:= []) (r:=none) (m:=0) hm fn.body c h2 (qmj W0 (f.results.toList.map (q3T P)) R) _ ?_ (qc4 args) own _ w ?_ hw h
   ·intro e f' own' a' w' hr hs hq;cases e <;>first|exact hq.elim|skip
    all_goals
     obtain⟨v,hv,hk⟩:=q6v (fn:=f) (K:=fun v=>R v own') hr.get hs hq;exact⟨hr.defers,v,hv,v,own',rfl,hs,hk⟩
   ·rw[←h1] at hlen;refine⟨by simp;omega,fun t=> ?_,rfl⟩;simp only[qc4,zV,zh,Array.getElem?_append,List.getElem?_toArray,List.size_toArray,Array.getElem?_replicate]
    split
    ·rfl
    ·rename_i hge;rw[zX Y6]
     split <;>rfl
  ·cases hl
 ·cases hl
end Go.Proofs.YtbhbldllneadeaaGreatDoor
