/- What the laws share, part 4. No condition. -/
import Derived.Deep.QuietTactic
import Derived.RangeFuncFrom
import Derived.RangeFuncLeaves
import Derived.Test.YtfnghamklcdgnaaGreatDoorQ3
set_option maxRecDepth 10000
namespace Go.Proofs.YtfnghamklcdgnaaGreatDoor
open Go
abbrev j9:=Nat×(Obj->Prop)
abbrev jd:=List Int
section
variable{P:Program}{W0:World}{f:Fr}{own:Own}{K K':Value->Own->Prop}
theorem q8A{op:BinOp}{k j:IntKind}{m n:Int}{K K':Value->Prop}(d:∀v,K v->K' v)(h:q3o op k m j n K):q3o op k m j n K':=by
 cases op <;>simp only[q3o] at h ⊢
 case add|sub|mul=>obtain⟨rfl,g⟩:=h.h;exact .mk ⟨d _ g.h⟩
 case quo|rem=>obtain⟨rfl,g⟩:=h.h;exact .mk ⟨g.h.1,d _ g.h.2⟩
 case shl|shr=>exact⟨h.h.1,d _ h.h.2⟩
 case and|or|xor|andNot=>obtain⟨rfl,g⟩:=h.h;exact .mk ⟨d _ g.h⟩
 all_goals(obtain⟨rfl,g⟩:=h.h;exact .mk (d _ g))
theorem qbc{op:BinOp}{k d:IntKind}{m n:Int}{K:Value->Prop}(h:q3o op k m d n K):∃v,K v/\q3o op k m d n (fun j=>j=v):=by
 cases op <;>simp only[q3o] at h ⊢
 case add|sub|mul=>obtain⟨rfl,g⟩:=h.h;exact⟨_,g.h, .mk ⟨rfl⟩⟩
 case quo|rem=>obtain⟨rfl,g⟩:=h.h;exact⟨_,g.h.2, .mk ⟨g.h.1,rfl⟩⟩
 case shl|shr=>exact⟨_,h.h.2,⟨h.h.1,rfl⟩⟩
 case and|or|xor|andNot=>obtain⟨rfl,g⟩:=h.h;exact⟨_,g.h, .mk ⟨rfl⟩⟩
 all_goals(obtain⟨rfl,g⟩:=h.h;exact⟨_,g, .mk rfl⟩)
theorem q23:∀(l:List (Nat×Nat×Operand)) (cs:je) {K K':je->Prop},(∀cs,K cs->K' cs)->Bld f l cs K->Bld f l cs K'
 | [],cs,K,K',d,h=>d cs h
 |(off,sz,x)::l,cs,K,K',d,h=>by
  rw[q22] at h ⊢
  split at h
  ·split at h
   ·exact q23 l _ d h
   ·exact h.elim
  ·rename_i v hne;have g:=Mv.h (K:=fun v=>(match Nat.beq sz 1 with|true=>Bld f l (cs.set off v) K|false=>False)) h;refine Mv.mk ?_
   split at g
   ·rename_i hb;first|exact q23 l _ d g|rw[hb];exact q23 l _ d g
   ·exact g.elim
theorem q8w:∀(l:List (Nat×Nat×Operand)) (cs:je) {K:je->Prop},Bld f l cs K->∃d,K d/\Bld f l cs (fun x=>x=d)
 | [],cs,K,h=>⟨cs,h,rfl⟩
 |(off,sz,x)::l,cs,K,h=>by
  rw[q22] at h
  split at h
  ·rename_i vs q
   split at h
   ·rename_i hb;obtain⟨d,j,n⟩:=q8w l _ h;refine⟨d,j,?_⟩;rw[q22,q];simp only[hb];exact n
   ·exact h.elim
  ·rename_i v o;have g:=Mv.h (K:=fun v=>(match Nat.beq sz 1 with|true=>Bld f l (cs.set off v) K|false=>False)) h
   split at g
   ·rename_i hb;obtain⟨d,j,n⟩:=q8w l _ g;refine⟨d,j,?_⟩;rw[q22]
    split
    ·rename_i vs q;exact(o vs q).elim
    ·refine Mv.mk ?_;rw[hb];exact n
   ·exact g.elim
theorem qc5{T:TypeId}{bytes:Nat}{zs:je}{a:j8}{n c m:Nat}(q:∀v own,K v own->K' v own)(h:qn5 W0 own T bytes zs a n c m K):qn5 W0 own T bytes zs a n c m K':=by
 obtain⟨cs,u,w,x,y,z,o⟩:=h.h;exact⟨cs,u,w,x,y,fun e=>(let ⟨j,ad,d,g,t⟩:=z e;⟨j,ad,d,g,q _ _ t⟩),fun e=>⟨(o e).1,fun b s hb B=>(let ⟨j,d,g⟩:=(o e).2 b s hb B;⟨j,d,q _ _ g⟩)⟩⟩
theorem q36{io:IOp}(d:∀v own,K v own->K' v own)(h:XO P W0 f own io K):XO P W0 f own io K':=by
 cases io <;>simp only[XO] at h ⊢
 case mov=>exact .mk (d _ _ h.h)
 case pick=>split at h <;>first|exact .mk (d _ _ h.h)|exact h.elim
 case bin=>split at h <;>first|exact q8A (fun v=>d v own) h|exact h.elim
 case beq=>split at h <;>first|exact d _ _ h|exact h.elim
 case not=>split at h <;>first|exact d _ _ h|exact h.elim
 case sbin=>split at h <;>first|(unfold qcp at h ⊢;split <;>simp_all)|exact h.elim
 case fbin=>split at h <;>first|exact⟨d _ _ h.h⟩|exact h.elim
 case flt=>split at h <;>first|exact⟨fun r M=>d _ _ (h.h.1 r M),fun L r M=>d _ _ (h.h.2 L r M)⟩|exact h.elim
 case i2f=>split at h <;>first|exact d _ _ h|exact h.elim
 case f2i=>split at h <;>first|obtain⟨n,L,h⟩:=h.h;exact⟨n,L,d _ _ h⟩|exact h.elim
 case fbits=>split at h <;>first|exact d _ _ h|exact h.elim
 case ffrom=>split at h <;>first|exact d _ _ h|exact h.elim
 case fpk=>split at h <;>first|exact d _ _ h|exact h.elim
 case neg=>split at h <;>first|exact⟨d _ _ h.h⟩|exact h.elim
 case conv=>split at h <;>first|exact⟨d _ _ h.h⟩|exact h.elim
 case fad=>split at h <;>first|exact d _ _ h|exact h.elim
 case fld=>split at h <;>first|obtain⟨v,B,h⟩:=h.h;exact⟨v,B,d _ _ h⟩|exact h.elim
 case fldN=>split at h <;>first|exact⟨d _ _ h.h⟩|exact h.elim
 case ixs=>split at h <;>first|obtain⟨v,b,o,g,q,x,h⟩:=h.h;exact⟨v,b,o,g,q,x,d _ _ h⟩|exact h.elim
 case sls=>split at h <;>first|obtain⟨l,r,m,g,q,x,z,E,F,I,h⟩:=h.h;exact⟨l,r,m,g,q,x,z,E,F,I,d _ _ h⟩|exact h.elim
 case sslc=>split at h <;>first|obtain⟨l,r,g,q,x,z,h⟩:=h.h;exact⟨l,r,g,q,x,z,d _ _ h⟩|exact h.elim
 case sidx=>split at h <;>first|obtain⟨j,b,g,q,h⟩:=h.h;exact⟨j,b,g,q,d _ _ h⟩|exact h.elim
 case scat=>split at h <;>first|exact⟨h.h.1,d _ _ h.h.2⟩|exact h.elim
 case ibs=>split at h <;>first|exact d _ _ h|exact h.elim
 case capb=>split at h <;>first|exact d _ _ h|exact h.elim
 case nilq=>split at h <;>first|exact d _ _ h|exact h.elim
 case nifc=>split at h <;>first|exact d _ _ h|exact h.elim
 case iter=>split at h <;>first|exact⟨fun b hb u=>d _ _ (h.h b hb u)⟩|exact h.elim
 case next=>split at h <;>first|obtain⟨s,pos,g,q,x⟩:=h.h;exact⟨s,pos,g,fun u=>(let ⟨y,a,b⟩:=q u;⟨y,a,d _ _ b⟩),fun u=>d _ _ (x u)⟩|exact h.elim
 case ageq=>split at h <;>first|obtain⟨r,g,h⟩:=h.h;exact⟨r,g,d _ _ h⟩|exact h.elim
 case mkm=>exact⟨fun b hb=>d _ _ (h.h b hb)⟩
 case mlk=>split at h <;>first|exact d _ _ h|obtain⟨l,r,g,q,h⟩:=h.h;exact⟨l,r,g,q,d _ _ h⟩|exact h.elim
 case mup=>split at h <;>first|obtain⟨l,y,g,q,h⟩:=h.h;exact⟨l,y,g,q,d _ _ h⟩|exact h.elim
 case mkf=>exact d _ _ h
 case mk=>split at h <;>first|obtain⟨l,c,g,q,x,z,h⟩:=h.h;exact⟨l,c,g,q,x,z,fun b hb=>d _ _ (h b hb)⟩|exact h.elim
 case app=>split at h <;>first|obtain⟨cs,ys,g,q,x,z,E,F,I,R,N⟩:=h.h;exact⟨cs,ys,g,q,x,z,E,F,I,fun u=>(let ⟨y,a,b⟩:=R u;⟨y,a,d _ _ b⟩),fun u=>⟨(N u).1,fun b H hb J=>(let ⟨y,a,b⟩:=(N u).2 b H hb J;⟨y,a,d _ _ b⟩)⟩⟩|exact h.elim
 case appz=>split at h <;>first|(rcases h.h with (⟨g,q,x⟩|⟨m',g,q,x,z⟩)|⟨g,q,m',x,z,E,F⟩;exact⟨.inl (.inl ⟨g,q,d _ _ x⟩)⟩;exact⟨.inl (.inr ⟨m',g,q,x,qc5 d z⟩)⟩;exact⟨.inr ⟨g,q,m',x,z,E,fun b H hb J=>d _ _ (F b H hb J)⟩⟩)|exact h.elim
 case clr=>split at h <;>first|obtain⟨g,y,q,x⟩:=h.h;exact⟨g,y,q,d _ _ x⟩|exact d _ _ h|exact h.elim
 case callv=>split at h <;>first|exact⟨h.h.1,⟨fun w hw=>(h.h.2.h w hw).mono fun e O ⟨v,y,he,G,h⟩=>⟨v,y,he,G,d _ _ h⟩⟩⟩|exact⟨fun w hw=>(h.h w hw).imp fun k h=>h.imp fun t h=>h.imp fun a h=>h.imp fun b h=>⟨h.1,h.2.mono fun e O ⟨v,y,he,G,h⟩=>⟨v,y,he,G,d _ _ h⟩⟩⟩|exact h.elim
 case ixa=>split at h <;>first|obtain⟨v,g,q,h⟩:=h.h;exact⟨v,g,q,d _ _ h⟩|exact h.elim
 case idx=>split at h <;>first|obtain⟨j,g,q,h⟩:=h.h;obtain⟨v,B,h⟩:=h.h;exact⟨j,g,q,v,B,d _ _ h⟩|exact h.elim
 case idxN=>split at h <;>first|obtain⟨j,g,q,h⟩:=h.h;exact⟨j,g,q,⟨d _ _ h.h⟩⟩|exact h.elim
 case ld=>split at h <;>first|obtain⟨v,B,h⟩:=h.h;exact⟨v,B,d _ _ h⟩|exact h.elim
 case ldN=>split at h <;>first|obtain⟨v,u,B,h⟩:=h.h;exact⟨v,u,B,d _ _ h⟩|exact h.elim
 case st=>split at h <;>first|obtain⟨g,y,q,h⟩:=h.h.h;exact .mk ⟨g,y,q,d _ _ h⟩|exact h.elim
 case stN=>split at h <;>first|obtain⟨Q,⟨g,y,q,h⟩⟩:=h;exact⟨Q,⟨g,y,q,d _ _ h⟩⟩|exact h.elim
 case box=>split at h <;>first|exact⟨fun b hb u=>d _ _ (h.h b hb u)⟩|exact .mk ⟨fun b hb u=>d _ _ (h.h.h b hb u)⟩
 case new=>split at h <;>exact⟨fun b hb u=>d _ _ (h.h b hb u)⟩
 case ext=>split at h <;>first|obtain⟨v,B,h⟩:=h.h;exact⟨v,B,d _ _ h⟩|exact h.elim
 case len=>split at h <;>first|exact d _ _ h|exact h.elim
 case lens=>split at h <;>first|exact d _ _ h|exact h.elim
 case nilc=>split at h <;>first|exact d _ _ h|exact h.elim
 case mm=>split at h <;>first|exact⟨d _ _ h.h⟩|exact h.elim
 case bld=>exact q23 _ _ (fun cs h=>d _ _ h) h
 case blds=>exact q23 _ _ (fun cs h=>⟨fun b hb u=>d _ _ (h.h b hb u)⟩) h
 case call=>exact⟨fun w hw=>(h.h w hw).mono fun e O ⟨v,y,he,G,h⟩=>⟨v,y,he,G,d _ _ h⟩⟩
theorem ql2{io:IOp}(E:qdI io=true)(h:XO P W0 f own io K):∃v,K v own/\XO P W0 f own io (fun F _=>F=v):=by
 cases io <;>simp only[XO] at h ⊢ <;>(try simp[qdI] at E)
 case mov=>exact⟨_,h.h, .mk rfl⟩
 case pick=>split at h <;>first|exact⟨_,h.h, .mk rfl⟩|exact h.elim
 case bin=>split at h <;>first|exact qbc h|exact h.elim
 case beq=>split at h <;>first|exact⟨_,h,rfl⟩|exact h.elim
 case not=>split at h <;>first|exact⟨_,h,rfl⟩|exact h.elim
 case sbin=>split at h <;>first|(unfold qcp at h ⊢;split at h <;>first|exact⟨_,h,rfl⟩|exact h.elim)|exact h.elim
 case fbin=>split at h <;>first|exact⟨_,h.h,⟨rfl⟩⟩|exact h.elim
 case i2f=>split at h <;>first|exact⟨_,h,rfl⟩|exact h.elim
 case f2i=>split at h <;>first|obtain⟨n,B,h⟩:=h.h;exact⟨_,h,⟨n,B,rfl⟩⟩|exact h.elim
 case fbits=>split at h <;>first|exact⟨_,h,rfl⟩|exact h.elim
 case ffrom=>split at h <;>first|exact⟨_,h,rfl⟩|exact h.elim
 case fpk=>split at h <;>first|exact⟨_,h,rfl⟩|exact h.elim
 case neg=>split at h <;>first|exact⟨_,h.h,⟨rfl⟩⟩|exact h.elim
 case conv=>split at h <;>first|exact⟨_,h.h,⟨rfl⟩⟩|exact h.elim
 case fad=>split at h <;>first|exact⟨_,h,rfl⟩|exact h.elim
 case fld=>split at h <;>first|obtain⟨v,q,h⟩:=h.h;exact⟨_,h,⟨v,q,rfl⟩⟩|exact h.elim
 case fldN=>split at h <;>first|exact⟨_,h.h,⟨rfl⟩⟩|exact h.elim
 case ixs=>split at h <;>first|obtain⟨v,b,o,d,g,s,h⟩:=h.h;exact⟨_,h,⟨v,b,o,d,g,s,rfl⟩⟩|exact h.elim
 case sls=>split at h <;>first|obtain⟨l,r,m,d,g,s,t,u,w,x,h⟩:=h.h;exact⟨_,h,⟨l,r,m,d,g,s,t,u,w,x,rfl⟩⟩|exact h.elim
 case sslc=>split at h <;>first|obtain⟨l,r,d,g,s,t,h⟩:=h.h;exact⟨_,h,⟨l,r,d,g,s,t,rfl⟩⟩|exact h.elim
 case sidx=>split at h <;>first|obtain⟨j,b,d,g,h⟩:=h.h;exact⟨_,h,⟨j,b,d,g,rfl⟩⟩|exact h.elim
 case scat=>split at h <;>first|exact⟨_,h.h.2,⟨h.h.1,rfl⟩⟩|exact h.elim
 case ibs=>split at h <;>first|exact⟨_,h,rfl⟩|exact h.elim
 case capb=>split at h <;>first|exact⟨_,h,rfl⟩|exact h.elim
 case nilq=>split at h <;>first|exact⟨_,h,rfl⟩|exact h.elim
 case nifc=>split at h <;>first|exact⟨_,h,rfl⟩|exact h.elim
 case ageq=>split at h <;>first|obtain⟨r,d,h⟩:=h.h;exact⟨_,h,⟨r,d,rfl⟩⟩|exact h.elim
 case mlk=>split at h <;>first|exact⟨_,h,rfl⟩|obtain⟨l,r,d,g,h⟩:=h.h;exact⟨_,h,⟨l,r,d,g,rfl⟩⟩|exact h.elim
 case mkf=>exact⟨_,h,rfl⟩
 case ixa=>split at h <;>first|obtain⟨v,d,g,h⟩:=h.h;exact⟨_,h,⟨v,d,g,rfl⟩⟩|exact h.elim
 case idx=>split at h <;>first|obtain⟨j,d,g,h⟩:=h.h;obtain⟨v,q,h⟩:=h.h;exact⟨_,h,⟨j,d,g,⟨v,q,rfl⟩⟩⟩|exact h.elim
 case idxN=>split at h <;>first|obtain⟨j,d,g,h⟩:=h.h;exact⟨_,h.h,⟨j,d,g,⟨rfl⟩⟩⟩|exact h.elim
 case ld=>split at h <;>first|obtain⟨v,q,h⟩:=h.h;exact⟨_,h,⟨v,q,rfl⟩⟩|exact h.elim
 case ldN=>split at h <;>first|obtain⟨v,z,q,h⟩:=h.h;exact⟨_,h,⟨v,z,q,rfl⟩⟩|exact h.elim
 case ext=>split at h <;>first|obtain⟨v,q,h⟩:=h.h;exact⟨_,h,⟨v,q,rfl⟩⟩|exact h.elim
 case len=>split at h <;>first|exact⟨_,h,rfl⟩|exact h.elim
 case lens=>split at h <;>first|exact⟨_,h,rfl⟩|exact h.elim
 case nilc=>split at h <;>first|exact⟨_,h,rfl⟩|exact h.elim
 case mm=>split at h <;>first|exact⟨_,h.h,⟨rfl⟩⟩|exact h.elim
 case bld=>
  obtain⟨c',d,g⟩:=q8w _ _ h;exact⟨_,d,q23 _ _ (fun cs y=>by rw[y]) g⟩
end
noncomputable def XR(P:Program)(W0:World)(l:List q4r):(Fr->Own->Prop)->Fr->Own->Prop:=
 List.rec (motive:=fun _=>(Fr->Own->Prop)->Fr->Own->Prop) (fun K f own=>K f own) (fun o _ h K f own=>match o with
  |⟨d,op,none⟩=>XO P W0 f own op fun v own'=>h K (updO f d v) own'
  |⟨d,op,some (g,b)⟩=>match f g with
   | .bool c=>q2m c b
     (XO P W0 (upd f g (.bool b)) own op fun v own'=>h K (updO (upd f g (.bool b)) d v) own')
     (h K (updO (upd f g (.bool (!b))) d undef) own)
   |_=>h K (updO f d undef) own) l
theorem qiv{P:Program}{W0:World}{d:Option Nat}{op:IOp}{r:List q4r}{K:Fr->Own->Prop}{f:Fr}{own:Own}:
  XR P W0 (⟨d,op,none⟩::r) K f own=XO P W0 f own op fun v own'=>XR P W0 r K (updO f d v) own':=rfl
theorem q8y{P:Program}{W0:World}{d:Option Nat}{op:IOp}{g:Nat}{b:Bool}{r:List q4r}{K:Fr->Own->Prop}{f:Fr}{own:Own}:
  XR P W0 (⟨d,op,some (g,b)⟩::r) K f own=match f g with
   | .bool c=>q2m c b
     (XO P W0 (upd f g (.bool b)) own op fun v own'=>XR P W0 r K (updO (upd f g (.bool b)) d v) own')
     (XR P W0 r K (updO (upd f g (.bool (!b))) d undef) own)
   |_=>XR P W0 r K (updO f d undef) own:=rfl
structure q4q(P:Program)(W0:World)(own:Own)(k:FuncId)(args:je)(K:Value->Prop):Prop where
 h:∃v,(∀ex w,St W0 (ex++own) w->Calls P k args.toArray w fun e w'=>e= .returned v/\St W0 (ex++own) w')/\K v
theorem qz{a b c d e f}(h:q4q a b c d e f):q4q a b c d e f:=h
def XQ(P:Program)(W0:World)(f:Fr)(own:Own)(op:IOp)(K:Value->Prop):Prop:=
 match op with
 | .call k args=>q4q P W0 own k (args.map (ev f)) K
 |op=>match qdI op with
  |true=>XO P W0 f own op fun v _=>K v
  |false=>False
def XG(d:Option (Nat×Bool))(f:Fr)(Y N:Fr->Prop):Prop:=
 match d with
 |none=>Y f
 |some (g,b)=>match f g with
  | .bool c=>q2m c b (Y (upd f g (.bool b))) (N (upd f g (.bool (!b))))
  |_=>N f
inductive DT
 |done
 |f (o:q4r) (r:DT)
 |m (o:q4r) (r:DT)
 |both (a b:DT)
 |tt
 |bad
structure q1k(A B:Prop):Prop where
 l:A
 r:B
noncomputable def XD(P:Program)(W0:World)(t:DT):(Fr->Own->Prop)->Fr->Own->Prop:=
 DT.rec (motive:=fun _=>(Fr->Own->Prop)->Fr->Own->Prop) (fun K f own=>K f own)
  (fun o _ d K f own=>XG o.guard f (fun f=>XQ P W0 f own o.op fun v=>d K (updO f o.dst v) own) (fun f=>d K (updO f o.dst undef) own))
  (fun o _ d K f own=>XG o.guard f (fun f=>XO P W0 f own o.op fun v own'=>d K (updO f o.dst v) own') (fun f=>d K (updO f o.dst undef) own))
  (fun _ _ a b K f own=>q1k (a K f own) (b K f own))
  (fun _ _ _=>True) (fun _ _ _=>False) t
theorem qna{P:Program}{W0:World}{o:q4r}{r:DT}{K:Fr->Own->Prop}{f:Fr}{own:Own}:
  XD P W0 (.f o r) K f own=XG o.guard f (fun f=>XQ P W0 f own o.op fun v=>XD P W0 r K (updO f o.dst v) own) (fun f=>XD P W0 r K (updO f o.dst undef) own):=rfl
theorem qnb{P:Program}{W0:World}{o:q4r}{r:DT}{K:Fr->Own->Prop}{f:Fr}{own:Own}:
  XD P W0 (.m o r) K f own=XG o.guard f (fun f=>XO P W0 f own o.op fun v own'=>XD P W0 r K (updO f o.dst v) own') (fun f=>XD P W0 r K (updO f o.dst undef) own):=rfl
structure Rel(n:Nat)(ds:List Deferred)(a:Act)(f:Fr):Prop where
 size:a.tmps.size=n
 get:∀t,a.tmps.getD t undef=f t
 defers:a.defers=ds
theorem q1S{f:Fr}{g:Nat}{v:Value}(h:f g=v):upd f g v=f:=by
 funext t
 unfold upd;cases e:Nat.beq t g
 ·rfl
 ·rw[Ya] at e;subst e;simp[h]
theorem Rel.put{ds:List Deferred}{n:Nat}{a:Act}{f:Fr}(h:Rel n ds a f){d:Option Nat}(hd:∀t,d=some t->t<n)(v:Value):Rel n ds (a.put d v) (updO f d v):=by
 cases d with
 |none=>exact h
 |some d=>
  have hd:=hd d rfl;refine⟨by simp[Act.put,h.size],fun t=>?_,h.defers⟩;simp only[Act.put,updO,upd];cases e:Nat.beq t d
  ·have g:t≠d:=fun e'=>by subst e';simp at e
   simp only[cond_false];rw[<-h.get t];simp only[zZ];rw[Array.getElem?_setIfInBounds_ne (fun h=>g h.symm)]
  ·rw[Ya] at e;subst e;simp[Array.getD_eq_getD_getElem?,h.size,hd]
def q0K(ops:Array Oper)(n:Nat)(o:Oper):Bool:=
 (match o.dst with|some d=>decide (d<n)|none=>true)&&
 (match o.guard with|some (j,_)=>((ops[j]?).bind (·.dst)).isSome&&decide (((ops[j]?).bind (·.dst)).getD n<n)|none=>true)
theorem q4e{ds:List Deferred}{ops:Array Oper}{n:Nat}{o:Oper}{a:Act}{f:Fr}(t:Rel n ds a f)(q:q0K ops n o=true)(P:Program):
  Region.wanted o (yielded ops a.tmps)=match (q0F P ops o).guard with
   |none=>true
   |some (g,b)=>match f g with| .bool c=>c==b|_=>false:=by
 unfold Region.wanted q0F q0K at*;cases w:o.guard with
 |none=>simp
 |some x=>
  obtain⟨j,b⟩:=x;simp only[w,zH,decide_eq_true_eq] at q;obtain⟨_,u,s⟩:=q;obtain⟨d,hd⟩:=Zo.1 u;simp only[hd,Z6] at s;simp only[hd];unfold yielded;simp only[hd,Option.bind_some];have h:=t.get d;rw[zZ] at h;rw[<-t.size] at s;rw[ZE s] at h ⊢;simp only[Z6] at h;rw[<-h];cases a.tmps[d] <;>simp
theorem q5K.wpIn{P:Program}{a:Act}{f:Fr}{o:Oper}{w:World}{own:Own}{W0:World}{K:Value->Own->Prop}{ro:Bool}{next:Act->World->Prop}{Q:Exit->Act->World->Prop}{r:Option Nat}{m:Nat}
  (B:∀t,a.tmps.getD t undef=f t) (z:St W0 own w) (h:q5K P f o w own W0 K ro) (u:∀v own' j,St W0 own' j->K v own'->next (a.put o.dst v) j):o.wpIn (WF r) m P a w next Q:=by
 unfold Oper.wpIn;refine⟨fun _ _=>trivial,?_⟩;rw[qcK B]
 rcases h with ⟨v,n,g⟩|⟨_,⟨v,j,own',n,q,g⟩|⟨j,own',n,q,g⟩|⟨k,args,n,y⟩|⟨l,k,tmps,assign,body,n,y⟩⟩
 all_goals rw[qaF (fun d j e=>by rw[n] at e;cases e) (fun x j e=>by rw[n] at e;cases e),n]
 ·exact u _ _ _ z g
 ·exact u _ _ _ q g
 ·exact u _ _ _ q g
 ·rw[Oper.uponIn_enter];have s:=y.h w z;simp only[yy] at s;refine⟨fun h=>(by cases h),q65 (s.mono fun e j h=>?_)⟩;obtain⟨v,own',rfl,q,g⟩:=h;exact u _ _ _ q g
 ·rw[Oper.uponIn_round];refine⟨fun h=>(by cases h),q6b (y.mono fun e j h=>?_)⟩;obtain⟨v,own',rfl,q,g⟩:=h;exact u _ _ _ q g
theorem q9I{ds:List Deferred}{P:Program}{W0:World}{ops:Array Oper}{n:Nat}{Q:Exit->Act->World->Prop}{K:Fr->Own->Prop}{r:Option Nat}{m:Nat}
  (H:∀f own a w,Rel n ds a f->St W0 own w->K f own->Q .normal a w):∀(l:List Oper) (f:Fr) (own:Own) (a:Act) (w:World),l.all (q0K ops n)=true->
  Rel n ds a f->St W0 own w->XR P W0 (l.map (q0F P ops)) K f own->wpListIn (WF r) m P ops Q l a w
 | [],f,own,a,w,_,q,u,h=>H f own a w q u h
 |o::l,f,own,a,w,d,q,u,h=>by
  simp only[Y9,zH] at d;obtain⟨d,B⟩:=d;have hd:∀t,o.dst=some t->t<n:=fun t M=>by
   unfold q0K at d;simp only[M,zH,decide_eq_true_eq] at d;exact d.1
  have hw:=q4e q d P;have E:=fun f own a w=>q9I (P:=P) (ops:=ops) (r:=r) (m:=m) H l f own a w B
  unfold wpListIn;rw[zG,show q0F P ops o=⟨o.dst,q1I P o.op,(q0F P ops o).guard⟩ from rfl] at h;generalize (q0F P ops o).guard=L at h hw;cases L with
  |none=>
   simp only[qiv] at h hw;rw[if_pos hw];exact((q25 rfl u h).wpIn q.get u fun v own' N x F=>E _ _ _ _ (q.put hd v) x F)
  |some gb=>
   obtain⟨g,b⟩:=gb;simp only[q8y] at h hw;rw[hw];cases j:f g with
   |bool c=>
    rw[j] at h;simp only at h
    by_cases z:c=b
    ·subst z;have y:=q1S j;have J:=h.y rfl;rw[y] at J;simp only[beq_self_eq_true,if_true];exact((q25 rfl u J).wpIn q.get u fun v own' N x F=>E _ _ _ _ (q.put hd v) x F)
    ·have s:c= !b:=by cases c <;>cases b <;>simp_all
     have I:=h.n s;rw[<-s,q1S j] at I;have G:(c==b)=false:=by simpa using z
     simp only[G,zV,if_false];exact⟨fun _ _=>trivial,E _ _ _ _ (q.put hd undef) u I⟩
   |_=>
    rw[j] at h;simp only[zV,if_false] at h ⊢;exact⟨fun _ _=>trivial,E _ _ _ _ (q.put hd undef) u h⟩
theorem q4v{ds:List Deferred}{ops:Array Oper}{n:Nat}{o:Oper}{a:Act}{f:Fr}(x:Rel n ds a f)(s:q0K ops n o=true){P:Program}{Y N:Fr->Prop}(h:XG (q0F P ops o).guard f Y N):
  (Region.wanted o (yielded ops a.tmps)=true/\Y f)\/(Region.wanted o (yielded ops a.tmps)=false/\N f):=by
 have hw:=q4e x s P;generalize (q0F P ops o).guard=w at h hw;cases w with
 |none=>exact .inl ⟨hw,h⟩
 |some gb=>
  obtain⟨g,b⟩:=gb;simp only[XG] at h hw;cases d:f g with
  |bool c=>
   rw[d] at h hw;simp only at h hw
   by_cases q:c=b
   ·subst q;have u:=h.y rfl;rw[q1S d] at u;exact .inl ⟨by simpa using hw,u⟩
   ·have j:c= !b:=by cases c <;>cases b <;>simp_all
    have t:=h.n j;rw[<-j,q1S d] at t;exact .inr ⟨by rw[hw];simpa using q,t⟩
  |_=>rw[d] at h hw;exact .inr ⟨hw,h⟩
def qkJ(io:IOp):Bool:=qdI io&&(match io with| .ld _| .ldN _ _| .mlk _ _ _ _ _=>false|_=>true)
theorem qnu{P:Program}{W0 g:World}{f:Fr}{own d:Own}{io:IOp}{Φ:Value->Prop}(j:qkJ io=true)(h:XO P W0 f own io (fun v _=>Φ v)):XO P g f d io (fun v _=>Φ v):=by
 cases io <;>first|exact h|simp[qkJ,qdI] at j
theorem q9G{P:Program}{W0:World}{own:Own}{f:Fr}{a:Act}{o:Oper}{K:Value->Prop}(F:∀t,a.tmps.getD t undef=f t)(g:XQ P W0 f own (q1I P o.op) K):
  ∃v,K v/\∀own',(qkJ (q1I P o.op)=true\/∃ex,own'=ex++own)->∀w,St W0 own' w->q1L P (fun u x=>u=v/\St W0 own' x) ((execOp a.eval o).run P w):=by
 have ro:∀io,q1I P o.op=io->qdI io=true->XO P W0 f own io (fun v _=>K v)->
   ∃v,K v/\∀own',(qkJ io=true\/∃ex,own'=ex++own)->∀w,St W0 own' w->q1L P (fun u x=>u=v/\St W0 own' x) ((execOp a.eval o).run P w):=by
  intro io d j g;obtain⟨v,z,G⟩:=ql2 j g;refine⟨v,z,fun own' y w hw=>?_⟩;have q:(execOp (ev f) o).run P w= .ok (.value v) w:=by
   rcases y with s|⟨ex,rfl⟩
   ·rcases q25 d hw (qnu s G:XO P W0 f own' io (fun E _=>E=v)) with ⟨E,h,rfl⟩|⟨n,_⟩
    ·exact h
    ·rw[j] at n;cases n
   ·have B:St W0 own w:=Ent.of_sub (Zl ex own) w hw
    rcases q25 d B G with ⟨E,h,rfl⟩|⟨n,_⟩
    ·exact h
    ·rw[j] at n;cases n
  rw[qcK F,q];exact⟨rfl,hw⟩
 unfold XQ at g
 split at g
 ·rename_i k args d;obtain⟨v,H,z⟩:=g.h;refine⟨v,z,fun own' y w hw=>?_⟩
  rcases y with s|⟨ex,rfl⟩
  ·rw[d] at s;cases s
  ·rw[qcK F,q5U d];exact(H ex w hw).mono fun e x ⟨he,I⟩=>⟨v,he,rfl,I⟩
 ·split at g
  ·exact ro _ rfl (by assumption) g
  ·exact g.elim
theorem q5K.goes{P:Program}{W0:World}{f:Fr}{own:Own}{a:Act}{o:Oper}{w:World}{K:Value->Own->Prop}{ro:Bool}(y:∀t,a.tmps.getD t undef=f t)(x:St W0 own w)(h:q5K P f o w own W0 K ro):
  q1L P (fun u q=>∃own',St W0 own' q/\K u own') ((execOp a.eval o).run P w):=by
 rw[qcK y]
 rcases h with ⟨v,g,d⟩|⟨_,⟨v,q,own',g,j,d⟩|⟨q,own',g,j,d⟩|⟨k,args,g,s⟩|⟨l,k,tmps,assign,body,g,s⟩⟩
 ·rw[g];exact⟨_,x,d⟩
 ·rw[g];exact⟨_,j,d⟩
 ·rw[g];exact⟨_,j,d⟩
 ·rw[g];have n:=s.h w x;simp only[yy] at n;exact n.mono fun e q ⟨v,own',he,j,d⟩=>⟨v,he,own',j,d⟩
 ·rw[g];exact s.mono fun e q ⟨v,own',he,j,d⟩=>⟨v,he,own',j,d⟩
def qfS:IOp->Bool
 | .new _ _| .box _ _=>true
 | .blds _ _ _ _=>true
 | .mk _ _ _ _ _ _=>true
 | .mkm=>true
 |_=>false
theorem ql3{P:Program}{W0:World}{f:Fr}{own:Own}{io:IOp}{K:Value->Own->Prop}(q:qfS io=true)(h:XO P W0 f own io K):XO P W0 f own io (fun v own'=>K v own'/\∃e,own'=e::own):=by
 cases io <;>simp only[XO] at h ⊢ <;>(try simp[qfS] at q)
 case box=>split at h <;>first|exact⟨fun b hb d=>⟨h.h b hb d,_,rfl⟩⟩|exact .mk ⟨fun b hb d=>⟨h.h.h b hb d,_,rfl⟩⟩
 case new=>split at h <;>exact⟨fun b hb d=>⟨h.h b hb d,_,rfl⟩⟩
 case blds=>exact q23 _ _ (fun cs h=>⟨fun b hb d=>⟨h.h b hb d,_,rfl⟩⟩) h
 case mk=>split at h <;>first|obtain⟨l,c,g,j,n,o,h⟩:=h.h;exact⟨l,c,g,j,n,o,fun b hb=>⟨h b hb,_,rfl⟩⟩|exact h.elim
 case mkm=>exact⟨fun b hb=>⟨h.h b hb,_,rfl⟩⟩
def qm3(d:jh)(io:IOp):Kd:=
 match io with
 | .call k _=>if d.contains k then .m else .f
 |io=>if qdI io then .f else if qfS io then .n else .m
def qbi(P:Program)(ops:Array Oper)(d:jh)(i:Nat):Kd:=
 match ops[i]? with
 |some o=>qm3 d (q1I P o.op)
 |none=> .f
def fOk(P:Program)(ops:Array Oper)(d:jh)(listed:Array Bool)(k:Nat):Bool:=
 match ops[k]? with
 |some o=>(match qm3 d (q1I P o.op) with| .f=>true|_=>false)&&Region.free .any ops listed k&&
   (qkJ (q1I P o.op)||(List.range ops.size).all fun j=>match qbi P ops d j with| .m=>listed.getD j false||q8s .any ops 3 j k|_=>true)
 |none=>false
def brs(P:Program)(ops:Array Oper)(g:jh)(d:Nat->DT):jh->DT
 | []=> .tt
 |k::r=>
  let x:=match qbi P ops g k with
   | .f=>(match ops[k]? with
    |some o=> .f (q0F P ops o) (d k)
    |none=> .bad)
   |_=>match ops[k]? with
    |some o=> .m (q0F P ops o) (d k)
    |none=> .bad
  match r with
  | []=>x
  |_=> .both x (brs P ops g d r)
def qkR(P:Program)(ops:Array Oper)(d:jh):Nat->Array Bool->DT
 |0,listed=>match Region.ready .any ops listed with
  | []=> .done
  |_=> .bad
 |g+1,listed=>match (Region.ready .any ops listed).find? (fOk P ops d listed) with
  |some k=>match ops[k]? with
   |some o=> .f (q0F P ops o) (qkR P ops d g (listed.setIfInBounds k true))
   |none=> .bad
  |none=>match Region.ready .any ops listed with
   | []=> .done
   |rd=>brs P ops d (fun k=>qkR P ops d g (listed.setIfInBounds k true)) rd
theorem q9O{P:Program}{W0:World}{ops:Array Oper}{q:jh}{d:Nat->DT}{K:Fr->Own->Prop}{f:Fr}{own:Own}:∀(l:jh),XD P W0 (brs P ops q d l) K f own->
  ∀k∈l,∃o,ops[k]? =some o/\match qbi P ops q k with
   | .f=>XD P W0 (.f (q0F P ops o) (d k)) K f own
   |_=>XD P W0 (.m (q0F P ops o) (d k)) K f own
 | [],_,k,n=>by cases n
 |k0::r,h,k,n=>by
  have t:XD P W0 (match qbi P ops q k0 with
   | .f=>(match ops[k0]? with
    |some o=> .f (q0F P ops o) (d k0)
    |none=> .bad)
   |_=>match ops[k0]? with
    |some o=> .m (q0F P ops o) (d k0)
    |none=> .bad) K f own/\(r≠ []->XD P W0 (brs P ops q d r) K f own):=by
   unfold brs at h;cases r with
   |nil=>exact⟨h,fun h=>absurd rfl h⟩
   |cons a r=>exact⟨q1k.l (A:=XD P W0 _ K f own) (B:=XD P W0 _ K f own) h,fun _=>q1k.r (A:=XD P W0 _ K f own) (B:=XD P W0 _ K f own) h⟩
  rcases zX.1 n with rfl|n
  ·have j:=t.1;cases s:ops[k]? with
   |none=>rw[s] at j;cases g:qbi P ops q k <;>rw[g] at j <;>exact j.elim
   |some o=>
    rw[s] at j;refine⟨o,rfl,?_⟩;cases g:qbi P ops q k <;>rw[g] at j <;>exact j
  ·exact q9O r (t.2 (fun e=>by subst e;cases n)) k n
theorem q1s{ds:List Deferred}{P:Program}{W0:World}{ops:Array Oper}{I:jh}{n:Nat}{Q:Act->Own->Prop}{K:Fr->Own->Prop}(s:Region.noSelect ops=true)(z:ops.toList.all (q0K ops n)=true)
  (G:∀f own a,Rel n ds a f->K f own->Q a own):∀(g:Nat) (listed:Array Bool) (f:Fr) (a:Act) (own:Own),q3k .any ops listed->Rel n ds a f->
  XD P W0 (qkR P ops I g listed) K f own->wpG P .any ops W0 (qbi P ops I) Q g listed a own
 |0,listed,f,a,own,_,B,h=>by
  unfold qkR at h
  split at h
  ·rename_i M;exact⟨M,G _ _ _ B h⟩
  ·exact h.elim
 |g+1,listed,f,a,own,inv,B,h=>by
  have okAt:∀(k:Nat) (o:Oper),ops[k]? =some o->q0K ops n o=true:=fun k o y=>by
   rw[Z7] at z;exact z o (by rw[<-Z5] at y;exact zh y)
  have q:∀(k:Nat) (o:Oper),ops[k]? =some o->∀t,o.dst=some t->t<n:=fun k o y t O=>by
   have:=okAt k o y;unfold q0K at this;simp only[O,zH,decide_eq_true_eq] at this;exact this.1
  unfold qkR at h
  split at h
  ·rename_i k Z;have L:=List.mem_of_find?_eq_some Z;have T:=List.find?_some Z
   split at h
   ·rename_i o y;unfold fOk at T;simp only[y,zH,yd] at T;obtain⟨⟨R,J⟩,X⟩:=T;have U:qbi P ops I k= .f:=by
     unfold qbi;simp only[y];cases hh:qm3 I (q1I P o.op) <;>rw[hh] at R <;>first|rfl|cases R
    have first:=fun(v:Value) (hy:q2h P ops W0 (fun own'=>qkJ (q1I P o.op)=true\/∃ex,own'=ex++own) o v a) (H:wpG P .any ops W0 (qbi P ops I) Q g (listed.setIfInBounds k true) (a.put o.dst v) own)=>
     qf3 (tl:=qkJ (q1I P o.op)) (g:=3) y U (Region.noSelect_spec s) _ (fun e own' hV=>hV.imp id (fun⟨ex,he⟩=>⟨e::ex,by rw[he];rfl⟩)) (fun O _=> .inl O) g listed a own inv (fun O j oj hj hm=>by
      rcases X with h|h
      ·rw[h] at O;cases O
      ·rw[Z7] at h;have:=h j (ZY.2 (Zg.1 hj).1);rw[hm] at this
       simpa only[yd] using this) (Region.free_spec y J) L hy (.inr ⟨[],rfl⟩) H
    rw[qna] at h
    rcases q4v B (okAt k o y) h with ⟨hw,x⟩|⟨hw,x⟩
    ·obtain⟨v,E,Y⟩:=q9G B.get x;exact first v (.inl ⟨hw,Y⟩) (q1s s z G g _ _ _ own (inv.set L) (B.put (q k o y) v) E)
    ·exact first undef (.inr ⟨hw,rfl⟩) (q1s s z G g _ _ _ own (inv.set L) (B.put (q k o y) undef) x)
   ·exact h.elim
  ·split at h
   ·rename_i M;exact⟨fun _=>G _ _ _ B h,fun i hi=>by rw[M] at hi;cases hi⟩
   ·rename_i W;refine⟨fun h0=>absurd h0 W,fun i hi=>?_⟩;obtain⟨o,y,x⟩:=q9O _ h i hi;have V:qbi P ops I i=qm3 I (q1I P o.op):=by unfold qbi;simp only[y]
    unfold q4t;simp only[y];cases d:qbi P ops I i with
    |f=>
     rw[d] at x;simp only at x;rw[qna] at x
     rcases q4v B (okAt i o y) x with ⟨hw,x⟩|⟨hw,x⟩
     ·simp only[hw,if_true];intro w N;obtain⟨v,E,Y⟩:=q9G B.get x;refine(Y own (.inr ⟨[],rfl⟩) w N).mono fun u w' ⟨hu,F⟩=>?_
      subst hu;exact⟨F,q1s s z G g _ _ _ own (inv.set hi) (B.put (q i o y) u) E⟩
     ·simp only[hw,zV,if_false];exact q1s s z G g _ _ _ own (inv.set hi) (B.put (q i o y) undef) x
    |n=>
     rw[d] at x;simp only at x;rw[qnb] at x
     rcases q4v B (okAt i o y) x with ⟨hw,x⟩|⟨hw,x⟩
     ·simp only[hw,if_true];intro w N;have S:qfS (q1I P o.op)=true:=by
       rw[V] at d;unfold qm3 at d
       split at d
       ·split at d <;>cases d
       ·split at d
        ·cases d
        ·split at d
         ·assumption
         ·cases d
      refine(q5K.goes B.get N (q25 rfl N (ql3 S x))).mono fun u w' ⟨own',F,E,e,he⟩=>?_
      subst he;exact⟨e,F,q1s s z G g _ _ _ _ (inv.set hi) (B.put (q i o y) u) E⟩
     ·simp only[hw,zV,if_false];exact q1s s z G g _ _ _ own (inv.set hi) (B.put (q i o y) undef) x
    |m=>
     rw[d] at x;simp only at x;rw[qnb] at x
     rcases q4v B (okAt i o y) x with ⟨hw,x⟩|⟨hw,x⟩
     ·simp only[hw,if_true];intro w N;exact(q5K.goes B.get N (q25 rfl N x)).mono fun u w' ⟨own',F,E⟩=>⟨own',F,q1s s z G g _ _ _ _ (inv.set hi) (B.put (q i o y) u) E⟩
     ·simp only[hw,zV,if_false];exact q1s s z G g _ _ _ own (inv.set hi) (B.put (q i o y) undef) x
open Go
inductive IC
 |skip
 |region (ops:List q4r)
 |draw (t:DT)
 |par (ops:List (q4r×jh))
 |seq (a b:IC)
 |cut (a b:IC)
 |cond (c:Operand) (a b:IC)
 |block (id:Nat) (b:IC)
 |loop (mask:Nat) (b:IC)
 |exit (id:Nat)
 |ret
 |bad
def qo7(m d:Nat):Nat:=m|||2 ^ d
def qfa(m d:Nat):Bool:=Nat.beq (Nat.land (Nat.shiftRight m d) 1) 1
def qhy:List q4r->Nat->Nat
 | [],m=>m
 |o::r,m=>qhy r (match o.dst with|some d=>qo7 m d|none=>m)
def qnd:DT->Nat->Nat
 | .f o r,m| .m o r,m=>qnd r (match o.dst with|some d=>qo7 m d|none=>m)
 | .both a b,m=>qnd b (qnd a m)
 |_,m=>m
def qow:List (q4r×jh)->Nat->Nat
 | [],m=>m
 |o::r,m=>qow r (match o.1.dst with|some d=>qo7 m d|none=>m)
def asg:IC->Nat->Nat
 | .region ops,m=>qhy ops m
 | .draw t,m=>qnd t m
 | .par l,m=>qow l m
 | .seq a b,m| .cut a b,m| .cond _ a b,m=>asg b (asg a m)
 | .block _ b,m=>asg b m
 | .loop k _,m=>m|||k
 |_,m=>m
def qnK:IOp->Bool
 | .mup .. | .mlk .. =>true
 |_=>false
def qoM(P:Program)(ops:Array Oper):Bool:=decide (6<=(ops.toList.filter fun o=>qnK (q1I P o.op)).length)
def q7u(o:Oper):jh:=(o.after.toList.filter fun e=>Region.binds .any e).map (·.on)
def q4W:List Oper->Nat->Bool
 | [],_=>true
 |o::r,k=>(q7u o).all (fun j=>decide (j<k))&&o.guard.isNone&&q4W r (k+1)
def qkS(P:Program)(ops:Array Oper):List (q4r×jh):=ops.toList.map fun o=>(q0F P ops o,q7u o)
def q5T(P:Program)(g:jh)(n:Nat):Code->IC
 | .skip=> .skip
 | .region _ ops d=>if ops.toList.all (q0K ops n) then
   (if d then(if Region.noSelect ops then(if qoM P ops then(if q4W ops.toList 0 then .par (qkS P ops) else .bad) else .draw (qkR P ops g ops.size (Array.replicate ops.size false))) else .bad) else .region (ops.toList.map (q0F P ops))) else .bad
 | .seq a b=> .seq (q5T P g n a) (q5T P g n b)
 | .cond c a b=> .cond c (q5T P g n a) (q5T P g n b)
 | .block id b=> .block id (q5T P g n b)
 | .loop b=>let h:=q5T P g n b; .loop (asg h 0) h
 | .exit id=> .exit id
 | .ret=> .ret
 |_=> .bad
def q19:IC->IC
 | .seq a b| .cut a b=> .seq (q19 a) (q19 b)
 | .cond c a b=> .cond c (q19 a) (q19 b)
 | .block id b=> .block id (q19 b)
 | .loop m b=> .loop m (q19 b)
 |c=>c
abbrev q4u:=Exit->Fr->Own->Prop
def q5X(next:Fr->Own->Prop)(Q:q4u):q4u:=fun e f own=>match e with
 | .normal=>next f own
 |e=>Q e f own
def q63(id:Nat)(Q:q4u):q4u:=fun e f own=>match e with
 | .exit d=>(match Nat.beq d id with|true=>Q .normal f own|false=>Q (.exit d) f own)
 |e=>Q e f own
structure qfh(P:Program)(W0:World)(code:IC)(mask:Nat)(body:q4u->Fr->Own->Prop)(Q:q4u)(f:Fr)(own:Own):Prop where
 h:∃I:Nat->Fr->Own->Prop,(∃n o2,Ent W0 own o2/\I n f o2)/\∀n f own,I n f own->body (q5X (fun f' own'=>∃m o2,m<n/\Ent W0 own' o2/\I m f' o2) Q) f own
structure qnp(P:Program)(W0:World)(ca cb:IC)(a b:q4u->Fr->Own->Prop)(Q:q4u)(f:Fr)(own:Own):Prop where
 h:a (q5X (fun f' own'=>∃o2,Ent W0 own' o2/\b Q f' o2) Q) f own
structure qor(P:Program)(W0:World)(ops:List (q4r×jh))(K:Fr->Own->Prop)(f:Fr)(own:Own):Prop where
 h:∃J:(Nat->Bool)->Fr->Own->Prop,J (fun _=>false) f own/\(∀l f own,J l f own->(∀i,i<ops.length->l i=true)->K f own)/\
  ∀(i:Nat) (d:Option Nat) (op:IOp) (gd:Option (Nat×Bool)) (ds:jh) (l:Nat->Bool) (f:Fr) (own:Own),ops[i]? =some (⟨d,op,gd⟩,ds)->l i=false->(∀j∈ds,l j=true)->J l f own->XO P W0 f own op fun v own'=>J (fun k=>bif Nat.beq k i then true else l k) (updO f d v) own'
noncomputable def XS(P:Program)(W0:World)(c:IC):q4u->Fr->Own->Prop:=
 IC.rec (motive:=fun _=>q4u->Fr->Own->Prop)
  (fun Q f own=>Q .normal f own)
  (fun ops Q f own=>XR P W0 ops (Q .normal) f own)
  (fun t Q f own=>XD P W0 t (Q .normal) f own)
  (fun ops Q f own=>qor P W0 ops (Q .normal) f own)
  (fun _ _ a b Q f own=>a (q5X (b Q) Q) f own)
  (fun ca cb a b Q f own=>qnp P W0 ca cb a b Q f own)
  (fun c _ _ a b Q f own=>match ev f c with
   | .bool t=>Br t (a Q f own) (b Q f own)
   |_=>False)
  (fun id _ b Q f own=>b (q63 id Q) f own)
  (fun mask cb b Q f own=>qfh P W0 cb mask b Q f own)
  (fun id Q f own=>Q (.exit id) f own)
  (fun Q f own=>Q .ret f own)
  (fun _ _ _=>False) c
theorem q8z{P:Program}{W0:World}{c:Operand}{a b:IC}{Q:q4u}{f:Fr}{own:Own}:XS P W0 (.cond c a b) Q f own=match ev f c with
  | .bool t=>Br t (XS P W0 a Q f own) (XS P W0 b Q f own)
  |_=>False:=rfl
section mono
variable{P:Program}{W0:World}
theorem q6z{K K':Fr->Own->Prop}(j:∀f own,K f own->K' f own):∀(l:List q4r) (f:Fr) (own:Own),XR P W0 l K f own->XR P W0 l K' f own
 | [],f,own,h=>j f own h
 |⟨d,op,none⟩::l,f,own,h=>q36 (fun _ _ h=>q6z j l _ _ h) h
 |⟨d,op,some (g,b)⟩::l,f,own,h=>by
   simp only[q8y] at h ⊢;have n:=q6z j l
   split at h
   ·exact⟨fun e=>q36 (fun v own' h=>n _ _ h) (h.y e),fun e=>n _ _ (h.n e)⟩
   ·exact n _ _ h
theorem qcc{f:Fr}{own:Own}{op:IOp}{K K':Value->Prop}(d:∀v,K v->K' v)(h:XQ P W0 f own op K):XQ P W0 f own op K':=by
 unfold XQ at h ⊢
 split at h
 ·obtain⟨v,g,h⟩:=h.h;exact⟨v,g,d v h⟩
 ·split at h
  ·exact q36 (fun v _ h=>d v h) h
  ·exact h.elim
theorem qcb{o:Option (Nat×Bool)}{f:Fr}{Y n N j:Fr->Prop}(s:∀f,Y f->n f)(q:∀f,N f->j f)(h:XG o f Y N):XG o f n j:=by
 unfold XG at h ⊢
 split
 ·exact s _ h
 ·simp only at h
  split
  ·rename_i d;rw[d] at h;exact⟨fun e=>s _ (h.y e),fun e=>q _ (h.n e)⟩
  ·rename_i d;split at h
   ·rename_i g;exact absurd g (d _)
   ·exact q _ h
theorem q24{K K':Fr->Own->Prop}(d:∀f own,K f own->K' f own):∀(t:DT) (f:Fr) (own:Own),XD P W0 t K f own->XD P W0 t K' f own
 | .done,f,own,h=>d f own h
 | .f o r,f,own,h=>by
  rw[qna] at h ⊢;exact qcb (fun f h=>qcc (fun _ h=>q24 d r _ _ h) h) (fun f h=>q24 d r _ _ h) h
 | .m o r,f,own,h=>by
  rw[qnb] at h ⊢;exact qcb (fun f h=>q36 (fun _ _ h=>q24 d r _ _ h) h) (fun f h=>q24 d r _ _ h) h
 | .both a b,f,own,h=>⟨q24 d a f own (q1k.l (A:=XD P W0 a K f own) (B:=XD P W0 b K f own) h),q24 d b f own (q1k.r (A:=XD P W0 a K f own) (B:=XD P W0 b K f own) h)⟩
 | .tt,_,_,h=>h
 | .bad,_,_,h=>h.elim
theorem q4c{n n':Fr->Own->Prop}{Q d:q4u}(g:∀f own,n f own->n' f own)(j:∀e f own,Q e f own->d e f own):∀e f own,q5X n Q e f own->q5X n' d e f own:=by
 intro e f own h;cases e <;>first|exact g _ _ h|exact j _ _ _ h
theorem q8B{id:Nat}{Q d:q4u}(g:∀e f own,Q e f own->d e f own):∀e f own,q63 id Q e f own->q63 id d e f own:=by
 intro e f own h;cases e <;>simp only[q63] at h ⊢
 case exit=>split <;>rename_i j <;>rw[j] at h <;>exact g _ _ _ h
 all_goals exact g _ _ _ h
theorem q0q:∀(c:IC) (Q g:q4u),(∀e f own,Q e f own->g e f own)->∀(f:Fr) (own:Own),XS P W0 c Q f own->XS P W0 c g f own
 | .skip,Q,g,d,f,own,h=>d _ _ _ h
 | .region ops,Q,g,d,f,own,h=>q6z (d .normal) ops f own h
 | .draw ops,Q,g,d,f,own,h=>q24 (d .normal) ops f own h
 | .par _,Q,g,d,f,own,h=>by
  obtain⟨J,j,o,s⟩:=h.h;exact⟨J,j,fun l f own u w=>d _ _ _ (o l f own u w),s⟩
 | .seq a b,Q,g,d,f,own,h=>q0q a _ _ (q4c (fun f own h=>q0q b Q g d f own h) d) f own h
 | .cut a b,Q,g,d,f,own,h=>⟨q0q a _ _ (q4c (fun f own ⟨q,he,h⟩=>⟨q,he,q0q b Q g d f q h⟩) d) f own h.h⟩
 | .cond c a b,Q,g,d,f,own,h=>by
  simp only[q8z] at h ⊢
  split at h
  ·exact⟨fun e=>q0q a Q g d f own (h.y e),fun e=>q0q b Q g d f own (h.n e)⟩
  ·exact h.elim
 | .block id b,Q,g,d,f,own,h=>q0q b _ _ (q8B d) f own h
 | .loop mask b,Q,g,d,f,own,h=>by
  obtain⟨I,j,o⟩:=h.h;exact⟨I,j,fun n f own t=>q0q b _ _ (q4c (fun _ _ h=>h) d) f own (o n f own t)⟩
 | .exit id,Q,g,d,f,own,h=>d _ _ _ h
 | .ret,Q,g,d,f,own,h=>d _ _ _ h
 | .bad,_,_,_,_,_,h=>h.elim
end mono
theorem qag{p:Nat->Prop}:∀n,p n->∃m,p m/\∀k,p k->m<=k:=by
 intro n
 induction n using Nat.strongRecOn with
 |_ n q=>
  intro j
  by_cases h:∃k,k<n/\p k
  ·obtain⟨k,d,o⟩:=h;exact q k d o
  ·exact⟨n,j,fun k d=>Nat.le_of_not_lt fun g=>h ⟨k,g,d⟩⟩
theorem q9C{P:Program}{r:Option Nat}{m:Nat}{c:Code}{Q:Exit->Act->World->Prop}{a:Act}{w:World}(I:Nat->Act->World->Prop)(t:∃n,I n a w)
  (round:∀n a w,I n a w->c.wpIn (WF r) m P (Exit.then (fun d o=>∃m,m<n/\I m d o) Q) a w):(Code.loop c).wpIn (WF r) m P Q a w:=by
 have hex:∀a w,∃j:Nat,(∃n,I n a w)->I j a w/\∀k,I k a w->j<=k:=fun a w=>by
  by_cases h:∃n,I n a w
  ·obtain⟨n,u⟩:=h;obtain⟨j,hm⟩:=qag (p:=fun n=>I n a w) n u;exact⟨j,fun _=>hm⟩
  ·exact⟨0,fun g=>(h g).elim⟩
 refine wpIn_loop (fun a w=>∃n,I n a w) (fun a w=>Classical.choose (hex a w)) t ?_;intro a w h;refine wpIn_mono (round _ a w (Classical.choose_spec (hex a w) h).1) ?_;intro e d o q;cases e with
 |normal=>
  obtain⟨m,hm,s⟩:=q;have g:∃n,I n d o:=⟨m,s⟩
  exact⟨g,Nat.lt_of_le_of_lt ((Classical.choose_spec (hex d o) g).2 m s) hm⟩
 |_=>exact q
theorem q3a:∀(l:List Oper) (k:Nat),q4W l k=true->∀i o,l[i]? =some o->o.guard=none/\∀j∈q7u o,j<k+i
 | [],_,_,i,o,h=>by simp at h
 |x::r,k,hd,0,o,h=>by
  simp only[Zr,Option.some.injEq] at h;subst h;unfold q4W at hd;simp only[zH,Z7,decide_eq_true_eq] at hd;exact⟨ZD.1 hd.1.2,fun j d=>hd.1.1 j d⟩
 |x::r,k,hd,i+1,o,h=>by
  unfold q4W at hd;simp only[zH] at hd;have:=q3a r (k+1) hd.2 i o (by simpa using h);exact⟨this.1,fun j d=>by have:=this.2 j d;omega⟩
theorem qak{o:Oper}{j:Nat}:j∈q7u o↔ ∃e∈o.after,Region.binds .any e=true/\e.on=j:=by
 unfold q7u;simp only[zO,ZO,Array.mem_toList_iff];constructor
 ·rintro⟨e,⟨d,g⟩,h⟩;exact⟨e,d,g,h⟩
 ·rintro⟨e,d,g,h⟩;exact⟨e,⟨d,g⟩,h⟩
theorem qdF{ops:Array Oper}(hd:q4W ops.toList 0=true){listed:Array Bool}(hs:listed.size=ops.size)(h:Region.ready .any ops listed= []):∀i,i<ops.size->listed.getD i false=true:=by
 intro i
 induction i using Nat.strongRecOn with
 |_ i n=>
  intro hi
  by_cases j:listed.getD i false=true
  ·exact j
  ·exfalso;have d:ops[i]? =some ops[i]:=ZE hi;have hm:i∈Region.ready .any ops listed:=mem_ready.2 ⟨by
    have g:i<listed.size:=Yb;simp only[zZ,ZE g,Z6] at j ⊢
    simpa using j,_,d,fun e he hb=>by
    have:=(q3a _ 0 hd i ops[i] (by rw[Z5];exact d)).2 e.on (qak.2 ⟨e,he,hb,rfl⟩);exact n e.on Yb Yb⟩
   rw[h] at hm;cases hm
theorem qdu{ds:List Deferred}{P:Program}{W0:World}{ops:Array Oper}{n:Nat}{Q:Act->Own->Prop}{K:Fr->Own->Prop}(hd:q4W ops.toList 0=true)(I:ops.toList.all (q0K ops n)=true)
  (hQ:∀f own a,Rel n ds a f->K f own->Q a own) {J:(Nat->Bool)->Fr->Own->Prop} (h1:∀l f own,J l f own->(∀i,i<(qkS P ops).length->l i=true)->K f own)
  (h2:∀(i:Nat) (d:Option Nat) (op:IOp) (Z:Option (Nat×Bool)) (ds:jh) (l:Nat->Bool) (f:Fr) (own:Own),(qkS P ops)[i]? =some (⟨d,op,Z⟩,ds)->l i=false->(∀j∈ds,l j=true)->J l f own->XO P W0 f own op fun v own'=>J (fun k=>bif Nat.beq k i then true else l k) (updO f d v) own'):
  ∀(g:Nat) (listed:Array Bool) (f:Fr) (a:Act) (own:Own),listed.size=ops.size->(listed.toList.filter (!·)).length=g->Rel n ds a f->J (fun k=>listed.getD k false) f own->wpG P .any ops W0 (fun _=> .m) Q g listed a own:=by
 have hlen:(qkS P ops).length=ops.size:=by unfold qkS;simp
 have done:∀(listed:Array Bool) (f:Fr) (a:Act) (own:Own),listed.size=ops.size->Region.ready .any ops listed= []->Rel n ds a f->J (fun k=>listed.getD k false) f own->Q a own:=fun listed f a own F x L B=>
  hQ f own a L (h1 _ f own B fun i hi=>qdF hd F x i Yb)
 intro g
 induction g with
 |zero=>
  intro listed f a own F E x B;have M:Region.ready .any ops listed= []:=by
   cases U:Region.ready .any ops listed with
   |nil=>rfl
   |cons i r=>
    exfalso;have hi:=(mem_ready.1 (show i∈Region.ready .any ops listed by rw[U];exact zp)).1;have q:i<listed.size:=by
     rcases yP i listed.size with h|h
     ·exact h
     ·simp[Array.getD_eq_getD_getElem?,Array.getElem?_eq_none h] at hi
    rw[zL] at E;have:listed[i]∈listed.toList.filter (!·):=ZO.2 ⟨by rw[Array.mem_toList_iff];exact Array.getElem_mem q,by
     simp only[zZ,ZE q,Z6] at hi;simp[hi]⟩
    rw[E] at this;cases this
  exact⟨M,done listed f a own F M x B⟩
 |succ g ih=>
  intro listed f a own F E x B;refine⟨fun M=>done listed f a own F M x B,fun i hi=>?_⟩;obtain⟨z,o,H,G⟩:=mem_ready.1 hi;have q:i<listed.size:=by
   rcases yP i listed.size with h|h
   ·exact h
   ·simp[Array.getD_eq_getD_getElem?,Array.getElem?_eq_none h] at z
  have R:listed[i]=false:=by simpa only[zZ,ZE q,Z6] using z
  have O:=(q3a _ 0 hd i o (by rw[Z5];exact H)).1;have okAt:q0K ops n o=true:=by
   rw[Z7] at I;exact I o (by rw[<-Z5] at H;exact zh H)
  have y:∀t,o.dst=some t->t<n:=fun t ht=>by
   have:=okAt;unfold q0K at this;simp only[ht,zH,decide_eq_true_eq] at this;exact this.1
  have hw:=q4e x okAt P;have s:(q0F P ops o).guard=none:=by unfold q0F;simp[O]
  rw[s] at hw;have hx:=h2 i o.dst (q1I P o.op) none (q7u o) (fun k=>listed.getD k false) f own (by
   unfold qkS;rw[zI,Z5,H];show some (q0F P ops o,q7u o)=_;rw[show q0F P ops o=⟨o.dst,q1I P o.op,none⟩ by rw[<-s];rfl]) (q2F z) (fun j hj=>by
   obtain⟨e,he,hb,rfl⟩:=qak.1 hj;exact G e he hb) B
  unfold q4t;simp only[H,hw,if_true];intro w W;refine(q5K.goes x.get W (q25 rfl W hx)).mono fun u w' ⟨own',V,N⟩=>⟨own',V,ih _ _ _ _ (by simpa using F) ?_ (x.put y u) ?_⟩
  ·have X:listed.toList=listed.toList.take i++false::listed.toList.drop (i+1):=by
    conv=>lhs;rw[<-yU i listed.toList,Zd (by simpa using q)]
    simp[R]
   have Y:(listed.setIfInBounds i true).toList=listed.toList.take i++true::listed.toList.drop (i+1):=by
    rw[Array.toList_setIfInBounds,Zk,if_pos (by simpa using q)]
   rw[X] at E;rw[Y];simp only[yq,z8,List.filter_cons] at E ⊢;simp at E ⊢;omega
  ·have e:(fun k=>(listed.setIfInBounds i true).getD k false)=fun k=>bif Nat.beq k i then true else listed.getD k false:=by
    funext k
    simp only[zZ,Array.getElem?_setIfInBounds];cases S:Nat.beq k i with
    |true=>
     rw[Ya] at S;subst S;simp[q]
    |false=>
     have T:¬i=k:=fun e=>by subst e;simp at S
     simp[T]
   rw[e];exact N
theorem q1t{ds:List Deferred}{P:Program}{W0:World}{R:jh}{n:Nat}{r:Option Nat}{m:Nat}(hm:P.follows .mixedOrders=true):∀(ic:IC) (c:Code),q5T P R n c=q19 ic->∀(Q:q4u) (s:Exit->Act->World->Prop),
  (∀e f own a w,Rel n ds a f->St W0 own w->Q e f own->s e a w)->∀(f:Fr) (own:Own) (a:Act) (w:World),Rel n ds a f->St W0 own w->XS P W0 ic Q f own->c.wpIn (WF r) m P s a w
 |ic, .skip,g,Q,s,q,f,own,a,w,o,j,h=>by
  cases ic <;>simp only[q5T,q19] at g <;>(try exact IC.noConfusion g)
  exact wpIn_skip (q _ _ _ _ _ o j h)
 |ic, .region id ops d,g,Q,s,q,f,own,a,w,o,j,h=>by
  unfold q5T at g
  split at g
  ·rename_i E;cases d with
   |true=>
    simp only[if_true] at g
    split at g
    ·rename_i M
     split at g
     ·split at g
      ·rename_i N;cases ic <;>simp only[q19] at g <;>(try exact IC.noConfusion g)
       injection g with g
       subst g;obtain⟨J,z,u,B⟩:=h.h;exact wpIn_region_any hm (q1a (Q:=fun a own=>∀w,St W0 own w->s .normal a w) (fun a own w j h=>h w j) _ _ a own _ (j.drawn _)
        (qdu (Q:=fun a own=>∀w,St W0 own w->s .normal a w) N E (fun f own a o h w j=>q _ f own a w o j h) u B _ _ f a own Yd Yd o (by
         have e:(fun k=>(Array.replicate ops.size false).getD k false)=fun _=>false:=by
          funext k
          simp only[zZ,Array.getElem?_replicate]
          split <;>rfl
         rw[e];exact z)))
      ·cases ic <;>simp only[q19] at g <;>(try exact IC.noConfusion g)
       exact h.elim
     cases ic <;>simp only[q19] at g <;>(try exact IC.noConfusion g)
     injection g with g
     subst g;exact wpIn_region_any hm (q1a (Q:=fun a own=>∀w,St W0 own w->s .normal a w) (fun a own w j h=>h w j) _ _ a own _ (j.drawn _)
      (q1s (Q:=fun a own=>∀w,St W0 own w->s .normal a w) M E (fun f own a o h w j=>q _ f own a w o j h) _ _ f a own q3k.start o h))
    ·cases ic <;>simp only[q19] at g <;>(try exact IC.noConfusion g)
     exact h.elim
   |false=>
    simp only[zV,if_false] at g;cases ic <;>simp only[q19] at g <;>(try exact IC.noConfusion g)
    injection g with g
    subst g;exact wpIn_region_list (q9I (fun f own a w o j h=>q _ f own a w o j h) ops.toList f own a w E o j h)
  ·cases ic <;>simp only[q19] at g <;>(try exact IC.noConfusion g)
   exact h.elim
 |ic, .seq x y,g,Q,s,q,f,own,a,w,o,j,h=>by
  cases ic <;>simp only[q5T,q19] at g <;>(try exact IC.noConfusion g)
  case seq ia ib=>
   injection g with u B
   refine wpIn_seq (q1t hm ia x u _ _ ?_ f own a w o j h);intro e f own a w o j h;cases e with
   |normal=>exact q1t hm ib y B Q s q f own a w o j h
   |_=>exact q _ _ _ _ _ o j h
  case cut ia ib=>
   injection g with u B
   refine wpIn_seq (q1t hm ia x u _ _ ?_ f own a w o j h.h);intro e f own a w o j h;cases e with
   |normal=>
    obtain⟨F,he,h⟩:=h;exact q1t hm ib y B Q s q f F a w o (he w j) h
   |_=>exact q _ _ _ _ _ o j h
 |ic, .cond c x y,g,Q,s,q,f,own,a,w,o,j,h=>by
  cases ic <;>simp only[q5T,q19] at g <;>(try exact IC.noConfusion g)
  case cond c' ia ib=>
  injection g with z u B
  subst z;simp only[q8z] at h
  split at h
  ·rename_i t O;refine wpIn_cond_split (t:=t) (by rw[qcK o.get];exact O) (fun e=>?_) fun e=>?_
   ·exact q1t hm ia x u Q s q f own a w o j (h.y e)
   ·exact q1t hm ib y B Q s q f own a w o j (h.n e)
  ·exact h.elim
 |ic, .block id b,g,Q,s,q,f,own,a,w,o,j,h=>by
  cases ic <;>simp only[q5T,q19] at g <;>(try exact IC.noConfusion g)
  case block L ib=>
  injection g with z u
  subst z;refine wpIn_block (q1t hm ib b u _ _ ?_ f own a w o j h);intro e f own a w o j h;cases e with
  |exit L=>
   simp only[q63,Exit.inBlock] at h ⊢
   split at h
   ·rename_i H;rw[if_pos (ZH H)];exact q _ _ _ _ _ o j h
   ·rename_i H;rw[if_neg (Nat.ne_of_beq_eq_false H)];exact q _ _ _ _ _ o j h
  |_=>exact q _ _ _ _ _ o j h
 |ic, .loop b,g,Q,s,q,f,own,a,w,o,j,h=>by
  cases ic <;>simp only[q5T,q19] at g <;>(try exact IC.noConfusion g)
  case loop m ib=>
  injection g with _ hb
  obtain⟨I,⟨S,F,he,z⟩,u⟩:=h.h;refine q9C (fun k a w=>∃f own,Rel n ds a f/\St W0 own w/\I k f own) ⟨S,f,F,o,he w j,z⟩ ?_;rintro k a w ⟨f,own,o,j,G⟩;refine q1t hm ib b hb _ _ ?_ f own a w o j (u k f own G);intro e f own a w o j h;cases e with
  |normal=>
   obtain⟨m,F,hm,he,G⟩:=h;exact⟨m,hm,f,F,o,he w j,G⟩
  |_=>exact q _ _ _ _ _ o j h
 |ic, .exit id,g,Q,s,q,f,own,a,w,o,j,h=>by
  cases ic <;>simp only[q5T,q19] at g <;>(try exact IC.noConfusion g)
  injection g with g
  subst g;exact wpIn_exit (q _ _ _ _ _ o j h)
 |ic, .ret,g,Q,s,q,f,own,a,w,o,j,h=>by
  cases ic <;>simp only[q5T,q19] at g <;>(try exact IC.noConfusion g)
  exact wpIn_ret (q _ _ _ _ _ o j h)
 |ic, .rangeFunc ..,g,_,_,_,_,_,_,_,_,_,h=>by cases ic <;>simp only[q5T,q19] at g <;>first|exact IC.noConfusion g|exact h.elim
 |ic, .scope ..,g,_,_,_,_,_,_,_,_,_,h=>by cases ic <;>simp only[q5T,q19] at g <;>first|exact IC.noConfusion g|exact h.elim
 |ic, .label ..,g,_,_,_,_,_,_,_,_,_,h=>by cases ic <;>simp only[q5T,q19] at g <;>first|exact IC.noConfusion g|exact h.elim
 |ic, .goto ..,g,_,_,_,_,_,_,_,_,_,h=>by cases ic <;>simp only[q5T,q19] at g <;>first|exact IC.noConfusion g|exact h.elim
 |ic, .refuse ..,g,_,_,_,_,_,_,_,_,_,h=>by cases ic <;>simp only[q5T,q19] at g <;>first|exact IC.noConfusion g|exact h.elim
inductive qil
 |tmp (t:Nat)
 |cell (a:Nat)
 |cellN (a n:Nat)
 |bad
def q4i(P:Program):ResultVar->qil
 | .tmp t=> .tmp t
 | .cell a t=>match q4g P t,szT P t with
  |some true,some n=> .cellN a n
  |some false,some _=> .cell a
  |_,_=> .bad
structure IFn where
 n:Nat
 body:IC
 res:List qil
def qfL(P:Program)(d:jh)(k:FuncId):Option IFn:=
 match P.funcs[k]? with
 |some fn=>match fn.body with
  |some c=>some ⟨fn.ntmps,q5T P d fn.ntmps c,fn.results.toList.map (q4i P)⟩
  |none=>none
 |none=>none
noncomputable def qba(W0:World)(f:Fr)(own:Own)(l:List qil):(je->Prop)->Prop:=
 List.rec (motive:=fun _=>(je->Prop)->Prop) (fun K=>K []) (fun r _ d K=>match r with
  | .tmp t=>Mv (f t) fun v=>d fun vs=>K (v::vs)
  | .cell a=>match f a with
   | .pointer (some a)=>Ld W0 own a fun v=>d fun vs=>K (v::vs)
   |_=>False
  | .cellN a n=>match f a with
   | .pointer (some a)=>LdN W0 own a n fun v=>d fun vs=>K (.agg v::vs)
   |_=>False
  | .bad=>False) l
theorem qcd{W0:World}{f:Fr}{own:Own}{a:Nat}{r:List qil}{K:je->Prop}:qba W0 f own (.cell a::r) K=match f a with
   | .pointer (some a)=>Ld W0 own a fun v=>qba W0 f own r fun vs=>K (v::vs)
   |_=>False:=rfl
theorem qbb{W0:World}{f:Fr}{own:Own}{a n:Nat}{r:List qil}{K:je->Prop}:qba W0 f own (.cellN a n::r) K=match f a with
   | .pointer (some a)=>LdN W0 own a n fun v=>qba W0 f own r fun vs=>K (.agg v::vs)
   |_=>False:=rfl
def qib:je->Value
 | [v]=>v
 |vs=> .tuple vs.toArray
def qnm(W0:World)(res:List qil)(K:Value->Own->Prop):q4u:=fun e f own=>match e with
 | .ret| .normal=>qba W0 f own res fun vs=>K (qib vs) own
 |_=>False
def qd8(args:je):Fr:=fun t=>args.getD t undef
def qu(P:Program)(W0:World)(k:FuncId)(args:je)(own:Own)(R:Value->Own->Prop):Prop:=
 ∀w,St W0 own w->Calls P k args.toArray w fun e d=>∃v own',e= .returned v/\St W0 own' d/\R v own'
def q5h(a:Act):ResultVar->Sem Value
 | .tmp t=>pure (a.tmps.getD t undef)
 | .cell x t=>do loadVar t (<-asAddr (a.tmps.getD x undef))
theorem q5Z{P:Program}{W0:World}{f:Fr}{own:Own}{a:Act}{w:World}(g:∀t,a.tmps.getD t undef=f t)(o:St W0 own w):
  ∀(l:List ResultVar) (K:je->Prop),qba W0 f own (l.map (q4i P)) K->∃vs,(l.mapM (q5h a)).run P w= .ok vs w/\K vs
 | [],K,h=>⟨[],Yd,h⟩
 |r::l,K,h=>by
  have d:∀(u:Value) (K':je->Prop),(q5h a r).run P w= .ok u w->qba W0 f own (l.map (q4i P)) (fun vs=>K' (u::vs))->∃vs,((r::l).mapM (q5h a)).run P w= .ok vs w/\K' vs:=by
   intro u K' hu h;obtain⟨vs,E,B⟩:=q5Z g o l _ h;exact⟨u::vs,by simp[List.mapM_cons,hu,E],B⟩
  cases r with
  |tmp t=>exact d (f t) K (by simp only[q5h,g,Sem.run_pure]) (Mv.h (K:=fun v=>qba W0 f own (l.map (q4i P)) fun vs=>K (v::vs)) h)
  |cell x t=>
   simp only[zG,q4i] at h
   split at h
   ·rename_i n j z;simp only[qbb] at h
    split at h
    ·rename_i ad y;obtain⟨us,hlen,q,h⟩:=h.h;exact d _ K (by simp only[q5h,g,y,asAddr];simp[loadVar,q0I j,q0P z,q3B (vs:=us.toList) hlen (q w o)]) h
    ·exact h.elim
   ·rename_i n j z;simp only[qcd] at h
    split at h
    ·rename_i ad y;obtain⟨u,q,h⟩:=h.h;have s:=q w o;exact d u K (by simp only[q5h,g,y,asAddr];simp[loadVar,q0I j,s]) h
    ·exact h.elim
   ·exact h.elim
theorem q6Z{P:Program}{W0:World}{f:Fr}{own:Own}{a:Act}{w:World}{fn:Func}{K:Value->Prop}(d:∀t,a.tmps.getD t undef=f t)(n:St W0 own w)
  (h:qba W0 f own (fn.results.toList.map (q4i P)) fun vs=>K (qib vs)):∃v,(results fn a.tmps).run P w= .ok v w/\K v:=by
 obtain⟨vs,j,g⟩:=q5Z d n _ _ h;refine⟨qib vs,?_,g⟩;have he:results fn a.tmps=(do
   let vs <-fn.results.mapM (q5h a)
   pure (if h:vs.size=1 then vs[0] else .tuple vs)):=rfl
 rw[he,<-yy (xs:=fn.results),List.mapM_toArray];simp only[Sem.run_bind,Sem.run_map,j,Result.andThen_ok,Sem.run_pure]
 congr 1
 match vs with
 | []=>rfl
 | [v]=>rfl
 |_::_::_=>rfl
theorem qeL{P:Program}{W0:World}{E:jh}{k:FuncId}{fn:IFn}{args:je}{own:Own}{R:Value->Own->Prop}(hm:P.follows .mixedOrders=true)
  (d:qfL P E k=some {fn with body:=q19 fn.body}) (hlen:args.length<=fn.n) (h:XS P W0 fn.body (qnm W0 fn.res R) (qd8 args) own):qu P W0 k args own R:=by
 intro w hw;unfold qfL at d
 split at d
 ·rename_i f y
  split at d
  ·rename_i c x;simp only[Option.some.injEq,IFn.mk.injEq] at d;obtain⟨q,s,u⟩:=d;refine calls_of_wp y x ?_;refine(wpIn_wide (n:=0)).1 ?_;rw[<-u] at h;refine q1t (ds:= []) (r:=none) (m:=0) hm fn.body c s (qnm W0 (f.results.toList.map (q4i P)) R) _ ?_ (qd8 args) own _ w ?_ hw h
   ·intro e f' own' a' w' j o g;cases e <;>first|exact g.elim|skip
    all_goals
     obtain⟨v,B,z⟩:=q6Z (fn:=f) (K:=fun v=>R v own') j.get o g;exact⟨j.defers,v,B,v,own',rfl,o,z⟩
   ·rw[<-q] at hlen;refine⟨by simp;omega,fun t=>?_,rfl⟩;simp only[qd8,zZ,zg,Array.getElem?_append,List.getElem?_toArray,List.size_toArray,Array.getElem?_replicate]
    split
    ·rfl
    ·rename_i hge;rw[zR Yb]
     split <;>rfl
  ·cases d
 ·cases d
open Go
def q09(m:Nat)(f d:Fr):Prop:=∀t,qfa m t=false->d t=f t
theorem q09.refl{m:Nat}{f:Fr}:q09 m f f:=fun _ _=>rfl
theorem q09.trans{m:Nat}{f g h:Fr}(a:q09 m f g)(b:q09 m g h):q09 m f h:=fun t d=>(b t d).trans (a t d)
theorem q09.upd{m:Nat}{f:Fr}{d:Nat}{v:Value}(hd:qfa m d=true):q09 m f (upd f d v):=by
 intro t g;unfold Go.Proofs.YtfnghamklcdgnaaGreatDoor.upd;cases e:Nat.beq t d
 ·rfl
 ·rw[Ya] at e;subst e;rw[hd] at g;cases g
theorem q09.updO{m:Nat}{f:Fr}{d:Option Nat}{v:Value}(hd:∀t,d=some t->qfa m t=true):q09 m f (updO f d v):=by
 cases d with
 |none=>exact q09.refl
 |some d=>exact q09.upd (hd d rfl)
def q2B(m:Nat):List q4r->Bool
 | []=>true
 |o::r=>(match o.dst with|some d=>qfa m d|none=>true)&&q2B m r
def q4h(m:Nat):DT->Bool
 | .f o r| .m o r=>(match o.dst with|some d=>qfa m d|none=>true)&&q4h m r
 | .both a b=>q4h m a&&q4h m b
 |_=>true
def q5N(m:Nat):IC->Bool
 | .region ops=>q2B m ops
 | .draw t=>q4h m t
 | .par _=>false
 | .seq a b| .cut a b| .cond _ a b=>q5N m a&&q5N m b
 | .block _ b| .loop _ b=>q5N m b
 |_=>true
section frame
variable{P:Program}{W0:World}{m:Nat}
theorem q7o{o:q4r}{r:List q4r}(h:q2B m (o::r)=true):(∀t,o.dst=some t->qfa m t=true)/\q2B m r=true:=by
 simp only[q2B,zH] at h;refine⟨fun t d=>?_,h.2⟩;rw[d] at h;exact h.1
theorem q9H{K:Fr->Own->Prop}:∀(l:List q4r) (f:Fr) (own:Own),q2B m l=true->XR P W0 l K f own->XR P W0 l (fun n own'=>K n own'/\q09 m f n) f own
 | [],f,own,_,h=>⟨h,q09.refl⟩
 |⟨d,op,w⟩::l,f,own,hm,h=>by
  obtain⟨hd,z⟩:=q7o hm;simp only at hd;have q:∀f1 j,q09 m f f1->XR P W0 l K f1 j->XR P W0 l (fun n own'=>K n own'/\q09 m f n) f1 j:=fun f1 j y x=>
   q6z (fun n own' u=>⟨u.1,y.trans u.2⟩) l f1 j (q9H l f1 j z x)
  cases w with
  |none=>exact q36 (fun v own' h=>q _ _ (q09.updO hd) h) h
  |some gb=>
   obtain⟨g,b⟩:=gb;simp only[q8y] at h ⊢
   split at h
   ·rename_i c t;refine⟨fun e=>?_,fun e=>?_⟩
    ·have s:upd f g (.bool b)=f:=q1S (by rw[t,e]);have o:=h.y e;rw[s] at o ⊢;exact q36 (fun v own' h=>q _ _ (q09.updO hd) h) o
    ·have s:upd f g (.bool (!b))=f:=q1S (by rw[t,e]);have o:=h.n e;rw[s] at o ⊢;exact q _ _ (q09.updO hd) o
   ·exact q _ _ (q09.updO hd) h
theorem q9F{t:Option (Nat×Bool)}{f:Fr}{Y s N q:Fr->Prop}(w:∀f1,q09 m f f1->Y f1->s f1)(u:∀f1,q09 m f f1->N f1->q f1)(h:XG t f Y N):XG t f s q:=by
 unfold XG at h ⊢
 split
 ·exact w _ q09.refl h
 ·rename_i g b;simp only at h
  split
  ·rename_i c j;rw[j] at h;refine⟨fun e=>?_,fun e=>?_⟩
   ·have o:upd f g (.bool b)=f:=q1S (by rw[j,e]);have d:=h.y e;rw[o] at d ⊢;exact w _ q09.refl d
   ·have o:upd f g (.bool (!b))=f:=q1S (by rw[j,e]);have d:=h.n e;rw[o] at d ⊢;exact u _ q09.refl d
  ·rename_i j;split at h
   ·rename_i n;exact absurd n (j _)
   ·exact u _ q09.refl h
theorem q3l{K:Fr->Own->Prop}:∀(t:DT) (f:Fr) (own:Own),q4h m t=true->XD P W0 t K f own->XD P W0 t (fun j own'=>K j own'/\q09 m f j) f own
 | .done,f,own,_,h=>⟨h,q09.refl⟩
 | .f o r,f,own,hm,h=>by
  simp only[q4h,zH] at hm;have hd:∀t,o.dst=some t->qfa m t=true:=fun t u=>by have:=hm.1;rw[u] at this;exact this
  have q:∀f1 d,q09 m f f1->XD P W0 r K f1 d->XD P W0 r (fun j own'=>K j own'/\q09 m f j) f1 d:=fun f1 d g s=>
   q24 (fun j own' n=>⟨n.1,g.trans n.2⟩) r f1 d (q3l r f1 d hm.2 s)
  rw[qna] at h ⊢;exact q9F (fun f1 g h=>qcc (fun v h=>q _ _ (g.trans (q09.updO hd)) h) h) (fun f1 g h=>q _ _ (g.trans (q09.updO hd)) h) h
 | .m o r,f,own,hm,h=>by
  simp only[q4h,zH] at hm;have hd:∀t,o.dst=some t->qfa m t=true:=fun t u=>by have:=hm.1;rw[u] at this;exact this
  have q:∀f1 d,q09 m f f1->XD P W0 r K f1 d->XD P W0 r (fun j own'=>K j own'/\q09 m f j) f1 d:=fun f1 d g s=>
   q24 (fun j own' n=>⟨n.1,g.trans n.2⟩) r f1 d (q3l r f1 d hm.2 s)
  rw[qnb] at h ⊢;exact q9F (fun f1 g h=>q36 (fun v own' h=>q _ _ (g.trans (q09.updO hd)) h) h) (fun f1 g h=>q _ _ (g.trans (q09.updO hd)) h) h
 | .both a b,f,own,hm,h=>by
  simp only[q4h,zH] at hm;exact⟨q3l a f own hm.1 (q1k.l (A:=XD P W0 a K f own) (B:=XD P W0 b K f own) h),q3l b f own hm.2 (q1k.r (A:=XD P W0 a K f own) (B:=XD P W0 b K f own) h)⟩
 | .tt,_,_,_,h=>h
 | .bad,_,_,_,h=>h.elim
theorem q1b:∀(c:IC) (Q:q4u) (f:Fr) (own:Own),q5N m c=true->XS P W0 c Q f own->XS P W0 c (fun e d own'=>Q e d own'/\q09 m f d) f own
 | .skip,Q,f,own,_,h=>⟨h,q09.refl⟩
 | .region ops,Q,f,own,hm,h=>q9H ops f own hm h
 | .draw ops,Q,f,own,hm,h=>q3l ops f own hm h
 | .par _,_,_,_,hm,_=>by cases hm
 | .seq a b,Q,f,own,hm,h=>by
  simp only[q5N,zH] at hm;refine q0q a _ _ ?_ f own (q1b a _ f own hm.1 h);intro e d own' g;cases e with
  |normal=>exact q0q b _ _ (fun e f2 o j=>⟨j.1,g.2.trans j.2⟩) d own' (q1b b Q d own' hm.2 g.1)
  |_=>exact g
 | .cut a b,Q,f,own,hm,h=>by
  simp only[q5N,zH] at hm;refine⟨q0q a _ _ ?_ f own (q1b a _ f own hm.1 h.h)⟩;intro e d own' g;cases e with
  |normal=>
   obtain⟨⟨o,he,hb⟩,t⟩:=g;exact⟨o,he,q0q b _ _ (fun e f2 o j=>⟨j.1,t.trans j.2⟩) d o (q1b b Q d o hm.2 hb)⟩
  |_=>exact g
 | .cond c a b,Q,f,own,hm,h=>by
  simp only[q5N,zH] at hm;simp only[q8z] at h ⊢
  split at h
  ·exact⟨fun e=>q1b a Q f own hm.1 (h.y e),fun e=>q1b b Q f own hm.2 (h.n e)⟩
  ·exact h.elim
 | .block id b,Q,f,own,hm,h=>by
  refine q0q b _ _ ?_ f own (q1b b _ f own hm h);intro e d own' g;cases e <;>simp only[q63] at g ⊢
  case exit=>split <;>rename_i y <;>rw[y] at g <;>exact g
  all_goals exact g
 | .loop k b,Q,f,own,hm,h=>by
  obtain⟨I,⟨z,B,u,w⟩,x⟩:=h.h;refine⟨fun n d own'=>I n d own'/\q09 m f d,⟨z,B,u,w,q09.refl⟩,fun n d own' q=>?_⟩;refine q0q b _ _ ?_ d own' (q1b b _ d own' hm (x n d own' q.1));intro e f2 o g;cases e with
  |normal=>
   obtain⟨⟨k,E,j,he,s⟩,t⟩:=g;exact⟨k,E,j,he,s,q.2.trans t⟩
  |_=>exact⟨g.1,q.2.trans g.2⟩
 | .exit _,Q,f,own,_,h=>⟨h,q09.refl⟩
 | .ret,Q,f,own,_,h=>⟨h,q09.refl⟩
 | .bad,_,_,_,_,h=>h.elim
end frame
def qni:List (Nat×Value)->Nat->Value->Value
 | [],_,d=>d
 |(s,v)::r,t,d=>bif Nat.beq t s then v else qni r t d
def qjk(m:Nat)(L:List (Nat×Value))(d f:Fr):Fr:=fun t=>bif qfa m t then qni L t (d t) else f t
noncomputable def q5b(L:List (Nat×Value))(f:Fr):Prop:=
 List.rec (motive:=fun _=>Prop) True (fun sv _ d=>f sv.1=sv.2/\d) L
theorem q6a:∀(L:List (Nat×Value)) (f:Fr) (t:Nat),q5b L f->qni L t (f t)=f t
 | [],f,t,_=>rfl
 |(s,v)::r,f,t,h=>by
  unfold qni;cases e:Nat.beq t s
  ·exact q6a r f t h.2
  ·rw[Ya] at e;subst e;exact h.1.symm
theorem qdj{m:Nat}{L:List (Nat×Value)}{f d:Fr}(g:q09 m f d)(h:q5b L d):qjk m L d f=d:=by
 funext t
 unfold qjk;cases e:qfa m t
 ·exact(g t e).symm
 ·exact q6a L d t h
section rules
variable{P:Program}{W0:World}{own:Own}{f:Fr}
theorem qQ{mask:Nat}{b:IC}{Q:q4u}{σ:Type}(L:σ->List (Nat×Value))(O:σ->Own)(I:σ->Prop)(μ:σ->Nat)(g:σ)(y:I g)(E:q5b (L g) f)(F:Ent W0 own (O g))
  (hm:q5N mask b=true)
  (step:∀s d,I s->XS P W0 b (q5X (fun j own'=>∃s',I s'/\μ s'<μ s/\q5b (L s') j/\Ent W0 own' (O s')) Q) (qjk mask (L s) d f) (O s)):
  qfh P W0 b mask (XS P W0 b) Q f own:=by
 refine⟨fun n j own'=>∃s d,I s/\μ s=n/\j=qjk mask (L s) d f/\own'=O s,⟨μ g,O g,F,g,f,y,rfl,(qdj q09.refl E).symm,rfl⟩,?_⟩;rintro n j own' ⟨s,d,z,rfl,rfl,rfl⟩;refine q0q b _ _ ?_ _ _ (q1b b _ _ _ hm (step s d z));intro e f2 o2 h;cases e with
 |normal=>
  obtain⟨⟨s',o,u,w,he⟩,B⟩:=h;have q:q09 mask f f2:=fun t x=>(B t x).trans (by simp[qjk,x])
  exact⟨μ s',O s',u,he,s',f2,o,rfl,(qdj q w).symm,rfl⟩
 |_=>exact h.1
theorem q1C{mask:Nat}{b:IC}{Q:q4u}{σ:Type}(L:σ->List (Nat×Value))(I:σ->Prop)(μ:σ->Nat)(g:σ)(j:I g)(n:q5b (L g) f)(hm:q5N mask b=true)
  (step:∀s d,I s->XS P W0 b (q5X (fun h own'=>∃s',I s'/\μ s'<μ s/\q5b (L s') h/\Ent W0 own' own) Q) (qjk mask (L s) d f) own):
  qfh P W0 b mask (XS P W0 b) Q f own:=qQ L (fun _=>own) I μ g j n Ent.refl hm step
noncomputable def qht(body:q4u->Fr->Own->Prop)(Q:q4u)(n:Nat):Fr->Own->Prop:=
 Nat.rec (motive:=fun _=>Fr->Own->Prop) (fun _ _=>False) (fun _ d f own=>body (q5X d Q) f own) n
theorem q31{mask:Nat}{b:IC}{Q:q4u}(n:Nat)(h:qht (XS P W0 b) Q n f own):qfh P W0 b mask (XS P W0 b) Q f own:=by
 refine⟨fun k d own'=>qht (XS P W0 b) Q k d own',⟨n,own,Ent.refl,h⟩,fun k d own' j=>?_⟩;cases k with
 |zero=>exact j.elim
 |succ k=>
  refine q0q b _ _ ?_ d own' j;intro e f2 o g;cases e with
  |normal=>exact⟨k,o,Zs k,Ent.refl,g⟩
  |_=>exact g
theorem q39{a b:IC}{Q:q4u}{σ:Type}(mask:Nat)(L:σ->List (Nat×Value))(O:σ->Own)(I:σ->Prop)(hm:q5N mask a=true)
  (n:XS P W0 a (q5X (fun g own'=>∃s',I s'/\q5b (L s') g/\Ent W0 own' (O s')) Q) f own)
  (o:∀s d,I s->XS P W0 b Q (qjk mask (L s) d f) (O s)):qnp P W0 a b (XS P W0 a) (XS P W0 b) Q f own:=by
 refine⟨q0q a _ _ ?_ f own (q1b a _ f own hm n)⟩;intro e g own' h;cases e with
 |normal=>
  obtain⟨⟨s,q,j,he⟩,t⟩:=h;refine⟨O s,he,?_⟩;have:=o s g q
  rwa[qdj t j] at this
 |_=>exact h.1
theorem qcF{a b:IC}{Q:q4u}(h:XS P W0 a (q5X (XS P W0 b Q) Q) f own):qnp P W0 a b (XS P W0 a) (XS P W0 b) Q f own:=by
 refine⟨q0q a _ _ ?_ f own h⟩;intro e f' own' h;cases e with
 |normal=>exact⟨own',Ent.refl,h⟩
 |_=>exact h
theorem q4L{e:Int}(h1: -9223372036854775808<=e)(h2:e<=9223372036854775807):IntKind.i64.wrap e=e:=by
 unfold IntKind.wrap;have d:((2:Int) ^ IntKind.i64.bits)=18446744073709551616:=rfl;have g:((2:Int) ^ (IntKind.i64.bits-1))=9223372036854775808:=rfl;simp only[d,g,IntKind.signed,Bool.true_and,decide_eq_true_eq]
 split <;>omega
theorem q4M{e:Int}(h1:0<=e)(h2:e<=18446744073709551615):IntKind.u64.wrap e=e:=by
 unfold IntKind.wrap;have d:((2:Int) ^ IntKind.u64.bits)=18446744073709551616:=rfl;simp only[d,IntKind.signed,yS,zV,if_false];omega
theorem ari{e:Int}{K:Int->Prop}(d: -9223372036854775808<=e/\e<=9223372036854775807)(h:K e):q4N .i64 e K:=⟨by rw[q4L d.1 d.2];exact h⟩
theorem aru{e:Int}{K:Int->Prop}(d:0<=e/\e<=18446744073709551615)(h:K e):q4N .u64 e K:=⟨by rw[q4M d.1 d.2];exact h⟩
theorem arw{k:IntKind}{e:Int}{K:Int->Prop}(h:K (k.wrap e)):q4N k e K:=⟨h⟩
theorem q5c{a b:Int}{K:Int->Prop}(h:K (min a b)):MM false a b K:=⟨h⟩
theorem qhT{a b:Int}{K:Int->Prop}(h:K (max a b)):MM true a b K:=⟨h⟩
theorem qdC{m n:Int}{K:Int->Prop}(d:0<=m/\0<n/\m<=18446744073709551615)(h:K (m/n)):Quo .u64 m n K:=by
 refine⟨Yb,?_⟩;have e:m.tdiv n=m/n:=Int.tdiv_eq_ediv_of_nonneg d.1;have h2:0<=m/n:=Int.ediv_nonneg d.1 Yb;have h3:m/n<=m:=Int.ediv_le_self _ d.1;rw[e,q4M Yb Yb];exact h
theorem q2R{m n:Int}{K:Int->Prop}(d:0<=m/\0<n)(h:K (m % n)):Rem m n K:=by
 refine⟨Yb,?_⟩;rw[Int.tmod_eq_emod_of_nonneg d.1];exact h
theorem qjK{m n:Int}{K:Int->Prop}(g:0<=n/\n<=64)(d: -9223372036854775808<=m*2 ^ n.toNat/\m*2 ^ n.toNat<=9223372036854775807)(h:K (m*2 ^ n.toNat)):Shl .i64 m n K:=by
 refine⟨g.1,?_⟩;have e:min n.toNat IntKind.i64.bits=n.toNat:=by simp only[IntKind.bits];omega
 rw[e,q4L d.1 d.2];exact h
theorem qgb{m n:Int}{K:Int->Prop}(k:Nat)(c:Int)(j:n=(k:Int))(g:(2:Int) ^ k=c)(hk:k<=64)(d: -9223372036854775808<=m*c/\m*c<=9223372036854775807)(h:K (m*c)):Shl .i64 m n K:=by
 subst j;subst g;exact qjK ⟨Yb,Yb⟩ (by simpa using d) (by simpa using h)
theorem qnn{m:Int}{K:Int->Prop}(d: -9223372036854775808<=m/\m<=9223372036854775807)(h:K m):Shl .i64 m 0 K:=qgb 0 1 rfl rfl Yb (by simpa using d) (by simpa using h)
theorem qno{m:Int}{K:Int->Prop}(d: -9223372036854775808<=m*2/\m*2<=9223372036854775807)(h:K (m*2)):Shl .i64 m 1 K:=qgb 1 2 rfl rfl Yb d h
theorem qo9{m:Int}{K:Int->Prop}(d: -9223372036854775808<=m*4/\m*4<=9223372036854775807)(h:K (m*4)):Shl .i64 m 2 K:=qgb 2 4 rfl rfl Yb d h
theorem qoa{m:Int}{K:Int->Prop}(d: -9223372036854775808<=m*8/\m*8<=9223372036854775807)(h:K (m*8)):Shl .i64 m 3 K:=qgb 3 8 rfl rfl Yb d h
theorem qod{m n:Int}{k:IntKind}{K:Int->Prop}(d:0<=n/\n<=64)(g:k.bits=64)(h:K (m/2 ^ n.toNat)):Shr k m n K:=by
 refine⟨d.1,?_⟩;have e:min n.toNat k.bits=n.toNat:=by rw[g];omega
 rw[e,Int.fdiv_eq_ediv_of_nonneg _ (Int.pow_nonneg Yb)];exact h
theorem ixj{n:Nat}{K:Nat->Prop}(j:Nat)(d:j<n)(h:K j):Idx (j:Int) n K:=⟨j,rfl,d,h⟩
theorem ixn{i:Int}{n:Nat}{K:Nat->Prop}(h1:0<=i/\i<n)(h:K i.toNat):Idx i n K:=⟨i.toNat,Yb,Yb,h⟩
theorem ix0{n:Nat}{K:Nat->Prop}(d:Nat.blt 0 n=true)(h:K 0):Idx 0 n K:=⟨0,rfl,by simpa using d,h⟩
theorem ix1{n:Nat}{K:Nat->Prop}(d:Nat.blt 1 n=true)(h:K 1):Idx 1 n K:=⟨1,rfl,by simpa using d,h⟩
theorem ix2{n:Nat}{K:Nat->Prop}(d:Nat.blt 2 n=true)(h:K 2):Idx 2 n K:=⟨2,rfl,by simpa using d,h⟩
theorem ix3{n:Nat}{K:Nat->Prop}(d:Nat.blt 3 n=true)(h:K 3):Idx 3 n K:=⟨3,rfl,by simpa using d,h⟩
theorem ix4{n:Nat}{K:Nat->Prop}(d:Nat.blt 4 n=true)(h:K 4):Idx 4 n K:=⟨4,rfl,by simpa using d,h⟩
theorem q8X{b o sz n j:Nat}{K:Addr->Prop}(d:j<n)(h:K ⟨b,o+j*sz,none⟩):IxS (some ⟨b,o,none⟩) sz (j:Int) n K:=⟨j,b,o,rfl,d,rfl,h⟩
theorem qjd{b o sz n:Nat}{i:Int}{K:Addr->Prop}(hj:0<=i/\i<n)(h:K ⟨b,o+i.toNat*sz,none⟩):IxS (some ⟨b,o,none⟩) sz i n K:=⟨i.toNat,b,o,Yb,Yb,rfl,h⟩
theorem qoz{b o sz n:Nat}{K:Addr->Prop}(d:Nat.blt 0 n=true)(h:K ⟨b,o,none⟩):IxS (some ⟨b,o,none⟩) sz 0 n K:=⟨0,b,o,rfl,by simpa using d,rfl,by simpa using h⟩
theorem qoA{b o sz n:Nat}{K:Addr->Prop}(d:Nat.blt 1 n=true)(h:K ⟨b,o+sz,none⟩):IxS (some ⟨b,o,none⟩) sz 1 n K:=⟨1,b,o,rfl,by simpa using d,rfl,by simpa using h⟩
theorem qhG{ks:jh}{xs ys:je}{K:Bool->Prop}(he:eqC ks xs ys=some true)(h:K true):EqT ks xs ys K:=⟨true,he,h⟩
theorem sel{o:Option Value}{K:Value->Prop}(v:Value)(d:o=some v)(h:K v):Sel o K:=⟨v,d,h⟩
theorem qS{b:Bool}{Ky Kn:Prop}(h:Ky):q2m b b Ky Kn:=⟨fun _=>h,fun e=>by cases b <;>cases e⟩
theorem q0b{Ky Kn:Prop}(h:Kn):q2m true false Ky Kn:=⟨fun e=>(by cases e),fun _=>h⟩
theorem q1G{Ky Kn:Prop}(h:Kn):q2m false true Ky Kn:=⟨fun e=>(by cases e),fun _=>h⟩
theorem q4f{p:Prop} [Decidable p]{Ky Kn:Prop}(g:p->Ky)(d:¬p->Kn):q2m (decide p) true Ky Kn:=⟨fun e=>g (of_decide_eq_true e),fun e=>d (of_decide_eq_false e)⟩
theorem q0X{p:Prop} [Decidable p]{Ky Kn:Prop}(g:¬p->Ky)(d:p->Kn):q2m (decide p) false Ky Kn:=⟨fun e=>g (of_decide_eq_false e),fun e=>d (of_decide_eq_true e)⟩
theorem q3O{p:Prop} [Decidable p]{Ky Kn:Prop}(g:p->Ky)(d:¬p->Kn):q2m (!decide p) false Ky Kn:=⟨fun e=>g (by simpa using e),fun e=>d (by simpa using e)⟩
theorem q26{Ky Kn:Prop}(h:Ky):Br true Ky Kn:=⟨fun _=>h,fun e=>by cases e⟩
theorem q2W{Ky Kn:Prop}(h:Kn):Br false Ky Kn:=⟨fun e=>(by cases e),fun _=>h⟩
theorem q3p{p:Prop} [Decidable p]{Ky Kn:Prop}(g:p->Ky)(d:¬p->Kn):Br (decide p) Ky Kn:=⟨fun e=>g (of_decide_eq_true e),fun e=>d (of_decide_eq_false e)⟩
theorem qcq{p:Prop} [Decidable p]{Ky Kn:Prop}(g:¬p->Ky)(d:p->Kn):Br (!decide p) Ky Kn:=⟨fun e=>g (by simpa using e),fun e=>d (by simpa using e)⟩
theorem q0D{p:Prop} [Decidable p]{Ky Kn:Prop}(g:p)(h:Ky):Br (decide p) Ky Kn:=q3p (fun _=>h) (fun d=>absurd g d)
theorem q1l{p:Prop} [Decidable p]{Ky Kn:Prop}(d:¬p)(h:Kn):Br (decide p) Ky Kn:=q3p (fun g=>absurd g d) (fun _=>h)
theorem q5H{p:Prop} [Decidable p]{b:Bool}{Ky Kn:Prop}(d:p)(h:q2m true b Ky Kn):q2m (decide p) b Ky Kn:=by rw[decide_eq_true d];exact h
theorem q3j{p:Prop} [Decidable p]{b:Bool}{Ky Kn:Prop}(d:¬p)(h:q2m false b Ky Kn):q2m (decide p) b Ky Kn:=by rw[decide_eq_false d];exact h
theorem q7g{p:Prop} [Decidable p]{b:Bool}{Ky Kn:Prop}(d:p)(h:q2m false b Ky Kn):q2m (!decide p) b Ky Kn:=by rw[decide_eq_true d];exact h
theorem q7f{p:Prop} [Decidable p]{b:Bool}{Ky Kn:Prop}(d:¬p)(h:q2m true b Ky Kn):q2m (!decide p) b Ky Kn:=by rw[decide_eq_false d];exact h
theorem q7p{p:Prop} [Decidable p]{Ky Kn:Prop}(d:p)(h:Kn):Br (!decide p) Ky Kn:=by rw[decide_eq_true d];exact q2W h
theorem q9N{p:Prop} [Decidable p]{Ky Kn:Prop}(d:¬p)(h:Ky):Br (!decide p) Ky Kn:=by rw[decide_eq_false d];exact q26 h
theorem qoH{b:Bool}{Ky Kn:Prop}(g:b=true->Ky)(d:b=false->Kn):Br b Ky Kn:=⟨g,d⟩
theorem qnz{op:BinOp}{k:IntKind}{m n:Int}{K:Int->Prop}(h:K (qfo op k m n)):qkW op k m n K:=⟨h⟩
theorem qmu{m n:Int}{k:IntKind}{K:Int->Prop}(j:Nat)(c:Int)(o:n=(j:Int))(d:(2:Int) ^ j=c)(hj:j<=64)(g:k.bits=64)(h:K (m/c)):Shr k m n K:=by
 subst o;subst d;exact qod ⟨Yb,Yb⟩ g (by simpa using h)
theorem q68{op:BinOp}{a b:Nat}{K:Bool->Prop}(r:Bool)(d:q5I op (FloatKind.f64.format.order a b)=r)(h:K r):qnq op a b K:=⟨by rw[d];exact h⟩
theorem qlN{op:BinOp}{a b:Nat}{K:Bool->Prop}(h:K (q5I op (FloatKind.f64.format.order a b))):qnq op a b K:=⟨h⟩
theorem qfE{op:BinOp}{a b:Nat}{K:Nat->Prop}(r:Nat)(j:floatBits op .f64 a b=some r)(h:K r):qnr op a b K:=by
 refine⟨fun r' d=>?_,fun g=>?_⟩
 ·rw[j] at d;cases d;exact h
 ·rw[j] at g;cases g
theorem qfD{op:BinOp}{a b:Nat}{K:Nat->Prop}(g:floatBits op .f64 a b=none)(h:∀r,qnj r->K r):qnr op a b K:=by
 refine⟨fun r' d=>?_,fun _=>h⟩;rw[g] at d;cases d
theorem qnH{k:IntKind}{b:Nat}{K:Int->Prop}(n:Int)(d:floatToIntVal .f64 b k=some n)(h:K n):F2I k b K:=⟨n,d,h⟩
theorem qg{o:Obj}{K:Nat->Own->Prop}(h:∀b,W0.heap.size<=b->K b ((b,(· =o))::own)):New W0 own o K:=⟨fun b hb _=>h b hb⟩
theorem q0E{b off:Nat}{cs:jg}{T:TypeId}{fz:Nat×Nat}{v:Value}(hm:(b,fun o=>o=Obj.cells cs T fz)∈own)(d:cs.toList[off]? =some v):Kn W0 own (fun w=>w.cell? ⟨b,off,none⟩=some v):=by
 intro w hw;obtain⟨o,g,rfl⟩:=hw.owns _ hm;simp only[World.cell?,g];rw[Z5] at d
 simpa using d
theorem qU{b off:Nat}{cs:jg}{T:TypeId}{fz:Nat×Nat}{K:Value->Prop}(v:Value)(hm:(b,fun o=>o=Obj.cells cs T fz)∈own)(d:cs.toList[off]? =some v)(h:K v):
  Ld W0 own ⟨b,off,none⟩ K:=⟨v,q0E hm d,h⟩
theorem q1A{b off n:Nat}{cs:jg}{T:TypeId}{fz:Nat×Nat}{K:jg->Prop}(vs:je)(hm:(b,fun o=>o=Obj.cells cs T fz)∈own)(q:(cs.toList.drop off).take n=vs)(g:vs.length=n)(h:K vs.toArray):
  LdN W0 own ⟨b,off,none⟩ n K:=by
 refine⟨vs.toArray,by simpa using g,fun w hw j hj=>?_,h⟩;rw[qN];have d:j<vs.length:=Yb;refine(q0E (v:=vs[j]) hm ?_ w hw).trans (by simp[d]);subst q;rw[z7];simp only[zM,ZM] at d;exact⟨Yb,by simp[List.getElem_take,List.getElem_drop]⟩
theorem qZ{b n:Nat}{cs:jg}{T:TypeId}{fz:Nat×Nat}{K:jg->Prop}(hm:(b,fun o=>o=Obj.cells cs T fz)∈own)(g:cs.toList.length=n)(h:K cs):
  LdN W0 own ⟨b,0,none⟩ n K:=by
 refine⟨cs,g,fun w hw j hj=>?_,h⟩;rw[qN,zy];have d:j<cs.toList.length:=Yb;exact(q0E (v:=cs.toList[j]) hm (z6 d) w hw).trans (z6 d).symm
theorem qm7{a:Addr}{K:Value->Prop}{v:Value}(d:Kn W0 own (fun w=>w.cell? a=some v))(h:K v):Ld W0 own a K:=⟨v,d,h⟩
inductive Lis:je->je->Prop
 |nil:Lis [] []
 |cons {a:Value} {l l':je} (h:Lis l l'):Lis (a::l) (a::l')
theorem Lis.eq{l l':je}(h:Lis l l'):l'=l:=by
 induction h with
 |nil=>rfl
 |cons _ d=>rw[d]
inductive q0M:je->Nat->Value->je->Prop
 |here {a v:Value} {l l':je} (h:Lis l l'):q0M (a::l) 0 v (v::l')
 |there {a v:Value} {n:Nat} {l l':je} (h:q0M l n v l'):q0M (a::l) (n+1) v (a::l')
theorem q0M.eq{l l':je}{n:Nat}{v:Value}(h:q0M l n v l'):n<l.length/\l'=l.set n v:=by
 induction h with
 |here h=>exact⟨Yd,by rw[h.eq];rfl⟩
 |there _ d=>exact⟨by simp only[zu];omega,by rw[d.2];rfl⟩
inductive q0a:je->Nat->je->je->Prop
 |done {l l':je} (h:Lis l l'):q0a l 0 [] l'
 |put {a v:Value} {l vs l':je} (h:q0a l 0 vs l'):q0a (a::l) 0 (v::vs) (v::l')
 |skip {a:Value} {n:Nat} {l vs l':je} (h:q0a l n vs l'):q0a (a::l) (n+1) vs (a::l')
theorem q0a.eq{l l':je}{n:Nat}{vs:je}(h:q0a l n vs l'):n+vs.length<=l.length/\l'=l.take n++vs++l.drop (n+vs.length):=by
 induction h with
 |done h=>exact⟨Yd,by simp[h.eq]⟩
 |put _ d=>exact⟨by simp only[zu];omega,by rw[d.2];simp⟩
 |skip _ d=>
  refine⟨by simp only[zu];omega,?_⟩;rw[d.2];rename_i n _ vs _ _;have e:n+1+vs.length=(n+vs.length)+1:=Yb;simp[e]
theorem q6u{b off:Nat}{cs:jg}{cs':je}{T:TypeId}{v:Value}{K:Own->Prop}{own':Own}
  (hu:Up b (fun o=>o=Obj.cells cs T (0,0)) (fun o=>o=Obj.cells cs'.toArray T (0,0)) own own') (j:q0M cs.toList off v cs') (s:q2r v=true) (h:K own'):StT W0 own ⟨b,off,none⟩ v K:=by
 obtain⟨g,rfl⟩:=j.eq;refine⟨s,own',fun w hw=>?_,h⟩;obtain⟨o,q,rfl⟩:=hw.owns _ hu.mem;have d:off<cs.size:=by simpa using g
 refine⟨by simp[World.cell?,q,d],by simp[World.frozen?,q],hw.up hu rfl rfl rfl (by simp[World.setCell]) (fun k _ n=>?_) ⟨_,?_,rfl⟩⟩
 ·rw[q0i,if_neg (fun e=>n e.symm)]
 ·rw[q0i,if_pos rfl,q];simp only[Zm,Zp,zV,if_false]
  congr 2
  rw[<-ZK];simp
theorem q9f{b:Nat}{T:TypeId}:∀(vs:je) (j:Nat) (w:World) (off:Nat) (cs:je),w.heap[b]? =some (.cells cs.toArray T (0,0))->off+j+vs.length<=cs.length->
  (q4J w ⟨b,off,none⟩ j vs).heap[b]? =some (.cells (cs.take (off+j)++vs++cs.drop (off+j+vs.length)).toArray T (0,0))/\(∀k,k≠b->(q4J w ⟨b,off,none⟩ j vs).heap[k]? =w.heap[k]?)/\
   (q4J w ⟨b,off,none⟩ j vs).heap.size=w.heap.size/\(q4J w ⟨b,off,none⟩ j vs).os=w.os/\(q4J w ⟨b,off,none⟩ j vs).tape=w.tape/\(q4J w ⟨b,off,none⟩ j vs).output=w.output
 | [],j,w,off,cs,h,n=>⟨by simpa [q4J] using h,fun _ _=>rfl,rfl,rfl,rfl,rfl⟩
 |v::vs,j,w,off,cs,h,n=>by
  simp only[zu] at n;have s:(w.setCell ⟨b,off+j,none⟩ v).heap[b]? =some (.cells (cs.set (off+j) v).toArray T (0,0)):=by
   rw[q0i,if_pos rfl,h];simp
  have d:=q9f vs (j+1) (w.setCell ⟨b,off+j,none⟩ v) off (cs.set (off+j) v) s (by simp;omega);simp only[q4J,qN];refine⟨?_,fun k g=>(d.2.1 k g).trans (by rw[q0i,if_neg (fun e=>g e.symm)]),d.2.2.1.trans (by simp[World.setCell]),d.2.2.2.1,d.2.2.2.2.1,d.2.2.2.2.2⟩;rw[d.1]
  congr 3
  have o:off+(j+1)=off+j+1:=Yb;rw[o,List.take_set,Y3 Yb,List.take_succ_eq_append_getElem Yb];have q:(List.take (off+j) cs++ [cs[off+j]]).set (off+j) v=List.take (off+j) cs++ [v]:=by
   rw[ZG _ _ (by simp;omega)];have:off+j-(List.take (off+j) cs).length=0:=by simp;omega
   rw[this];rfl
  rw[q];simp[Nat.add_assoc,Nat.add_comm 1]
theorem q2A{b off:Nat}{cs:jg}{cs':je}{T:TypeId}{vs:je}{K:Own->Prop}{own':Own}
  (hu:Up b (fun o=>o=Obj.cells cs T (0,0)) (fun o=>o=Obj.cells cs'.toArray T (0,0)) own own') (n:q0a cs.toList off vs cs') (u:vs.all q2r=true)
  (h:K own'):StN W0 own ⟨b,off,none⟩ vs K:=by
 obtain⟨d,rfl⟩:=n.eq;refine⟨by simpa using u,own',fun w hw=>?_,h⟩;obtain⟨o,t,rfl⟩:=hw.owns _ hu.mem;have hoff':off+vs.length<=cs.size:=by simpa using d
 have g:=q9f (T:=T) vs 0 w off cs.toList (by simpa using t) (by simpa using d);refine⟨fun j hj=>?_,hw.up hu g.2.2.2.1 g.2.2.2.2.1 g.2.2.2.2.2 (by rw[g.2.2.1];exact zN _) (fun k _ s=>g.2.1 k s) ⟨_,by simpa using g.1,rfl⟩⟩;rw[qN];have q:off+j<cs.size:=Yb;exact⟨by simp[World.cell?,t,q],by simp[World.frozen?,t]⟩
theorem vi{k:IntKind}{a b:Int}(h:a=b):Value.int k a= .int k b:=by rw[h]
theorem eF{p:Prop}(h:p:=by repeat'(first|exact True.intro|refine And.intro ?_ ?_|exact rfl|exact vi Yb|dsimp only;exact rfl|dsimp only;exact vi Yb)):p:=h
theorem vb{a b:Bool}(h:a=b):Value.bool a= .bool b:=by rw[h]
theorem q0s{a d:Value}(g:a=d):qib [a]=d:=g
theorem qc2{a b d g:Value}(h:a=d)(j:b=g):qib [a,b]= .tuple #[d,g]:=by rw[h,j];rfl
theorem qoN{a b c d g h:Value}(j:a=d)(n:b=g)(o:c=h):qib [a,b,c]= .tuple #[d,g,h]:=by rw[j,n,o];rfl
theorem dd{p q:Prop} [Decidable p] [Decidable q](h:p↔q):decide p=decide q:=decide_eq_decide.2 h
theorem df{q:Prop} [Decidable q](h:¬q):false=decide q:=(decide_eq_false h).symm
theorem dt{q:Prop} [Decidable q](h:q):true=decide q:=(decide_eq_true h).symm
def qD(P:Program)(W0:World)(k:FuncId)(args:je)(own:Own)(v:Value):Prop:=
 ∀w,St W0 own w->Calls P k args.toArray w fun e d=>e= .returned v/\St W0 own d
theorem qi{k:FuncId}{args:je}{v:Value}(h:qu P W0 k args own fun n own'=>n=v/\Ent W0 own' own):qD P W0 k args own v:=fun w hw=>
 (h w hw).mono fun _ o ⟨_,_,he,g,j,d⟩=>⟨by rw[he,j],d o g⟩
theorem qp{k:FuncId}{args:je}{v:Value}{K:Value->Own->Prop}(h:qD P W0 k args own v)(d:K v own):q0g P W0 own k args K:=
 ⟨fun w hw=>(h w hw).mono fun _ _ ⟨he,g⟩=>⟨v,own,he,g,d⟩⟩
theorem q2o{k:FuncId}{args:je}{v:Value}{K:Value->Prop}(h:∀own',qD P W0 k args own' v)(d:K v):q4q P W0 own k args K:=⟨v,fun ex w hw=>h (ex++own) w hw,d⟩
theorem qiG{k:FuncId}{args:je}{v:Value}{K:Value->Prop}(h:∀ex,qD P W0 k args (ex++own) v)(d:K v):q4q P W0 own k args K:=⟨v,fun ex w hw=>h ex w hw,d⟩
end rules
open Go
def ab:j8->Nat
 |some a=>a.block
 |none=>0
def ao:j8->Nat
 |some a=>a.off
 |none=>0
section ent
variable{W0:World}{own:Own}
theorem Ent.left{D r:Own}:Ent W0 (D++r) D:=Ent.of_sub (List.sublist_append_left D r)
theorem Ent.right{D r:Own}:Ent W0 (D++r) r:=Ent.of_sub (Zl D r)
theorem Ent.app{A own':Own}(h:Ent W0 own own'):Ent W0 (A++own) own':=Ent.right.trans h
theorem eB{p:Prop}(h:p:=by repeat(first|exact Ent.refl|exact Ent.left|refine Ent.cons ?_|refine Ent.app ?_)):p:=h
inductive At (D:Own):Own->(Own->Own)->Prop
 |head {r:Own}:At D (D++r) (fun X=>X++r)
 |tail {e:j9} {r:Own} {C:Own->Own} (h:At D r C):At D (e::r) (fun X=>e::C X)
 |skip {A r:Own} {C:Own->Own} (h:At D r C):At D (A++r) (fun X=>A++C X)
theorem At.perm{D own:Own}{C:Own->Own}(h:At D own C):∃r,own.Perm (D++r)/\∀X,(C X).Perm (X++r):=by
 induction h with
 |head=>exact⟨_,List.Perm.refl _,fun _=>List.Perm.refl _⟩
 | @tail e r C h j=>
  obtain⟨r',d,g⟩:=j;exact⟨e::r',(d.cons e).trans Z2.symm,fun X=>((g X).cons e).trans Z2.symm⟩
 | @skip A r C h j=>
  obtain⟨r',d,g⟩:=j;have sw:∀X:Own,(A++(X++r')).Perm (X++(A++r')):=fun X=>by
   rw[<-zd,<-zd];exact Zc.append_right r'
  exact⟨A++r',(d.append_left A).trans (sw D),fun X=>((g X).append_left A).trans (sw X)⟩
theorem At.ent{D own:Own}{C:Own->Own}(h:At D own C){e:j9}:Ent W0 (e::own) (C [e]):=by
 obtain⟨r,d,g⟩:=h.perm;refine(Ent.of_perm (d.cons e)).trans ((Ent.of_sub (List.Sublist.cons_cons e (Zl D r))).trans (Ent.of_perm (g [e]).symm))
theorem At.self{D own:Own}{C:Own->Own}(h:At D own C):Ent W0 own D:=by
 obtain⟨r,d,_⟩:=h.perm;exact(Ent.of_perm d).trans Ent.left
theorem At.same{D own:Own}{C:Own->Own}(h:At D own C):C D=own:=by
 induction h with
 |head=>rfl
 |tail _ d=>exact congrArg _ d
 |skip _ d=>exact congrArg _ d
theorem Up.app{b:Nat}{p q:Obj->Prop}{r r':Own}(h:Up b p q r r'):∀A:Own,Up b p q (A++r) (A++r')
 | []=>h
 |_::A=>Up.tail (Up.app h A)
theorem eU{p:Prop}(h:p:=by first|(solve|repeat(first|with_reducible exact Up.head|with_reducible apply Up.tail|with_reducible apply Up.app))|repeat(first|exact Up.head|apply Up.tail|apply Up.app)):p:=h
theorem At.up{b:Nat}{p:Obj->Prop}{own:Own}{C:Own->Own}(h:At [(b,p)] own C)(q:Obj->Prop):Up b p q own (C [(b,q)]):=by
 generalize g: [(b,p)]=D at h
 induction h with
 |head=>subst g;exact Up.head
 |tail _ d=>exact Up.tail d
 | @skip A _ _ _ d=>exact Up.app d A
end ent
section flat
variable{α:Type}{enc:α->je}{sz:Nat}
theorem q0j:∀(l:List α),(∀x∈l,(enc x).length=sz)->(l.map enc).flatten.length=l.length*sz
 | [],_=>by simp
 |x::l,h=>by
  simp only[zG,Z1,z8,zu,q0j l (fun y d=>h y (zr _ d)),h x zp,ZJ];omega
theorem q2E:∀(l:List α),(∀x∈l,(enc x).length=sz)->∀{j k:Nat} {x:α} {v:Value},l[j]? =some x->(enc x)[k]? =some v->(l.map enc).flatten[j*sz+k]? =some v
 | [],_,j,k,x,v,h,_=>by simp at h
 |y::l,h,0,k,x,v,g,d=>by
  simp only[Zr,Option.some.injEq] at g;subst g;have o:=(z7.1 d).1;simp only[zG,Z1,Nat.zero_mul,zy];rw[zB o,d]
 |y::l,h,j+1,k,x,v,g,d=>by
  have n:=h y zp;simp only[zG,Z1];rw[zJ (by rw[n,ZJ];omega),n];have e:(j+1)*sz+k-sz=j*sz+k:=by rw[ZJ];omega
  rw[e];exact q2E l (fun z q=>h z (zr _ q)) (by simpa using g) d
theorem q7D:∀(l:List α),(∀x∈l,(enc x).length=sz)->∀j,(l.map enc).flatten.take (j*sz)=((l.take j).map enc).flatten
 | [],_,j=>by simp
 |y::l,h,0=>by simp
 |y::l,h,j+1=>by
  have d:=h y zp;simp only[zG,Z1,Y4];rw[List.take_append,d,ZB (by rw[d,ZJ];omega)];have e:(j+1)*sz-sz=j*sz:=by rw[ZJ];omega
  rw[e,q7D l (fun z g=>h z (zr _ g)) j]
theorem q7C:∀(l:List α),(∀x∈l,(enc x).length=sz)->∀j,(l.map enc).flatten.drop (j*sz)=((l.drop j).map enc).flatten
 | [],_,j=>by simp
 |y::l,h,0=>by simp
 |y::l,h,j+1=>by
  have d:=h y zp;simp only[zG,Z1,yi];rw[yE,d,ZN (by rw[d,ZJ];omega),zj];have e:(j+1)*sz-sz=j*sz:=by rw[ZJ];omega
  rw[e,q7C l (fun z g=>h z (zr _ g)) j]
end flat
structure RdE{α:Type}(enc:α->je)(sz:Nat)(W0:World)(own:Own)(a:j8)(l:List α):Prop where
 isS:l≠ []->a=some ⟨ab a,ao a,none⟩
 wid:∀x∈l,(enc x).length=sz
 cell:∀{j k:Nat} {x:α} {v:Value},l[j]? =some x->(enc x)[k]? =some v->Kn W0 own (fun w=>w.cell? ⟨ab a,ao a+j*sz+k,none⟩=some v)
structure qq{α:Type}(enc:α->je)(T:TypeId)(sz:Nat)(a:j8)(cap:Nat)(l:List α)(D:Own):Prop where
 wid:∀x∈l,(enc x).length=sz
 how:(l= []/\cap=0/\D= [])\/∃b rest,a=some ⟨b,0,none⟩/\D= [(b,fun o=>o=Obj.cells ((l.map enc).flatten++rest).toArray T)]/\l.length*sz+rest.length=cap*sz/\l.length<=cap
section
variable{α:Type}{enc:α->je}{sz:Nat}{W0:World}{own:Own}{a:j8}{l:List α}
theorem RdE.ent{own':Own}(h:RdE enc sz W0 own a l)(e:Ent W0 own' own):RdE enc sz W0 own' a l:=⟨h.isS,h.wid,fun g d=>(h.cell g d).ent e⟩
theorem RdE.nil:RdE enc sz W0 own a []:=⟨fun h=>absurd rfl h,fun _ h=>(by cases h),fun h=>(by simp at h)⟩
theorem ixE{i:Int}{K:Addr->Prop}{j:Nat}{x:α}(h:RdE enc sz W0 own a l)(d:l[j]? =some x)(hi:i=j)(g:K ⟨ab a,ao a+j*sz,none⟩):IxS a sz i l.length K:=
 ⟨j,ab a,ao a,hi,(z7.1 d).1,h.isS (fun e=>by subst e;simp at d),g⟩
theorem ldE{j k o:Nat}{x:α}{v:Value}{K:Value->Prop}(h:RdE enc sz W0 own a l)(q:l[j]? =some x)(g:o=ao a+j*sz+k)(n:(enc x)[k]? =some v)(d:K v):Ld W0 own ⟨ab a,o,none⟩ K:=by
 subst g;exact⟨v,h.cell q n,d⟩
theorem qfd{j o n:Nat}{x:α}{K:jg->Prop}(h:RdE enc sz W0 own a l)(g:l[j]? =some x)(t:o=ao a+j*sz)(s:n=sz)(q:K (enc x).toArray):LdN W0 own ⟨ab a,o,none⟩ n K:=by
 subst t;subst s;have hw:=h.wid x (zh g);refine⟨(enc x).toArray,by simpa using hw,fun w u i hi=>?_,q⟩;rw[qN];have d:i<(enc x).length:=Yb;exact(h.cell (v:=(enc x)[i]) g (z6 d) w u).trans (by simp[d])
theorem qq.rd{T:TypeId}{cap:Nat}{D:Own}(h:qq enc T sz a cap l D):RdE enc sz W0 D a l:=by
 rcases h.how with ⟨rfl,_,_⟩|⟨b,rest,rfl,rfl,hl,_⟩
 ·exact RdE.nil
 ·refine⟨fun _=>rfl,h.wid,fun{j k x v} o n=>?_⟩;have g:=q2E l h.wid o n;have d:=(z7.1 g).1;show Kn W0 _ (fun w=>w.cell? ⟨b,0+j*sz+k,none⟩=some v);refine q0E (List.Mem.head _) ?_;rw[zy,zB d,g]
theorem qq.le{T:TypeId}{cap:Nat}{D:Own}(h:qq enc T sz a cap l D):l.length<=cap:=by
 rcases h.how with ⟨rfl,rfl,_⟩|⟨_,_,_,_,_,d⟩
 ·simp
 ·exact d
theorem qq.nil{T:TypeId}:qq enc T sz a 0 [] []:=⟨fun _ h=>(by cases h), .inl ⟨rfl,rfl,rfl⟩⟩
theorem q1Q{b:Nat}{cs:jg}{T:TypeId}{fz:Nat×Nat}(hm:(b,fun o=>o=Obj.cells cs T fz)∈own)(hw:∀x∈l,(enc x).length=sz)(d:cs.toList=(l.map enc).flatten):RdE enc sz W0 own (some ⟨b,0,none⟩) l:=by
 refine⟨fun _=>rfl,hw,fun{j k x v} n h=>?_⟩;have g:=q2E l hw n h;show Kn W0 own (fun w=>w.cell? ⟨b,0+j*sz+k,none⟩=some v);exact q0E hm (by rw[d,zy];exact g)
theorem RdE.sl{c r m:Nat}(h:RdE enc sz W0 own a l)(t:r<=l.length)(hm:r<=m):RdE enc sz W0 own (slA a m c sz) ((l.drop c).take (r-c)):=by
 by_cases hcr:c<r
 ·have g:l≠ []:=by intro e;subst e;simp at t;omega
  have s:=h.isS g;have o:slA a m c sz=some ⟨ab a,ao a+c*sz,none⟩:=by
   unfold slA;rw[if_neg Yb,s];simp[qN,ab,ao]
  rw[o];refine⟨fun _=>rfl,fun x d=>h.wid x (List.mem_of_mem_drop (yz d)),fun{j k x v} d u=>?_⟩;have n:l[c+j]? =some x:=by
   rw[Y7] at d
   split at d
   ·rwa[yJ] at d
   ·cases d
  have:=h.cell n u;have q:ao a+(c+j)*sz+k=ao a+c*sz+j*sz+k:=by rw[yN];omega
  rw[q] at this;exact this
 ·have e:r-c=0:=Yb;rw[e,yT];exact RdE.nil
theorem mkE{T:TypeId}{bytes:Nat}{zs:je}{n c:Int}{K:Value->Own->Prop}(x0:α)(g:enc x0=zs)(d:zs.length=sz)(h:0<=n/\n<=c/\c*bytes<=281474976710656)
  (s:∀a cap D,qq enc T sz a cap (List.replicate n.toNat x0) D->K (.slice a n.toNat cap) (D++own)):MkT W0 own T bytes zs n c K:=by
 refine⟨n.toNat,c.toNat,Yb,Yb,Yb,?_,fun b hb=>?_⟩
 ·have j:=h.2.2;have q:c=(c.toNat:Int):=Yb;rw[q,<-yG] at j;omega
 ·refine s (some ⟨b,0,none⟩) c.toNat [(b,fun o=>o=Obj.cells (List.replicate c.toNat zs).flatten.toArray T)] ⟨fun x t=>by rw[List.eq_of_mem_replicate t,g,d], .inr ⟨b,(List.replicate (c.toNat-n.toNat) zs).flatten,rfl,?_,?_,by simp;omega⟩⟩
  ·have e:c.toNat=n.toNat+(c.toNat-n.toNat):=Yb
   congr
   funext o
   rw[ZS,g,<-zP,ZP,<-e]
  ·have e:c.toNat=n.toNat+(c.toNat-n.toNat):=Yb;simp only[zD,List.length_flatten,ZS,List.sum_replicate_nat,d];rw[<-yN,<-e]
theorem q47{b:Nat}{T:TypeId}{w:World}{own':Own}{cs vs:je}{off:Nat}(hw:St W0 own w)(hu:Up b (fun o=>o=Obj.cells cs.toArray T) (fun o=>o=Obj.cells (cs.take off++vs++cs.drop (off+vs.length)).toArray T) own own')(q:off+vs.length<=cs.length):
  (∀j,j<vs.length->(w.cell? ⟨b,off+j,none⟩).isSome=true/\w.frozen? ⟨b,off+j,none⟩=false)/\St W0 own' (q4J w ⟨b,off,none⟩ 0 vs):=by
 obtain⟨o,n,rfl⟩:=hw.owns _ hu.mem;have d:=q9f (T:=T) vs 0 w off cs n (by simpa using q);refine⟨fun j hj=>?_,hw.up hu d.2.2.2.1 d.2.2.2.2.1 d.2.2.2.2.2 (by rw[d.2.2.1];exact zN _) (fun k _ h=>d.2.1 k h) ⟨_,by simpa using d.1,rfl⟩⟩;have g:off+j<cs.length:=Yb;exact⟨by simp[World.cell?,n,g],by simp[World.frozen?,n]⟩
theorem q6C{T:TypeId}{bytes cap m:Nat}{zs:je}{D:Own}{C:Own->Own}{a2:j8}{l2:List α}{K:Value->Own->Prop}(B:qq enc T sz a cap l D)(s:At D own C)(J:RdE enc sz W0 own a2 l2)(hm:m=l2.length)
  (hz:zs.length=sz) (hs:0<sz) (h1:∀x∈l2,(enc x).all q2r=true) (hb:cap<l.length+l2.length->(l.length+l2.length)*bytes<=140737488355328)
  (Q:∀X t W,qq enc T sz X t (l++l2) W->K (.slice X (l.length+l2.length) t) (C W)):qc6 W0 own T sz bytes zs a l.length cap a2 m K:=by
 subst hm;have H:RdE enc sz W0 own a l:=(B.rd (W0:=W0)).ent s.self;have holds:∀{a:j8} {l:List α},RdE enc sz W0 own a l->Kn W0 own (Holds a (l.map enc).flatten):=fun{a l} h w hw ad d j v z=>by
  have R:=(z7.1 z).1;rw[q0j l h.wid] at R;have F:j/sz<l.length:=Nat.div_lt_of_lt_mul (by rwa[Nat.mul_comm]);have hj2:j % sz<sz:=yp _ hs;have n:l[j/sz]? =some l[j/sz]:=z6 F;have hwd:=h.wid _ (zh n);have I:(enc l[j/sz])[j % sz]? =some (enc l[j/sz])[j % sz]:=z6 Yb;have he:j/sz*sz+j % sz=j:=Nat.div_add_mod' j sz;have Z:=q2E l h.wid n I;rw[he,z] at Z;have hS:=h.isS (fun e=>by subst e;simp at F);rw[hS] at d;have d:=Option.some.inj d;rw[<-d,qN];have Y:=h.cell n I w hw;have e2:ao a+j/sz*sz+j % sz=ao a+j:=Yb;rw[e2] at Y;rw[Y,Z]
 have y:∀x∈l++l2,(enc x).length=sz:=fun x h=>(zw.1 h).elim (B.wid x) (J.wid x)
 refine⟨(l.map enc).flatten,(l2.map enc).flatten,q0j l B.wid,q0j l2 J.wid,fun e=>?_,fun e=>?_,fun v V=>?_,holds H,holds J,fun g=>?_,fun O=>⟨hb O,fun b L hb' M=>?_⟩⟩
 ·cases l with
  |nil=>rfl
  |cons x r=>have:=H.isS Yd;rw[e] at this;cases this
 ·cases l2 with
  |nil=>rfl
  |cons x r=>have:=J.isS Yd;rw[e] at this;cases this
 ·obtain⟨cs,N,V⟩:=List.mem_flatten.1 V;obtain⟨x,n,rfl⟩:=zO.1 N;exact Z7.1 (h1 x n) v V
 ·rcases B.how with ⟨rfl,rfl,rfl⟩|⟨b,rest,rfl,rfl,hl,hle⟩
  ·have h2:l2= []:=by cases l2 with|nil=>rfl|cons x r=>simp at g
   subst h2;have hC:=s.same;refine⟨own,fun w hw=>⟨fun ad _=>⟨fun j z=>by simp at z,by simpa [q4J] using hw⟩,fun _=>hw⟩,?_⟩;have:=Q a 0 [] qq.nil;rw[hC] at this;exact this
  ·have E:=q0j l B.wid;have u:=q0j l2 J.wid;have U:(l.length+l2.length)*sz<=cap*sz:=ZT _ g;rw[yN] at U;refine⟨C [(b,fun o=>o=Obj.cells (((l++l2).map enc).flatten++rest.drop (l2.length*sz)).toArray T)],fun w hw=>⟨fun ad d=>?_,fun e=>by cases e⟩,Q (some ⟨b,0,none⟩) cap _ ⟨y, .inr ⟨b,rest.drop (l2.length*sz),rfl,rfl,?_,by simpa using g⟩⟩⟩
   ·have d:=Option.some.inj d;subst d;have G:((l.map enc).flatten++rest).take (l.length*sz)++(l2.map enc).flatten++((l.map enc).flatten++rest).drop (l.length*sz+(l2.map enc).flatten.length)=((l++l2).map enc).flatten++rest.drop (l2.length*sz):=by
     rw[u,Zh Yb,ZB Yb,yE,ZN Yb,zj,E,Za,zv,zP]
    have hu:=s.up (q:=fun o=>o=Obj.cells (((l.map enc).flatten++rest).take (l.length*sz)++(l2.map enc).flatten++((l.map enc).flatten++rest).drop (l.length*sz+(l2.map enc).flatten.length)).toArray T);have S:=q47 (vs:=(l2.map enc).flatten) (off:=l.length*sz) hw hu (by rw[z8,E,u];omega);rw[G] at S;rw[qN,zy];refine⟨fun j z=>?_,S.2⟩;rw[qN];exact S.1 j z
   ·simp only[z8,ZM,yN];omega
 ·refine⟨C [(b,fun o=>o=Obj.cells ((l.map enc).flatten++(l2.map enc).flatten++(List.replicate (L-(l.length+l2.length)) zs).flatten).toArray T)],s.ent,?_⟩;refine Q (some ⟨b,0,none⟩) L _ ⟨y, .inr ⟨b,(List.replicate (L-(l.length+l2.length)) zs).flatten,rfl,?_,?_,by simpa using M⟩⟩
  ·rw[zv,zP]
  ·simp only[z8,List.length_flatten,ZS,List.sum_replicate_nat,hz];rw[<-yN]
   congr 1
   omega
theorem qnx{T:TypeId}{bytes cap m:Nat}{zs:je}{D:Own}{C:Own->Own}{a2:j8}{l2:List α}{K:Value->Own->Prop}(o:qq enc T sz a cap l D)(g:At D own C)(t:RdE enc sz W0 own a2 l2)(hm:m=l2.length)
  (u:zs.length=sz) (s:0<sz) (n:∀x∈l2,(enc x).all q2r=true) (hb:(l.length+l2.length)*bytes<=140737488355328)
  (q:∀j d h,qq enc T sz j d (l++l2) h->K (.slice j (l.length+l2.length) d) (C h)):qc6 W0 own T sz bytes zs a l.length cap a2 m K:=
 q6C o g t hm u s n (fun _=>hb) q
theorem q3U{T T2:TypeId}{bytes cap q:Nat}{zs:je}{D:Own}{C:Own->Own}{ys:jg}{fz:Nat×Nat}{K:Value->Own->Prop}(x:α)(t:qq enc T sz a cap l D)(h:At D own C)(hm:(q,fun o=>o=Obj.cells ys T2 fz)∈own)(g:ys.toList=enc x)
  (z:zs.length=sz) (w:0<sz) (hw:(enc x).length=sz) (s:(enc x).all q2r=true) (hb:(l.length+1)*bytes<=140737488355328)
  (u:∀n d j,qq enc T sz n d (l++ [x]) j->K (.slice n (l.length+1) d) (C j)):qc6 W0 own T sz bytes zs a l.length cap (some ⟨q,0,none⟩) 1 K:=
 qnx (l2:= [x]) t h (q1Q hm (fun y g=>by rw[zf.1 g];exact hw) (by simpa using g)) rfl z w (fun y g=>by rw[zf.1 g];exact s) hb u
theorem qoT{T:TypeId}{cap j o:Nat}{D:Own}{C:Own->Own}{x:α}{vs:je}{K:Own->Prop}(x':α)(d:qq enc T sz a cap l D)(n:At D own C)(G:l[j]? =some x)(L:o=ao a+j*sz)(F:enc x'=vs)(hw:vs.length=sz)(H:vs.all q2r=true)
  (I:∀B,qq enc T sz a cap (l.set j x') B->K (C B)):StN W0 own ⟨ab a,o,none⟩ vs K:=by
 subst L;have E:=(z7.1 G).1
 rcases d.how with ⟨rfl,_,_⟩|⟨b,rest,rfl,rfl,J,hle⟩
 ·simp at G
 ·have s:=q0j l d.wid;have u:(j+1)*sz<=l.length*sz:=ZT _ E;rw[ZJ] at u;have h:∀y∈l.set j x',(enc y).length=sz:=fun y N=>(Ze N).elim (d.wid y) (fun e=>by rw[e,F,hw])
  have g:((l.map enc).flatten++rest).take (j*sz)++vs++((l.map enc).flatten++rest).drop (j*sz+vs.length)=((l.set j x').map enc).flatten++rest:=by
   rw[hw,Zh Yb,List.drop_append_of_le_length Yb,q7D l d.wid,<-ZJ,q7C l d.wid];rw[Zk,if_pos E,zv,zP,zG,Z1,F];simp
  refine⟨fun v z=>Z7.1 H v z,C [(b,fun o=>o=Obj.cells (((l.set j x').map enc).flatten++rest).toArray T)],fun w M=>?_,I _ ⟨h, .inr ⟨b,rest,rfl,rfl,by simpa using J,by simpa using hle⟩⟩⟩;have hu:=n.up (q:=fun o=>o=Obj.cells (((l.map enc).flatten++rest).take (j*sz)++vs++((l.map enc).flatten++rest).drop (j*sz+vs.length)).toArray T);have t:=q47 (vs:=vs) (off:=j*sz) M hu (by rw[z8,s];omega);rw[g] at t;show(∀i,i<vs.length->(w.cell? ((Addr.mk b (0+j*sz) none).add i)).isSome=true/\w.frozen? ((Addr.mk b (0+j*sz) none).add i)=false)/\St W0 _ (q4J w ⟨b,0+j*sz,none⟩ 0 vs);rw[zy];refine⟨fun i hi=>?_,t.2⟩;rw[qN];exact t.1 i hi
theorem qky{W0:World}{own:Own}{a:Addr}{vs:je}{n:Nat}{K:Own->Prop}(h:vs.length=n)(d:StN W0 own a vs K):vs.length=n/\StN W0 own a vs K:=⟨h,d⟩
theorem qg8{w:World}{b o:Nat}{v:Value}:q4J w ⟨b,o,none⟩ 0 [v]=w.setCell ⟨b,o,none⟩ v:=by
 simp only[q4J,qN,ZI]
theorem stE{T:TypeId}{cap j k o:Nat}{D:Own}{C:Own->Own}{x:α}{v:Value}{K:Own->Prop}(x':α)(d:qq enc T sz a cap l D)(u:At D own C)(t:l[j]? =some x)(V:o=ao a+j*sz+k)(hk0:k<sz)(N:enc x'=(enc x).set k v)(Q:q2r v=true)
  (S:∀I,qq enc T sz a cap (l.set j x') I->K (C I)):StT W0 own ⟨ab a,o,none⟩ v K:=by
 subst V;have M:=(z7.1 t).1;have G:=d.wid x (zh t)
 rcases d.how with ⟨rfl,_,_⟩|⟨b,rest,rfl,rfl,U,hle⟩
 ·simp at t
 ·have g:=q0j l d.wid;have E:(j+1)*sz<=l.length*sz:=ZT _ M;rw[ZJ] at E;have s:∀y∈l.set j x',(enc y).length=sz:=fun y H=>(Ze H).elim (d.wid y) (fun e=>by rw[e,N,zm,G])
  have n:(l.map enc).flatten=((l.take j).map enc).flatten++(enc x++((l.drop (j+1)).map enc).flatten):=by
   have e:l=l.take j++x::l.drop (j+1):=by
    rw[<-(z7.1 t).2,List.getElem_cons_drop,yU]
   conv=>lhs;rw[e]
   simp
  have F:((l.take j).map enc).flatten.length=j*sz:=by
   rw[q0j _ (fun y H=>d.wid y (yz H)),zM]
   congr 1;omega
  have h:((l.map enc).flatten++rest).take (j*sz+k)++ [v]++((l.map enc).flatten++rest).drop (j*sz+k+ [v].length)=((l.set j x').map enc).flatten++rest:=by
   have R:((l.set j x').map enc).flatten++rest=((l.map enc).flatten++rest).set (j*sz+k) v:=by
    have O:((l.set j x').map enc).flatten=((l.take j).map enc).flatten++((enc x).set k v++((l.drop (j+1)).map enc).flatten):=by
     rw[Zk,if_pos M,zv,zP,zG,Z1,N]
    have J:∀A X B:je,A++(X++B)++rest=A++(X++(B++rest)):=fun A X B=>by simp
    rw[O,n,J,J,ZG _ _ Yb,F,Za,yZ _ _ Yb]
   rw[R,q7R _ _ _ (by rw[z8,g];omega)];rfl
  refine⟨Q,C [(b,fun o=>o=Obj.cells (((l.set j x').map enc).flatten++rest).toArray T)],fun w W=>?_,S _ ⟨s, .inr ⟨b,rest,rfl,rfl,by simpa using U,by simpa using hle⟩⟩⟩;have hu:=u.up (q:=fun o=>o=Obj.cells (((l.map enc).flatten++rest).take (j*sz+k)++ [v]++((l.map enc).flatten++rest).drop (j*sz+k+ [v].length)).toArray T);have z:=q47 (vs:= [v]) (off:=j*sz+k) W hu (by rw[z8,g];simp;omega);rw[h,qg8] at z;show(w.cell? ⟨b,0+j*sz+k,none⟩).isSome=true/\w.frozen? ⟨b,0+j*sz+k,none⟩=false/\St W0 _ (w.setCell ⟨b,0+j*sz+k,none⟩ v);rw[zy];have L:=z.1 0 Yd;exact⟨L.1,L.2,z.2⟩
end
open Go
class qy(b:Nat)(p:outParam (Obj->Prop))(own:Own):Prop where
 h:(b,p)∈own
section
variable{b:Nat}{p:Obj->Prop}{e:j9}{A r:Own}
instance qy.left [m:qy b p A]:qy b p (A++r):=⟨zq _ m.h⟩
instance qy.right [m:qy b p r]:qy b p (A++r):=⟨zz _ m.h⟩
instance qy.tail [m:qy b p r]:qy b p (e::r):=⟨zr _ m.h⟩
instance qy.head:qy b p ((b,p)::r):=⟨zp⟩
end
theorem Up.appl{b:Nat}{p q:Obj->Prop}{A A' r:Own}(h:Up b p q A A'):Up b p q (A++r) (A'++r):=by
 induction h with
 |head=>exact Up.head
 |tail _ d=>exact Up.tail d
class UpC(b:Nat)(p:outParam (Obj->Prop))(own:Own)(C:outParam ((Obj->Prop)->Own)):Prop where
 h:∀q,Up b p q own (C q)
section
variable{b:Nat}{p:Obj->Prop}{e:j9}{A r:Own}{C:(Obj->Prop)->Own}
instance UpC.left [m:UpC b p A C]:UpC b p (A++r) (fun q=>C q++r):=⟨fun q=>(m.h q).appl⟩
instance UpC.right [m:UpC b p r C]:UpC b p (A++r) (fun q=>A++C q):=⟨fun q=>(m.h q).app A⟩
instance UpC.tail [m:UpC b p r C]:UpC b p (e::r) (fun q=>e::C q):=⟨fun q=>Up.tail (m.h q)⟩
instance UpC.head:UpC b p ((b,p)::r) (fun q=>(b,q)::r):=⟨fun _=>Up.head⟩
end
theorem At.left{D A r:Own}{C:Own->Own}(h:At D A C):At D (A++r) (fun X=>C X++r):=by
 induction h with
 | @head r0=>
  have:=At.head (D:=D) (r:=r0++r)
  simpa only[zd] using this
 |tail _ d=>exact At.tail d
 | @skip A r0 C _ d=>
  have:=At.skip (A:=A) d
  simpa only[zd] using this
class AtC(D own:Own)(C:outParam (Own->Own)):Prop where
 h:At D own C
section
variable{D A r:Own}{e:j9}{C:Own->Own}
instance AtC.left [m:AtC D A C]:AtC D (A++r) (fun X=>C X++r):=⟨m.h.left⟩
instance AtC.skip [m:AtC D r C]:AtC D (A++r) (fun X=>A++C X):=⟨At.skip m.h⟩
instance AtC.tail [m:AtC D r C]:AtC D (e::r) (fun X=>e::C X):=⟨At.tail m.h⟩
instance AtC.one:AtC [e] (e::r) (fun X=>X++r):=⟨At.head (D:= [e])⟩
instance AtC.head:AtC D (D++r) (fun X=>X++r):=⟨At.head⟩
end
class qx(own own':Own):Prop where
 h:∀W0,Ent W0 own own'
section
variable{A D r own own':Own}{e:j9}
instance qx.appl [m:qx A own']:qx (A++r) own':=⟨fun W=>Ent.left.trans (m.h W)⟩
instance qx.app [m:qx r own']:qx (A++r) own':=⟨fun W=>Ent.app (m.h W)⟩
instance qx.cons [m:qx own own']:qx (e::own) own':=⟨fun W=>Ent.cons (m.h W)⟩
instance qx.left:qx (D++r) D:=⟨fun _=>Ent.left⟩
instance qx.refl:qx own own:=⟨fun _=>Ent.refl⟩
end
section
variable{W0:World}{own own':Own}
theorem qiU [m:qx own own']:Ent W0 own own':=m.h W0
theorem eC{p:Prop}(h:p:=by first|exact qiU|exact eB):p:=h
theorem qoK{b off:Nat}{cs:jg}{T:TypeId}{fz:Nat×Nat}{v:Value}{K:Value->Prop} [m:qy b (fun o=>o=Obj.cells cs T fz) own](d:cs.toList[off]? =some v)(h:K v):Ld W0 own ⟨b,off,none⟩ K:=qU v m.h d h
theorem qnL{b n:Nat}{cs:jg}{T:TypeId}{fz:Nat×Nat}{K:jg->Prop} [m:qy b (fun o=>o=Obj.cells cs T fz) own](d:cs.toList.length=n)(h:K cs):LdN W0 own ⟨b,0,none⟩ n K:=qZ m.h d h
theorem qnM{b off n:Nat}{cs:jg}{T:TypeId}{fz:Nat×Nat}{K:jg->Prop}{vs:je} [m:qy b (fun o=>o=Obj.cells cs T fz) own](g:(cs.toList.drop off).take n=vs)(d:vs.length=n)(h:K vs.toArray):LdN W0 own ⟨b,off,none⟩ n K:=q1A vs m.h g d h
theorem qkV{b off:Nat}{cs:jg}{T:TypeId}{v:Value}{K:Own->Prop}{C:(Obj->Prop)->Own} [m:UpC b (fun o=>o=Obj.cells cs T (0,0)) own C](j:Nat.ble (off+1) cs.toList.length=true)(s:q2r v=true)
  (h:K (C fun o=>o=Obj.cells (cs.toList.set off v).toArray T (0,0))):StT W0 own ⟨b,off,none⟩ v K:=by
 have hu:=m.h (fun o=>o=Obj.cells (cs.toList.set off v).toArray T (0,0));have d:off<cs.toList.length:=Nat.le_of_ble_eq_true j;refine⟨s,_,fun w hw=>?_,h⟩;obtain⟨o,q,rfl⟩:=hw.owns _ hu.mem;have g:off<cs.size:=by simpa using d
 refine⟨by simp[World.cell?,q,g],by simp[World.frozen?,q],hw.up hu rfl rfl rfl (by simp[World.setCell]) (fun k _ n=>?_) ⟨_,?_,rfl⟩⟩
 ·rw[q0i,if_neg (fun e=>n e.symm)]
 ·rw[q0i,if_pos rfl,q];simp only[Zm,Zp,zV,if_false]
  congr 2
  rw[<-ZK];simp
theorem qkz{b off n:Nat}{cs:jg}{T:TypeId}{vs:je}{K:Own->Prop}{C:(Obj->Prop)->Own} [m:UpC b (fun o=>o=Obj.cells cs T (0,0)) own C](t:vs.length=n)(g:Nat.ble (off+n) cs.toList.length=true)(q:vs.all q2r=true)
  (h:K (C fun o=>o=Obj.cells (cs.toList.take off++vs++cs.toList.drop (off+n)).toArray T (0,0))):vs.length=n/\StN W0 own ⟨b,off,none⟩ vs K:=by
 subst t;have hu:=m.h (fun o=>o=Obj.cells (cs.toList.take off++vs++cs.toList.drop (off+vs.length)).toArray T (0,0));have d:off+vs.length<=cs.toList.length:=Nat.le_of_ble_eq_true g;refine⟨rfl,by simpa using q,_,fun w hw=>?_,h⟩;have:=q47 (cs:=cs.toList) (vs:=vs) hw hu d;refine⟨fun j s=>?_,this.2⟩;rw[qN];exact this.1 j s
end
section
variable{α:Type}{enc:α->je}{sz:Nat}{W0:World}{own own':Own}{l:List α}{a:j8}
abbrev q0S(enc:α->je)(T:TypeId)(b:Nat)(l:List α):j9:=(b,fun o=>o=Obj.cells (l.map enc).flatten.toArray T)
theorem q8F{T:TypeId}{b:Nat}(hw:∀x∈l,(enc x).length=sz):qq enc T sz (some ⟨b,0,none⟩) l.length l [q0S enc T b l]:=
 ⟨hw, .inr ⟨b,[],rfl,by simp[q0S],Yd,zN _⟩⟩
theorem qhA{T:TypeId}{b:Nat}{D:Own}(d:l≠ [])(h:qq enc T sz (some ⟨b,0,none⟩) l.length l D):D= [q0S enc T b l]:=by
 rcases h.how with ⟨rfl,_,_⟩|⟨b',rest,hb,rfl,hl,_⟩
 ·exact absurd rfl d
 ·simp only[Option.some.injEq,Addr.mk.injEq] at hb;obtain⟨rfl,_⟩:=hb;have:rest= []:=Zt Yb;subst this;simp[q0S]
theorem q9Q{T:TypeId}{b:Nat}(hw:∀x∈l,(enc x).length=sz):RdE enc sz W0 [q0S enc T b l] (some ⟨b,0,none⟩) l:=(q8F hw).rd
theorem mkC{T:TypeId}{bytes:Nat}{zs:je}{n c:Int}{K:Value->Own->Prop}(m:Nat)(x0:α)(j:n=m)(g:c=m)(o:enc x0=zs)(d:m*bytes<=281474976710656)
  (h:∀b,K (.slice (some ⟨b,0,none⟩) m m) (q0S enc T b (List.replicate m x0)::own)):MkT W0 own T bytes zs n c K:=by
 subst j;subst g;refine⟨m,m,rfl,rfl,zN _,d,fun b _=>?_⟩;have:=h b;simp only[q0S,ZS,o] at this;exact this
theorem stC{T:TypeId}{b j k o:Nat}{C:Own->Own}{x:α}{v:Value}{K:Own->Prop}(x':α)(hw:∀x∈l,(enc x).length=sz)(h:l[j]? =some x) [m:AtC [q0S enc T b l] own C](s:o=j*sz+k)(d:k<sz)(t:enc x'=(enc x).set k v)(n:q2r v=true)
  (q:K (C [q0S enc T b (l.set j x')])):StT W0 own ⟨b,o,none⟩ v K:=
 stE (a:=some ⟨b,0,none⟩) x' (q8F hw) m.h h (by simp[ao,s]) d t n (fun D' hb=>by
  have g:l.set j x'≠ []:=fun e=>by
   have:=congrArg List.length e;rw[zm] at this;have:=Zt this;subst this;simp at h
  have:=qhA g (by rw[zm];exact hb);subst this;exact q)
theorem ixC{b n j:Nat}{i:Int}{x:α}{K:Addr->Prop}(h:l[j]? =some x)(g:n=l.length)(hi:i=j)(d:K ⟨b,j*sz,none⟩):IxS (some ⟨b,0,none⟩) sz i n K:=by
 subst g;subst hi;exact q8X (z7.1 h).1 (by rw[zy];exact d)
theorem ldC{T:TypeId}{b j k:Nat}{x:α}{v:Value}{K:Value->Prop}(hw:∀x∈l,(enc x).length=sz)(h:l[j]? =some x) [m:qy b (fun o=>o=Obj.cells (l.map enc).flatten.toArray T) own](g:(enc x)[k]? =some v)(d:K v):Ld W0 own ⟨b,j*sz+k,none⟩ K:=
 qU v m.h (by rw[zQ];exact q2E l hw h g) d
theorem qkQ{T:TypeId}{b j:Nat}{x:α}{v:Value}{K:Value->Prop}(hw:∀x∈l,(enc x).length=sz)(h:l[j]? =some x) [m:qy b (fun o=>o=Obj.cells (l.map enc).flatten.toArray T) own](g:(enc x)[0]? =some v)(d:K v):Ld W0 own ⟨b,j*sz,none⟩ K:=ldC (T:=T) (k:=0) hw h g d
theorem q0n{j:Nat}{x:α}{v:Value}{K:Value->Prop}(h:RdE enc sz W0 own' a l)(n:l[j]? =some x) [m:qx own own'](g:(enc x)[0]? =some v)(d:K v):Ld W0 own ⟨ab a,ao a+j*sz,none⟩ K:=ldE (k:=0) (h.ent (m.h W0)) n rfl g d
theorem qm6{j k:Nat}{x:α}{v:Value}{K:Value->Prop}(h:RdE enc sz W0 own' a l)(n:l[j]? =some x) [m:qx own own'](g:(enc x)[k]? =some v)(d:K v):Ld W0 own ⟨ab a,ao a+j*sz+k,none⟩ K:=ldE (k:=k) (h.ent (m.h W0)) n rfl g d
theorem q0O{j n:Nat}{x:α}{K:jg->Prop}(h:RdE enc sz W0 own' a l)(o:l[j]? =some x) [m:qx own own'](g:n=sz)(d:K (enc x).toArray):LdN W0 own ⟨ab a,ao a+j*sz,none⟩ n K:=qfd (h.ent (m.h W0)) o rfl g d
theorem RdE.up(h:RdE enc sz W0 own' a l) [m:qx own own']:RdE enc sz W0 own a l:=h.ent (m.h W0)
theorem q0f{T T2:TypeId}{bytes cap j:Nat}{zs:je}{D:Own}{C:Own->Own}{ys:jg}{fz:Nat×Nat}{K:Value->Own->Prop}(x:α)(q:qq enc T sz a cap l D) [m:AtC D own C] [y:qy j (fun o=>o=Obj.cells ys T2 fz) own](u:ys.toList=enc x)
  (w:zs.length=sz) (t:0<sz) (hw:(enc x).length=sz) (n:(enc x).all q2r=true) (hb:(l.length+1)*bytes<=140737488355328)
  (s:∀h d g,qq enc T sz h d (l++ [x]) g->K (.slice h (l.length+1) d) (C g)):qc6 W0 own T sz bytes zs a l.length cap (some ⟨j,0,none⟩) 1 K:=q3U x q m.h y.h u w t hw n hb s
theorem qfl{T:TypeId}{bytes cap m:Nat}{zs:je}{D:Own}{C:Own->Own}{a2:j8}{l2:List α}{K:Value->Own->Prop}(n:qq enc T sz a cap l D)(s:RdE enc sz W0 own' a2 l2) [mm:AtC D own C] [u:qx own own'](hm:m=l2.length)
  (t:zs.length=sz) (q:0<sz) (j:∀x∈l2,(enc x).all q2r=true) (hb:cap<l.length+l2.length->(l.length+l2.length)*bytes<=140737488355328)
  (o:∀h d g,qq enc T sz h d (l++l2) g->K (.slice h (l.length+l2.length) d) (C g)):qc6 W0 own T sz bytes zs a l.length cap a2 m K:=q6C n mm.h (s.ent (u.h W0)) hm t q j hb o
theorem q3L{T:TypeId}{cap j k o:Nat}{D:Own}{C:Own->Own}{x:α}{v:Value}{K:Own->Prop}(x':α)(n:qq enc T sz a cap l D)(u:l[j]? =some x) [m:AtC D own C](s:o=ao a+j*sz+k)(d:k<sz)(t:enc x'=(enc x).set k v)(h:q2r v=true)
  (q:∀g,qq enc T sz a cap (l.set j x') g->K (C g)):StT W0 own ⟨ab a,o,none⟩ v K:=stE x' n m.h u s d t h q
theorem qmN{T:TypeId}{cap j o n:Nat}{D:Own}{C:Own->Own}{x:α}{vs:je}{K:Own->Prop}(x':α)(h:qq enc T sz a cap l D)(w:l[j]? =some x) [m:AtC D own C](s:vs.length=n)(t:o=ao a+j*sz)(u:enc x'=vs)(hw:vs.length=sz)(g:vs.all q2r=true)
  (q:∀d,qq enc T sz a cap (l.set j x') d->K (C d)):vs.length=n/\StN W0 own ⟨ab a,o,none⟩ vs K:=⟨s,qoT x' h m.h w t u hw g q⟩
end
open Go
section
variable{c b:Bool}{Ky Kn:Prop}{p:Prop}{i:Decidable p}
theorem q0Q(e:c=b)(h:Ky):q2m c b Ky Kn:=by subst e;exact qS h
theorem qf1(e:c= !b)(h:Kn):q2m c b Ky Kn:=⟨fun d=>(by rw[d] at e;cases b <;>cases e),fun _=>h⟩
theorem q6E(e:c=true)(h:Ky):Br c Ky Kn:=by subst e;exact q26 h
theorem qiB(e:c=false)(h:Kn):Br c Ky Kn:=by subst e;exact q2W h
theorem q0W(e:c= @decide p i)(hb:b=true)(g:p->Ky)(d:¬p->Kn):q2m c b Ky Kn:=by subst e;subst hb;exact q4f g d
theorem qf0(e:c= @decide p i)(hb:b=false)(d:¬p->Ky)(g:p->Kn):q2m c b Ky Kn:=by subst e;subst hb;exact q0X d g
theorem q6D(e:c= @decide p i)(g:p->Ky)(d:¬p->Kn):Br c Ky Kn:=by subst e;exact q3p g d
theorem q3q(e:c= @decide p i)(d:p)(h:Ky):Br c Ky Kn:=by subst e;exact q0D d h
theorem q2X(e:c= @decide p i)(d:¬p)(h:Kn):Br c Ky Kn:=by subst e;exact q1l d h
theorem qcs(e:c= !@decide p i)(d:p)(h:Kn):Br c Ky Kn:=by subst e;exact q7p d h
theorem qcr(e:c= !@decide p i)(d:¬p)(h:Ky):Br c Ky Kn:=by subst e;exact q9N d h
theorem q1x(e:c= @decide p i)(d:p)(h:q2m true b Ky Kn):q2m c b Ky Kn:=by subst e;exact q5H d h
theorem q1h(e:c= @decide p i)(d:¬p)(h:q2m false b Ky Kn):q2m c b Ky Kn:=by subst e;exact q3j d h
theorem fA{W0:World}{own:Own}{b off:Nat}{cs:jg}{T:TypeId}{fz:Nat×Nat}{v:Value}{K:Value->Prop}[m:qy b (fun o=>o=Obj.cells cs T fz) own](h:K v)(d:cs.toList[off]?=some v:=by exact rfl):Ld W0 own ⟨b,off,none⟩ K:=qoK d h
theorem fB{e:Int}{K:Int->Prop}(h:K e)(d:-9223372036854775808<=e/\e<=9223372036854775807:=by omega):q4N .i64 e K:=ari d h
theorem fC{e:Int}{K:Int->Prop}(h:K e)(d:0<=e/\e<=18446744073709551615:=by omega):q4N .u64 e K:=aru d h
theorem fD{c:Bool}{Ky Kn:Prop}(h:Kn)(e:c=false:=by exact rfl):Br c Ky Kn:=qiB e h
theorem fE{c:Bool}{Ky Kn:Prop}(h:Ky)(e:c=true:=by exact rfl):Br c Ky Kn:=q6E e h
theorem fF{c:Bool}{Ky Kn p:Prop}{i:Decidable p}(h:Ky)(e:c=@decide p i:=by exact rfl)(d:p:=by omega):Br c Ky Kn:=q3q e d h
theorem fG{c:Bool}{Ky Kn p:Prop}{i:Decidable p}(h:Kn)(e:c=@decide p i:=by exact rfl)(d:¬p:=by omega):Br c Ky Kn:=q2X e d h
theorem fH{c b:Bool}{Ky Kn:Prop}(h:Ky)(e:c=b:=by exact rfl):q2m c b Ky Kn:=q0Q e h
theorem fI{c b:Bool}{Ky Kn:Prop}(h:Kn)(e:c= !b:=by exact rfl):q2m c b Ky Kn:=qf1 e h
theorem fJ{c b:Bool}{Ky Kn p:Prop}{i:Decidable p}(h:q2m true b Ky Kn)(e:c=@decide p i:=by exact rfl)(d:p:=by omega):q2m c b Ky Kn:=q1x e d h
theorem fK{c b:Bool}{Ky Kn p:Prop}{i:Decidable p}(h:q2m false b Ky Kn)(e:c=@decide p i:=by exact rfl)(d:¬p:=by omega):q2m c b Ky Kn:=q1h e d h
theorem fL{W0:World}{own:Own}{b n:Nat}{cs:jg}{T:TypeId}{fz:Nat×Nat}{K:jg->Prop}[m:qy b (fun o=>o=Obj.cells cs T fz) own](h:K cs)(d:cs.toList.length=n:=by exact rfl):LdN W0 own ⟨b,0,none⟩ n K:=qnL d h
theorem fM{W0:World}{own:Own}{b off n:Nat}{cs:jg}{T:TypeId}{vs:je}{K:Own->Prop}{C:(Obj->Prop)->Own}[m:UpC b (fun o=>o=Obj.cells cs T (0,0)) own C](h:K (C fun o=>o=Obj.cells (cs.toList.take off++vs++cs.toList.drop (off+n)).toArray T (0,0)))(j:vs.length=n:=by exact rfl)(d:Nat.ble (off+n) cs.toList.length=true:=by exact rfl)(g:vs.all q2r=true:=by exact rfl):vs.length=n/\StN W0 own ⟨b,off,none⟩ vs K:=qkz j d g h
theorem fN{W0:World}{own:Own}{b off:Nat}{cs:jg}{T:TypeId}{v:Value}{K:Own->Prop}{C:(Obj->Prop)->Own}[m:UpC b (fun o=>o=Obj.cells cs T (0,0)) own C](h:K (C fun o=>o=Obj.cells (cs.toList.set off v).toArray T (0,0)))(d:Nat.ble (off+1) cs.toList.length=true:=by exact rfl)(g:q2r v=true:=by exact rfl):StT W0 own ⟨b,off,none⟩ v K:=qkV d g h
theorem fO{o:Option Value}{K:Value->Prop}{v:Value}(h:K v)(d:o=some v:=by exact rfl):Sel o K:=sel v d h
theorem fP{i:Int}{n:Nat}{K:Nat->Prop}(h:K i.toNat)(d:0<=i/\i<n:=by omega):Idx i n K:=ixn d h
theorem fQ{W0:World}{own:Own}{b off n:Nat}{cs:jg}{T:TypeId}{fz:Nat×Nat}{K:jg->Prop}{vs:je}[m:qy b (fun o=>o=Obj.cells cs T fz) own](h:K vs.toArray)(g:(cs.toList.drop off).take n=vs:=by exact rfl)(d:vs.length=n:=by exact rfl):LdN W0 own ⟨b,off,none⟩ n K:=qnM g d h
theorem qf2(e:c= !@decide p i)(d:p)(h:q2m false b Ky Kn):q2m c b Ky Kn:=by subst e;exact q7g d h
theorem q8t(e:c= !@decide p i)(d:¬p)(h:q2m true b Ky Kn):q2m c b Ky Kn:=by subst e;exact q7f d h
end
structure Stop(p:Prop):Prop where
 h:p
section
variable{P:Program}{W0:World}{own:Own}{k k0:FuncId}{args args0:je}{v:Value}
theorem qiF{K:Value->Own->Prop}(h:qD P W0 k0 args0 own v)(d:k=k0)(ea:args=args0)(g:K v own):q0g P W0 own k args K:=by
 subst d;subst ea;exact qp h g
theorem qd{K:Value->Own->Prop}(h:qD P W0 k0 args0 own v)(g:K v own)(d:k=k0:=by exact rfl)(ea:args=args0:=by exact rfl):q0g P W0 own k args K:=qiF h d ea g
theorem qiI{K:Value->Prop}(h:∀own',qD P W0 k0 args0 own' v)(d:k=k0)(ea:args=args0)(g:K v):q4q P W0 own k args K:=by
 subst d;subst ea;exact q2o h g
theorem qT{K:Value->Prop}(h:∀own',qD P W0 k0 args0 own' v)(g:K v)(d:k=k0:=by exact rfl)(ea:args=args0:=by exact rfl):q4q P W0 own k args K:=qiI h d ea g
theorem qiH{K:Value->Prop}(h:∀ex:Own,qD P W0 k0 args0 (ex++own) v)(d:k=k0)(ea:args=args0)(g:K v):q4q P W0 own k args K:=by
 subst d;subst ea;exact qiG h g
theorem qm{K:Value->Prop}(h:∀ex:Own,qD P W0 k0 args0 (ex++own) v)(g:K v)(d:k=k0:=by exact rfl)(ea:args=args0:=by exact rfl):q4q P W0 own k args K:=qiH h d ea g
theorem qcv{σ:Type}{R:σ->Value->Prop}{O:σ->Own}{K:Value->Own->Prop}(h:qu P W0 k0 args0 own fun v own'=>∃s,R s v/\Ent W0 own' (O s))(d:k=k0)(ea:args=args0)(n:∀s v,R s v->K v (O s)):q0g P W0 own k args K:=by
 subst d;subst ea;exact⟨fun w hw=>(h w hw).mono fun _ _ ⟨_,_,he,o,s,j,g⟩=>⟨_,O s,he,g _ o,n s _ j⟩⟩
theorem qk{σ:Type}{R:σ->Value->Prop}{O:σ->Own}{K:Value->Own->Prop}(h:qu P W0 k0 args0 own fun v own'=>∃s,R s v/\Ent W0 own' (O s))(g:∀s v,R s v->K v (O s))(d:k=k0:=by exact rfl)(ea:args=args0:=by exact rfl):q0g P W0 own k args K:=qcv h d ea g
end
open Go
class q1H(b:Nat)(p:outParam (Obj->Prop))(own:Own)(r:outParam Own):Prop where
 h:own.Perm ((b,p)::r)
section
variable{b:Nat}{p:Obj->Prop}{e:j9}{A r r':Own}
instance q1H.left [m:q1H b p A r']:q1H b p (A++r) (r'++r):=⟨m.h.append_right r⟩
instance q1H.right [m:q1H b p r r']:q1H b p (A++r) (A++r'):=⟨(m.h.append_left A).trans Z2⟩
instance q1H.tail [m:q1H b p r r']:q1H b p (e::r) (e::r'):=⟨(m.h.cons e).trans (List.Perm.swap _ _ _)⟩
instance q1H.head:q1H b p ((b,p)::r) r:=⟨List.Perm.refl _⟩
end
class qb9(ks:jh)(own:Own)(r:outParam Own):Prop where
 h:own.Perm r
instance qb9.nil{own:Own}:qb9 [] own own:=⟨List.Perm.refl _⟩
instance qb9.cons{b:Nat}{ks:jh}{p:Obj->Prop}{own r r':Own} [m:q1H b p own r] [k:qb9 ks r r']:qb9 (b::ks) own ((b,p)::r'):=⟨m.h.trans (k.h.cons _)⟩
theorem qcJ{W0:World}{own r T:Own}{b0 b1 b2 b3:Nat}{d g j n:Obj->Prop} [m:qb9 [b0,b1,b2,b3] own r](h:r=(b0,d)::(b1,g)::(b2,j)::(b3,n)::T):Ent W0 own ((b0,d)::(b1,g)::(b2,j)::(b3,n)::T):=h ▸ Ent.of_perm m.h
section
variable{α:Type}{enc:α->je}{sz:Nat}{W0:World}{own:Own}{a:j8}{l:List α}
theorem qny{T:TypeId}{bytes cap m:Nat}{zs:je}{D:Own}{C:Own->Own}{a2:j8}{l2:List α}{K:Value->Own->Prop}(y:qq enc T sz a cap l D)(t:At D own C)(H:RdE enc sz W0 own a2 l2)(hm:m=l2.length)
  (hs:0<sz) (X:∀x∈l2,(enc x).all q2r=true) (hroom:l.length+l2.length<=cap)
  (V:∀R,qq enc T sz a cap (l++l2) R->K (.slice a (l.length+l2.length) cap) (C R)):qc6 W0 own T sz bytes zs a l.length cap a2 m K:=by
 subst hm;have F:RdE enc sz W0 own a l:=(y.rd (W0:=W0)).ent t.self;have holds:∀{a:j8} {l:List α},RdE enc sz W0 own a l->Kn W0 own (Holds a (l.map enc).flatten):=fun{a l} h w hw ad d j v u=>by
  have M:=(z7.1 u).1;rw[q0j l h.wid] at M;have B:j/sz<l.length:=Nat.div_lt_of_lt_mul (by rwa[Nat.mul_comm]);have hj2:j % sz<sz:=yp _ hs;have n:l[j/sz]? =some l[j/sz]:=z6 B;have hwd:=h.wid _ (zh n);have G:(enc l[j/sz])[j % sz]? =some (enc l[j/sz])[j % sz]:=z6 Yb;have he:j/sz*sz+j % sz=j:=Nat.div_add_mod' j sz;have U:=q2E l h.wid n G;rw[he,u] at U;have hS:=h.isS (fun e=>by subst e;simp at B);rw[hS] at d;have d:=Option.some.inj d;rw[<-d,qN];have S:=h.cell n G w hw;have W:ao a+j/sz*sz+j % sz=ao a+j:=Yb;rw[W] at S;rw[S,U]
 have I:∀x∈l++l2,(enc x).length=sz:=fun x h=>(zw.1 h).elim (y.wid x) (H.wid x)
 refine⟨(l.map enc).flatten,(l2.map enc).flatten,q0j l y.wid,q0j l2 H.wid,fun e=>?_,fun e=>?_,fun v Q=>?_,holds F,holds H,fun g=>?_,fun L=>absurd L Yb⟩
 ·cases l with
  |nil=>rfl
  |cons x r=>have:=F.isS Yd;rw[e] at this;cases this
 ·cases l2 with
  |nil=>rfl
  |cons x r=>have:=H.isS Yd;rw[e] at this;cases this
 ·obtain⟨cs,J,Q⟩:=List.mem_flatten.1 Q;obtain⟨x,n,rfl⟩:=zO.1 J;exact Z7.1 (X x n) v Q
 ·rcases y.how with ⟨rfl,rfl,rfl⟩|⟨b,rest,rfl,rfl,hl,hle⟩
  ·have Y:l2= []:=by cases l2 with|nil=>rfl|cons x r=>simp at g
   subst Y;have Z:=t.same;refine⟨own,fun w hw=>⟨fun ad _=>⟨fun j u=>by simp at u,by simpa [q4J] using hw⟩,fun _=>hw⟩,?_⟩;have:=V [] qq.nil;rw[Z] at this;exact this
  ·have z:=q0j l y.wid;have s:=q0j l2 H.wid;have O:(l.length+l2.length)*sz<=cap*sz:=ZT _ g;rw[yN] at O;refine⟨C [(b,fun o=>o=Obj.cells (((l++l2).map enc).flatten++rest.drop (l2.length*sz)).toArray T)],fun w hw=>⟨fun ad d=>?_,fun e=>by cases e⟩,V _ ⟨I, .inr ⟨b,rest.drop (l2.length*sz),rfl,rfl,?_,by simpa using g⟩⟩⟩
   ·have d:=Option.some.inj d;subst d;have E:((l.map enc).flatten++rest).take (l.length*sz)++(l2.map enc).flatten++((l.map enc).flatten++rest).drop (l.length*sz+(l2.map enc).flatten.length)=((l++l2).map enc).flatten++rest.drop (l2.length*sz):=by
     rw[s,Zh Yb,ZB Yb,yE,ZN Yb,zj,z,Za,zv,zP]
    have hu:=t.up (q:=fun o=>o=Obj.cells (((l.map enc).flatten++rest).take (l.length*sz)++(l2.map enc).flatten++((l.map enc).flatten++rest).drop (l.length*sz+(l2.map enc).flatten.length)).toArray T);have N:=q47 (vs:=(l2.map enc).flatten) (off:=l.length*sz) hw hu (by rw[z8,z,s];omega);rw[E] at N;rw[qN,zy];refine⟨fun j u=>?_,N.2⟩;rw[qN];exact N.1 j u
   ·simp only[z8,ZM,yN];omega
theorem qla{own':Own}{T:TypeId}{bytes cap m:Nat}{zs:je}{D:Own}{C:Own->Own}{a2:j8}{l2:List α}{K:Value->Own->Prop}(j:qq enc T sz a cap l D)(q:RdE enc sz W0 own' a2 l2) [mm:AtC D own C] [s:qx own own'](hm:m=l2.length)
  (o:0<sz) (h:∀x∈l2,(enc x).all q2r=true) (d:l.length+l2.length<=cap)
  (n:∀g,qq enc T sz a cap (l++l2) g->K (.slice a (l.length+l2.length) cap) (C g)):qc6 W0 own T sz bytes zs a l.length cap a2 m K:=qny j mm.h (q.ent (s.h W0)) hm o h d n
end
section
variable{W0:World}{own own':Own}
abbrev Cl(W0:World)(own:Own)(b o:Nat)(v:Value):Prop:=Kn W0 own fun w=>w.cell? ⟨b,o,none⟩=some v
theorem ldK{b o:Nat}{v:Value}{K:Value->Prop}(h:Cl W0 own' b o v) [m:qx own own'](d:K v):Ld W0 own ⟨b,o,none⟩ K:=qm7 (h.ent (m.h W0)) d
theorem q0k{b o:Nat}{v:Value}{K:Value->Prop}(h:Cl W0 own' b o v) [m:qx own own'](d:K v):Ld W0 own ⟨b,0+o,none⟩ K:=by rw[zy];exact ldK h d
end
open Go
structure EH where
 ev:Int
 t:Int
 k:Int
 w:Int
 ra:j8
 rl:jd
 rc:Nat
 wa:j8
 wl:jd
 wc:Nat
abbrev EH.enc(e:EH):je:= [.int .i64 e.ev, .int .i64 e.t, .int .i64 e.k, .int .i64 e.w, .slice e.ra e.rl.length e.rc, .slice e.wa e.wl.length e.wc]
abbrev EH.v(e:EH):Value:= .agg #[.int .i64 e.ev, .int .i64 e.t, .int .i64 e.k, .int .i64 e.w, .slice e.ra e.rl.length e.rc, .slice e.wa e.wl.length e.wc]
def inW(x:Int):Bool:=decide (0<=x/\x<64)
end Go.Proofs.YtfnghamklcdgnaaGreatDoor
