/- What the laws share, part 1. No condition. -/
import Derived.WalkKit
namespace Go.Proofs.YtkieffpjjfebjaaGreatDoor
open Go
theorem eN{p:Prop}(h:p:=by repeat(first|exact List.Mem.head _|apply List.Mem.tail|apply List.mem_append_right)):p:=h
theorem eM{p:Prop}(h:p:=by first|(solve|repeat(first|with_reducible exact List.mem_cons_self|(with_reducible(apply List.mem_append_left;exact List.mem_cons_self))|with_reducible apply List.mem_cons_of_mem|with_reducible apply List.mem_append_right))|(exact eN)):p:=h
abbrev Fr:=Nat→Value
def upd(f:Fr)(d:Nat)(v:Value):Fr:=fun t=>bif Nat.beq t d then v else f t
def updO(f:Fr)(d:Option Nat)(v:Value):Fr:=match d with|some d=>upd f d v|none=>f
def ev(f:Fr):Operand→Value
 | .tmp t=>f t
 | .const v=>v
 | .global g=> .pointer (some ⟨g,0,none⟩)
 | .func k=> .func (.func k) #[] #[]
abbrev Own:=List (Nat×(Obj→Prop))
structure St(W0:World)(own:Own)(w:World):Prop where
 os:w.os=W0.os
 tape:w.tape=W0.tape
 output:w.output=W0.output
 size:W0.heap.size≤w.heap.size
 base:∀b,b<W0.heap.size→w.heap[b]? =W0.heap[b]?
 fresh:∀e∈own,W0.heap.size≤e.1
 owns:∀e∈own,∃o,w.heap[e.1]? =some o∧e.2 o
 nodup:(own.map (·.1)).Nodup
def Kn(W0:World)(own:Own)(φ:World→Prop):Prop:=∀w,St W0 own w→φ w
def Ent(W0:World)(own own':Own):Prop:=∀w,St W0 own w→St W0 own' w
theorem Ent.refl{W0:World}{own:Own}:Ent W0 own own:=fun _ h=>h
theorem Ent.trans{W0:World}{a b c:Own}(h:Ent W0 a b)(k:Ent W0 b c):Ent W0 a c:=fun w hw=>k w (h w hw)
theorem Kn.ent{W0:World}{own own':Own}{φ:World→Prop}(h:Kn W0 own φ)(e:Ent W0 own' own):Kn W0 own' φ:=fun w hw=>h w (e w hw)
theorem Ent.of_sub{W0:World}{own own':Own}(h:own'.Sublist own):Ent W0 own own':=fun _ s=>
 ⟨s.os,s.tape,s.output,s.size,s.base,fun e he=>s.fresh e (h.subset he),fun e he=>s.owns e (h.subset he),(h.map _).nodup s.nodup⟩
theorem Ent.of_perm{W0:World}{own own':Own}(h:own.Perm own'):Ent W0 own own':=fun _ s=>
 ⟨s.os,s.tape,s.output,s.size,s.base,fun e he=>s.fresh e (h.mem_iff.2 he),fun e he=>s.owns e (h.mem_iff.2 he),((h.map _).nodup_iff).1 s.nodup⟩
theorem Ent.drop{W0:World}{e:Nat×(Obj→Prop)}{own:Own}:Ent W0 (e::own) own:=Ent.of_sub (List.sublist_cons_self e own)
theorem Ent.cons{W0:World}{e:Nat×(Obj→Prop)}{own own':Own}(h:Ent W0 own own'):Ent W0 (e::own) own':=Ent.drop.trans h
theorem Ent.head{W0:World}{b:Nat}{p q:Obj→Prop}{own:Own}(h:∀o,p o→q o):Ent W0 ((b,p)::own) ((b,q)::own):=fun w s=>
 ⟨s.os,s.tape,s.output,s.size,s.base,fun e he=>by
  rcases List.mem_cons.1 he with rfl|he
  ·exact s.fresh (b,p) List.mem_cons_self
  ·exact s.fresh e (List.mem_cons_of_mem _ he),fun e he=>by
  rcases List.mem_cons.1 he with rfl|he
  ·obtain⟨o,ho,hp⟩:=s.owns (b,p) List.mem_cons_self
   exact⟨o,ho,h o hp⟩
  ·exact s.owns e (List.mem_cons_of_mem _ he),s.nodup⟩
theorem St.mem_size{W0:World}{own:Own}{w:World}(s:St W0 own w){e:Nat×(Obj→Prop)}(he:e∈own):e.1<w.heap.size:=by
 obtain⟨o,ho,_⟩:=s.owns e he
 exact(Array.getElem?_eq_some_iff.1 ho).1
theorem Ent.under{W0:World}{e:Nat×(Obj→Prop)}{own own':Own}(h:Ent W0 own own')(hk:∀w,St W0 own w→St W0 own' w→∀x∈own',x.1=e.1→∃y∈own,y.1=e.1):Ent W0 (e::own) (e::own'):=fun w s=>by
 have s1:=Ent.drop w s
 have s2:=h w s1
 refine⟨s.os,s.tape,s.output,s.size,s.base,fun x hx=> ?_,fun x hx=> ?_,?_⟩
 ·rcases List.mem_cons.1 hx with rfl|hx
  ·exact s.fresh _ List.mem_cons_self
  ·exact s2.fresh x hx
 ·rcases List.mem_cons.1 hx with rfl|hx
  ·exact s.owns _ List.mem_cons_self
  ·exact s2.owns x hx
 ·rw[List.map_cons,List.nodup_cons]
  refine⟨fun hm=> ?_,s2.nodup⟩
  obtain⟨x,hx,he⟩:=List.mem_map.1 hm
  obtain⟨y,hy,hye⟩:=hk w s1 s2 x hx he
  have:=s.nodup
  rw[List.map_cons,List.nodup_cons] at this
  exact this.1 (List.mem_map.2 ⟨y,hy,hye⟩)
theorem St.refl(W0:World):St W0 [] W0:=⟨rfl,rfl,rfl,Nat.le_refl _,fun _ _=>rfl,by simp,by simp,by simp⟩
theorem St.drawn{W0:World}{own:Own}{w:World}(s:St W0 own w)(n:Nat):St W0 own {w with drawn:=n}:=⟨s.os,s.tape,s.output,s.size,s.base,s.fresh,s.owns,s.nodup⟩
theorem St.push{W0:World}{own:Own}{w:World}(s:St W0 own w)(o:Obj){p:Obj→Prop}(hp:p o):St W0 ((w.heap.size,p)::own) {w with heap:=w.heap.push o}:=by
 refine⟨s.os,s.tape,s.output,by simp;exact Nat.le_succ_of_le s.size,fun b hb=> ?_,fun e he=> ?_,fun e he=> ?_,?_⟩
 ·have:=s.size
  rw[←s.base b hb]
  simp only[Array.getElem?_push]
  rw[if_neg (by omega)]
 ·rcases List.mem_cons.1 he with rfl|he
  ·exact s.size
  ·exact s.fresh e he
 ·rcases List.mem_cons.1 he with rfl|he
  ·exact⟨o,by simp,hp⟩
  ·obtain⟨o',ho',hp'⟩:=s.owns e he
   have:=s.mem_size he
   refine⟨o',?_,hp'⟩
   simp only[Array.getElem?_push]
   rw[if_neg (by omega)]
   exact ho'
 ·rw[List.map_cons,List.nodup_cons]
  refine⟨fun hm=> ?_,s.nodup⟩
  obtain⟨x,hx,he⟩:=List.mem_map.1 hm
  have:=s.mem_size hx
  omega
inductive Up (b:Nat) (p q:Obj→Prop):Own→Own→Prop
 |head {r:Own}:Up b p q ((b,p)::r) ((b,q)::r)
 |tail {e:Nat×(Obj→Prop)} {r r':Own} (h:Up b p q r r'):Up b p q (e::r) (e::r')
theorem Up.keys{b:Nat}{p q:Obj→Prop}{own own':Own}(h:Up b p q own own'):own'.map (·.1)=own.map (·.1):=by
 induction h with
 |head=>rfl
 |tail _ ih=>simp[ih]
theorem Up.mem{b:Nat}{p q:Obj→Prop}{own own':Own}(h:Up b p q own own'):(b,p)∈own:=by
 induction h with
 |head=>exact List.mem_cons_self
 |tail _ ih=>exact List.mem_cons_of_mem _ ih
theorem Up.mem'{b:Nat}{p q:Obj→Prop}{own own':Own}(h:Up b p q own own'):∀e∈own',e=(b,q)∨e∈own:=by
 induction h with
 |head=>intro e he;exact(List.mem_cons.1 he).imp id (List.mem_cons_of_mem _)
 |tail _ ih=>
  intro e he
  rcases List.mem_cons.1 he with rfl|he
  ·exact .inr List.mem_cons_self
  ·rcases ih e he with h|h
   ·exact .inl h
   ·exact .inr (List.mem_cons_of_mem _ h)
theorem Up.other{b:Nat}{p q:Obj→Prop}{own own':Own}(h:Up b p q own own')(hn:(own.map (·.1)).Nodup):∀e∈own',e=(b,q)∨(e∈own∧e.1≠b):=by
 induction h with
 |head=>
  intro e he
  rcases List.mem_cons.1 he with rfl|he
  ·exact .inl rfl
  ·refine .inr ⟨List.mem_cons_of_mem _ he,fun hb=> ?_⟩
   rw[List.map_cons,List.nodup_cons] at hn
   exact hn.1 (List.mem_map.2 ⟨e,he,hb⟩)
 |tail h ih=>
  intro e he
  rw[List.map_cons,List.nodup_cons] at hn
  rcases List.mem_cons.1 he with rfl|he
  ·refine .inr ⟨List.mem_cons_self,fun hb=>hn.1 (List.mem_map.2 ⟨_,h.mem,hb.symm⟩)⟩
  ·rcases ih hn.2 e he with h|⟨h,h'⟩
   ·exact .inl h
   ·exact .inr ⟨List.mem_cons_of_mem _ h,h'⟩
theorem St.up{W0:World}{own own':Own}{w w':World}{b:Nat}{p q:Obj→Prop}(s:St W0 own w)(hu:Up b p q own own')
  (hos:w'.os=w.os) (htape:w'.tape=w.tape) (hout:w'.output=w.output) (hsize:w.heap.size≤w'.heap.size)
  (hother:∀k,k<w.heap.size→k≠b→w'.heap[k]? =w.heap[k]?) (hb:∃o,w'.heap[b]? =some o∧q o):St W0 own' w':=by
 have hf:=s.fresh _ hu.mem
 refine⟨hos.trans s.os,htape.trans s.tape,hout.trans s.output,Nat.le_trans s.size hsize,fun k hk=> ?_,fun e he=> ?_,fun e he=> ?_,hu.keys ▸ s.nodup⟩
 ·have h1:b≥W0.heap.size:=hf
  have h2:=s.size
  rw[hother k (by omega) (by omega),s.base k hk]
 ·rcases hu.mem' e he with rfl|he
  ·exact hf
  ·exact s.fresh e he
 ·rcases hu.other s.nodup e he with rfl|⟨he,hne⟩
  ·exact hb
  ·obtain⟨o,ho,hp⟩:=s.owns e he
   exact⟨o,(hother _ (s.mem_size he) hne).trans ho,hp⟩
end Go.Proofs.YtkieffpjjfebjaaGreatDoor
