/- What the laws share, part 1. No condition. -/
import Derived.WalkKit
namespace Go.Proofs.YtfnghamklcdgnaaGreatDoor
open Go
abbrev z6:=@List.getElem?_eq_getElem
abbrev z7:=@List.getElem?_eq_some_iff
abbrev z8:=@List.length_append
abbrev zd:=@List.append_assoc
abbrev zf:=@List.mem_singleton
abbrev zg:=@List.getD_eq_getElem?_getD
abbrev zh:=@List.mem_of_getElem?
abbrev zi:=@List.length_map
abbrev zj:=@List.nil_append
abbrev zk:=@List.cons_append
abbrev zl:=@Nat.zero_le
abbrev zm:=@List.length_set
abbrev zp:=@List.mem_cons_self
abbrev zq:=@List.mem_append_left
abbrev zr:=@List.mem_cons_of_mem
abbrev zu:=@List.length_cons
abbrev zv:=@List.map_append
abbrev zw:=@List.mem_append
abbrev zx:=@List.getElem?_set
abbrev zy:=@Nat.zero_add
abbrev zz:=@List.mem_append_right
abbrev zA:=@List.length_singleton
abbrev zB:=@List.getElem?_append_left
abbrev zC:=@List.append_nil
abbrev zD:=@List.length_replicate
abbrev zE:=@List.length_nil
abbrev zF:=@Int.toNat_natCast
abbrev zG:=@List.map_cons
abbrev zH:=@Bool.and_eq_true
abbrev zI:=@List.getElem?_map
abbrev zJ:=@List.getElem?_append_right
abbrev zK:=@Int.le_refl
abbrev zL:=@List.length_eq_zero_iff
abbrev zM:=@List.length_take
abbrev zN:=@Nat.le_refl
abbrev zO:=@List.mem_map
abbrev zP:=@List.flatten_append
abbrev zQ:=@List.toList_toArray
abbrev zR:=@List.getElem?_eq_none
abbrev zT:=@List.sublist_cons_self
abbrev zU:=@Nat.le_succ
abbrev zV:=@Bool.false_eq_true
abbrev zW:=@List.getElem?_mapIdx
abbrev zX:=@List.mem_cons
abbrev zY:=@List.take_add_one
abbrev zZ:=@Array.getD_eq_getD_getElem?
abbrev Z1:=@List.flatten_cons
abbrev Z2:=@List.perm_middle
abbrev Z3:=@List.take_length
abbrev Z4:=@List.perm_append_comm_assoc
abbrev Z5:=@Array.getElem?_toList
abbrev Z6:=@Option.getD_some
abbrev Z7:=@List.all_eq_true
abbrev Z8:=@List.ext_getElem?
abbrev Z9:=@List.getElem?_set_self
abbrev Za:=@Nat.add_sub_cancel_left
abbrev Zb:=@Int.eq_ofNat_of_zero_le
abbrev Zc:=@List.perm_append_comm
abbrev Zd:=@List.drop_eq_getElem_cons
abbrev Ze:=@List.mem_or_eq_of_mem_set
abbrev Zf:=@Option.map_eq_some_iff
abbrev Zg:=@Array.getElem?_eq_some_iff
abbrev Zh:=@List.take_append_of_le_length
abbrev Zi:=@List.getElem?_replicate
abbrev Zj:=@Int.toNat_of_nonneg
abbrev Zk:=@List.set_eq_take_append_cons_drop
abbrev Zl:=@List.sublist_append_right
abbrev Zm:=@Option.map_some
abbrev Zn:=@Nat.le_succ_of_le
abbrev Zo:=@Option.isSome_iff_exists
abbrev Zp:=@Option.isSome_none
abbrev Zq:=@Nat.le_trans
abbrev Zr:=@List.getElem?_cons_zero
abbrev Zs:=@Nat.lt_succ_self
abbrev Zt:=@List.eq_nil_of_length_eq_zero
abbrev Zu:=@Option.isSome_some
abbrev Zv:=@List.findIdx?_eq_some_iff_getElem
abbrev Zw:=@List.drop_length
abbrev Zx:=@List.map_nil
abbrev Zy:=@List.mem_of_mem_tail
abbrev Zz:=@List.append_of_mem
abbrev ZA:=@List.nodup_cons
abbrev ZB:=@List.take_of_length_le
abbrev ZC:=@Nat.sub_self
abbrev ZD:=@Option.isNone_iff_eq_none
abbrev ZE:=@Array.getElem?_eq_getElem
abbrev ZF:=@List.pairwise_iff_getElem
abbrev ZG:=@List.set_append_right
abbrev ZH:=@Nat.eq_of_beq_eq_true
abbrev ZI:=@Nat.add_zero
abbrev ZJ:=@Nat.succ_mul
abbrev ZK:=@Array.toList_inj
abbrev ZL:=@Nat.le_add_right
abbrev ZM:=@List.length_drop
abbrev ZN:=@List.drop_of_length_le
abbrev ZO:=@List.mem_filter
abbrev ZP:=@List.replicate_append_replicate
abbrev ZQ:=@List.findIdx?_eq_none_iff
abbrev ZR:=@Array.getElem?_modify
abbrev ZS:=@List.map_replicate
abbrev ZT:=@Nat.mul_le_mul_right
abbrev ZU:=@List.mem_map_of_mem
abbrev ZV:=@List.map_map
abbrev ZW:=@List.getElem_mem
abbrev ZX:=@Nat.shiftLeft_eq
abbrev ZY:=@List.mem_range
abbrev ZZ:=@Array.getElem?_append_left
abbrev ya:=@List.length_filter_le
abbrev yb:=@List.extract_eq_take_drop
abbrev yc:=@List.getElem_append_right
abbrev yd:=@Bool.or_eq_true
abbrev ye:=@Nat.pow_add
abbrev yf:=@Nat.add_assoc
abbrev yg:=@List.replicate_zero
abbrev yh:=@List.replicate_succ
abbrev yi:=@List.drop_succ_cons
abbrev yj:=@List.getElem_of_mem
abbrev yk:=@Option.getD_none
abbrev yl:=@Nat.le_mul_of_pos_right
abbrev ym:=@List.nodup_nil
abbrev yn:=@List.length_tail
abbrev yo:=@Nat.mul_one
abbrev yp:=@Nat.mod_lt
abbrev yq:=@List.filter_append
abbrev yr:=@List.set_set
abbrev yt:=@List.length_mapIdx
abbrev yu:=@List.set_getElem_self
abbrev yv:=@List.nodup_append
abbrev yw:=@Array.toList_extract
abbrev yx:=@List.drop_drop
abbrev yy:=@Array.toArray_toList
abbrev yz:=@List.mem_of_mem_take
abbrev yA:=@List.getElem?_of_mem
abbrev yB:=@List.getElem_toArray
abbrev yC:=@List.exists_cons_of_ne_nil
abbrev yD:=@List.flatten_nil
abbrev yE:=@List.drop_append
abbrev yF:=@Nat.succ_le_succ
abbrev yG:=@Int.natCast_mul
abbrev yH:=@Nat.min_eq_left
abbrev yI:=@List.mem_replicate
abbrev yJ:=@List.getElem?_drop
abbrev yK:=@Int.emod_lt_of_pos
abbrev yL:=@List.set_cons_zero
abbrev yM:=@Nat.lt_of_le_of_ne
abbrev yN:=@Nat.add_mul
abbrev yO:=@List.pairwise_singleton
abbrev yP:=@Nat.lt_or_ge
abbrev yQ:=@Array.getElem?_eq_none
abbrev yR:=@Nat.add_comm
abbrev yS:=@Bool.false_and
abbrev yT:=@List.take_zero
abbrev yU:=@List.take_append_drop
abbrev yV:=@Nat.mod_eq_of_lt
abbrev yW:=@List.any_eq_true
abbrev yX:=@Bool.false_or
abbrev yY:=@List.replicate_succ'
abbrev yZ:=@List.set_append_left
abbrev Y0:=@List.pairwise_append
abbrev Y1:=@Bool.or_eq_false_iff
abbrev Y2:=@Int.emod_nonneg
abbrev Y3:=@List.drop_set_of_lt
abbrev Y4:=@List.take_succ_cons
abbrev Y5:=@List.map_congr_left
abbrev Y6:=@List.map_set
abbrev Y7:=@List.getElem?_take
abbrev Y8:=@Nat.lt_of_lt_of_le
abbrev Y9:=@List.all_cons
abbrev Ya:=@Nat.beq_eq
theorem Yb{p:Prop}(h:p:=by omega):p:=h
theorem Yc{p:Prop}(h:p:=by decide):p:=h
theorem Yd{p:Prop}(h:p:=by simp):p:=h
abbrev Ye:=@inferInstance
theorem eN{p:Prop}(h:p:=by repeat(first|exact List.Mem.head _|apply List.Mem.tail|apply zz)):p:=h
theorem eM{p:Prop}(h:p:=by first|(solve|repeat(first|with_reducible exact zp|with_reducible(apply zq;exact zp)|with_reducible apply zr|with_reducible apply zz))|exact eN):p:=h
abbrev Fr:=Nat->Value
def upd(f:Fr)(d:Nat)(v:Value):Fr:=fun t=>bif Nat.beq t d then v else f t
def updO(f:Fr)(d:Option Nat)(v:Value):Fr:=match d with|some d=>upd f d v|none=>f
def ev(f:Fr):Operand->Value
 | .tmp t=>f t
 | .const v=>v
 | .global g=> .pointer (some ⟨g,0,none⟩)
 | .func k=> .func (.func k) #[] #[]
abbrev Own:=List (Nat×(Obj->Prop))
structure St(W0:World)(own:Own)(w:World):Prop where
 os:w.os=W0.os
 tape:w.tape=W0.tape
 output:w.output=W0.output
 size:W0.heap.size<=w.heap.size
 base:∀b,b<W0.heap.size->w.heap[b]? =W0.heap[b]?
 fresh:∀e∈own,W0.heap.size<=e.1
 owns:∀e∈own,∃o,w.heap[e.1]? =some o/\e.2 o
 nodup:(own.map (·.1)).Nodup
def Kn(W0:World)(own:Own)(φ:World->Prop):Prop:=∀w,St W0 own w->φ w
def Ent(W0:World)(own own':Own):Prop:=∀w,St W0 own w->St W0 own' w
theorem Ent.refl{W0:World}{own:Own}:Ent W0 own own:=fun _ h=>h
theorem Ent.trans{W0:World}{a b c:Own}(h:Ent W0 a b)(k:Ent W0 b c):Ent W0 a c:=fun w hw=>k w (h w hw)
theorem Kn.ent{W0:World}{own own':Own}{φ:World->Prop}(h:Kn W0 own φ)(e:Ent W0 own' own):Kn W0 own' φ:=fun w hw=>h w (e w hw)
theorem Ent.of_sub{W0:World}{own own':Own}(h:own'.Sublist own):Ent W0 own own':=fun _ s=>
 ⟨s.os,s.tape,s.output,s.size,s.base,fun e he=>s.fresh e (h.subset he),fun e he=>s.owns e (h.subset he),(h.map _).nodup s.nodup⟩
theorem Ent.of_perm{W0:World}{own own':Own}(h:own.Perm own'):Ent W0 own own':=fun _ s=>
 ⟨s.os,s.tape,s.output,s.size,s.base,fun e he=>s.fresh e (h.mem_iff.2 he),fun e he=>s.owns e (h.mem_iff.2 he),((h.map _).nodup_iff).1 s.nodup⟩
theorem Ent.drop{W0:World}{e:Nat×(Obj->Prop)}{own:Own}:Ent W0 (e::own) own:=Ent.of_sub (zT e own)
theorem Ent.cons{W0:World}{e:Nat×(Obj->Prop)}{own own':Own}(h:Ent W0 own own'):Ent W0 (e::own) own':=Ent.drop.trans h
theorem Ent.head{W0:World}{b:Nat}{p q:Obj->Prop}{own:Own}(h:∀o,p o->q o):Ent W0 ((b,p)::own) ((b,q)::own):=fun w s=>
 ⟨s.os,s.tape,s.output,s.size,s.base,fun e he=>by
  rcases zX.1 he with rfl|he
  ·exact s.fresh (b,p) zp
  ·exact s.fresh e (zr _ he),fun e he=>by
  rcases zX.1 he with rfl|he
  ·obtain⟨o,a,c⟩:=s.owns (b,p) zp;exact⟨o,a,h o c⟩
  ·exact s.owns e (zr _ he),s.nodup⟩
theorem St.mem_size{W0:World}{own:Own}{w:World}(s:St W0 own w){e:Nat×(Obj->Prop)}(he:e∈own):e.1<w.heap.size:=by
 obtain⟨o,a,_⟩:=s.owns e he;exact(Zg.1 a).1
theorem St.drawn{W0:World}{own:Own}{w:World}(s:St W0 own w)(n:Nat):St W0 own {w with drawn:=n}:=⟨s.os,s.tape,s.output,s.size,s.base,s.fresh,s.owns,s.nodup⟩
theorem St.push{W0:World}{own:Own}{w:World}(s:St W0 own w)(o:Obj){p:Obj->Prop}(d:p o):St W0 ((w.heap.size,p)::own) {w with heap:=w.heap.push o}:=by
 refine⟨s.os,s.tape,s.output,by simp;exact Zn s.size,fun b hb=>?_,fun e he=>?_,fun e he=>?_,?_⟩
 ·have:=s.size;rw[<-s.base b hb];simp only[Array.getElem?_push];rw[if_neg Yb]
 ·rcases zX.1 he with rfl|he
  ·exact s.size
  ·exact s.fresh e he
 ·rcases zX.1 he with rfl|he
  ·exact⟨o,Yd,d⟩
  ·obtain⟨g,a,c⟩:=s.owns e he;have:=s.mem_size he;refine⟨g,?_,c⟩;simp only[Array.getElem?_push];rw[if_neg Yb];exact a
 ·rw[zG,ZA];refine⟨fun hm=>?_,s.nodup⟩;obtain⟨x,f,he⟩:=zO.1 hm;have:=s.mem_size f;omega
inductive Up (b:Nat) (p q:Obj->Prop):Own->Own->Prop
 |head {r:Own}:Up b p q ((b,p)::r) ((b,q)::r)
 |tail {e:Nat×(Obj->Prop)} {r r':Own} (h:Up b p q r r'):Up b p q (e::r) (e::r')
theorem Up.keys{b:Nat}{p q:Obj->Prop}{own own':Own}(h:Up b p q own own'):own'.map (·.1)=own.map (·.1):=by
 induction h with
 |head=>rfl
 |tail _ a=>simp[a]
theorem Up.mem{b:Nat}{p q:Obj->Prop}{own own':Own}(h:Up b p q own own'):(b,p)∈own:=by
 induction h with
 |head=>exact zp
 |tail _ a=>exact zr _ a
theorem Up.mem'{b:Nat}{p q:Obj->Prop}{own own':Own}(h:Up b p q own own'):∀e∈own',e=(b,q)\/e∈own:=by
 induction h with
 |head=>intro e he;exact(zX.1 he).imp id (zr _)
 |tail _ a=>
  intro e he
  rcases zX.1 he with rfl|he
  ·exact .inr zp
  ·rcases a e he with h|h
   ·exact .inl h
   ·exact .inr (zr _ h)
theorem Up.other{b:Nat}{p q:Obj->Prop}{own own':Own}(h:Up b p q own own')(a:(own.map (·.1)).Nodup):∀e∈own',e=(b,q)\/(e∈own/\e.1≠b):=by
 induction h with
 |head=>
  intro e he
  rcases zX.1 he with rfl|he
  ·exact .inl rfl
  ·refine .inr ⟨zr _ he,fun hb=>?_⟩;rw[zG,ZA] at a;exact a.1 (zO.2 ⟨e,he,hb⟩)
 |tail h d=>
  intro e he;rw[zG,ZA] at a
  rcases zX.1 he with rfl|he
  ·refine .inr ⟨zp,fun hb=>a.1 (zO.2 ⟨_,h.mem,hb.symm⟩)⟩
  ·rcases d a.2 e he with h|⟨h,c⟩
   ·exact .inl h
   ·exact .inr ⟨zr _ h,c⟩
theorem St.up{W0:World}{own own':Own}{w f:World}{b:Nat}{p q:Obj->Prop}(s:St W0 own w)(hu:Up b p q own own')
  (i:f.os=w.os) (d:f.tape=w.tape) (g:f.output=w.output) (c:w.heap.size<=f.heap.size)
  (a:∀k,k<w.heap.size->k≠b->f.heap[k]? =w.heap[k]?) (hb:∃o,f.heap[b]? =some o/\q o):St W0 own' f:=by
 have j:=s.fresh _ hu.mem;refine⟨i.trans s.os,d.trans s.tape,g.trans s.output,Zq s.size c,fun k l=>?_,fun e he=>?_,fun e he=>?_,hu.keys ▸ s.nodup⟩
 ·have h1:b>=W0.heap.size:=j;have h2:=s.size;rw[a k Yb Yb,s.base k l]
 ·rcases hu.mem' e he with rfl|he
  ·exact j
  ·exact s.fresh e he
 ·rcases hu.other s.nodup e he with rfl|⟨he,h⟩
  ·exact hb
  ·obtain⟨o,m,n⟩:=s.owns e he;exact⟨o,(a _ (s.mem_size he) h).trans m,n⟩
end Go.Proofs.YtfnghamklcdgnaaGreatDoor
