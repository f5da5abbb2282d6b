/- What the laws share, part 1. No condition. -/
import Derived.WalkKit
namespace Go.Proofs.YtikpjajangpdjaaGreatDoor
open Go
abbrev z6:=@List.getElem?_eq_getElem
abbrev z7:=@List.getElem?_eq_some_iff
abbrev z8:=@List.length_append
abbrev zd:=@List.append_assoc
abbrev zf:=@List.mem_singleton
abbrev zg:=@List.mem_of_getElem?
abbrev zh:=@List.getD_eq_getElem?_getD
abbrev zi:=@List.length_map
abbrev zj:=@List.mem_cons_self
abbrev zk:=@List.nil_append
abbrev zl:=@List.mem_cons_of_mem
abbrev zm:=@List.length_cons
abbrev zn:=@List.length_set
abbrev zp:=@List.cons_append
abbrev zq:=@Nat.le_refl
abbrev zu:=@Bool.and_eq_true
abbrev zv:=@Nat.zero_le
abbrev zx:=@List.getElem?_set
abbrev zy:=@List.mem_append
abbrev zz:=@List.append_nil
abbrev zA:=@Nat.zero_add
abbrev zB:=@List.map_append
abbrev zC:=@List.length_eq_zero_iff
abbrev zD:=@Int.toNat_natCast
abbrev zE:=@List.length_nil
abbrev zF:=@List.map_cons
abbrev zG:=@List.getElem?_append_left
abbrev zH:=@List.length_singleton
abbrev zI:=@List.getElem?_map
abbrev zJ:=@List.mem_append_right
abbrev zL:=@Bool.false_eq_true
abbrev zM:=@List.mem_map
abbrev zN:=@List.mem_cons
abbrev zO:=@List.length_replicate
abbrev zP:=@List.mem_append_left
abbrev zQ:=@List.length_take
abbrev zR:=@List.sublist_cons_self
abbrev zT:=@List.getElem?_append_right
abbrev zU:=@List.toList_toArray
abbrev zV:=@List.getElem?_eq_none
abbrev zW:=@Int.le_refl
abbrev zX:=@List.all_eq_true
abbrev zY:=@List.flatten_append
abbrev zZ:=@List.take_add_one
abbrev Z0:=@List.getElem?_set_self
abbrev Z1:=@Array.getD_eq_getD_getElem?
abbrev Z2:=@Int.toNat_of_nonneg
abbrev Z3:=@Nat.lt_succ_self
abbrev Z4:=@List.take_length
abbrev Z5:=@List.map_nil
abbrev Z6:=@List.findIdx?_eq_some_iff_getElem
abbrev Z7:=@Array.getElem?_toList
abbrev Z8:=@List.flatten_cons
abbrev Z9:=@List.mem_range
abbrev Za:=@Option.getD_some
abbrev Zb:=@Option.map_eq_some_iff
abbrev Zc:=@Nat.le_trans
abbrev Zd:=@Bool.or_eq_true
abbrev Ze:=@List.perm_append_comm_assoc
abbrev Zf:=@List.perm_middle
abbrev Zg:=@Array.getElem?_eq_some_iff
abbrev Zh:=@List.perm_append_comm
abbrev Zi:=@List.mem_map_of_mem
abbrev Zj:=@List.set_eq_take_append_cons_drop
abbrev Zk:=@List.mem_or_eq_of_mem_set
abbrev Zl:=@List.findIdx?_eq_none_iff
abbrev Zm:=@List.ext_getElem?
abbrev Zn:=@List.getElem?_of_mem
abbrev Zo:=@List.getElem?_cons_zero
abbrev Zp:=@Int.eq_ofNat_of_zero_le
abbrev Zq:=@List.eq_nil_of_length_eq_zero
abbrev Zr:=@List.pairwise_iff_getElem
abbrev Zs:=@List.drop_of_length_le
abbrev Zt:=@List.mem_filter
abbrev Zu:=@Option.map_some
abbrev Zv:=@Option.isSome_iff_exists
abbrev Zw:=@List.contains_iff_mem
abbrev Zx:=@Nat.add_sub_cancel_left
abbrev Zy:=@List.getElem?_replicate
abbrev Zz:=@List.getElem?_set_ne
abbrev ZA:=@List.getElem?_mapIdx
abbrev ZB:=@List.append_of_mem
abbrev ZC:=@List.drop_length
abbrev ZD:=@Option.isNone_iff_eq_none
abbrev ZE:=@Array.getElem?_eq_getElem
abbrev ZF:=@List.sublist_append_right
abbrev ZG:=@List.drop_eq_getElem_cons
abbrev ZH:=@Nat.le_succ_of_le
abbrev ZI:=@Nat.eq_of_beq_eq_true
abbrev ZJ:=@List.take_append_drop
abbrev ZK:=@Nat.succ_mul
abbrev ZL:=@Option.isSome_none
abbrev ZM:=@Array.toList_inj
abbrev ZN:=@List.length_drop
abbrev ZO:=@List.getElem_mem
abbrev ZP:=@List.mem_of_mem_tail
abbrev ZQ:=@List.range_succ
abbrev ZR:=@Array.getElem?_modify
abbrev ZS:=@List.set_append_right
abbrev ZT:=@Option.isSome_some
abbrev ZU:=@List.map_replicate
abbrev ZV:=@Nat.add_zero
abbrev ZW:=@Nat.mul_le_mul_right
abbrev ZX:=@List.take_append_of_le_length
abbrev ZY:=@List.replicate_succ
abbrev ZZ:=@List.getElem_of_mem
abbrev y0:=@List.take_of_length_le
abbrev y4:=@Nat.shiftLeft_eq
abbrev y5:=@Array.getElem?_append_left
abbrev y6:=@List.extract_eq_take_drop
abbrev y7:=@List.getElem_append_right
abbrev y8:=@List.exists_mem_of_ne_nil
abbrev y9:=@List.foldl_cons
abbrev ya:=@List.map_map
abbrev yb:=@Nat.pow_add
abbrev yc:=@List.set_set
abbrev yd:=@Nat.sub_self
abbrev ye:=@Nat.mod_lt
abbrev yf:=@List.drop_succ_cons
abbrev yg:=@List.flatMap_append
abbrev yh:=@Option.getD_none
abbrev yi:=@Bool.not_eq_true
abbrev yj:=@List.any_eq_true
abbrev yk:=@List.mem_flatMap
abbrev yl:=@List.pairwise_singleton
abbrev ym:=@List.length_tail
abbrev yn:=@List.filter_append
abbrev yo:=@List.getElem?_drop
abbrev yp:=@List.pairwise_cons
abbrev yq:=@Nat.lt_of_lt_of_le
abbrev yr:=@List.ne_nil_of_mem
abbrev yt:=@List.nodup_cons
abbrev yu:=@Nat.add_assoc
abbrev yv:=@List.findSome?_append
abbrev yw:=@List.set_getElem_self
abbrev yx:=@Bool.not_eq_true'
abbrev yy:=@List.any_eq_false
abbrev yz:=@Array.toList_extract
abbrev yA:=@List.drop_drop
abbrev yB:=@Array.toArray_toList
abbrev yC:=@List.mem_of_mem_take
abbrev yD:=@Nat.add_mul
abbrev yE:=@List.pairwise_append
abbrev yF:=@List.findSome?_eq_none_iff
abbrev yG:=@Nat.mul_one
abbrev yH:=@List.getElem_toArray
abbrev yI:=@List.exists_cons_of_ne_nil
abbrev yJ:=@Nat.lt_or_ge
abbrev yK:=@Nat.le_add_right
abbrev yL:=@List.filter_cons
abbrev yM:=@List.replicate_zero
abbrev yN:=@List.findSome?_cons
abbrev yO:=@List.map_congr_left
abbrev yP:=@Bool.false_or
abbrev yQ:=@Bool.eq_iff_iff
abbrev yR:=@Int.emod_lt_of_pos
abbrev yS:=@Nat.lt_of_le_of_ne
abbrev yT:=@Array.getElem?_eq_none
abbrev yU:=@Nat.add_comm
abbrev yV:=@Bool.false_and
abbrev yW:=@List.sum_replicate_nat
abbrev yX:=@List.flatMap_cons
abbrev yY:=@List.foldl_append
abbrev yZ:=@List.pairwise_lt_range
abbrev Y0:=@List.nodup_nil
abbrev Y1:=@Bool.and_false
abbrev Y2:=@Bool.eq_false_iff
abbrev Y3:=@List.length_filter_le
abbrev Y4:=@List.flatten_nil
abbrev Y5:=@List.drop_append
abbrev Y6:=@Bool.true_and
abbrev Y7:=@List.replicate_succ'
abbrev Y8:=@Nat.div_lt_of_lt_mul
abbrev Y9:=@List.set_append_left
abbrev Ya:=@List.mem_iff_getElem
abbrev Yb:=@Bool.or_eq_false_iff
abbrev Yc:=@Nat.le_succ
abbrev Yd:=@Int.natCast_mul
abbrev Ye:=@Nat.min_eq_left
abbrev Yf:=@Int.emod_nonneg
abbrev Yg:=@List.all_append
abbrev Yh:=@Nat.not_lt_zero
abbrev Yi:=@List.drop_set_of_lt
abbrev Yj:=@List.take_succ_cons
abbrev Yk:=@List.length_flatten
abbrev Yl:=@List.filter_eq_self
abbrev Ym:=@Nat.mul_comm
abbrev Yn:=@List.map_set
abbrev Yo:=@List.getElem?_take
abbrev Yp:=@List.take_zero
abbrev Yq:=@List.set_cons_zero
abbrev Yr:=@List.length_mapIdx
abbrev Ys:=@List.all_cons
abbrev Yt:=@Nat.beq_eq
theorem Yu{p:Prop}(h:p:=by omega):p:=h
theorem Yv{p:Prop}(h:p:=by decide):p:=h
theorem Yw{p:Prop}(h:p:=by simp):p:=h
abbrev Yx:=@inferInstance
theorem eN{p:Prop}(h:p:=by repeat(first|exact List.Mem.head _|apply List.Mem.tail|apply zJ)):p:=h
theorem eM{p:Prop}(h:p:=by first|(solve|repeat(first|with_reducible exact zj|with_reducible(apply zP;exact zj)|with_reducible apply zl|with_reducible apply zJ))|exact eN):p:=h
abbrev Fr:=Nat->Value
def upd(f:Fr)(d:Nat)(v:Value):Fr:=fun t=>bif Nat.beq t d then v else f t
def updO(f:Fr)(d:Option Nat)(v:Value):Fr:=match d with|some d=>upd f d v|none=>f
def ev(f:Fr):Operand->Value
 | .tmp t=>f t
 | .const v=>v
 | .global g=> .pointer (some ⟨g,0,none⟩)
 | .func k=> .func (.func k) #[] #[]
abbrev Own:=List (Nat×(Obj->Prop))
structure St(W0:World)(own:Own)(w:World):Prop where
 os:w.os=W0.os
 tape:w.tape=W0.tape
 output:w.output=W0.output
 size:W0.heap.size<=w.heap.size
 base:∀b,b<W0.heap.size->w.heap[b]? =W0.heap[b]?
 fresh:∀e∈own,W0.heap.size<=e.1
 owns:∀e∈own,∃o,w.heap[e.1]? =some o/\e.2 o
 nodup:(own.map (·.1)).Nodup
def Kn(W0:World)(own:Own)(φ:World->Prop):Prop:=∀w,St W0 own w->φ w
def Ent(W0:World)(own own':Own):Prop:=∀w,St W0 own w->St W0 own' w
theorem Ent.refl{W0:World}{own:Own}:Ent W0 own own:=fun _ h=>h
theorem Ent.trans{W0:World}{a b c:Own}(h:Ent W0 a b)(k:Ent W0 b c):Ent W0 a c:=fun w hw=>k w (h w hw)
theorem Kn.ent{W0:World}{own own':Own}{φ:World->Prop}(h:Kn W0 own φ)(e:Ent W0 own' own):Kn W0 own' φ:=fun w hw=>h w (e w hw)
theorem Ent.of_sub{W0:World}{own own':Own}(h:own'.Sublist own):Ent W0 own own':=fun _ s=>
 ⟨s.os,s.tape,s.output,s.size,s.base,fun e he=>s.fresh e (h.subset he),fun e he=>s.owns e (h.subset he),(h.map _).nodup s.nodup⟩
theorem Ent.of_perm{W0:World}{own own':Own}(h:own.Perm own'):Ent W0 own own':=fun _ s=>
 ⟨s.os,s.tape,s.output,s.size,s.base,fun e he=>s.fresh e (h.mem_iff.2 he),fun e he=>s.owns e (h.mem_iff.2 he),((h.map _).nodup_iff).1 s.nodup⟩
theorem Ent.drop{W0:World}{e:Nat×(Obj->Prop)}{own:Own}:Ent W0 (e::own) own:=Ent.of_sub (zR e own)
theorem Ent.cons{W0:World}{e:Nat×(Obj->Prop)}{own own':Own}(h:Ent W0 own own'):Ent W0 (e::own) own':=Ent.drop.trans h
theorem Ent.head{W0:World}{b:Nat}{p q:Obj->Prop}{own:Own}(h:∀o,p o->q o):Ent W0 ((b,p)::own) ((b,q)::own):=fun w s=>
 ⟨s.os,s.tape,s.output,s.size,s.base,fun e he=>by
  rcases zN.1 he with rfl|he
  ·exact s.fresh (b,p) zj
  ·exact s.fresh e (zl _ he),fun e he=>by
  rcases zN.1 he with rfl|he
  ·obtain⟨o,a,c⟩:=s.owns (b,p) zj;exact⟨o,a,h o c⟩
  ·exact s.owns e (zl _ he),s.nodup⟩
theorem St.mem_size{W0:World}{own:Own}{w:World}(s:St W0 own w){e:Nat×(Obj->Prop)}(he:e∈own):e.1<w.heap.size:=by
 obtain⟨o,a,_⟩:=s.owns e he;exact(Zg.1 a).1
theorem St.drawn{W0:World}{own:Own}{w:World}(s:St W0 own w)(n:Nat):St W0 own {w with drawn:=n}:=⟨s.os,s.tape,s.output,s.size,s.base,s.fresh,s.owns,s.nodup⟩
theorem St.push{W0:World}{own:Own}{w:World}(s:St W0 own w)(o:Obj){p:Obj->Prop}(d:p o):St W0 ((w.heap.size,p)::own) {w with heap:=w.heap.push o}:=by
 refine⟨s.os,s.tape,s.output,by simp;exact ZH s.size,fun b hb=>?_,fun e he=>?_,fun e he=>?_,?_⟩
 ·have:=s.size;rw[<-s.base b hb];simp only[Array.getElem?_push];rw[if_neg Yu]
 ·rcases zN.1 he with rfl|he
  ·exact s.size
  ·exact s.fresh e he
 ·rcases zN.1 he with rfl|he
  ·exact⟨o,Yw,d⟩
  ·obtain⟨g,a,c⟩:=s.owns e he;have:=s.mem_size he;refine⟨g,?_,c⟩;simp only[Array.getElem?_push];rw[if_neg Yu];exact a
 ·rw[zF,yt];refine⟨fun hm=>?_,s.nodup⟩;obtain⟨x,f,he⟩:=zM.1 hm;have:=s.mem_size f;omega
inductive Up (b:Nat) (p q:Obj->Prop):Own->Own->Prop
 |head {r:Own}:Up b p q ((b,p)::r) ((b,q)::r)
 |tail {e:Nat×(Obj->Prop)} {r r':Own} (h:Up b p q r r'):Up b p q (e::r) (e::r')
theorem Up.keys{b:Nat}{p q:Obj->Prop}{own own':Own}(h:Up b p q own own'):own'.map (·.1)=own.map (·.1):=by
 induction h with
 |head=>rfl
 |tail _ a=>simp[a]
theorem Up.mem{b:Nat}{p q:Obj->Prop}{own own':Own}(h:Up b p q own own'):(b,p)∈own:=by
 induction h with
 |head=>exact zj
 |tail _ a=>exact zl _ a
theorem Up.mem'{b:Nat}{p q:Obj->Prop}{own own':Own}(h:Up b p q own own'):∀e∈own',e=(b,q)\/e∈own:=by
 induction h with
 |head=>intro e he;exact(zN.1 he).imp id (zl _)
 |tail _ a=>
  intro e he
  rcases zN.1 he with rfl|he
  ·exact .inr zj
  ·rcases a e he with h|h
   ·exact .inl h
   ·exact .inr (zl _ h)
theorem Up.other{b:Nat}{p q:Obj->Prop}{own own':Own}(h:Up b p q own own')(a:(own.map (·.1)).Nodup):∀e∈own',e=(b,q)\/(e∈own/\e.1≠b):=by
 induction h with
 |head=>
  intro e he
  rcases zN.1 he with rfl|he
  ·exact .inl rfl
  ·refine .inr ⟨zl _ he,fun hb=>?_⟩;rw[zF,yt] at a;exact a.1 (zM.2 ⟨e,he,hb⟩)
 |tail h d=>
  intro e he;rw[zF,yt] at a
  rcases zN.1 he with rfl|he
  ·refine .inr ⟨zj,fun hb=>a.1 (zM.2 ⟨_,h.mem,hb.symm⟩)⟩
  ·rcases d a.2 e he with h|⟨h,c⟩
   ·exact .inl h
   ·exact .inr ⟨zl _ h,c⟩
theorem St.up{W0:World}{own own':Own}{w f:World}{b:Nat}{p q:Obj->Prop}(s:St W0 own w)(hu:Up b p q own own')
  (i:f.os=w.os) (d:f.tape=w.tape) (g:f.output=w.output) (c:w.heap.size<=f.heap.size)
  (a:∀k,k<w.heap.size->k≠b->f.heap[k]? =w.heap[k]?) (hb:∃o,f.heap[b]? =some o/\q o):St W0 own' f:=by
 have j:=s.fresh _ hu.mem;refine⟨i.trans s.os,d.trans s.tape,g.trans s.output,Zc s.size c,fun k l=>?_,fun e he=>?_,fun e he=>?_,hu.keys ▸ s.nodup⟩
 ·have h1:b>=W0.heap.size:=j;have h2:=s.size;rw[a k Yu Yu,s.base k l]
 ·rcases hu.mem' e he with rfl|he
  ·exact j
  ·exact s.fresh e he
 ·rcases hu.other s.nodup e he with rfl|⟨he,h⟩
  ·exact hb
  ·obtain⟨o,m,n⟩:=s.owns e he;exact⟨o,(a _ (s.mem_size he) h).trans m,n⟩
end Go.Proofs.YtikpjajangpdjaaGreatDoor
