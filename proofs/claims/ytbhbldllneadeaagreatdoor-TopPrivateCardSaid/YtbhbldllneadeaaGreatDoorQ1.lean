/- What the laws share, part 1. No condition. -/
import Derived.WalkKit
namespace Go.Proofs.YtbhbldllneadeaaGreatDoor
open Go
abbrev z6:=@List.getElem?_eq_getElem
abbrev z7:=@List.getElem?_eq_some_iff
abbrev z8:=@List.length_append
abbrev zd:=@List.append_assoc
abbrev zf:=@List.mem_singleton
abbrev zg:=@List.mem_of_getElem?
abbrev zh:=@List.getD_eq_getElem?_getD
abbrev zi:=@List.nil_append
abbrev zj:=@List.length_set
abbrev zk:=@List.length_map
abbrev zl:=@List.cons_append
abbrev zm:=@List.mem_cons_self
abbrev zp:=@List.mem_cons_of_mem
abbrev zq:=@Nat.zero_le
abbrev zu:=@Nat.le_refl
abbrev zv:=@List.getElem?_set
abbrev zx:=@Bool.and_eq_true
abbrev zy:=@List.getElem?_append_left
abbrev zz:=@List.mem_append
abbrev zA:=@List.length_eq_zero_iff
abbrev zB:=@Int.toNat_natCast
abbrev zC:=@List.append_nil
abbrev zD:=@Nat.zero_add
abbrev zE:=@List.length_singleton
abbrev zF:=@List.map_cons
abbrev zG:=@List.length_cons
abbrev zH:=@List.map_append
abbrev zI:=@List.getElem?_map
abbrev zJ:=@List.length_replicate
abbrev zK:=@List.mem_map
abbrev zL:=@List.toList_toArray
abbrev zM:=@List.length_nil
abbrev zN:=@List.mem_append_left
abbrev zO:=@Bool.false_eq_true
abbrev zP:=@List.getElem?_append_right
abbrev zQ:=@List.mem_cons
abbrev zR:=@List.mem_append_right
abbrev zT:=@List.sublist_cons_self
abbrev zU:=@List.length_take
abbrev zV:=@Array.getD_eq_getD_getElem?
abbrev zW:=@Int.le_refl
abbrev zX:=@List.getElem?_eq_none
abbrev zY:=@List.flatten_append
abbrev zZ:=@List.take_add_one
abbrev Z0:=@Int.eq_ofNat_of_zero_le
abbrev Z1:=@Array.getElem?_toList
abbrev Z2:=@List.flatten_cons
abbrev Z3:=@Option.getD_some
abbrev Z4:=@List.take_length
abbrev Z5:=@List.perm_append_comm
abbrev Z6:=@Int.toNat_of_nonneg
abbrev Z7:=@List.all_eq_true
abbrev Z8:=@Nat.lt_succ_self
abbrev Z9:=@List.eq_nil_of_length_eq_zero
abbrev Za:=@List.set_eq_take_append_cons_drop
abbrev Zb:=@List.perm_middle
abbrev Zc:=@Option.map_eq_some_iff
abbrev Zd:=@List.mem_range
abbrev Ze:=@List.getElem?_set_self
abbrev Zf:=@List.ext_getElem?
abbrev Zg:=@List.mem_of_mem_tail
abbrev Zh:=@List.mem_or_eq_of_mem_set
abbrev Zi:=@List.map_nil
abbrev Zj:=@List.findIdx?_eq_some_iff_getElem
abbrev Zk:=@Option.isSome_iff_exists
abbrev Zl:=@Nat.le_trans
abbrev Zm:=@List.perm_append_comm_assoc
abbrev Zn:=@Nat.add_sub_cancel_left
abbrev Zo:=@Array.getElem?_eq_some_iff
abbrev Zp:=@List.getElem?_mapIdx
abbrev Zq:=@Option.isNone_iff_eq_none
abbrev Zr:=@List.pairwise_iff_getElem
abbrev Zs:=@Nat.le_succ_of_le
abbrev Zt:=@Nat.eq_of_beq_eq_true
abbrev Zu:=@Option.map_some
abbrev Zv:=@Option.isSome_none
abbrev Zw:=@List.getElem?_cons_zero
abbrev Zx:=@Array.toList_inj
abbrev Zy:=@Nat.add_zero
abbrev Zz:=@Nat.succ_mul
abbrev ZA:=@List.drop_of_length_le
abbrev ZB:=@Bool.or_eq_true
abbrev ZC:=@Array.getElem?_eq_getElem
abbrev ZD:=@List.sublist_append_right
abbrev ZE:=@List.drop_eq_getElem_cons
abbrev ZF:=@List.findIdx?_eq_none_iff
abbrev ZG:=@Array.getElem?_modify
abbrev ZH:=@List.set_append_right
abbrev ZI:=@Option.isSome_some
abbrev ZJ:=@List.length_drop
abbrev ZK:=@Nat.mul_le_mul_right
abbrev ZL:=@List.take_append_of_le_length
abbrev ZM:=@List.getElem?_replicate
abbrev ZN:=@List.nodup_cons
abbrev ZO:=@List.getElem_of_mem
abbrev ZP:=@Nat.shiftLeft_eq
abbrev ZQ:=@List.drop_length
abbrev ZR:=@List.map_replicate
abbrev ZS:=@List.append_of_mem
abbrev ZT:=@Array.getElem?_append_left
abbrev ZU:=@List.contains_iff_mem
abbrev ZV:=@List.extract_eq_take_drop
abbrev ZW:=@List.getElem_append_right
abbrev ZX:=@List.range_succ
abbrev ZY:=@List.getElem?_of_mem
abbrev ZZ:=@Nat.pow_add
abbrev y0:=@Nat.sub_self
abbrev y1:=@List.drop_succ_cons
abbrev y2:=@List.mem_map_of_mem
abbrev y4:=@Option.getD_none
abbrev y5:=@Nat.le_add_right
abbrev y6:=@Bool.not_eq_true
abbrev y7:=@List.mem_flatMap
abbrev y8:=@List.length_tail
abbrev y9:=@Nat.le_succ
abbrev ya:=@Nat.mod_lt
abbrev yb:=@List.take_of_length_le
abbrev yc:=@List.set_set
abbrev yd:=@Nat.add_assoc
abbrev ye:=@List.take_append_drop
abbrev yf:=@List.findSome?_append
abbrev yg:=@Bool.not_eq_true'
abbrev yh:=@Array.toList_extract
abbrev yi:=@Array.toArray_toList
abbrev yj:=@List.mem_of_mem_take
abbrev yk:=@List.findSome?_eq_none_iff
abbrev yl:=@Nat.mul_one
abbrev ym:=@List.getElem_toArray
abbrev yn:=@Nat.lt_or_ge
abbrev yo:=@List.getElem_mem
abbrev yp:=@List.exists_mem_of_ne_nil
abbrev yq:=@List.replicate_zero
abbrev yr:=@List.replicate_succ
abbrev yt:=@List.findSome?_cons
abbrev yu:=@List.mem_filter
abbrev yv:=@List.filter_append
abbrev yw:=@List.getElem?_drop
abbrev yx:=@List.pairwise_cons
abbrev yy:=@Nat.lt_of_le_of_ne
abbrev yz:=@Nat.add_mul
abbrev yA:=@List.pairwise_singleton
abbrev yB:=@Array.getElem?_eq_none
abbrev yC:=@Nat.add_comm
abbrev yD:=@List.drop_drop
abbrev yE:=@List.map_map
abbrev yF:=@List.flatMap_cons
abbrev yG:=@List.pairwise_lt_range
abbrev yH:=@List.set_getElem_self
abbrev yI:=@List.length_filter_le
abbrev yJ:=@List.flatten_nil
abbrev yK:=@List.drop_append
abbrev yL:=@List.any_eq_true
abbrev yM:=@Bool.true_and
abbrev yN:=@Bool.false_or
abbrev yO:=@List.replicate_succ'
abbrev yP:=@List.set_append_left
abbrev yQ:=@Bool.or_eq_false_iff
abbrev yR:=@Int.natCast_mul
abbrev yS:=@Nat.min_eq_left
abbrev yT:=@List.drop_set_of_lt
abbrev yU:=@List.take_succ_cons
abbrev yV:=@List.flatMap_append
abbrev yW:=@List.map_set
abbrev yX:=@Bool.false_and
abbrev yY:=@List.getElem?_take
abbrev yZ:=@List.take_zero
abbrev Y0:=@Nat.lt_of_lt_of_le
abbrev Y1:=@List.set_cons_zero
abbrev Y2:=@List.length_mapIdx
abbrev Y3:=@Int.emod_lt_of_pos
abbrev Y4:=@Bool.and_false
abbrev Y5:=@Nat.beq_eq
theorem Y6{p:Prop}(h:p:=by omega):p:=h
theorem Y7{p:Prop}(h:p:=by decide):p:=h
theorem Y8{p:Prop}(h:p:=by simp):p:=h
abbrev Y9:=@inferInstance
theorem eM{p:Prop}(h:p:=by first|(solve|repeat(first|with_reducible exact zm|(with_reducible(apply zN;exact zm))|with_reducible apply zp|with_reducible apply zR))|(repeat(first|exact List.Mem.head _|apply List.Mem.tail|apply zR))):p:=h
abbrev Fr:=Nat→Value
def upd(f:Fr)(d:Nat)(v:Value):Fr:=fun t=>bif Nat.beq t d then v else f t
def updO(f:Fr)(d:Option Nat)(v:Value):Fr:=match d with|some d=>upd f d v|none=>f
def ev(f:Fr):Operand→Value
 | .tmp t=>f t
 | .const v=>v
 | .global g=> .pointer (some ⟨g,0,none⟩)
 | .func k=> .func (.func k) #[] #[]
abbrev Own:=List (Nat×(Obj→Prop))
structure St(W0:World)(own:Own)(w:World):Prop where
 os:w.os=W0.os
 tape:w.tape=W0.tape
 output:w.output=W0.output
 size:W0.heap.size≤w.heap.size
 base:∀b,b<W0.heap.size→w.heap[b]? =W0.heap[b]?
 fresh:∀e∈own,W0.heap.size≤e.1
 owns:∀e∈own,∃o,w.heap[e.1]? =some o∧e.2 o
 nodup:(own.map (·.1)).Nodup
def Kn(W0:World)(own:Own)(φ:World→Prop):Prop:=∀w,St W0 own w→φ w
def Ent(W0:World)(own own':Own):Prop:=∀w,St W0 own w→St W0 own' w
theorem Ent.refl{W0:World}{own:Own}:Ent W0 own own:=fun _ h=>h
theorem Ent.trans{W0:World}{a b c:Own}(h:Ent W0 a b)(k:Ent W0 b c):Ent W0 a c:=fun w hw=>k w (h w hw)
theorem Kn.ent{W0:World}{own own':Own}{φ:World→Prop}(h:Kn W0 own φ)(e:Ent W0 own' own):Kn W0 own' φ:=fun w hw=>h w (e w hw)
theorem Ent.of_sub{W0:World}{own own':Own}(h:own'.Sublist own):Ent W0 own own':=fun _ s=>
 ⟨s.os,s.tape,s.output,s.size,s.base,fun e he=>s.fresh e (h.subset he),fun e he=>s.owns e (h.subset he),(h.map _).nodup s.nodup⟩
theorem Ent.of_perm{W0:World}{own own':Own}(h:own.Perm own'):Ent W0 own own':=fun _ s=>
 ⟨s.os,s.tape,s.output,s.size,s.base,fun e he=>s.fresh e (h.mem_iff.2 he),fun e he=>s.owns e (h.mem_iff.2 he),((h.map _).nodup_iff).1 s.nodup⟩
theorem Ent.drop{W0:World}{e:Nat×(Obj→Prop)}{own:Own}:Ent W0 (e::own) own:=Ent.of_sub (zT e own)
theorem Ent.cons{W0:World}{e:Nat×(Obj→Prop)}{own own':Own}(h:Ent W0 own own'):Ent W0 (e::own) own':=Ent.drop.trans h
theorem Ent.head{W0:World}{b:Nat}{p q:Obj→Prop}{own:Own}(h:∀o,p o→q o):Ent W0 ((b,p)::own) ((b,q)::own):=fun w s=>
 ⟨s.os,s.tape,s.output,s.size,s.base,fun e he=>by
  rcases zQ.1 he with rfl|he
  ·exact s.fresh (b,p) zm
  ·exact s.fresh e (zp _ he),fun e he=>by
  rcases zQ.1 he with rfl|he
  ·obtain⟨o,ho,hp⟩:=s.owns (b,p) zm;exact⟨o,ho,h o hp⟩
  ·exact s.owns e (zp _ he),s.nodup⟩
theorem St.mem_size{W0:World}{own:Own}{w:World}(s:St W0 own w){e:Nat×(Obj→Prop)}(he:e∈own):e.1<w.heap.size:=by
 obtain⟨o,ho,_⟩:=s.owns e he;exact(Zo.1 ho).1
theorem Ent.under{W0:World}{e:Nat×(Obj→Prop)}{own own':Own}(h:Ent W0 own own')(hk:∀w,St W0 own w→St W0 own' w→∀x∈own',x.1=e.1→∃y∈own,y.1=e.1):Ent W0 (e::own) (e::own'):=fun w s=>by
 have s1:=Ent.drop w s;have s2:=h w s1;refine⟨s.os,s.tape,s.output,s.size,s.base,fun x hx=> ?_,fun x hx=> ?_,?_⟩
 ·rcases zQ.1 hx with rfl|hx
  ·exact s.fresh _ zm
  ·exact s2.fresh x hx
 ·rcases zQ.1 hx with rfl|hx
  ·exact s.owns _ zm
  ·exact s2.owns x hx
 ·rw[zF,ZN];refine⟨fun hm=> ?_,s2.nodup⟩;obtain⟨x,hx,he⟩:=zK.1 hm;obtain⟨y,hy,hye⟩:=hk w s1 s2 x hx he;have:=s.nodup;rw[zF,ZN] at this;exact this.1 (zK.2 ⟨y,hy,hye⟩)
theorem St.refl(W0:World):St W0 [] W0:=⟨rfl,rfl,rfl,zu _,fun _ _=>rfl,Y8,Y8,Y8⟩
theorem St.drawn{W0:World}{own:Own}{w:World}(s:St W0 own w)(n:Nat):St W0 own {w with drawn:=n}:=⟨s.os,s.tape,s.output,s.size,s.base,s.fresh,s.owns,s.nodup⟩
theorem St.push{W0:World}{own:Own}{w:World}(s:St W0 own w)(o:Obj){p:Obj→Prop}(hp:p o):St W0 ((w.heap.size,p)::own) {w with heap:=w.heap.push o}:=by
 refine⟨s.os,s.tape,s.output,by simp;exact Zs s.size,fun b hb=> ?_,fun e he=> ?_,fun e he=> ?_,?_⟩
 ·have:=s.size;rw[←s.base b hb];simp only[Array.getElem?_push];rw[if_neg Y6]
 ·rcases zQ.1 he with rfl|he
  ·exact s.size
  ·exact s.fresh e he
 ·rcases zQ.1 he with rfl|he
  ·exact⟨o,Y8,hp⟩
  ·obtain⟨o',ho',hp'⟩:=s.owns e he;have:=s.mem_size he;refine⟨o',?_,hp'⟩;simp only[Array.getElem?_push];rw[if_neg Y6];exact ho'
 ·rw[zF,ZN];refine⟨fun hm=> ?_,s.nodup⟩;obtain⟨x,hx,he⟩:=zK.1 hm;have:=s.mem_size hx;omega
inductive Up (b:Nat) (p q:Obj→Prop):Own→Own→Prop
 |head {r:Own}:Up b p q ((b,p)::r) ((b,q)::r)
 |tail {e:Nat×(Obj→Prop)} {r r':Own} (h:Up b p q r r'):Up b p q (e::r) (e::r')
theorem Up.keys{b:Nat}{p q:Obj→Prop}{own own':Own}(h:Up b p q own own'):own'.map (·.1)=own.map (·.1):=by
 induction h with
 |head=>rfl
 |tail _ ih=>simp[ih]
theorem Up.mem{b:Nat}{p q:Obj→Prop}{own own':Own}(h:Up b p q own own'):(b,p)∈own:=by
 induction h with
 |head=>exact zm
 |tail _ ih=>exact zp _ ih
theorem Up.mem'{b:Nat}{p q:Obj→Prop}{own own':Own}(h:Up b p q own own'):∀e∈own',e=(b,q)∨e∈own:=by
 induction h with
 |head=>intro e he;exact(zQ.1 he).imp id (zp _)
 |tail _ ih=>
  intro e he
  rcases zQ.1 he with rfl|he
  ·exact .inr zm
  ·rcases ih e he with h|h
   ·exact .inl h
   ·exact .inr (zp _ h)
theorem Up.other{b:Nat}{p q:Obj→Prop}{own own':Own}(h:Up b p q own own')(hn:(own.map (·.1)).Nodup):∀e∈own',e=(b,q)∨(e∈own∧e.1≠b):=by
 induction h with
 |head=>
  intro e he
  rcases zQ.1 he with rfl|he
  ·exact .inl rfl
  ·refine .inr ⟨zp _ he,fun hb=> ?_⟩;rw[zF,ZN] at hn;exact hn.1 (zK.2 ⟨e,he,hb⟩)
 |tail h ih=>
  intro e he;rw[zF,ZN] at hn
  rcases zQ.1 he with rfl|he
  ·refine .inr ⟨zm,fun hb=>hn.1 (zK.2 ⟨_,h.mem,hb.symm⟩)⟩
  ·rcases ih hn.2 e he with h|⟨h,h'⟩
   ·exact .inl h
   ·exact .inr ⟨zp _ h,h'⟩
theorem St.up{W0:World}{own own':Own}{w w':World}{b:Nat}{p q:Obj→Prop}(s:St W0 own w)(hu:Up b p q own own')
  (hos:w'.os=w.os) (htape:w'.tape=w.tape) (hout:w'.output=w.output) (hsize:w.heap.size≤w'.heap.size)
  (hother:∀k,k<w.heap.size→k≠b→w'.heap[k]? =w.heap[k]?) (hb:∃o,w'.heap[b]? =some o∧q o):St W0 own' w':=by
 have hf:=s.fresh _ hu.mem;refine⟨hos.trans s.os,htape.trans s.tape,hout.trans s.output,Zl s.size hsize,fun k hk=> ?_,fun e he=> ?_,fun e he=> ?_,hu.keys ▸ s.nodup⟩
 ·have h1:b≥W0.heap.size:=hf;have h2:=s.size;rw[hother k Y6 Y6,s.base k hk]
 ·rcases hu.mem' e he with rfl|he
  ·exact hf
  ·exact s.fresh e he
 ·rcases hu.other s.nodup e he with rfl|⟨he,hne⟩
  ·exact hb
  ·obtain⟨o,ho,hp⟩:=s.owns e he;exact⟨o,(hother _ (s.mem_size he) hne).trans ho,hp⟩
end Go.Proofs.YtbhbldllneadeaaGreatDoor
