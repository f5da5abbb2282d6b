/- What the laws share, part 25. No condition. -/
import Derived.Shelf.Sort.Plain
import Derived.Shelf.Slices.In.SortNone
import Derived.Shelf.Slices.CompactI
import Derived.Ground.Names2Prog
import Derived.Test.YtkieffpjjfebjaaGreatDoorProg
import Derived.Test.YtkieffpjjfebjaaGreatDoorZ24
set_option maxHeartbeats 4000000
set_option maxRecDepth 10000
namespace Go.Proofs.YtkieffpjjfebjaaGreatDoor
namespace Ord
open Go Go.Shelf
def qc6:Go.Shelf.Ren:=⟨fun|189=>116|125=>143|257=>142|128=>172|129=>173|294=>163|295=>164|296=>165|297=>166|298=>167|299=>168|216=>169|300=>170|301=>171|328=>188|329=>189|330=>190|331=>191|332=>192|215=>193|343=>202|n=>n,fun|28=>23|3=>3|46=>72|0=>0|51=>231|53=>58|4=>4|183=>225|182=>224|131=>167|5=>5|9=>9|218=>241|222=>245|228=>249|229=>170|n=>n,fun|n=>n⟩
theorem qgo:Go.Proofs.Lays.n189 Tryz.prog qc6:={
 mixed:=by kernel_rfl
 f125:=Tryz.func143.trans (congrArg some (by kernel_rfl))
 f128:=Tryz.func172.trans (congrArg some (by kernel_rfl))
 f129:=Tryz.func173.trans (congrArg some (by kernel_rfl))
 f189:=Tryz.func116.trans (congrArg some (by kernel_rfl))
 f215:=Tryz.func193.trans (congrArg some (by kernel_rfl))
 f216:=Tryz.func169.trans (congrArg some (by kernel_rfl))
 f257:=Tryz.func142.trans (congrArg some (by kernel_rfl))
 f294:=Tryz.func163.trans (congrArg some (by kernel_rfl))
 f295:=Tryz.func164.trans (congrArg some (by kernel_rfl))
 f296:=Tryz.func165.trans (congrArg some (by kernel_rfl))
 f297:=Tryz.func166.trans (congrArg some (by kernel_rfl))
 f298:=Tryz.func167.trans (congrArg some (by kernel_rfl))
 f299:=Tryz.func168.trans (congrArg some (by kernel_rfl))
 f300:=Tryz.func170.trans (congrArg some (by kernel_rfl))
 f301:=Tryz.func171.trans (congrArg some (by kernel_rfl))
 f328:=Tryz.func188.trans (congrArg some (by kernel_rfl))
 f329:=Tryz.func189.trans (congrArg some (by kernel_rfl))
 f330:=Tryz.func190.trans (congrArg some (by kernel_rfl))
 f331:=Tryz.func191.trans (congrArg some (by kernel_rfl))
 f332:=Tryz.func192.trans (congrArg some (by kernel_rfl))
 f343:=Tryz.func202.trans (congrArg some (by kernel_rfl))
 t0:=Tryz.underlying0
 a0:=Tryz.isAgg0
 z0:=Tryz.sizeOf0
 v0:=Tryz.zeroValue0
 t3:=Tryz.underlying3
 a3:=Tryz.isAgg3
 z3:=Tryz.sizeOf3
 v3:=Tryz.zeroValue3
 t4:=Tryz.underlying4
 a4:=Tryz.isAgg4
 z4:=Tryz.sizeOf4
 v4:=Tryz.zeroValue4
 t5:=Tryz.underlying5
 a5:=Tryz.isAgg5
 z5:=Tryz.sizeOf5
 v5:=Tryz.zeroValue5
 t9:=Tryz.underlying9
 a9:=Tryz.isAgg9
 z9:=Tryz.sizeOf9
 v9:=Tryz.zeroValue9
 t28:=Tryz.underlying23
 a28:=Tryz.isAgg23
 z28:=Tryz.sizeOf23
 v28:=Tryz.zeroValue23
 t46:=Tryz.underlying72
 a46:=Tryz.isAgg72
 z46:=Tryz.sizeOf72
 v46:=Tryz.zeroValue72
 t51:=Tryz.underlying231
 a51:=Tryz.isAgg231
 z51:=Tryz.sizeOf231
 v51:=Tryz.zeroValue231
 t53:=Tryz.underlying58
 a53:=Tryz.isAgg58
 z53:=Tryz.sizeOf58
 v53:=Tryz.zeroValue58
 t131:=Tryz.underlying167
 a131:=Tryz.isAgg167
 z131:=Tryz.sizeOf167
 v131:=Tryz.zeroValue167
 t182:=Tryz.underlying224
 a182:=Tryz.isAgg224
 z182:=Tryz.sizeOf224
 v182:=Tryz.zeroValue224
 t183:=Tryz.underlying225
 a183:=Tryz.isAgg225
 z183:=Tryz.sizeOf225
 v183:=Tryz.zeroValue225
 t218:=Tryz.underlying241
 a218:=Tryz.isAgg241
 z218:=Tryz.sizeOf241
 v218:=Tryz.zeroValue241
 t222:=Tryz.underlying245
 a222:=Tryz.isAgg245
 z222:=Tryz.sizeOf245
 v222:=Tryz.zeroValue245
 t228:=Tryz.underlying249
 a228:=Tryz.isAgg249
 z228:=Tryz.sizeOf249
 v228:=Tryz.zeroValue249
 t229:=Tryz.underlying170
 a229:=Tryz.isAgg170
 z229:=Tryz.sizeOf170
 v229:=Tryz.zeroValue170}
open Go.Sort Go.RowKit in
theorem qcf(blk off cap:Nat)(zs:List Int)(w:World)(hH:Go.Sort.Holds (Value.int .i64) w blk off zs.toArray)(hblk:blk<w.heap.size)(hsz:zs.length<4611686018427387904):
  Calls Tryz.prog 116 #[.slice (some ⟨blk,off,none⟩) zs.length cap] w fun e w'=>
   e= .returned (.tuple #[])∧∃n os,w'=grow (putRow (Value.int .i64) (Sort.ahead w n) blk off (zs.mergeSort fun x y=>decide (x≤y)).toArray) os:=Any.slices_Sort_int qgo blk off cap zs w hH hblk hsz
open Go.RowKit Go.Sort in
theorem q7b(p:Option Addr)(cap:Nat)(w:World):
  Calls Tryz.prog 116 #[.slice p 0 cap] w fun e w'=>e= .returned (.tuple #[])∧w'=w:=Any.slices_Sort_int_none qgo p cap w
def qc7:Go.Shelf.Ren:=⟨fun|20=>117|n=>n,fun|22=>23|3=>3|4=>4|0=>0|n=>n,fun|n=>n⟩
theorem qjv:Go.Proofs.Lays2.n20 Tryz.prog qc7:={
 mixed:=by kernel_rfl
 f20:=Tryz.func117.trans (congrArg some (by kernel_rfl))
 t0:=Tryz.underlying0
 a0:=Tryz.isAgg0
 z0:=Tryz.sizeOf0
 v0:=Tryz.zeroValue0
 t3:=Tryz.underlying3
 a3:=Tryz.isAgg3
 z3:=Tryz.sizeOf3
 v3:=Tryz.zeroValue3
 t4:=Tryz.underlying4
 a4:=Tryz.isAgg4
 z4:=Tryz.sizeOf4
 v4:=Tryz.zeroValue4
 t22:=Tryz.underlying23
 a22:=Tryz.isAgg23
 z22:=Tryz.sizeOf23
 v22:=Tryz.zeroValue23
 i3:=by kernel_rfl}
open Go.RowKit Go.Lib Go.Sort in
theorem q97(blk off cap:Nat)(zs:List Int)(w:World)(hH:Go.Sort.Holds (Value.int .i64) w blk off zs.toArray)(hsz:zs.length≤9223372036854775807)(hcap:zs.length≤cap):
  Calls Tryz.prog 117 #[.slice (some ⟨blk,off,none⟩) zs.length cap] w fun e w'=>e= .returned (.slice (some ⟨blk,off,none⟩) (Lib.compact zs).length cap)∧∃q,w'=putRow (Value.int .i64) (Sort.ahead w q) blk off (Lib.compact zs++List.replicate (zs.length-(Lib.compact zs).length) 0).toArray:=Any.slices_Compact_int qjv blk off cap zs w hH hsz hcap
theorem qf7:∀l:List Int,(l.map qM).flatten=l.map (Value.int .i64)
 | []=>rfl
 |x::l=>by simp[qf7 l]
theorem _root_.Go.Proofs.YtkieffpjjfebjaaGreatDoor.St.put_row{W0:World}{own:Own}{w:World}{b:Nat}{T:TypeId}{C:Own→Own}{l l':List Int}{rest:List Value}{n:Nat}{os:Array Obj}(s:St W0 own w)(hat:At [(b,fun o=>o=Obj.cells ((l.map qM).flatten++rest).toArray T)] own C)(hl:l'.length=l.length):
  St W0 (C [(b,fun o=>o=Obj.cells ((l'.map qM).flatten++rest).toArray T)]) (Go.Sort.grow (Go.Sort.putRow (Value.int .i64) (Go.Sort.ahead w n) b 0 l'.toArray) os):=by
 have hu:=hat.up (fun o=>o=Obj.cells ((l'.map qM).flatten++rest).toArray T)
 have hb:=s.mem_size hu.mem
 refine s.up hu rfl rfl rfl ?_ ?_ ?_
 ·simp[Go.Sort.grow,Go.Sort.putRow,Go.Sort.mapBlock,Go.Sort.ahead]
 ·intro k hk hne
  simp only[Go.Sort.grow,Go.Sort.putRow,Go.Sort.mapBlock,Go.Sort.ahead]
  rw[Array.getElem?_append_left (by simpa using hk),Array.getElem?_modify,if_neg (fun e=>hne e.symm)]
 ·obtain⟨o,ho,hp⟩:=s.owns _ hu.mem
  refine⟨_,?_,rfl⟩
  simp only[Go.Sort.grow,Go.Sort.putRow,Go.Sort.mapBlock,Go.Sort.ahead]
  rw[Array.getElem?_append_left (by simpa using hb),Array.getElem?_modify,if_pos rfl]
  have hp':o=Obj.cells ((l.map qM).flatten++rest).toArray T:=hp
  have ho':w.heap[b]? =some o:=ho
  rw[ho',hp']
  simp only[Option.map_some,Go.Sort.onCells,Go.Sort.putCells,qf7]
  congr 2
  apply Array.ext'
  rw[Array.toList_mapIdx]
  refine List.ext_getElem (by simp[hl]) fun k h1 h2=> ?_
  simp only[List.getElem_mapIdx]
  by_cases hk:k<l'.length
  ·rw[if_pos ⟨by omega,by simpa using hk⟩,List.getElem_append_left (by simpa using hk),getElem!_pos _ _ (by simpa using hk)]
   simp
  ·rw[if_neg (by simp;omega),List.getElem_append_right (by simp;omega),List.getElem_append_right (by simp;omega)]
   simp[hl]
section
variable{W0:World}{own:Own}
theorem qbe{w:World}{b:Nat}{l:List Int}{rest:List Value}{T:TypeId}(s:St W0 own w)(hm:(b,fun o=>o=Obj.cells ((l.map qM).flatten++rest).toArray T)∈own):Go.Sort.Holds (Value.int .i64) w b 0 l.toArray:=fun j hj=>by
 have hj':j<l.length:=by simpa using hj
 refine⟨?_,?_⟩
 ·rw[getElem!_pos _ j hj]
  refine q5A hm ?_ w s
  rw[Nat.zero_add,qf7,List.toList_toArray,List.getElem?_append_left (by simpa using hj')]
  simp[hj']
 ·obtain⟨o,ho,hp⟩:=s.owns _ hm
  have hp':o=Obj.cells ((l.map qM).flatten++rest).toArray T:=hp
  have ho':w.heap[b]? =some o:=ho
  simp[World.frozen?,ho',hp']
theorem qib{a:Option Addr}{l:List Int}{cap:Nat}{D:Own}{C:Own→Own}(hB:qr qM 3 1 a cap l D)(hat:At D own C)(hl:l.length<4611686018427387904):
  q0E Tryz.prog W0 116 [.slice a l.length cap] own fun v own'=>∃D':Own,(v= .tuple #[]∧qr qM 3 1 a cap (srt l) D')∧Ent W0 own' (C D'):=by
 intro w hs
 rcases hB.how with ⟨rfl,rfl,rfl⟩|⟨b,rest,rfl,rfl,hlen,hle⟩
 ·refine(q7b a 0 w).mono ?_
  rintro e w' ⟨rfl,rfl⟩
  exact⟨_,own,rfl,hs,[],⟨rfl,by rw[show srt []= [] from List.mergeSort_nil];exact qr.nil⟩,by rw[hat.same];exact Ent.refl⟩
 ·have hm:=(hat.up (fun _=>True)).mem
  refine(qcf b 0 cap l w (qbe hs hm) (hs.mem_size hm) hl).mono ?_
  rintro e w' ⟨rfl,n,os,rfl⟩
  exact⟨_,_,rfl,hs.put_row hat (q7g l),_,⟨rfl,fun _ _=>rfl, .inr ⟨b,rest,rfl,rfl,by rw[q7g];exact hlen,by rw[q7g];exact hle⟩⟩,Ent.refl⟩
theorem qck{a:Option Addr}{l:List Int}{cap:Nat}{D:Own}{C:Own→Own}(hB:qr qM 3 1 a cap l D)(hat:At D own C)(hl:l.length≤9223372036854775807)(hs2:l.Pairwise (· ≤ ·)):
  q0E Tryz.prog W0 117 [.slice a l.length cap] own fun v own'=>∃D':Own,(v= .slice a (cmp l).length cap∧qr qM 3 1 a cap (cmp l) D')∧Ent W0 own' (C D'):=by
 cases l with
 |nil=>
  refine qa qj q3S (by simp[q0l]) ?_
  repeat'((try(conv=>whnf));first|(refine fE ?_))
  exact⟨D,⟨rfl,hB⟩,by rw[hat.same];exact Ent.refl⟩
 |cons x r=>
  intro w hs
  have hcl:=(qaW hs2).2.2
  rcases hB.how with ⟨h,_,_⟩|⟨b,rest,rfl,rfl,hlen,hle⟩
  ·cases h
  ·generalize x::r=l at*
   have hm:=(hat.up (fun _=>True)).mem
   refine(q97 b 0 cap l w (qbe hs hm) hl hle).mono ?_
   rintro e w' ⟨rfl,q,rfl⟩
   have hst:=hs.put_row (n:=q) (os:= #[]) (l':=cmp l++List.replicate (l.length-(cmp l).length) 0) hat (by simp;omega)
   rw[Go.Sort.grow_empty] at hst
   refine⟨_,_,rfl,hst,_,⟨rfl,fun _ _=>rfl, .inr ⟨b,((List.replicate (l.length-(cmp l).length) 0).map qM).flatten++rest,rfl,rfl,?_,by omega⟩⟩,?_⟩
   ·simp only[qf7,List.length_append,List.length_map,List.length_replicate];omega
   ·rw[List.map_append,List.flatten_append,List.append_assoc];exact Ent.refl
theorem ql2{b o n c sz r:Nat}{K:Value→Prop}(hr:r≤c)(h:K (.slice (some ⟨b,o,none⟩) r c)):qiJ (some ⟨b,o,none⟩) n c sz none (some (r:Int)) none K:=by
 refine⟨0,r,c,rfl,rfl,rfl,Nat.zero_le _,fun _=>hr,fun h=>Bool.noConfusion h,fun h=>Bool.noConfusion h,?_⟩
 have e:slA (some ⟨b,o,none⟩) c 0 sz=some ⟨b,o,none⟩:=by
  unfold slA
  split
  ·rfl
  ·simp[qI]
 rw[e]
 exact h
theorem qi3{sz:Nat}{K:Value→Prop}(h:K (.slice none 0 0)):qiJ none 0 0 sz none (some 0) none K:=
 ⟨0,0,0,rfl,rfl,rfl,Nat.le_refl _,fun _=>Nat.le_refl _,fun h=>Bool.noConfusion h,fun h=>Bool.noConfusion h,h⟩
theorem qfK(n:Nat)(hn:n*8≤281474976710656):
  q0E Tryz.prog W0 141 [.slice none 0 0, .int .i64 n] own fun v own'=>∃s:Option Addr×Nat×Own,(v= .slice s.1 0 s.2.1∧n≤s.2.1∧qr qM 3 1 s.1 s.2.1 [] s.2.2)∧Ent W0 own' (s.2.2++own):=by
 refine qa qj q4M (by simp[q0W]) ?_
 by_cases h0:n=0
 ·subst h0
  repeat'((try(conv=>whnf));first|(refine fD ?_)|(refine fB ?_))
  exact⟨(none,0,[]),⟨rfl,by simp,qr.nil⟩,Ent.refl⟩
 ·repeat'((try(conv=>whnf));first|(refine fD ?_)|(refine fF ?_)|(refine qi3 ?_)|(refine ql2 (r:=0) (Nat.zero_le _) ?_)|(refine⟨rfl,rfl,n,by omega,by omega,hn,fun b c' hb hc=> ?_⟩)|(refine fB ?_))
  refine⟨(some ⟨b,0,none⟩,c',[(b,fun o=>o=Obj.cells (List.replicate c' [.int .i64 0]).flatten.toArray 3)]),⟨rfl,hc,fun _ h=>(by cases h), .inr ⟨b,(List.replicate c' [.int .i64 0]).flatten,rfl,rfl,by simp,by simp⟩⟩,Ent.refl⟩
theorem qdV{bq:Nat}{ra wa:Option Addr}{rl wl:List Int}{rc wc:Nat} [q3X bq (fun o=>o=Obj.cells #[.slice ra rl.length rc, .slice wa wl.length wc] 23) own](h1:RdE qM 1 W0 own ra rl)(h2:RdE qM 1 W0 own wa wl)(hb:(rl.length+wl.length)*8≤281474976710656):
  q0E Tryz.prog W0 115 [.slice (some ⟨bq,0,none⟩) 2 2] own fun v own'=>∃s:Option Addr×Nat×Own,(v= .slice s.1 (rl++wl).length s.2.1∧qr qM 3 1 s.1 s.2.1 (rl++wl) s.2.2)∧Ent W0 own' (s.2.2++own):=by
 refine qa qj q4a (by simp[q0t]) ?_
 have hg:q0E Tryz.prog W0 141 [.slice none 0 0, .int .i64 ((rl.length+wl.length:Nat):Int)] own _:=qfK (rl.length+wl.length) hb
 have e:((rl.length+wl.length:Nat):Int)=0+(rl.length:Int)+wl.length:=by omega
 rw[e] at hg
 repeat'((try(conv=>whnf));first|(refine fE ?_)|(refine fD ?_)|(refine q55 3 ?_)|((with_reducible show qf _ _ _ _ _ _);first|((refine qZ hg ?_ ?_ (fun s v hv=> ?_);(exact rfl);(exact rfl);(obtain⟨a0,c0,D0⟩:=s;obtain⟨rfl,hc,hB⟩:=hv;dsimp only at hc hB);(apply Stop.h))))|(refine fB ?_)|(refine qlm rfl ?_)|(refine qln rfl ?_)|(refine fA ?_))
 refine Stop.mk ?_
 repeat'((try(conv=>whnf));first|(refine fE ?_)|(refine q55 3 ?_)|(refine qiP (enc:=qM) (l:= []) (l2:=rl) hB h1 rfl (by omega) (fun _ _=>rfl) (by simp;omega) (fun D1 hB1=> ?_);(rw[List.length_nil,Nat.zero_add rl.length]);(apply Stop.h))|(refine qlm rfl ?_)|(refine fA ?_))
 refine Stop.mk ?_
 rw[List.nil_append] at hB1
 repeat'((try(conv=>whnf));first|(refine fE ?_)|(refine qiP (enc:=qM) (l:=rl) (l2:=wl) hB1 h2 rfl (by omega) (fun _ _=>rfl) (by omega) (fun D2 hB2=> ?_);(apply Stop.h))|(refine fB ?_)|(refine qln rfl ?_)|(refine fA ?_))
 refine Stop.mk ?_
 repeat'((try(conv=>whnf));first|(refine fD ?_)|(refine fB ?_))
 exact⟨(a0,c0,D2),⟨q0N (by simp),hB2⟩,Ent.refl⟩
end
abbrev noneV:List Value:= [.int .i64 (-1), .int .i64 (-1), .int .i64 (-1)]
def plc(a n:Int):Int:=IntKind.u64.wrap a % n
theorem qhQ(a:Int){n:Int}(h:0<n):0≤plc a n∧plc a n<n:=⟨Int.emod_nonneg _ (by omega),Int.emod_lt_of_pos _ h⟩
section
variable{W0:World}{own:Own}
theorem qbG(W0:World)(own:Own)(a:Int){n:Int}(hn:0<n∧n≤9223372036854775807):qD Tryz.prog W0 12 [.int .i64 a, .int .i64 n] own (.int .i64 (plc a n)):=by
 refine qe (qa qj q56 (by simp[q2c]) ?_)
 refine arw ?_
 have hu:=qev a
 have hp:=qhQ a hn.1
 unfold plc at*
 generalize IntKind.u64.wrap a=u at*
 repeat'((try(conv=>whnf));first|(refine fB ?_)|(refine fC ?_)|(refine q9M ?_ ?_;omega))
 exact⟨rfl,(eC)⟩
end
theorem _root_.Go.Proofs.YtkieffpjjfebjaaGreatDoor.RdE.take{α:Type}{enc:α→List Value}{sz:Nat}{W0:World}{own:Own}{a:Option Addr}{l:List α}(h:RdE enc sz W0 own a l)(k:Nat):RdE enc sz W0 own a (l.take k):=
 ⟨fun hn=>h.isS (fun e=>hn (by rw[e];simp)),fun x hx=>h.wid x (List.mem_of_mem_take hx),fun{j i x v} hx hv=>by
  rw[List.getElem?_take] at hx
  split at hx
  ·exact h.cell hx hv
  ·cases hx⟩
theorem qhV{l:List EH}{y m:Nat}{w:Int}{r:q0G}(h:r∈rcL l y w m):∃x,x<m∧r=((x:Int),(y:Int),w)∧rcB l y w x=true:=by
 unfold rcL at h
 rw[List.mem_map] at h
 obtain⟨x,hx,rfl⟩:=h
 rw[List.mem_filter,List.mem_range] at hx
 exact⟨x,hx.1,rfl,hx.2⟩
theorem qhS{l:List EH}{m:Nat}{r:q0G}:r∈rcA l m↔ ∃y w,y<m∧w<64∧knd l y≠3∧r∈rcL l y ((w:Nat):Int) y:=by
 unfold rcA rcW
 rw[List.mem_flatMap]
 constructor
 ·rintro⟨y,hy,hr⟩
  rw[List.mem_range] at hy
  split at hr
  ·cases hr
  ·rename_i h3
   rw[List.mem_flatMap] at hr
   obtain⟨w,hw,hr⟩:=hr
   rw[List.mem_range] at hw
   exact⟨y,w,hy,hw,h3,hr⟩
 ·rintro⟨y,w,hy,hw,h3,hr⟩
  refine⟨y,List.mem_range.2 hy,?_⟩
  rw[if_neg h3,List.mem_flatMap]
  exact⟨w,List.mem_range.2 hw,hr⟩
theorem qhv{l:List EH}:(frst l).2.1≥0↔rcA l l.length≠ []:=by
 constructor
 ·intro h hn
  rw[q54 hn] at h
  revert h
  decide
 ·intro h
  unfold frst
  cases hf:(prs l l.length).findSome? fun p=>(rcL l p.1 p.2 p.1).getLast? with
  |some r=>
   obtain⟨p,_,hr⟩:=List.exists_of_findSome?_eq_some hf
   obtain⟨x,_,rfl,_⟩:=qhV (List.mem_of_getLast? hr)
   show(p.1:Int)≥0
   omega
  |none=>
   exfalso
   rw[List.findSome?_eq_none_iff] at hf
   obtain⟨r,hr⟩:=List.exists_mem_of_ne_nil _ h
   obtain⟨y,w,hy,hw,h3,hr⟩:=qhS.1 hr
   have:=hf (y,(w:Int)) (by
    unfold prs
    rw[List.mem_flatMap]
    refine⟨y,List.mem_range.2 hy,?_⟩
    rw[if_neg h3,List.mem_map]
    exact⟨w,List.mem_range.2 hw,rfl⟩)
   rw[List.getLast?_eq_none_iff] at this
   dsimp only at this
   rw[this] at hr
   cases hr
def lst(Q:Nat→Bool):Nat→Nat
 |0=>0
 |m+1=>if Q m=true then m+1 else lst Q m
theorem qgs{Q:Nat→Bool}:∀m,lst Q m≤m
 |0=>Nat.le_refl _
 |m+1=>by unfold lst;split;exact Nat.le_refl _;exact Nat.le_succ_of_le (qgs m)
theorem qdy{Q:Nat→Bool}{k:Nat}:∀{m},lst Q m=k+1→Q k=true∧k<m
 |0,h=>by cases h
 |m+1,h=>by
  unfold lst at h
  split at h
  ·rename_i hq
   have:k=m:=by omega
   subst this
   exact⟨hq,Nat.lt_succ_self _⟩
  ·obtain⟨h1,h2⟩:=qdy h
   exact⟨h1,by omega⟩
theorem qdz{Q:Nat→Bool}{i:Nat}(hq:Q i=true):∀{m},i<m→i<lst Q m
 |0,h=>by omega
 |m+1,h=>by
  unfold lst
  split
  ·exact h
  ·rename_i hn
   have:i≠m:=fun e=>hn (e ▸ hq)
   exact qdz hq (by omega)
theorem q9I{Q R:Nat→Bool}:∀{m},(∀i,i<m→Q i=R i)→lst Q m=lst R m
 |0,_=>rfl
 |m+1,h=>by
  unfold lst
  rw[h m (by omega),q9I fun i hi=>h i (by omega)]
def q8y(l:List EH)(t:Int)(i:Nat):Bool:=decide (knd l i=4∧thr l i=t)
theorem q2W{l:List EH}{t:Int}{i:Nat}:q8y l t i=true↔knd l i=4∧thr l i=t:=by unfold q8y;exact decide_eq_true_iff
def q0B(l:List EH)(t:Int):Nat→Nat
 |0=>0
 |m+1=>q0B l t m+if q8y l t m=true then 1 else 0
theorem qak{l:List EH}{t:Int}:∀m,q0B l t m≤m
 |0=>Nat.le_refl _
 |m+1=>by
  unfold q0B
  have:=qak (l:=l) (t:=t) m
  split <;>omega
theorem q53{l:List EH}{t:Int}{a b:Nat}(h:a≤b):q0B l t a≤q0B l t b:=by
 induction b with
 |zero=>
   have:a=0:=by omega
   subst this;exact Nat.le_refl _
 |succ b ih=>
  rcases Nat.lt_or_ge b a with hb|hb
  ·have:a=b+1:=by omega
   subst this;exact Nat.le_refl _
  ·exact Nat.le_trans (ih hb) (by show q0B l t b≤q0B l t b+_;omega)
theorem q8w{l:List EH}{t:Int}{a b:Nat}:q0B l t a<q0B l t b↔ ∃e,a≤e∧e<b∧q8y l t e=true:=by
 constructor
 ·intro h
  induction b with
  |zero=>cases h
  |succ b ih=>
   by_cases he:q8y l t b=true
   ·by_cases hab:a≤b
    ·exact⟨b,hab,Nat.lt_succ_self _,he⟩
    ·have:=q53 (l:=l) (t:=t) (a:=b+1) (b:=a) (by omega)
     omega
   ·have h2:q0B l t (b+1)=q0B l t b:=by show q0B l t b+_=_;rw[if_neg he];rfl
    rw[h2] at h
    obtain⟨e,h3,h4,h5⟩:=ih h
    exact⟨e,h3,by omega,h5⟩
 ·rintro⟨e,h1,h2,h3⟩
  have h4:=q53 (l:=l) (t:=t) h1
  have h5:=q53 (l:=l) (t:=t) (show e+1≤b by omega)
  have h6:q0B l t (e+1)=q0B l t e+1:=by show q0B l t e+_=_;rw[if_pos h3]
  omega
def q77(l:List EH)(u:Int)(m:Nat)(t:Int):Nat:=q0B l t (lst (q8y l u) m)
def qeO(l:List EH)(u:Int)(m:Nat)(t:Int):Nat:=q0B l t (bgL l u m).toNat
theorem qfd{l:List EH}{x y:Nat}{t:Int}(hx:q8v l x)(hy:y<l.length)(hxy:x<y)(ht:thr l x=t)(hne:thr l x≠thr l y)(hp:q2i l y):HB l x y↔q0B l t x+1≤q77 l (thr l y) y t:=by
 unfold q77
 constructor
 ·rintro⟨_,_,_,h|⟨_,e,f,h1,h2,h3,h4,h5,h6,h7⟩|⟨h,_⟩⟩
  ·exact absurd h hne
  ·have hf:=qdz (Q:=q8y l (thr l y)) (i:=f) (q2W.2 ⟨h5,h7⟩) h3
   exact(q8w (a:=x)).2 ⟨e,h1,by omega,q2W.2 ⟨h4,h6.trans ht⟩⟩
  ·exact absurd hp h
 ·intro h
  obtain⟨e,h1,h2,h3⟩:=q8w.1 h
  obtain⟨h4,h5⟩:=q2W.1 h3
  obtain⟨f,hf⟩:∃f,lst (q8y l (thr l y)) y=f+1:=⟨_,(Nat.succ_pred_eq_of_pos (by omega)).symm⟩
  obtain⟨h6,h7⟩:=qdy hf
  obtain⟨h8,h9⟩:=q2W.1 h6
  have hef:e≠f:=fun he=>by subst he;exact hne (by rw[ht,←h5,h9])
  refine⟨hxy,hx,⟨hy, .inl ?_⟩, .inr (.inl ⟨hp,e,f,h1,by omega,h7,h4,h8,h5.trans ht.symm,h9⟩)⟩
  rcases hp with hp|hp <;>omega
theorem qfc{l:List EH}{x p:Nat}{t:Int}(hx:q8v l x)(hp:q8v l p)(h3:knd l p=3)(ht:thr l x=t)(hne:thr l x≠thr l p):HB l x p↔q0B l t x+1≤q0B l t p:=by
 have hnp:¬q2i l p:=by rintro(h|h) <;>omega
 constructor
 ·rintro⟨_,_,_,h|⟨h,_⟩|⟨_,e,h1,h2,h4,h5⟩⟩
  ·exact absurd h hne
  ·exact absurd h hnp
  ·exact(q8w (a:=x)).2 ⟨e,h1,h2,q2W.2 ⟨h4,h5.trans ht⟩⟩
 ·intro h
  obtain⟨e,h1,h2,h3⟩:=q8w.1 h
  obtain⟨h4,h5⟩:=q2W.1 h3
  exact⟨by omega,hx,hp, .inr (.inr ⟨hnp,e,h1,h2,h4,h5.trans ht.symm⟩)⟩
def q4W(l:List EH)(Q:Nat→Bool)(t:Int)(m:Nat):Int×Int:=
 if lst (fun i=>Q i&&decide (thr l i=t)) m=0 then(0,0) else(((lst (fun i=>Q i&&decide (thr l i=t)) m-1:Nat):Int),(q0B l t (lst (fun i=>Q i&&decide (thr l i=t)) m-1):Int)+1)
theorem q4X{l:List EH}{Q:Nat→Bool}{t:Int}{m:Nat}:q4W l Q t (m+1)=if Q m=true∧thr l m=t then((m:Int),(q0B l t m:Int)+1) else q4W l Q t m:=by
 have e:lst (fun i=>Q i&&decide (thr l i=t)) (m+1)=if(Q m&&decide (thr l m=t))=true then m+1 else lst (fun i=>Q i&&decide (thr l i=t)) m:=rfl
 by_cases h:Q m=true∧thr l m=t
 ·rw[if_pos h]
  rw[if_pos (by rw[h.1,decide_eq_true h.2];rfl)] at e
  unfold q4W
  rw[e,if_neg (by omega)]
  rfl
 ·rw[if_neg h]
  rw[if_neg (by rw[Bool.and_eq_true,decide_eq_true_iff];exact h)] at e
  unfold q4W
  rw[e]
def ltM(own:Int)(ck:Nat→Int)(f:Nat→Int×Int)(pl:Int):Nat→Int
 |0=>pl
 |k+1=>if(k:Int)≠own∧(f k).2>ck k∧(f k).1>ltM own ck f pl k then(f k).1 else ltM own ck f pl k
theorem qbl{own:Int}{ck:Nat→Int}{f:Nat→Int×Int}{pl:Int}:∀n,pl≤ltM own ck f pl n∧(ltM own ck f pl n=pl∨∃t,t<n∧(t:Int)≠own∧(f t).2>ck t∧(f t).1=ltM own ck f pl n)∧∀t,t<n→(t:Int)≠own→(f t).2>ck t→(f t).1≤ltM own ck f pl n
 |0=>⟨Int.le_refl _, .inl rfl,fun t h=>by omega⟩
 |k+1=>by
  obtain⟨h1,h2,h3⟩:=qbl (own:=own) (ck:=ck) (f:=f) (pl:=pl) k
  unfold ltM
  split
  ·rename_i h
   refine⟨by omega, .inr ⟨k,by omega,h.1,h.2.1,rfl⟩,fun t ht ho hc=> ?_⟩
   by_cases e:t=k
   ·subst e;exact Int.le_refl _
   ·have:=h3 t (by omega) ho hc;omega
  ·rename_i h
   refine⟨h1,h2.imp id fun⟨t,a,b⟩=>⟨t,by omega,b⟩,fun t ht ho hc=> ?_⟩
   by_cases e:t=k
   ·subst e
    by_cases hg:(f t).1>ltM own ck f pl t
    ·exact absurd ⟨ho,hc,hg⟩ h
    ·omega
   ·exact h3 t (by omega) ho hc
def RC(l:List EH)(Q:Nat→Bool)(own:Int)(ck:Nat→Int)(y x:Nat):Prop:=x<y∧Q x=true∧thr l x≠own∧ck (thr l x).toNat<(q0B l (thr l x) x:Int)+1
theorem qdA{l:List EH}{Q:Nat→Bool}{own:Int}{ck:Nat→Int}{n y:Nat}{pl:Int}(ht:∀x,x<y→0≤thr l x∧thr l x<n)(hck:∀t,0≤ck t):
  pl≤ltM own ck (fun t=>q4W l Q t y) pl n∧(ltM own ck (fun t=>q4W l Q t y) pl n=pl∨∃x,RC l Q own ck y x∧(x:Int)=ltM own ck (fun t=>q4W l Q t y) pl n)∧∀x,RC l Q own ck y x→(x:Int)≤ltM own ck (fun t=>q4W l Q t y) pl n:=by
 obtain⟨h1,h2,h3⟩:=qbl (own:=own) (ck:=ck) (f:=fun t=>q4W l Q t y) (pl:=pl) n
 refine⟨h1,h2.imp id ?_,?_⟩
 ·rintro⟨t,htn,ho,hc,he⟩
  rw[←he]
  revert hc
  unfold q4W
  split
  ·intro hc
   have:=hck t
   dsimp only at hc
   omega
  ·rename_i hk
   intro hc
   obtain⟨x,hx⟩:∃x,lst (fun i=>Q i&&decide (thr l i=(t:Int))) y=x+1:=⟨_,(Nat.succ_pred_eq_of_pos (by omega)).symm⟩
   rw[hx] at hc ⊢
   obtain⟨hq,hxy⟩:=qdy hx
   rw[Bool.and_eq_true,decide_eq_true_iff] at hq
   refine⟨x,⟨hxy,hq.1,by rw[hq.2];exact ho,?_⟩,rfl⟩
   rw[hq.2]
   exact hc
 ·rintro x ⟨hxy,hq,ho,hc⟩
  obtain⟨t1,t2⟩:=ht x hxy
  obtain⟨t,e⟩:∃t:Nat,thr l x=t:=⟨(thr l x).toNat,by omega⟩
  rw[e] at ho hc t2
  rw[Int.toNat_natCast] at hc
  have hg:=qdz (Q:=fun i=>Q i&&decide (thr l i=(t:Int))) (i:=x) (by rw[Bool.and_eq_true,decide_eq_true_iff];exact⟨hq,e⟩) hxy
  have hm:=q53 (l:=l) (t:=t) (show x≤lst (fun i=>Q i&&decide (thr l i=(t:Int))) y-1 by omega)
  have:=h3 t (by omega) ho (by
   unfold q4W
   rw[if_neg (by omega)]
   dsimp only
   omega)
  refine Int.le_trans ?_ this
  unfold q4W
  rw[if_neg (by omega)]
  dsimp only
  omega
theorem q84{P:Nat→Bool}{x:Nat}(hp:P x=true):∀{m},x<m→(∀z,x<z→z<m→P z=false)→((List.range m).filter P).getLast? =some x
 |0,h,_=>by omega
 |m+1,h,hz=>by
  rw[List.range_succ,List.filter_append]
  by_cases e:x=m
  ·subst e
   rw[List.filter_cons,if_pos hp,List.filter_nil]
   simp
  ·rw[List.filter_cons,if_neg (by rw[hz m (by omega) (by omega)];simp),List.filter_nil,List.append_nil]
   exact q84 hp (by omega) fun z h1 h2=>hz z h1 (by omega)
def qW(l:List EH)(w:Int)(x:Nat):Bool:=decide (knd l x=2∧(at' l x).w=w)
def qR(l:List EH)(w:Int)(x:Nat):Bool:=decide (knd l x=1∧(at' l x).w=w)
def qTW(l:List EH)(w:Int)(x:Nat):Bool:=decide (knd l x=4)&&(at' l x).wl.contains w
def qTR(l:List EH)(w:Int)(x:Nat):Bool:=decide (knd l x=4)&&(at' l x).rl.contains w
def qbR(l:List EH)(n y:Nat)(k own w:Int)(wr:Bool)(ck:Nat→Int):Int:=
 let p0:=ltM own ck (fun t=>q4W l (qW l w) t y) (-1) n
 let p1:=if wr=true then ltM own ck (fun t=>q4W l (qR l w) t y) p0 n else p0
 let p2:=if k≠4 then ltM own ck (fun t=>q4W l (qTW l w) t y) p1 n else p1
 if k≠4∧wr=true then ltM own ck (fun t=>q4W l (qTR l w) t y) p2 n else p2
theorem qer{l:List EH}{n y:Nat}{k own w:Int}{wr:Bool}{ck:Nat→Int}(ht:∀x,x<y→0≤thr l x∧thr l x<n)(hck:∀t,0≤ck t)(R:Nat→Prop)
  (hR:∀x,R x↔RC l (qW l w) own ck y x∨(wr=true∧RC l (qR l w) own ck y x)∨(k≠4∧RC l (qTW l w) own ck y x)∨((k≠4∧wr=true)∧RC l (qTR l w) own ck y x)):
  -1≤qbR l n y k own w wr ck∧(qbR l n y k own w wr ck= -1∨∃x,R x∧(x:Int)=qbR l n y k own w wr ck)∧∀x,R x→(x:Int)≤qbR l n y k own w wr ck:=by
 have step:∀(Q:Nat→Bool) (c:Prop) [Decidable c] (pl:Int) (S:Nat→Prop),(-1≤pl∧(pl= -1∨∃x,S x∧(x:Int)=pl)∧∀x,S x→(x:Int)≤pl)→
   ∀r,r=(if c then ltM own ck (fun t=>q4W l Q t y) pl n else pl)→
   -1≤r∧(r= -1∨∃x,(S x∨(c∧RC l Q own ck y x))∧(x:Int)=r)∧∀x,(S x∨(c∧RC l Q own ck y x))→(x:Int)≤r:=by
  intro Q c _ pl S ⟨h1,h2,h3⟩ r hr
  subst hr
  obtain⟨g1,g2,g3⟩:=qdA (l:=l) (Q:=Q) (own:=own) (ck:=ck) (pl:=pl) ht hck
  by_cases hc:c
  ·simp only[if_pos hc]
   refine⟨by omega,?_,fun x hx=> ?_⟩
   ·rcases g2 with e|⟨x,hx,e⟩
    ·rw[e]
     exact h2.imp id fun⟨x,hx,e⟩=>⟨x, .inl hx,e⟩
    ·exact .inr ⟨x, .inr ⟨hc,hx⟩,e⟩
   ·rcases hx with hx|hx
    ·have:=h3 x hx;omega
    ·exact g3 x hx.2
  ·simp only[if_neg hc]
   exact⟨h1,h2.imp id fun⟨x,hx,e⟩=>⟨x, .inl hx,e⟩,fun x hx=>hx.elim (h3 x) fun h=>absurd h.1 hc⟩
 obtain⟨a1,a2,a3⟩:=qdA (l:=l) (Q:=qW l w) (own:=own) (ck:=ck) (pl:= -1) ht hck
 have s1:=step (qR l w) (wr=true) _ (fun x=>RC l (qW l w) own ck y x) ⟨a1,a2,a3⟩ _ rfl
 have s2:=step (qTW l w) (k≠4) _ _ s1 _ rfl
 have s3:=step (qTR l w) (k≠4∧wr=true) _ _ s2 _ rfl
 obtain⟨b1,b2,b3⟩:=s3
 have e:∀x,(((RC l (qW l w) own ck y x∨(wr=true∧RC l (qR l w) own ck y x))∨(k≠4∧RC l (qTW l w) own ck y x))∨((k≠4∧wr=true)∧RC l (qTR l w) own ck y x))↔R x:=fun x=>by
  rw[hR x,or_assoc,or_assoc]
 exact⟨b1,b2.imp id fun⟨x,hx,h⟩=>⟨x,(e x).1 hx,h⟩,fun x hx=>b3 x ((e x).2 hx)⟩
theorem qeW{a b:EH}{w:Int}{wr:Bool}(ha:a.k=1∨a.k=2∨a.k=4)(hb:b.k=1∨b.k=2∨b.k=4)(ht:a.t≠b.t)
  (hA:(b.k≠4∧b.w=w∧wr=decide (b.k=2))∨(b.k=4∧wr=b.wl.contains w∧(b.wl.contains w=true∨b.rl.contains w=true))):
  confB a b w=true↔(a.k=2∧a.w=w)∨(wr=true∧(a.k=1∧a.w=w))∨(b.k≠4∧(a.k=4∧a.wl.contains w=true))∨((b.k≠4∧wr=true)∧(a.k=4∧a.rl.contains w=true)):=by
 unfold confB cfP
 generalize a.wl.contains w=a1
 generalize a.rl.contains w=a2
 rcases hA with ⟨h1,h2,h3⟩|⟨h1,h2,h3⟩
 ·subst h3
  rcases ha with ha|ha|ha <;>rcases hb with hb|hb|hb
  all_goals first
   |(exact absurd hb h1)
   |(simp[ha,hb,h2,ht])
 ·subst h2
  generalize b.wl.contains w=b1 at*
  generalize b.rl.contains w=b2 at*
  rcases ha with ha|ha|ha
  all_goals
   cases b1 <;>cases b2
   all_goals simp_all
theorem qjJ{l:List EH}{n y:Nat}{w:Int}{wr:Bool}{ck:Nat→Int}(hw:Wf l n)(hy:y<l.length)(h3:knd l y≠3)
  (hA:(knd l y≠4∧(at' l y).w=w∧wr=decide (knd l y=2))∨(knd l y=4∧wr=(at' l y).wl.contains w∧((at' l y).wl.contains w=true∨(at' l y).rl.contains w=true)))
  (hH:∀x,x<y→knd l x≠3→thr l x≠thr l y→(HB l x (toP l y)↔(q0B l (thr l x) x:Int)+1≤ck (thr l x).toNat)) (x:Nat):
  (x<y∧rcB l y w x=true)↔RC l (qW l w) (thr l y) ck y x∨(wr=true∧RC l (qR l w) (thr l y) ck y x)∨(knd l y≠4∧RC l (qTW l w) (thr l y) ck y x)∨((knd l y≠4∧wr=true)∧RC l (qTR l w) (thr l y) ck y x):=by
 by_cases hxy:¬x<y
 ·constructor
  ·exact fun h=>absurd h.1 hxy
  ·rintro(h|⟨_,h⟩|⟨_,h⟩|⟨_,h⟩) <;>exact absurd h.1 hxy
 have hxy:=Decidable.of_not_not hxy
 by_cases hx3:knd l x=3
 ·constructor
  ·rintro⟨_,h⟩
   unfold rcB at h
   rw[decide_eq_true hx3] at h
   cases h
  ·rintro(h|⟨_,h⟩|⟨_,h⟩|⟨_,h⟩)
   all_goals
    have:=h.2.1
    simp[qW,qR,qTW,qTR,hx3] at this
 by_cases ht:thr l x=thr l y
 ·constructor
  ·rintro⟨_,h⟩
   unfold rcB confB at h
   rw[decide_eq_true (show(at' l x).t=(at' l y).t from ht)] at h
   simp at h
  ·rintro(h|⟨_,h⟩|⟨_,h⟩|⟨_,h⟩) <;>exact absurd ht h.2.2.1
 have hk:=hw.kd x (by omega)
 have hky:=hw.kd y hy
 have hc:=qeW (a:=at' l x) (b:=at' l y) (w:=w) (wr:=wr) (by unfold knd at hk hx3;omega) (by unfold knd at hky h3;omega) ht hA
 have hh:=hH x hxy hx3 ht
 have hrc:rcB l y w x=true↔confB (at' l x) (at' l y) w=true∧ck (thr l x).toNat<(q0B l (thr l x) x:Int)+1:=by
  unfold rcB
  rw[decide_eq_false hx3,Bool.not_false,Bool.true_and,Bool.and_eq_true,Bool.not_eq_true',←Bool.not_eq_true,hbB_iff,hh]
  constructor
  ·exact fun⟨a,b⟩=>⟨a,by omega⟩
  ·exact fun⟨a,b⟩=>⟨a,by omega⟩
 rw[hrc,hc]
 have e1:qW l w x=true↔((at' l x).k=2∧(at' l x).w=w):=by unfold qW knd;exact decide_eq_true_iff
 have e2:qR l w x=true↔((at' l x).k=1∧(at' l x).w=w):=by unfold qR knd;exact decide_eq_true_iff
 have e3:qTW l w x=true↔((at' l x).k=4∧(at' l x).wl.contains w=true):=by unfold qTW knd;rw[Bool.and_eq_true,decide_eq_true_iff]
 have e4:qTR l w x=true↔((at' l x).k=4∧(at' l x).rl.contains w=true):=by unfold qTR knd;rw[Bool.and_eq_true,decide_eq_true_iff]
 unfold RC
 rw[e1,e2,e3,e4]
 have ek:(at' l y).k=knd l y:=rfl
 rw[ek]
 constructor
 ·rintro⟨_,h,hck⟩
  rcases h with h|⟨g,h⟩|⟨g,h⟩|⟨g,h⟩
  ·exact .inl ⟨hxy,h,ht,hck⟩
  ·exact .inr (.inl ⟨g,hxy,h,ht,hck⟩)
  ·exact .inr (.inr (.inl ⟨g,hxy,h,ht,hck⟩))
  ·exact .inr (.inr (.inr ⟨g,hxy,h,ht,hck⟩))
 ·rintro(⟨_,h,_,hck⟩|⟨g,_,h,_,hck⟩|⟨g,_,h,_,hck⟩|⟨g,_,h,_,hck⟩)
  ·exact⟨hxy, .inl h,hck⟩
  ·exact⟨hxy, .inr (.inl ⟨g,h⟩),hck⟩
  ·exact⟨hxy, .inr (.inr (.inl ⟨g,h⟩)),hck⟩
  ·exact⟨hxy, .inr (.inr (.inr ⟨g,h⟩)),hck⟩
theorem qfX{l:List EH}{n y:Nat}{w:Int}{wr:Bool}{ck:Nat→Int}(hw:Wf l n)(hy:y<l.length)(h3:knd l y≠3)
  (hA:(knd l y≠4∧(at' l y).w=w∧wr=decide (knd l y=2))∨(knd l y=4∧wr=(at' l y).wl.contains w∧((at' l y).wl.contains w=true∨(at' l y).rl.contains w=true)))
  (hck:∀t,0≤ck t) (hH:∀x,x<y→knd l x≠3→thr l x≠thr l y→(HB l x (toP l y)↔(q0B l (thr l x) x:Int)+1≤ck (thr l x).toNat)):
  (qbR l n y (knd l y) (thr l y) w wr ck<0→rcL l y w y= [])∧(0≤qbR l n y (knd l y) (thr l y) w wr ck→(rcL l y w y).getLast? =some (qbR l n y (knd l y) (thr l y) w wr ck,(y:Int),w)):=by
 obtain⟨h1,h2,h4⟩:=qer (l:=l) (n:=n) (y:=y) (k:=knd l y) (own:=thr l y) (w:=w) (wr:=wr) (ck:=ck) (fun x hx=>by have:=hw.kd x (by omega);exact⟨this.2.2.1,this.2.2.2.1⟩) hck (fun x=>x<y∧rcB l y w x=true) (qjJ hw hy h3 hA hH)
 generalize qbR l n y (knd l y) (thr l y) w wr ck=p at*
 constructor
 ·intro hp
  unfold rcL
  rw[List.map_eq_nil_iff,List.filter_eq_nil_iff]
  intro x hx hb
  have:=h4 x ⟨List.mem_range.1 hx,hb⟩
  omega
 ·intro hp
  obtain⟨x,⟨hxy,hb⟩,rfl⟩:=h2.resolve_left (by omega)
  unfold rcL
  rw[List.getLast?_map,q84 hb hxy fun z hz hzy=>by
   rw[←Bool.not_eq_true]
   intro hzb
   have:=h4 z ⟨hzy,hzb⟩
   omega]
  rfl
theorem qb1{l r:List EH}{t:Int}{i:Nat}(h:i<l.length):q8y (l++r) t i=q8y l t i:=by unfold q8y;rw[q02 h,q0O h]
theorem q2V{l r:List EH}{t:Int}:∀{m},m≤l.length→q0B (l++r) t m=q0B l t m
 |0,_=>rfl
 |m+1,h=>by unfold q0B;rw[q2V (by omega),qb1 (by omega)]
theorem qfj{l r:List EH}{t:Int}{m:Nat}(h:m≤l.length):lst (q8y (l++r) t) m=lst (q8y l t) m:=q9I fun i hi=>qb1 (by omega)
theorem q9O{l r:List EH}{u t:Int}{m:Nat}(h:m≤l.length):q77 (l++r) u m t=q77 l u m t:=by
 unfold q77
 rw[qfj h,q2V (Nat.le_trans (qgs _) h)]
theorem q3q{l r:List EH}{Q R:Nat→Bool}{t:Int}:∀{m},m≤l.length→(∀i,i<l.length→Q i=R i)→q4W (l++r) Q t m=q4W l R t m
 |0,_,_=>rfl
 |m+1,h,hq=>by rw[q4X,q4X,hq m (by omega),q0O (by omega),q2V (by omega),q3q (by omega) hq]
theorem q9J{own:Int}{ck ck':Nat→Int}{f g:Nat→Int×Int}{pl:Int}:∀{n},(∀t,t<n→f t=g t∧ck t=ck' t)→ltM own ck f pl n=ltM own ck' g pl n
 |0,_=>rfl
 |k+1,h=>by unfold ltM;rw[q9J (f:=f) (g:=g) (ck':=ck') fun t ht=>h t (by omega),(h k (by omega)).1,(h k (by omega)).2]
theorem qfW{l r:List EH}{n:Nat}{k own w:Int}{wr:Bool}{ck:Nat→Int}:qbR (l++r) n l.length k own w wr ck=qbR l n l.length k own w wr ck:=by
 unfold qbR
 have h1:∀t:Int,q4W (l++r) (qW (l++r) w) t l.length=q4W l (qW l w) t l.length:=fun t=>q3q (Nat.le_refl _) fun i hi=>by unfold qW;rw[q02 hi,q2U hi]
 have h2:∀t:Int,q4W (l++r) (qR (l++r) w) t l.length=q4W l (qR l w) t l.length:=fun t=>q3q (Nat.le_refl _) fun i hi=>by unfold qR;rw[q02 hi,q2U hi]
 have h3:∀t:Int,q4W (l++r) (qTW (l++r) w) t l.length=q4W l (qTW l w) t l.length:=fun t=>q3q (Nat.le_refl _) fun i hi=>by unfold qTW;rw[q02 hi,q2U hi]
 have h4:∀t:Int,q4W (l++r) (qTR (l++r) w) t l.length=q4W l (qTR l w) t l.length:=fun t=>q3q (Nat.le_refl _) fun i hi=>by unfold qTR;rw[q02 hi,q2U hi]
 simp only[h1,h2,h3,h4]
theorem qdG{l r:List EH}:∀{m},m≤l.length→prs (l++r) m=prs l m
 |0,_=>rfl
 |m+1,h=>by rw[q5d,q5d,qdG (by omega),q02 (by omega)]
theorem prs_mem{l:List EH}{m:Nat}{p:Nat×Int}(h:p∈prs l m):p.1<m∧knd l p.1≠3:=by
 unfold prs at h
 obtain⟨y,hy,h⟩:=List.mem_flatMap.1 h
 split at h
 ·cases h
 ·rename_i h3
  obtain⟨w,_,rfl⟩:=List.mem_map.1 h
  exact⟨List.mem_range.1 hy,h3⟩
theorem findSome_congr{β γ:Type}{f g:β→Option γ}:∀{l:List β},(∀x∈l,f x=g x)→l.findSome? f=l.findSome? g
 | [],_=>rfl
 |a::r,h=>by
  rw[List.findSome?_cons,List.findSome?_cons,h a (List.mem_cons_self ..),findSome_congr fun x hx=>h x (List.mem_cons_of_mem _ hx)]
theorem q8C{l:List EH}{e:EH}{n:Nat}(hw:Wf l n)(h:(frst l).2.1≥0):frst (l++ [e])=frst l:=by
 have e1:(prs l l.length).findSome? (fun p=>(rcL (l++ [e]) p.1 p.2 p.1).getLast?)=(prs l l.length).findSome? (fun p=>(rcL l p.1 p.2 p.1).getLast?):=findSome_congr fun p hp=>by
  obtain⟨h1,h2⟩:=prs_mem hp
  rw[qaw hw h1 h2 p.1 (Nat.le_refl _)]
 have e2:∃z,prs (l++ [e]) (l++ [e]).length=prs l l.length++z:=by
  refine⟨if knd (l++ [e]) l.length=3 then [] else(List.range 64).map fun(w:Nat)=>(l.length,(w:Int)),?_⟩
  rw[List.length_append]
  show prs (l++ [e]) (l.length+1)=_
  rw[q5d,qdG (Nat.le_refl _)]
 obtain⟨z,e2⟩:=e2
 unfold frst at h ⊢
 rw[e2,List.findSome?_append,e1]
 cases hf:(prs l l.length).findSome? (fun p=>(rcL l p.1 p.2 p.1).getLast?) with
 |none=>rw[hf] at h;exact absurd h (by decide)
 |some r=>rfl
theorem q1G{l:List EH}{e:EH}:knd (l++ [e]) l.length=e.k:=by unfold knd;rw[q2b]
theorem q3I{l:List EH}{e:EH}:thr (l++ [e]) l.length=e.t:=by unfold thr;rw[q2b]
theorem qao{l:List EH}{e:EH}{n:Nat}(hw:Wf (l++ [e]) n)(hw0:Wf l n)(h0:rcA l l.length= [])(hn:e.k≠3→∀w∈q8j e,rcL (l++ [e]) l.length w l.length= []):frst (l++ [e])=(-1, -1, -1):=by
 refine q54 ?_
 rw[List.length_append]
 show rcA (l++ [e]) (l.length+1)= []
 rw[q92,qav hw0 l.length (Nat.le_refl _),h0,List.nil_append]
 split
 ·rfl
 ·rename_i h3
  rw[qhW hw (by simp) h3,q2b,List.flatMap_eq_nil_iff]
  exact hn (by rwa[q1G] at h3)
theorem qgl{l:List EH}{e:EH}{n i:Nat}{w:Int}{r:q0G}(hw:Wf (l++ [e]) n)(hw0:Wf l n)(h0:rcA l l.length= [])(h3:e.k≠3)(hi:(q8j e)[i]? =some w)
  (hpre:∀j w',j<i→(q8j e)[j]? =some w'→rcL (l++ [e]) l.length w' l.length= []) (hr:(rcL (l++ [e]) l.length w l.length).getLast? =some r):frst (l++ [e])=r:=by
 have hy:l.length<(l++ [e]).length:=by simp
 have h3':knd (l++ [e]) l.length≠3:=by rwa[q1G]
 have hrng:=q9b hw hy w (by rw[q2b];exact List.mem_of_getElem? hi)
 refine qhu (y:=l.length) (w:=w) hy h3' (by rw[qav hw0 l.length (Nat.le_refl _)];exact h0) hrng hr fun w' h1 h2=> ?_
 by_cases hm:w'∈q8j e
 ·obtain⟨j,hj⟩:=List.getElem?_of_mem hm
  refine hpre j w' ?_ hj
  obtain⟨hs,_,_⟩:=q3m e
  obtain⟨hjl,ej⟩:=List.getElem?_eq_some_iff.1 hj
  obtain⟨hil,ei⟩:=List.getElem?_eq_some_iff.1 hi
  rcases Nat.lt_trichotomy j i with h|h|h
  ·exact h
  ·subst h;rw[hj] at hi;have:=Option.some.inj hi;omega
  ·have:=List.pairwise_iff_getElem.1 hs i j hil hjl h
   rw[ei,ej] at this
   omega
 ·exact qax hw hy h3' (by rw[q2b];exact hm) _
theorem qfb{l:List EH}{n y:Nat}(hw:Wf l n)(hy:y<l.length)(hp:knd l y=1∨knd l y=2):∀x,x<y→knd l x≠3→thr l x≠thr l y→(HB l x (toP l y)↔(q0B l (thr l x) x:Int)+1≤(q77 l (thr l y) y (((thr l x).toNat:Nat):Int):Int)):=fun x hx h3 ht=>by
 have e:toP l y=y:=by unfold toP;rw[if_neg (by omega)]
 have h0:=(hw.kd x (by omega)).2.2.1
 rw[e,Int.toNat_of_nonneg h0,qfd (t:=thr l x) ⟨by omega, .inl h3⟩ hy hx rfl ht hp]
 omega
theorem qjs{l:List EH}{n y:Nat}(hw:Wf l n)(hy:y<l.length)(h4:knd l y=4):∀x,x<y→knd l x≠3→thr l x≠thr l y→(HB l x (toP l y)↔(q0B l (thr l x) x:Int)+1≤(qeO l (thr l y) y (((thr l x).toNat:Nat):Int):Int)):=fun x hx h3 ht=>by
 obtain⟨p,hp,hpy,hp3,hpt⟩:=qcQ hw hy h4
 have hc:=(qeq hw hy (by omega)).1
 have e:toP l y=p:=by unfold toP;rw[if_pos h4,hp,Int.toNat_natCast]
 have h0:=(hw.kd x (by omega)).2.2.1
 rw[e] at hc
 unfold qeO
 rw[e,Int.toNat_of_nonneg h0,hp,Int.toNat_natCast,qfc (t:=thr l x) ⟨by omega, .inl h3⟩ hc hp3 rfl (by rw[hpt];exact ht)]
 omega
theorem q8a{l:List EH}{u t:Int}{m:Nat}:q77 l u (m+1) t=if q8y l u m=true then q0B l t (m+1) else q77 l u m t:=by
 unfold q77
 have e:lst (q8y l u) (m+1)=if q8y l u m=true then m+1 else lst (q8y l u) m:=rfl
 rw[e]
 split <;>rfl
theorem q9o{l:List EH}{u t:Int}{m:Nat}:qeO l u (m+1) t=if thr l m=u then q0B l t m else qeO l u m t:=by
 unfold qeO
 have e:bgL l u (m+1)=if thr l m=u then(m:Int) else bgL l u m:=rfl
 rw[e]
 split
 ·rw[Int.toNat_natCast]
 ·rfl
def q0d(l:List EH)(n:Nat):List Int:=q3W n fun t=>(q0B l t l.length:Int)
def q5O(l:List EH)(n:Nat)(u:Int):List Int:=q3W n fun t=>(q77 l u l.length t:Int)
def qbV(l:List EH)(n:Nat)(u:Int):List Int:=q3W n fun t=>(qeO l u l.length t:Int)
def q7P(l:List EH)(n:Nat)(Q:List EH→Int→Nat→Bool)(w:Int):List (Int×Int):=q3W n fun t=>q4W l (Q l w) t l.length
theorem qb0{l:List EH}{e:EH}{t:Int}:q0B (l++ [e]) t (l.length+1)=q0B l t l.length+if e.k=4∧e.t=t then 1 else 0:=by
 show q0B (l++ [e]) t l.length+(if q8y (l++ [e]) t l.length=true then 1 else 0)=_
 rw[q2V (Nat.le_refl _)]
 congr 1
 unfold q8y
 rw[q1G,q3I]
 simp only[decide_eq_true_eq]
theorem qcB{l:List EH}{e:EH}:(l++ [e]).length=l.length+1:=by simp
theorem qd3{l:List EH}{e:EH}{n u:Nat}(hu:e.t=u)(h4:e.k=4):(q0d l n).set u ((q0B l u l.length:Int)+1)=q0d (l++ [e]) n:=by
 unfold q0d
 refine q4N fun t _=> ?_
 rw[qcB,qb0,hu]
 by_cases h:t=u
 ·subst h;rw[if_pos rfl,if_pos ⟨h4,rfl⟩];omega
 ·rw[if_neg h,if_neg (fun x=>h (by omega))];omega
theorem qc1{l:List EH}{e:EH}{n:Nat}(h4:e.k≠4):q0d (l++ [e]) n=q0d l n:=by
 unfold q0d
 refine q0C fun t _=> ?_
 rw[qcB,qb0,if_neg (fun x=>h4 x.1)]
 rfl
theorem qdP{l:List EH}{e:EH}{n:Nat}(h4:e.k=4):q5O (l++ [e]) n e.t=q0d (l++ [e]) n:=by
 unfold q5O q0d
 refine q0C fun t _=> ?_
 rw[qcB,q8a,if_pos (q2W.2 ⟨q1G.trans h4,q3I⟩)]
theorem q8b{l:List EH}{e:EH}{n:Nat}{u:Int}(h:e.k≠4∨e.t≠u):q5O (l++ [e]) n u=q5O l n u:=by
 unfold q5O
 refine q0C fun t _=> ?_
 rw[qcB,q8a,if_neg (fun x=>by
  obtain⟨a,b⟩:=q2W.1 x
  rw[q1G] at a
  rw[q3I] at b
  rcases h with h|h <;>contradiction),q9O (Nat.le_refl _)]
theorem qbW{l:List EH}{e:EH}{n:Nat}:qbV (l++ [e]) n e.t=q0d l n:=by
 unfold qbV q0d
 refine q0C fun t _=> ?_
 rw[qcB,q9o,if_pos q3I,q2V (Nat.le_refl _)]
theorem qcP{l:List EH}{u:Int}:∀{m},m≤l.length→(bgL l u m).toNat≤l.length:=fun{m} h=>by
 have:=qg8 l u m
 omega
theorem q9p{l:List EH}{e:EH}{n:Nat}{u:Int}(h:e.t≠u):qbV (l++ [e]) n u=qbV l n u:=by
 unfold qbV
 refine q0C fun t _=> ?_
 rw[qcB,q9o,if_neg (by rw[q3I];exact h)]
 unfold qeO
 rw[q8p l.length (Nat.le_refl _),q2V (qcP (Nat.le_refl _))]
theorem qeI{l:List EH}{e:EH}{n u:Nat}{Q:List EH→Int→Nat→Bool}{w:Int}(hQ:∀i,i<l.length→Q (l++ [e]) w i=Q l w i)(hu:e.t=u)(h:Q (l++ [e]) w l.length=true):(q7P l n Q w).set u ((l.length:Int),(q0B l u l.length:Int)+1)=q7P (l++ [e]) n Q w:=by
 unfold q7P
 refine q4N fun t _=> ?_
 rw[qcB,q4X,q3I,hu,q2V (Nat.le_refl _)]
 by_cases ht:t=u
 ·subst ht;rw[if_pos rfl,if_pos ⟨h,rfl⟩]
 ·rw[if_neg ht,if_neg (fun x=>ht (by omega)),q3q (Nat.le_refl _) hQ]
theorem q9k{l:List EH}{e:EH}{n:Nat}{Q:List EH→Int→Nat→Bool}{w:Int}(hQ:∀i,i<l.length→Q (l++ [e]) w i=Q l w i)(h:Q (l++ [e]) w l.length=false):q7P (l++ [e]) n Q w=q7P l n Q w:=by
 unfold q7P
 refine q0C fun t _=> ?_
 rw[qcB,q4X,if_neg (by rw[h];simp),q3q (Nat.le_refl _) hQ]
def gtC(C:List Int)(t:Int):Int:=if 0≤t∧t<C.length then C[t.toNat]?.getD 0 else 0
theorem qdn{C:List Int}{t:Nat}{x:Int}(h:C[t]? =some x):gtC C t=x:=by
 unfold gtC
 have:=(List.getElem?_eq_some_iff.1 h).1
 rw[if_pos ⟨by omega,by omega⟩,Int.toNat_natCast,h]
 rfl
abbrev q1J(x:Int×Int):List Value:= [.int .i64 x.1, .int .i64 x.2]
def fAc(A:List (Int×Int))(t:Nat):Int×Int:=A[t]?.getD (0,0)
theorem qdf{A:List (Int×Int)}{t:Nat}{x:Int×Int}(h:A[t]? =some x):fAc A t=x:=by unfold fAc;rw[h];rfl
section
variable{W0:World}{own:Own}{a c:Option Addr}{cap cc:Nat}
theorem qii{C:List Int}(hC:RdE qM 1 W0 own c C)(t:Int):qD Tryz.prog W0 174 [.slice c C.length cc, .int .i64 t] own (.int .i64 (gtC C t)):=by
 refine qe (qa qj q7F (by simp[q2F]) ?_)
 by_cases h:0≤t∧t<C.length
 ·obtain⟨k,rfl⟩:∃k:Nat,t=k:=⟨t.toNat,by omega⟩
  obtain⟨x,hx⟩:∃x,C[k]? =some x:=⟨_,List.getElem?_eq_getElem (by omega)⟩
  have h1:¬(k:Int)<0:=by omega
  have h2:¬(k:Int)≥C.length:=by omega
  rw[qdn hx]
  repeat'((try(conv=>whnf));first|(refine fH ?_)|(refine fG ?_)|((with_reducible show Ld _ _ _ _);first|(refine q1M hC hx rfl ?_))|((with_reducible show IxS _ _ _ _ _);first|((refine ixE hC hx ?_ ?_;(first|rfl|omega)))))
  exact⟨rfl,(eC)⟩
 ·have e:gtC C t=0:=by unfold gtC;rw[if_neg h]
  rw[e]
  by_cases h1:t<0
  ·repeat'((try(conv=>whnf));first|(refine fI ?_)|(refine fE ?_)|(refine fJ ?_))
   exact⟨rfl,(eC)⟩
  ·have h2:t≥C.length:=by omega
   repeat'((try(conv=>whnf));first|(refine fH ?_)|(refine fF ?_)|(refine fK ?_))
   exact⟨rfl,(eC)⟩
theorem qe8{C:List Int}{A:List (Int×Int)}(hC:RdE qM 1 W0 own c C)(hA:RdE q1J 2 W0 own a A)(hl:A.length≤65536)(pl o:Int):
  qD Tryz.prog W0 144 [.int .i64 pl, .slice a A.length cap, .int .i64 o, .slice c C.length cc] own (.int .i64 (ltM o (fun t=>gtC C t) (fAc A) pl A.length)):=by
 refine qe (qa qj q6Z (by simp[q26]) ?_)
 have hg:=fun(own':Own) [qt own' own] (t:Int)=>qii (W0:=W0) (own:=own') (cc:=cc) hC.up t
 refine q1N (σ:=Nat) (fun i=> [(0, .int .i64 (ltM o (fun t=>gtC C t) (fAc A) pl i)),(13, .int .i64 i)]) (fun i=>i≤A.length) (fun i=>A.length-i) 0 (by omega) (eF) rfl ?_
 intro i junk hi
 by_cases hlt:i<A.length
 ·have hlt':(i:Int)<A.length:=by omega
  obtain⟨x,hx⟩:∃x,A[i]? =some x:=⟨_,List.getElem?_eq_getElem hlt⟩
  have hs:ltM o (fun t=>gtC C t) (fAc A) pl (i+1)=if(i:Int)≠o∧x.2>gtC C i∧x.1>ltM o (fun t=>gtC C t) (fAc A) pl i then x.1 else ltM o (fun t=>gtC C t) (fAc A) pl i:=by
   show(if(i:Int)≠o∧(fAc A i).2>gtC C i∧(fAc A i).1>_ then(fAc A i).1 else _)=_
   rw[qdf hx]
  obtain⟨x1,x2⟩:=x
  dsimp only at hs
  generalize hp:ltM o (fun t=>gtC C t) (fAc A) pl i=p at*
  by_cases h1:(i:Int)=o
  ·rw[if_neg (fun h=>h.1 h1)] at hs
   have h1':¬(i:Int)≠o:=fun h=>h h1
   repeat'((try(conv=>whnf));first|(refine fI ?_)|(refine fD ?_)|(refine fF ?_)|(refine fK ?_)|((with_reducible show IxS _ _ _ _ _);first|((refine ixE hA hx ?_ ?_;(first|rfl|omega))))|((with_reducible show LdN _ _ _ _ _);first|(refine q2e hA hx rfl ?_))|(refine fB ?_)|(refine fM ?_)|(refine qc (fun bk hbk=> ?_)))
   exact⟨i+1,by omega,by omega,by rw[hs];exact(eF),(eC)⟩
  ·by_cases h2:x2>gtC C i
   ·by_cases h3:x1>p
    ·rw[if_pos ⟨h1,h2,h3⟩] at hs
     repeat'((try(conv=>whnf));first|(refine fH ?_)|(refine fF ?_)|(refine fJ ?_)|((with_reducible show IxS _ _ _ _ _);first|((refine ixE hA hx ?_ ?_;(first|rfl|omega))))|((with_reducible show LdN _ _ _ _ _);first|(refine q2e hA hx rfl ?_))|((with_reducible show q0b _ _ _ _ _ _);first|(((refine qq (fun ex=>hg (ex++_) i) ?_ ?_ ?_;(exact rfl);exact rfl))))|(refine fB ?_)|(refine fA ?_)|(refine fM ?_)|(refine qc (fun bk hbk=> ?_)))
     exact⟨i+1,by omega,by omega,by rw[hs];exact(eF),(eC)⟩
    ·rw[if_neg (fun h=>h3 h.2.2)] at hs
     repeat'((try(conv=>whnf));first|(refine fH ?_)|(refine fF ?_)|(refine fG ?_)|(refine fJ ?_)|((with_reducible show IxS _ _ _ _ _);first|((refine ixE hA hx ?_ ?_;(first|rfl|omega))))|((with_reducible show LdN _ _ _ _ _);first|(refine q2e hA hx rfl ?_))|((with_reducible show q0b _ _ _ _ _ _);first|(((refine qq (fun ex=>hg (ex++_) i) ?_ ?_ ?_;(exact rfl);exact rfl))))|(refine fB ?_)|(refine fA ?_)|(refine fM ?_)|(refine qc (fun bk hbk=> ?_)))
     exact⟨i+1,by omega,by omega,by rw[hs];exact(eF),(eC)⟩
   ·rw[if_neg (fun h=>h2 h.2.1)] at hs
    repeat'((try(conv=>whnf));first|(refine fH ?_)|(refine fI ?_)|(refine fD ?_)|(refine fF ?_)|(refine fJ ?_)|(refine fK ?_)|((with_reducible show IxS _ _ _ _ _);first|((refine ixE hA hx ?_ ?_;(first|rfl|omega))))|((with_reducible show LdN _ _ _ _ _);first|(refine q2e hA hx rfl ?_))|((with_reducible show q0b _ _ _ _ _ _);first|(((refine qq (fun ex=>hg (ex++_) i) ?_ ?_ ?_;(exact rfl);exact rfl))))|(refine fB ?_)|(refine fA ?_)|(refine fM ?_)|(refine qc (fun bk hbk=> ?_)))
    exact⟨i+1,by omega,by omega,by rw[hs];exact(eF),(eC)⟩
 ·have hlt':¬(i:Int)<A.length:=by omega
  have hi2:i=A.length:=by omega
  subst hi2
  repeat'((try(conv=>whnf));first|(refine fG ?_))
  exact⟨rfl,(eC)⟩
end
end Ord
end Go.Proofs.YtkieffpjjfebjaaGreatDoor
