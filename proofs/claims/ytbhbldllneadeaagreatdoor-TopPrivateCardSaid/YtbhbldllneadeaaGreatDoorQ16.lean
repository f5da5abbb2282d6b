/- What the laws share, part 16. No condition. -/
import Derived.Shelf.Sort.Plain
import Derived.Shelf.Slices.In.SortNone
import Derived.Shelf.Slices.CompactI
import Derived.Ground.Names2Prog
import Derived.Test.YtbhbldllneadeaaGreatDoorProg
import Derived.Lib.SlicesCompact
import Derived.Test.YtbhbldllneadeaaGreatDoorQ15
set_option maxHeartbeats 8000000
set_option maxRecDepth 10000
namespace Go.Proofs.YtbhbldllneadeaaGreatDoor
open Go Go.Shelf
def qaz:Go.Shelf.Ren:=⟨fun|189=>71|125=>104|257=>103|128=>151|129=>152|294=>142|295=>143|296=>144|297=>145|298=>146|299=>147|216=>148|300=>149|301=>150|328=>211|329=>212|330=>213|331=>214|332=>215|215=>216|343=>288|n=>n,fun|28=>22|3=>3|46=>61|0=>0|51=>267|53=>49|4=>4|183=>260|182=>259|131=>139|5=>5|9=>9|218=>300|222=>304|228=>338|229=>209|n=>n,fun|n=>n⟩
theorem qgO:Go.Proofs.Lays.n189 Tryz.prog qaz:={
 mixed:=by kernel_rfl
 f125:=Tryz.func104.trans (congrArg some (by kernel_rfl))
 f128:=Tryz.func151.trans (congrArg some (by kernel_rfl))
 f129:=Tryz.func152.trans (congrArg some (by kernel_rfl))
 f189:=Tryz.func71.trans (congrArg some (by kernel_rfl))
 f215:=Tryz.func216.trans (congrArg some (by kernel_rfl))
 f216:=Tryz.func148.trans (congrArg some (by kernel_rfl))
 f257:=Tryz.func103.trans (congrArg some (by kernel_rfl))
 f294:=Tryz.func142.trans (congrArg some (by kernel_rfl))
 f295:=Tryz.func143.trans (congrArg some (by kernel_rfl))
 f296:=Tryz.func144.trans (congrArg some (by kernel_rfl))
 f297:=Tryz.func145.trans (congrArg some (by kernel_rfl))
 f298:=Tryz.func146.trans (congrArg some (by kernel_rfl))
 f299:=Tryz.func147.trans (congrArg some (by kernel_rfl))
 f300:=Tryz.func149.trans (congrArg some (by kernel_rfl))
 f301:=Tryz.func150.trans (congrArg some (by kernel_rfl))
 f328:=Tryz.func211.trans (congrArg some (by kernel_rfl))
 f329:=Tryz.func212.trans (congrArg some (by kernel_rfl))
 f330:=Tryz.func213.trans (congrArg some (by kernel_rfl))
 f331:=Tryz.func214.trans (congrArg some (by kernel_rfl))
 f332:=Tryz.func215.trans (congrArg some (by kernel_rfl))
 f343:=Tryz.func288.trans (congrArg some (by kernel_rfl))
 t0:=Tryz.underlying0
 a0:=Tryz.isAgg0
 z0:=Tryz.sizeOf0
 v0:=Tryz.zeroValue0
 t3:=Tryz.underlying3
 a3:=Tryz.isAgg3
 z3:=Tryz.sizeOf3
 v3:=Tryz.zeroValue3
 t4:=Tryz.underlying4
 a4:=Tryz.isAgg4
 z4:=Tryz.sizeOf4
 v4:=Tryz.zeroValue4
 t5:=Tryz.underlying5
 a5:=Tryz.isAgg5
 z5:=Tryz.sizeOf5
 v5:=Tryz.zeroValue5
 t9:=Tryz.underlying9
 a9:=Tryz.isAgg9
 z9:=Tryz.sizeOf9
 v9:=Tryz.zeroValue9
 t28:=Tryz.underlying22
 a28:=Tryz.isAgg22
 z28:=Tryz.sizeOf22
 v28:=Tryz.zeroValue22
 t46:=Tryz.underlying61
 a46:=Tryz.isAgg61
 z46:=Tryz.sizeOf61
 v46:=Tryz.zeroValue61
 t51:=Tryz.underlying267
 a51:=Tryz.isAgg267
 z51:=Tryz.sizeOf267
 v51:=Tryz.zeroValue267
 t53:=Tryz.underlying49
 a53:=Tryz.isAgg49
 z53:=Tryz.sizeOf49
 v53:=Tryz.zeroValue49
 t131:=Tryz.underlying139
 a131:=Tryz.isAgg139
 z131:=Tryz.sizeOf139
 v131:=Tryz.zeroValue139
 t182:=Tryz.underlying259
 a182:=Tryz.isAgg259
 z182:=Tryz.sizeOf259
 v182:=Tryz.zeroValue259
 t183:=Tryz.underlying260
 a183:=Tryz.isAgg260
 z183:=Tryz.sizeOf260
 v183:=Tryz.zeroValue260
 t218:=Tryz.underlying300
 a218:=Tryz.isAgg300
 z218:=Tryz.sizeOf300
 v218:=Tryz.zeroValue300
 t222:=Tryz.underlying304
 a222:=Tryz.isAgg304
 z222:=Tryz.sizeOf304
 v222:=Tryz.zeroValue304
 t228:=Tryz.underlying338
 a228:=Tryz.isAgg338
 z228:=Tryz.sizeOf338
 v228:=Tryz.zeroValue338
 t229:=Tryz.underlying209
 a229:=Tryz.isAgg209
 z229:=Tryz.sizeOf209
 v229:=Tryz.zeroValue209}
open Go.Sort Go.RowKit in
theorem q5J(blk off cap:Nat)(zs:List Int)(w:World)(hH:Go.Sort.Holds (Value.int .i64) w blk off zs.toArray)(hblk:blk<w.heap.size)(hsz:zs.length<4611686018427387904):
  Calls Tryz.prog 71 #[.slice (some ⟨blk,off,none⟩) zs.length cap] w fun e w'=>
   e= .returned (.tuple #[])∧∃n os,w'=grow (putRow (Value.int .i64) (Sort.ahead w n) blk off (zs.mergeSort fun x y=>decide (x≤y)).toArray) os:=Any.slices_Sort_int qgO blk off cap zs w hH hblk hsz
open Go.RowKit Go.Sort in
theorem q2l(p:Option Addr)(cap:Nat)(w:World):
  Calls Tryz.prog 71 #[.slice p 0 cap] w fun e w'=>e= .returned (.tuple #[])∧w'=w:=Any.slices_Sort_int_none qgO p cap w
def qaA:Go.Shelf.Ren:=⟨fun|20=>72|n=>n,fun|22=>22|3=>3|4=>4|0=>0|n=>n,fun|n=>n⟩
theorem qkZ:Go.Proofs.Lays2.n20 Tryz.prog qaA:={
 mixed:=by kernel_rfl
 f20:=Tryz.func72.trans (congrArg some (by kernel_rfl))
 t0:=Tryz.underlying0
 a0:=Tryz.isAgg0
 z0:=Tryz.sizeOf0
 v0:=Tryz.zeroValue0
 t3:=Tryz.underlying3
 a3:=Tryz.isAgg3
 z3:=Tryz.sizeOf3
 v3:=Tryz.zeroValue3
 t4:=Tryz.underlying4
 a4:=Tryz.isAgg4
 z4:=Tryz.sizeOf4
 v4:=Tryz.zeroValue4
 t22:=Tryz.underlying22
 a22:=Tryz.isAgg22
 z22:=Tryz.sizeOf22
 v22:=Tryz.zeroValue22
 i3:=by kernel_rfl}
open Go.RowKit Go.Lib Go.Sort in
theorem q3i(blk off cap:Nat)(zs:List Int)(w:World)(hH:Go.Sort.Holds (Value.int .i64) w blk off zs.toArray)(hsz:zs.length≤9223372036854775807)(hcap:zs.length≤cap):
  Calls Tryz.prog 72 #[.slice (some ⟨blk,off,none⟩) zs.length cap] w fun e w'=>e= .returned (.slice (some ⟨blk,off,none⟩) (Lib.compact zs).length cap)∧∃q,w'=putRow (Value.int .i64) (Sort.ahead w q) blk off (Lib.compact zs++List.replicate (zs.length-(Lib.compact zs).length) 0).toArray:=Any.slices_Compact_int qkZ blk off cap zs w hH hsz hcap
open Go
def srt(l:List Int):List Int:=l.mergeSort fun x y=>decide (x≤y)
theorem q1a(l:List Int):(srt l).length=l.length:=List.length_mergeSort l
theorem q8Q{l:List Int}{x:Int}:x∈srt l↔x∈l:=List.mem_mergeSort
theorem q1R(l:List Int):(srt l).Pairwise (· ≤ ·):=by
 have:=List.pairwise_mergeSort (le:=fun(x y:Int)=>decide (x≤y)) (fun a b c h1 h2=>by simp only[decide_eq_true_eq] at*;omega) (fun a b=>by simp only[ZB,decide_eq_true_eq];omega) l;exact this.imp (fun h=>by simpa using h)
def cmp(l:List Int):List Int:=Go.Lib.compact l
theorem q2q{d:Array Int}(hs:d.toList.Pairwise (· ≤ ·)):∀m,m≤d.size→(Go.Lib.compactUpTo d m).Pairwise (· < ·)∧(∀x,x∈Go.Lib.compactUpTo d m↔ ∃j,j<m∧d[j]! =x)∧(Go.Lib.compactUpTo d m).length≤m
 |0,_=>by simp[Go.Lib.compactUpTo]
 |m+1,hm=>by
  obtain⟨h1,h2,h3⟩:=q2q hs m Y6;have hle:∀i j,i≤j→j<d.size→d[i]! ≤d[j]! :=fun i j hij hj=>by
   by_cases he:i=j
   ·subst he;exact zW _
   ·rw[getElem!_pos d i Y6,getElem!_pos d j hj];have:=Zr.1 hs i j (by simpa using (by omega:i<d.size)) (by simpa using hj) Y6
    simpa using this
  rw[Go.Lib.compactUpTo_succ]
  by_cases hk:Go.Lib.keeps d m=true
  ·rw[if_pos hk];have hne:m=0∨d[m]! ≠d[m-1]! :=by
    by_cases h0:m=0
    ·exact .inl h0
    ·right;intro he;rw[Go.Lib.keeps_neg Y6 he] at hk;cases hk
   refine⟨?_,?_,by simp;omega⟩
   ·rw[List.pairwise_append];refine⟨h1,yA _ _,fun a ha b hb=> ?_⟩;rw[zf] at hb;subst hb;obtain⟨j,hj,rfl⟩:=(h2 a).1 ha
    rcases hne with h0|hne
    ·omega
    ·have e1:=hle j (m-1) Y6 Y6;have e2:=hle (m-1) m Y6 Y6;omega
   ·intro x;rw[zz,h2,zf];constructor
    ·rintro(⟨j,hj,rfl⟩|rfl)
     ·exact⟨j,Y6,rfl⟩
     ·exact⟨m,Y6,rfl⟩
    ·rintro⟨j,hj,rfl⟩
     by_cases hjm:j=m
     ·subst hjm;exact .inr rfl
     ·exact .inl ⟨j,Y6,rfl⟩
  ·rw[if_neg hk,zC];refine⟨h1,fun x=> ?_,Y6⟩;rw[h2];have he:0<m∧d[m]! =d[m-1]! :=by
    by_cases h0:m=0
    ·subst h0;exact absurd (Go.Lib.keeps_lt_one d 0 Y6) hk
    ·refine⟨Y6,?_⟩
     by_cases h:d[m]! =d[m-1]!
     ·exact h
     ·exact absurd (Go.Lib.keeps_pos h) hk
   constructor
   ·rintro⟨j,hj,rfl⟩;exact⟨j,Y6,rfl⟩
   ·rintro⟨j,hj,rfl⟩
    by_cases hjm:j=m
    ·subst hjm;exact⟨j-1,Y6,he.2.symm⟩
    ·exact⟨j,Y6,rfl⟩
theorem q46{l:List Int}(hs:l.Pairwise (· ≤ ·)):(cmp l).Pairwise (· < ·)∧(∀x,x∈cmp l↔x∈l)∧(cmp l).length≤l.length:=by
 obtain⟨h1,h2,h3⟩:=q2q (d:=l.toArray) (by simpa using hs) l.length Y8;refine⟨h1,fun x=>(h2 x).trans ?_,h3⟩;rw[List.mem_iff_getElem];constructor
 ·rintro⟨j,hj,rfl⟩;exact⟨j,hj,by rw[getElem!_pos _ j (by simpa using hj)];simp⟩
 ·rintro⟨j,hj,rfl⟩;exact⟨j,hj,by rw[getElem!_pos _ j (by simpa using hj)];simp⟩
theorem q6e:∀l:List Int,(l.map qx).flatten=l.map (Value.int .i64)
 | []=>rfl
 |x::l=>by simp[q6e l]
theorem St.put_row{W0:World}{own:Own}{w:World}{b:Nat}{T:TypeId}{C:Own→Own}{l l':List Int}{rest:List Value}{n:Nat}{os:Array Obj}(s:St W0 own w)(hat:At [(b,fun o=>o=Obj.cells ((l.map qx).flatten++rest).toArray T)] own C)(hl:l'.length=l.length):
  St W0 (C [(b,fun o=>o=Obj.cells ((l'.map qx).flatten++rest).toArray T)]) (Go.Sort.grow (Go.Sort.putRow (Value.int .i64) (Go.Sort.ahead w n) b 0 l'.toArray) os):=by
 have hu:=hat.up (fun o=>o=Obj.cells ((l'.map qx).flatten++rest).toArray T);have hb:=s.mem_size hu.mem;refine s.up hu rfl rfl rfl ?_ ?_ ?_
 ·simp[Go.Sort.grow,Go.Sort.putRow,Go.Sort.mapBlock,Go.Sort.ahead]
 ·intro k hk hne;simp only[Go.Sort.grow,Go.Sort.putRow,Go.Sort.mapBlock,Go.Sort.ahead];rw[ZT (by simpa using hk),ZG,if_neg (fun e=>hne e.symm)]
 ·obtain⟨o,ho,hp⟩:=s.owns _ hu.mem;refine⟨_,?_,rfl⟩;simp only[Go.Sort.grow,Go.Sort.putRow,Go.Sort.mapBlock,Go.Sort.ahead];rw[ZT (by simpa using hb),ZG,if_pos rfl];have hp':o=Obj.cells ((l.map qx).flatten++rest).toArray T:=hp;have ho':w.heap[b]? =some o:=ho;rw[ho',hp'];simp only[Zu,Go.Sort.onCells,Go.Sort.putCells,q6e]
  congr 2
  apply Array.ext';rw[Array.toList_mapIdx];refine List.ext_getElem (by simp[hl]) fun k h1 h2=> ?_
  simp only[List.getElem_mapIdx]
  by_cases hk:k<l'.length
  ·rw[if_pos ⟨Y6,by simpa using hk⟩,List.getElem_append_left (by simpa using hk),getElem!_pos _ _ (by simpa using hk)];simp
  ·rw[if_neg (by simp;omega),ZW (by simp;omega),ZW (by simp;omega)];simp[hl]
section
variable{W0:World}{own:Own}
theorem q38{w:World}{b:Nat}{l:List Int}{rest:List Value}{T:TypeId}(s:St W0 own w)(hm:(b,fun o=>o=Obj.cells ((l.map qx).flatten++rest).toArray T)∈own):Go.Sort.Holds (Value.int .i64) w b 0 l.toArray:=fun j hj=>by
 have hj':j<l.length:=by simpa using hj
 refine⟨?_,?_⟩
 ·rw[getElem!_pos _ j hj];refine q0E hm ?_ w s;rw[zD,q6e,zL,zy (by simpa using hj')];simp[hj']
 ·obtain⟨o,ho,hp⟩:=s.owns _ hm;have hp':o=Obj.cells ((l.map qx).flatten++rest).toArray T:=hp;have ho':w.heap[b]? =some o:=ho;simp[World.frozen?,ho',hp']
theorem q8O{a:Option Addr}{l:List Int}{cap:Nat}{D:Own}{C:Own→Own}(hB:qu qx 3 1 a cap l D)(hat:At D own C)(hl:l.length<4611686018427387904):
  qt Tryz.prog W0 71 [.slice a l.length cap] own fun v own'=>∃D':Own,(v= .tuple #[]∧qu qx 3 1 a cap (srt l) D')∧Ent W0 own' (C D'):=by
 intro w hs
 rcases hB.how with ⟨rfl,rfl,rfl⟩|⟨b,rest,rfl,rfl,hlen,hle⟩
 ·refine(q2l a 0 w).mono ?_;rintro e w' ⟨rfl,rfl⟩;exact⟨_,own,rfl,hs,[],⟨rfl,by rw[show srt []= [] from List.mergeSort_nil];exact qu.nil⟩,by rw[hat.same];exact Ent.refl⟩
 ·have hm:=(hat.up (fun _=>True)).mem;refine(q5J b 0 cap l w (q38 hs hm) (hs.mem_size hm) hl).mono ?_;rintro e w' ⟨rfl,n,os,rfl⟩;exact⟨_,_,rfl,hs.put_row hat (q1a l),_,⟨rfl,fun _ _=>rfl, .inr ⟨b,rest,rfl,rfl,by rw[q1a];exact hlen,by rw[q1a];exact hle⟩⟩,Ent.refl⟩
theorem q3G{a:Option Addr}{l:List Int}{cap:Nat}{D:Own}{C:Own→Own}(hB:qu qx 3 1 a cap l D)(hat:At D own C)(hl:l.length≤9223372036854775807)(hs2:l.Pairwise (· ≤ ·)):
  qt Tryz.prog W0 72 [.slice a l.length cap] own fun v own'=>∃D':Own,(v= .slice a (cmp l).length cap∧qu qx 3 1 a cap (cmp l) D')∧Ent W0 own' (C D'):=by
 cases l with
 |nil=>
  refine sH [3,5,7,9,11,13,15,17,19,21,0,3,5,7,9,11,13,15,17,19,21,0] ?_
  repeat'((try(conv=>whnf));first|(refine fE ?_))
  exact⟨D,⟨rfl,hB⟩,by rw[hat.same];exact Ent.refl⟩
 |cons x r=>
  intro w hs;have hcl:=(q46 hs2).2.2
  rcases hB.how with ⟨h,_,_⟩|⟨b,rest,rfl,rfl,hlen,hle⟩
  ·cases h
  ·generalize x::r=l at*;have hm:=(hat.up (fun _=>True)).mem;refine(q3i b 0 cap l w (q38 hs hm) hl hle).mono ?_;rintro e w' ⟨rfl,q,rfl⟩;have hst:=hs.put_row (n:=q) (os:= #[]) (l':=cmp l++List.replicate (l.length-(cmp l).length) 0) hat (by simp;omega);rw[Go.Sort.grow_empty] at hst;refine⟨_,_,rfl,hst,_,⟨rfl,fun _ _=>rfl, .inr ⟨b,((List.replicate (l.length-(cmp l).length) 0).map qx).flatten++rest,rfl,rfl,?_,Y6⟩⟩,?_⟩
   ·simp only[q6e,z8,zk,zJ];omega
   ·rw[zH,zY,zd];exact Ent.refl
end
open Go
section
variable{α:Type}{enc:α→List Value}{sz:Nat}{W0:World}{own:Own}{a:Option Addr}{n c m:Nat}{l:List α}{x:α}
theorem qiI{K:Value→Prop}(hn:n=m+1)(h:K (.slice (slA a c 1 sz) m (c-1))):qjH a n c sz (some 1) none none K:=by
 refine⟨1,n,c,rfl,rfl,rfl,Y6,(fun h=>by cases h),(fun h=>by cases h),(fun h=>by cases h),?_⟩;rw[show n-1=m by omega];exact h
theorem qfg{K:Value→Prop}{i:Int}(hi:i=n)(hc:n≤c)(h:K (.slice (slA a c 0 sz) n c)):qjH a n c sz none (some i) none K:=
 ⟨0,n,c,rfl,hi,rfl,Y6,fun _=>hc,(fun h=>by cases h),(fun h=>by cases h),h⟩
theorem RdE.tl(h:RdE enc sz W0 own a (x::l))(hc:(x::l).length≤c):RdE enc sz W0 own (slA a c 1 sz) l:=by
 have:=h.sl (c:=1) (r:=(x::l).length) (m:=c) (zu _) hc
 simpa using this
theorem RdE.hd(h:RdE enc sz W0 own a l)(hc:l.length≤c):RdE enc sz W0 own (slA a c 0 sz) l:=by
 have:=h.sl (c:=0) (r:=l.length) (m:=c) (zu _) hc
 simpa using this
end
section
variable{W0:World}{own F:Own}{h:MH}{m:MS}{b c:Nat}{a:Option Addr}{rv w:Int}{l:List Int}{f:Bool}
abbrev ckP(a:Option Addr)(n c:Nat)(rv:Int)(f:Bool):Obj→Prop:=fun z=>z=Obj.cells #[.slice a n c, .int .i64 rv, .bool f] 352 (0,0)
theorem q8K(hL:RdE qx 1 W0 own a l)(hl:l.length≤1000000)(rv:Int):qt Tryz.prog W0 245 [.slice a l.length c, .int .i64 rv] own fun v own'=>
  ∃s:Nat×Option Addr×Nat×Own,(v= .pointer (some ⟨s.1,0,none⟩)∧qu qx 3 1 s.2.1 s.2.2.1 l s.2.2.2)∧Ent W0 own' ((s.1,ckP s.2.1 l.length s.2.2.1 rv false)::(s.2.2.2++own)):=by
 refine sH [] ?_;have hcl:=qI (cap:=c) hL Y6
 repeat'((try(conv=>whnf));first|((apply qe);first|((refine qi hcl (fun y v hv=> ?_);(obtain⟨a1,c1,D1⟩:=y;obtain⟨rfl,hB1⟩:=hv;dsimp only at hB1))))|(refine qf (fun bk hbk=> ?_)))
 all_goals exact⟨(_,a1,c1,D1),⟨rfl,hB1⟩,Ent.refl⟩
theorem q4M{n:Nat}(h0:Cl W0 own b 0 (.slice a n c))(h2:Cl W0 own b 2 (.bool f)):qE Tryz.prog W0 248 [.pointer (some ⟨b,0,none⟩)] own (.bool (f||decide (n=0))):=by
 refine qg (sH [] ?_);cases f
 all_goals
  repeat'((try(conv=>whnf));first|(refine fH ?_)|(refine fI ?_)|(refine q0d h2 ?_)|(refine q0d h0 ?_))
  all_goals first|exact⟨rfl,(eC)⟩|exact⟨q0J (vb Y8),(eC)⟩
theorem qcP(h2:Cl W0 own b 2 (.bool f)):qE Tryz.prog W0 250 [.pointer (some ⟨b,0,none⟩)] own (.bool f):=by
 refine qg (sH [] ?_)
 repeat'((try(conv=>whnf));first|(refine q0d h2 ?_))
 all_goals exact⟨rfl,(eC)⟩
theorem qcQ{j:Nat}(hM:h.ok m.L)(hL:RdE qx 1 W0 F a ((j:Int)::l))(hj:m.o[j]? =some w)(hw:okU w)(Q:Own) [eq:qv Q F]:
  qt Tryz.prog W0 249 [.pointer (some ⟨b,0,none⟩), .pointer (some ⟨h.mb,0,none⟩)] ((b,ckP a (l.length+1) c rv false)::(h.O m++Q)) fun v own'=>
   ∃_:Unit,v=(acL 2 j w).v∧Ent W0 own' ((b,ckP (slA a c 1 1) l.length (c-1) rv (decide (q5V w>rv)))::(h.O m++Q)):=by
 refine qD (sH [3,5,7,9,11,13,15,17,19,21,23,26,0] ?_);have hve:=fun own'=>q5P (W0:=W0) (own:=own') w hw
 have hx:((j:Int)::l)[0]? =some (j:Int):=rfl;have hdn:=fun(own':Own) (mm:qy b (ckP a (l.length+1) c rv false) own')=>q4M (W0:=W0) (own:=own') (qk mm rfl) (qk mm rfl)
 have hd0:(false||decide (l.length+1=0))=false:=Y8;rw[hd0] at hdn
 repeat'((try(conv=>whnf));first|(refine fD ?_)|(refine qiI rfl ?_)|((apply gLd);first|(refine q0r hL hx rfl ?_))|((apply qJ);first|((refine ixE hL hx ?_ ?_;(first|rfl|omega))))|((apply qe);first|((refine qd (hdn _ Y9) ?_))|((refine q0O 1 j hM Y7 hj ?_ ?_ ?_;(exact rfl);(exact rfl))))|((apply qz);first|((refine q0A hve ?_)))|(refine fO ?_)|(refine fA ?_)|(refine fL ?_)|(refine fN ?_)|(refine fM ?_)|(refine qf (fun bk hbk=> ?_)))
 all_goals exact⟨rfl,sbE⟩
abbrev wrP(a:Option Addr)(n c:Nat)(a2:Option Addr)(n2 c2:Nat):Obj→Prop:=fun z=>z=Obj.cells #[.slice a n c, .slice a2 n2 c2] 354 (0,0)
abbrev rlP(a:Option Addr)(n c:Nat)(a2:Option Addr)(n2 c2:Nat):Obj→Prop:=fun z=>z=Obj.cells #[.slice a n c, .slice a2 n2 c2] 356 (0,0)
variable{a2:Option Addr}{c2:Nat}{l2:List Int}{v:Int}
theorem q8N(hL:RdE qx 1 W0 own a l)(hL2:RdE q09 1 W0 own a2 l2)(hl:l.length≤1000000)(he:l2.length=l.length)(hc:l.length≤c)(hc2:l2.length≤c2):qt Tryz.prog W0 252 [.slice a l.length c, .slice a2 l2.length c2] own fun v own'=>
  ∃s:Nat×(Option Addr×Nat×Own)×(Option Addr×Nat×Own),(v= .pointer (some ⟨s.1,0,none⟩)∧qu qx 3 1 s.2.1.1 s.2.1.2.1 l s.2.1.2.2∧qu q09 49 1 s.2.2.1 s.2.2.2.1 l2 s.2.2.2.2)∧
   Ent W0 own' ((s.1,wrP s.2.1.1 l.length s.2.1.2.1 s.2.2.1 l2.length s.2.2.2.1)::(s.2.2.2.2++(s.2.1.2.2++own))):=by
 refine sH [3,5,7,11,13,15,10,18,19,22,23,0] ?_;have hcl:=fun(own':Own) [qv own' own]=>qI (cap:=c) ((RdE.hd hL hc).up (own:=own')) Y6
 have hcl2:=fun(own':Own) [qv own' own]=>qK (cap:=c2) ((RdE.hd hL2 hc2).up (own:=own')) Y6
 have hmn:min (l.length:Int) l2.length=l.length:=Y6;have hmn2:min (l.length:Int) l2.length=l2.length:=Y6
 repeat'((try(conv=>whnf));first|(refine qfg hmn hc ?_)|(refine qfg hmn2 hc2 ?_)|((apply qe);first|((refine qi (hcl _) (fun y v hv=> ?_);(obtain⟨a3,c3,D3⟩:=y;obtain⟨rfl,hB3⟩:=hv;dsimp only at hB3)))|((refine qi (hcl2 _) (fun y v hv=> ?_);(obtain⟨a4,c4,D4⟩:=y;obtain⟨rfl,hB4⟩:=hv;dsimp only at hB4))))|(refine qf (fun bk hbk=> ?_))|(refine q5D ?_))
 all_goals exact⟨(_,(a3,c3,D3),(a4,c4,D4)),⟨rfl,hB3,hB4⟩,Ent.refl⟩
theorem q7z(hL:RdE qx 1 W0 own a l)(hL2:RdE q09 1 W0 own a2 l2)(hl:l.length≤1000000)(he:l2.length=l.length)(hc:l.length≤c)(hc2:l2.length≤c2):qt Tryz.prog W0 257 [.slice a l.length c, .slice a2 l2.length c2] own fun v own'=>
  ∃s:Nat×(Option Addr×Nat×Own)×(Option Addr×Nat×Own),(v= .pointer (some ⟨s.1,0,none⟩)∧qu qx 3 1 s.2.1.1 s.2.1.2.1 l s.2.1.2.2∧qu q09 49 1 s.2.2.1 s.2.2.2.1 l2 s.2.2.2.2)∧
   Ent W0 own' ((s.1,rlP s.2.1.1 l.length s.2.1.2.1 s.2.2.1 l2.length s.2.2.2.1)::(s.2.2.2.2++(s.2.1.2.2++own))):=by
 refine sH [3,5,7,11,13,15,10,18,19,22,23,0] ?_;have hcl:=fun(own':Own) [qv own' own]=>qI (cap:=c) ((RdE.hd hL hc).up (own:=own')) Y6
 have hcl2:=fun(own':Own) [qv own' own]=>qK (cap:=c2) ((RdE.hd hL2 hc2).up (own:=own')) Y6
 have hmn:min (l.length:Int) l2.length=l.length:=Y6;have hmn2:min (l.length:Int) l2.length=l2.length:=Y6
 repeat'((try(conv=>whnf));first|(refine qfg hmn hc ?_)|(refine qfg hmn2 hc2 ?_)|((apply qe);first|((refine qi (hcl _) (fun y v hv=> ?_);(obtain⟨a3,c3,D3⟩:=y;obtain⟨rfl,hB3⟩:=hv;dsimp only at hB3)))|((refine qi (hcl2 _) (fun y v hv=> ?_);(obtain⟨a4,c4,D4⟩:=y;obtain⟨rfl,hB4⟩:=hv;dsimp only at hB4))))|(refine qf (fun bk hbk=> ?_))|(refine q5D ?_))
 all_goals exact⟨(_,(a3,c3,D3),(a4,c4,D4)),⟨rfl,hB3,hB4⟩,Ent.refl⟩
theorem q4Z{n:Nat}(h0:Cl W0 own b 0 (.slice a n c)):qE Tryz.prog W0 255 [.pointer (some ⟨b,0,none⟩)] own (.bool (decide (n=0))):=by
 refine qg (sH [] ?_)
 repeat'((try(conv=>whnf));first|(refine q0d h0 ?_))
 all_goals exact⟨q0J (vb Y8),(eC)⟩
theorem q7C{n:Nat}(h0:Cl W0 own b 0 (.slice a n c)):qE Tryz.prog W0 259 [.pointer (some ⟨b,0,none⟩)] own (.bool (decide (n=0))):=by
 refine qg (sH [] ?_)
 repeat'((try(conv=>whnf));first|(refine q0d h0 ?_))
 all_goals exact⟨q0J (vb Y8),(eC)⟩
theorem q7F{j:Nat}(hM:h.ok m.L)(hL:RdE qx 1 W0 F a ((j:Int)::l))(hL2:RdE q09 1 W0 F a2 (v::l2))(hj:m.d[j]? =some w)(Q:Own) [eq:qv Q F]:
  qt Tryz.prog W0 254 [.pointer (some ⟨b,0,none⟩), .pointer (some ⟨h.mb,0,none⟩)] ((b,wrP a (l.length+1) c a2 (l2.length+1) c2)::(h.O m++Q)) fun r own'=>
   ∃_:Unit,r=(acS 1 j w v).v∧Ent W0 own' ((b,wrP (slA a c 1 1) l.length (c-1) (slA a2 c2 1 1) l2.length (c2-1))::(h.O {m with d:=m.d.set j v}++Q)):=by
 refine qD (sH [3,5,7,9,11,13,15,17,19,21,23,25,27,1,30,31,33,35,38,40,41,0,38,30,31,33,35,40,41,0,3,5,7,9,11,13,15,17,19,21,23,25,27,29,32,33,35,38,0] ?_);have hx:((j:Int)::l)[0]? =some (j:Int):=rfl;have hx2:(v::l2)[0]? =some v:=rfl;have hdn:=fun(own':Own) (mm:qy b (wrP a (l.length+1) c a2 (l2.length+1) c2) own')=>q4Z (W0:=W0) (own:=own') (qk mm rfl)
 rw[show decide (l.length+1=0)=false by simp] at hdn
 repeat'((try(conv=>whnf));first|(refine fD ?_)|(refine qiI rfl ?_)|((apply gLd);first|(refine q0r hL hx rfl ?_)|(refine q0r hL2 hx2 rfl ?_))|((apply qJ);first|((refine ixE hL hx ?_ ?_;(first|rfl|omega)))|((refine ixE hL2 hx2 ?_ ?_;(first|rfl|omega))))|((apply qe);first|((refine qd (hdn _ Y9) ?_))|((refine q2h 0 j v {m with d:=m.d.set j v} hM Y7 hj rfl ?_ ?_ ?_;(exact rfl);(exact rfl))))|(refine fO ?_)|(refine fA ?_)|(refine fL ?_)|(refine fN ?_)|(refine fM ?_)|(refine qf (fun bk hbk=> ?_))|(refine q1c.mk ?_ ?_))
 all_goals exact⟨rfl,sbE⟩
theorem qdj{j:Nat}(hM:h.ok m.L)(hL:RdE qx 1 W0 F a ((j:Int)::l))(hL2:RdE q09 1 W0 F a2 (v::l2))(hj:m.o[j]? =some w)(Q:Own) [eq:qv Q F]:
  qt Tryz.prog W0 258 [.pointer (some ⟨b,0,none⟩), .pointer (some ⟨h.mb,0,none⟩)] ((b,rlP a (l.length+1) c a2 (l2.length+1) c2)::(h.O m++Q)) fun r own'=>
   ∃_:Unit,r=(acS 2 j w v).v∧Ent W0 own' ((b,rlP (slA a c 1 1) l.length (c-1) (slA a2 c2 1 1) l2.length (c2-1))::(h.O {m with o:=m.o.set j v}++Q)):=by
 refine qD (sH [3,5,7,9,11,13,15,17,19,21,23,25,27,1,30,31,33,35,38,40,41,0,38,30,31,33,35,40,41,0,3,5,7,9,11,13,15,17,19,21,23,25,27,29,32,33,35,38,0] ?_);have hx:((j:Int)::l)[0]? =some (j:Int):=rfl;have hx2:(v::l2)[0]? =some v:=rfl;have hdn:=fun(own':Own) (mm:qy b (rlP a (l.length+1) c a2 (l2.length+1) c2) own')=>q7C (W0:=W0) (own:=own') (qk mm rfl)
 rw[show decide (l.length+1=0)=false by simp] at hdn
 repeat'((try(conv=>whnf));first|(refine fD ?_)|(refine qiI rfl ?_)|((apply gLd);first|(refine q0r hL hx rfl ?_)|(refine q0r hL2 hx2 rfl ?_))|((apply qJ);first|((refine ixE hL hx ?_ ?_;(first|rfl|omega)))|((refine ixE hL2 hx2 ?_ ?_;(first|rfl|omega))))|((apply qe);first|((refine qd (hdn _ Y9) ?_))|((refine q2h 1 j v {m with o:=m.o.set j v} hM Y7 hj rfl ?_ ?_ ?_;(exact rfl);(exact rfl))))|(refine fO ?_)|(refine fA ?_)|(refine fL ?_)|(refine fN ?_)|(refine fM ?_)|(refine qf (fun bk hbk=> ?_))|(refine q1c.mk ?_ ?_))
 all_goals exact⟨rfl,sbE⟩
theorem qiN{cap n:Nat}{D:Own}{C:Own→Own}(hB:qu qx 3 1 a cap l D)(hat:At D own C)(hl:l.length≤9223372036854775807)(hs2:l.Pairwise (· ≤ ·))(hn:n=l.length):
  qt Tryz.prog W0 72 [.slice a n cap] own fun v own'=>∃D':Own,(v= .slice a (cmp l).length cap∧qu qx 3 1 a cap (cmp l) D')∧Ent W0 own' (C D'):=by
 subst hn;exact q3G hB hat hl hs2
theorem q7D(hL:RdE qx 1 W0 own a l)(hl:l.length≤1000000):qt Tryz.prog W0 264 [.slice a l.length c] own fun v own'=>
  ∃s:Option Addr×Nat×Own,(v= .slice s.1 (q7H l).length s.2.1∧qu qx 3 1 s.1 s.2.1 (q7H l) s.2.2)∧Ent W0 own' (s.2.2++own):=by
 refine sH [] ?_;have hcl:=qI (cap:=c) hL Y6;have hsl:(srt l).length≤9223372036854775807:=by rw[q1a];omega
 repeat'((try(conv=>whnf));first|((apply qe);first|((refine qi hcl (fun y v hv=> ?_);(obtain⟨a1,c1,D1⟩:=y;obtain⟨rfl,hB1⟩:=hv;dsimp only at hB1)))|((refine qi (q8O hB1 At.head Y6) (fun D2 v hv=> ?_);(obtain⟨rfl,hB2⟩:=hv)))|((refine qi (qiN hB2 At.head hsl (q1R l) (q1a l).symm) (fun D3 v hv=> ?_);(obtain⟨rfl,hB3⟩:=hv)))))
 all_goals exact⟨(a1,c1,D3),⟨rfl,hB3⟩,Ent.refl⟩
abbrev lkP(t:Nat)(a:Option Addr)(n c:Nat)(a2:Option Addr)(n2 c2:Nat)(s:Int)(ld:Bool):Obj→Prop:=fun z=>z=Obj.cells #[.int .i64 t, .slice a n c, .slice a2 n2 c2,uv s, .bool ld] 350 (0,0)
theorem qaR(hL:RdE qx 1 W0 own a l)(hl:l.length≤1000000)(t:Nat):qt Tryz.prog W0 265 [.int .i64 t, .slice a l.length c] own fun v own'=>
  ∃s:Nat×Option Addr×Nat×Own,(v= .pointer (some ⟨s.1,0,none⟩)∧qu qx 3 1 s.2.1 s.2.2.1 (q7H l) s.2.2.2)∧Ent W0 own' ((s.1,lkP t s.2.1 (q7H l).length s.2.2.1 none 0 0 0 false)::(s.2.2.2++own)):=by
 refine sH [] ?_;have hcl:=q7D (c:=c) hL Y6
 repeat'((try(conv=>whnf));first|((apply qe);first|((refine qi hcl (fun y v hv=> ?_);(obtain⟨a1,c1,D1⟩:=y;obtain⟨rfl,hB1⟩:=hv;dsimp only at hB1))))|(refine qf (fun bk hbk=> ?_)))
 all_goals exact⟨(_,a1,c1,D1),⟨rfl,hB1⟩,Ent.refl⟩
theorem q3m{n n2:Nat}(h1:Cl W0 own b 1 (.slice a n c))(h2:Cl W0 own b 2 (.slice a2 n2 c2)):qE Tryz.prog W0 241 [.pointer (some ⟨b,0,none⟩)] own (.bool (decide (n2=n))):=by
 refine qg (sH [3,5,7,9,11,13,15,17,19,21,23,25,0] ?_)
 repeat'((try(conv=>whnf));first|(refine q0d h1 ?_)|(refine q0d h2 ?_))
 all_goals exact⟨q0J (vb (by simp;omega)),(eC)⟩
theorem qfx(h2:Cl W0 own b 2 (.slice a2 l2.length c2))(hL2:RdE q09 1 W0 own a2 l2)(hl:l2.length≤1000000):qt Tryz.prog W0 296 [.pointer (some ⟨b,0,none⟩)] own fun v own'=>
  ∃s:Option Addr×Nat×Own,(v= .slice s.1 l2.length s.2.1∧qu q09 49 1 s.1 s.2.1 l2 s.2.2)∧Ent W0 own' (s.2.2++own):=by
 refine sH [] ?_;have hcl:=qK (cap:=c2) hL2 Y6
 repeat'((try(conv=>whnf));first|(refine q0d h2 ?_)|((apply qe);first|((refine qi hcl (fun y v hv=> ?_)))))
 all_goals(obtain⟨rfl,hB1⟩:=hv;exact⟨y,⟨rfl,hB1⟩,Ent.refl⟩)
variable{t j:Nat}{s:Int}
theorem qfz(hM:h.ok m.L)(hL:RdE qx 1 W0 F a l)(hx:l[l2.length]? =some (j:Int))(hj:m.o[j]? =some w)(hw:okU w)(Q:Own) [eq:qv Q F]:
  qt Tryz.prog W0 240 [.pointer (some ⟨b,0,none⟩), .pointer (some ⟨h.mb,0,none⟩)] ((b,lkP t a l.length c a2 l2.length c2 s false)::(h.O m++Q)) fun r own'=>
   ∃_:Unit,r=(acL 2 j w).v∧Ent W0 own' ((b,lkP t a l.length c a2 l2.length c2 w (decide (q3R w<0)))::(h.O m++Q)):=by
 refine qD (sH [3,5,7,9,11,13,15,17,19,21,23,25,28,29,31,33,36,0,3,5,7,9,11,13,15,17,19,21,24,25,27,30,0,3,5,7,9,11,13,15,17,27,29,31,33,35,37,39,41,43,45,47,1,19,21,23,25,49,51,53,55,58,59,61,63,66,0,49,51,53,55,19,21,23,25,58,59,61,63,66,0,3,5,7,9,11,13,15,17,19,22,24,25,27,30,0] ?_);have hlt:=(z7.1 hx).1;have hho:=fun own'=>q7v (W0:=W0) (own:=own') w hw
 have hdn:=fun(own':Own) (mm:qy b (lkP t a l.length c a2 l2.length c2 s false) own')=>q3m (W0:=W0) (own:=own') (qk mm rfl) (qk mm rfl)
 rw[show decide (l2.length=l.length)=false from decide_eq_false Y6] at hdn
 repeat'((try(conv=>whnf));first|(refine fE ?_)|(refine fD ?_)|((apply gLd);first|(refine q0r hL hx rfl ?_))|((apply qJ);first|((refine ixE hL hx ?_ ?_;(first|rfl|omega))))|((apply qe);first|((refine qd (hdn _ Y9) ?_))|((refine q0O 1 j hM Y7 hj ?_ ?_ ?_;(exact rfl);(exact rfl))))|((apply qz);first|((refine q0A hho ?_)))|(refine fO ?_)|(refine fA ?_)|(refine fL ?_)|(refine fN ?_)|(refine fM ?_)|(refine qf (fun bk hbk=> ?_)))
 all_goals exact⟨rfl,sbE⟩
theorem qfA{D2:Own}(hM:h.ok m.L)(hL:RdE qx 1 W0 F a l)(hB2:qu q09 49 1 a2 c2 l2 D2)(hx:l[l2.length]? =some (j:Int))(hj:m.o[j]? =some w)(hs:0≤s∧s+17≤18446744073709551615)(ht:t<16)(hl2:l2.length≤1000000)(Q:Own) [eq:qv Q F]:
  qt Tryz.prog W0 240 [.pointer (some ⟨b,0,none⟩), .pointer (some ⟨h.mb,0,none⟩)] ((b,lkP t a l.length c a2 l2.length c2 s true)::(h.O m++(D2++Q))) fun r own'=>
   ∃y:Option Addr×Nat×Own,(r=(acW 2 j w (s+t+1) (decide (w=s))).v∧qu q09 49 1 y.1 y.2.1 (if w=s then l2++ [s] else l2) y.2.2)∧
    Ent W0 own' ((b,lkP t a l.length c y.1 (if w=s then l2++ [s] else l2).length y.2.1 s false)::(h.O {m with o:=if w=s then m.o.set j (s+t+1) else m.o}++(y.2.2++Q))):=by
 refine sH [3,5,7,9,11,13,15,17,19,21,23,25,28,29,31,33,36,0,3,5,7,9,11,13,15,17,19,21,24,25,27,30,0,3,5,7,9,11,13,15,17,27,29,31,33,35,37,39,41,43,45,47,1,19,21,23,25,49,51,53,55,58,59,61,63,66,0,49,51,53,55,19,21,23,25,58,59,61,63,66,0,3,5,7,9,11,13,15,17,19,22,24,25,27,30,0] ?_;have hlt:=(z7.1 hx).1;have hdn:=fun(own':Own) (mm:qy b (lkP t a l.length c a2 l2.length c2 s true) own')=>q3m (W0:=W0) (own:=own') (qk mm rfl) (qk mm rfl)
 rw[show decide (l2.length=l.length)=false from decide_eq_false Y6] at hdn
 by_cases he:w=s
 ·subst he;rw[if_pos rfl,if_pos rfl,show decide (w=w)=true from decide_eq_true rfl]
  repeat'((try(conv=>whnf));first|(refine fE ?_)|(refine fD ?_)|(refine qf (fun bk hbk=> ?_))|(apply q0p (enc:=q09) (T:=49) w hB2;(exact rfl);(exact rfl);(omega);(exact rfl);(exact rfl);(omega);intro a3 c3 D3 hb3)|((apply gLd);first|(refine q0r hL hx rfl ?_))|((apply qJ);first|((refine ixE hL hx ?_ ?_;(first|rfl|omega))))|((apply qe);first|((refine qd (hdn _ Y9) ?_))|((refine qbv 1 j w (w+t+1) {m with o:=m.o.set j (w+t+1)} hM Y7 hj (if_pos rfl).symm ?_ ?_ ?_;(exact rfl);(exact rfl);(rw[show decide (w=w)=true from decide_eq_true rfl]))))|(refine fC ?_)|(refine fO ?_)|(refine fA ?_)|(refine fL ?_)|(refine fN ?_)|(refine fM ?_)|(refine q1c.mk ?_ ?_))
  all_goals exact⟨(a3,c3,D3),⟨rfl,hb3⟩,by rw[z8];exact sbE⟩
 ·rw[if_neg he,if_neg he,show decide (w=s)=false from decide_eq_false he]
  repeat'((try(conv=>whnf));first|(refine fD ?_)|((apply gLd);first|(refine q0r hL hx rfl ?_))|((apply qJ);first|((refine ixE hL hx ?_ ?_;(first|rfl|omega))))|((apply qe);first|((refine qd (hdn _ Y9) ?_))|((refine qbv 1 j s (s+t+1) m hM Y7 hj (if_neg he).symm ?_ ?_ ?_;(exact rfl);(exact rfl);(rw[show decide (w=s)=false from decide_eq_false he]))))|(refine fC ?_)|(refine fO ?_)|(refine fA ?_)|(refine fL ?_)|(refine fN ?_)|(refine fM ?_)|(refine qf (fun bk hbk=> ?_))|(refine q1c.mk ?_ ?_))
  all_goals exact⟨(a2,c2,D2),⟨rfl,hB2⟩,sbE⟩
abbrev stP(cap:Int)(a:Option Addr)(n c:Nat):Obj→Prop:=fun z=>z=Obj.cells #[.int .i64 cap, .slice a n c] 346 (0,0)
variable{cap:Int}{D:Own}
theorem qdc(cap:Int)(hc:0≤cap∧cap≤32)(Q:Own):qt Tryz.prog W0 269 [.int .i64 cap] Q fun v own'=>∃b:Nat,v= .pointer (some ⟨b,0,none⟩)∧Ent W0 own' ((b,stP cap none 0 0)::Q):=by
 refine sH [] ?_
 repeat'((try(conv=>whnf));first|(refine qf (fun bk hbk=> ?_))|(refine q5D ?_)|(refine qgS ?_))
 all_goals(rw[show max 0 (min cap 32)=cap by omega];exact⟨_,rfl,Ent.refl⟩)
theorem qdl(h1:Cl W0 own b 1 (.slice a l.length c))(hL:RdE qx 1 W0 own a l)(hl:l.length≤1000000)(o:Int):qE Tryz.prog W0 294 [.pointer (some ⟨b,0,none⟩), .int .i64 o] own (.bool (decide (o∈l))):=by
 refine qg (sH [] ?_);have hc:=q0q (cap:=c) hL Y6 o
 repeat'((try(conv=>whnf));first|(refine q0d h1 ?_)|((apply qe);first|((refine qd (hc) ?_)))|(refine fH ?_))
 all_goals exact⟨rfl,(eC)⟩
theorem qaU(h1:Cl W0 own b 1 (.slice a l.length c))(hL:RdE qx 1 W0 own a l)(hl:l.length≤1000000):qt Tryz.prog W0 246 [.pointer (some ⟨b,0,none⟩)] own fun v own'=>
  ∃s:Option Addr×Nat×Own,(v= .slice s.1 l.length s.2.1∧qu qx 3 1 s.1 s.2.1 l s.2.2)∧Ent W0 own' (s.2.2++own):=by
 refine sH [] ?_;have hcl:=qI (cap:=c) hL Y6
 repeat'((try(conv=>whnf));first|(refine q0d h1 ?_)|((apply qe);first|((refine qi hcl (fun y v hv=> ?_))))|(refine fD ?_))
 all_goals(obtain⟨rfl,hB1⟩:=hv;exact⟨y,⟨rfl,hB1⟩,Ent.refl⟩)
theorem qdk(hB:qu qx 3 1 a c l D)(hl:l.length≤1000000)(o:Int)(Q:Own):
  qt Tryz.prog W0 234 [.pointer (some ⟨b,0,none⟩), .int .i64 o] ((b,stP cap a l.length c)::(D++Q)) fun v own'=>
   ∃y:Option Addr×Nat×Own,(v= .bool (q6Q cap l o).isSome∧qu qx 3 1 y.1 y.2.1 ((q6Q cap l o).getD l) y.2.2)∧Ent W0 own' ((b,stP cap y.1 ((q6Q cap l o).getD l).length y.2.1)::(y.2.2++Q)):=by
 refine sH [3,5,7,9,11,13,15,17,19,21,23,0] ?_;have hha:=qdl (W0:=W0) (own:=(b,stP cap a l.length c)::(D++Q)) (q0E (cs:= #[.int .i64 cap, .slice a l.length c]) (T:=346) (fz:=(0,0)) zm rfl) ((hB.rd (W0:=W0)).up) hl o;unfold q6Q
 by_cases h1:o∈l
 ·rw[if_pos h1];rw[decide_eq_true h1] at hha
  repeat'((try(conv=>whnf));first|(refine fE ?_)|(refine fD ?_)|((apply qe);first|((refine qd (hha) ?_))))
  all_goals exact⟨(a,c,D),⟨rfl,hB⟩,Ent.refl⟩
 ·rw[if_neg h1];rw[decide_eq_false h1] at hha
  by_cases h2:(l.length:Int)≥cap
  ·rw[if_pos h2]
   repeat'((try(conv=>whnf));first|(refine fD ?_)|(refine fF ?_)|((apply qe);first|((refine qd (hha) ?_)))|(refine fA ?_))
   all_goals exact⟨(a,c,D),⟨rfl,hB⟩,Ent.refl⟩
  ·rw[if_neg h2]
   repeat'((try(conv=>whnf));first|(refine fD ?_)|(refine fG ?_)|(refine qf (fun bk hbk=> ?_))|(apply q0p (enc:=qx) (T:=3) o hB;(exact rfl);(exact rfl);(omega);(exact rfl);(exact rfl);(omega);intro a3 c3 D3 hb3)|((apply qe);first|((refine qd (hha) ?_)))|(refine fA ?_)|(refine fN ?_))
   all_goals exact⟨(a3,c3,D3),⟨rfl,hb3⟩,by show Ent W0 _ ((b,stP cap a3 (l++ [o]).length c3)::(D3++Q));rw[z8];exact sbE⟩
end
open Go
theorem qi5{P:Nat}{a:Int}(ha:0≤a):(a % (P:Int)*5) % (P:Int)=(hmP P a:Int):=by
 obtain⟨n,rfl⟩:∃n:Nat,a=n:=⟨a.toNat,Y6⟩
 unfold hmP;rw[zB,←Int.natCast_emod];have:((n % P:Nat):Int)*5=((n % P*5:Nat):Int):=by rw[yR];rfl
 rw[this,←Int.natCast_emod]
theorem qcg{P h d:Nat}:(((h+d) % P:Nat)+1:Int) % (P:Int)=(((h+(d+1)) % P:Nat):Int):=by
 have e:(((h+d) % P:Nat)+1:Int)=(((h+d) % P+1:Nat):Int):=Y6;rw[e,←Int.natCast_emod,Nat.mod_add_mod,yd]
theorem qio(i:Nat)(l:List Int)(hi:i<l.length):(List.replicate i (-1)++l.drop i).set i (-1)=List.replicate (i+1) (-1)++l.drop (i+1):=by
 rw[ZH _ _ Y8,zJ,y0,ZE hi,Y1,yO,zd];rfl
section
variable{W0:World}{own:Own}{b ib P:Nat}{cap:Int}
abbrev lgP(cap:Int)(a:Option Addr)(n c:Nat)(a2:Option Addr)(n2 c2:Nat)(ib P:Nat):Obj→Prop:=fun z=>z=Obj.cells #[.int .i64 cap, .slice a n c, .slice a2 n2 c2, .slice (some ⟨ib,0,none⟩) P P] 299 (0,0)
theorem qfn{ix:List Int}(hix:ix.length=P)(hP:P≤1000000)(Q:Own):qt Tryz.prog W0 298 [.pointer (some ⟨b,0,none⟩)] ((b,lgP cap none 0 0 none 0 0 ib P)::(q0K qx 3 ib ix::Q)) fun v own'=>
  ∃_:Unit,v= .tuple #[]∧Ent W0 own' ((b,lgP cap none 0 0 none 0 0 ib P)::(q0K qx 3 ib (List.replicate P (-1))::Q)):=by
 refine qD (sH [] ?_)
 repeat'((try(conv=>whnf));first|(refine fD ?_)|(refine fA ?_)|(refine fN ?_))
 refine qX (σ:=Nat) (fun i=> [(16, .int .i64 i)]) (fun i=>(b,lgP cap none 0 0 none 0 0 ib P)::(q0K qx 3 ib (List.replicate i (-1)++ix.drop i)::Q)) (fun i=>i≤P) (fun i=>P-i) 0 (zq _) (eF) (by rw[yq,zi,List.drop_zero];exact Ent.refl) rfl ?_;rintro i junk hi;have hw:∀x∈(List.replicate i (-1)++ix.drop i:List Int),(qx x).length=1:=fun _ _=>rfl
 by_cases hlt:i<P
 ·have hx:(List.replicate i (-1)++ix.drop i:List Int)[i]? =some (ix[i]' Y6):=by
   rw[zP Y8,zJ,y0,yw,Zy,z6]
  have hlt':(i:Int)<P:=Y6;have hln:P=(List.replicate i (-1)++ix.drop i:List Int).length:=by simp;omega
  repeat'((try(conv=>whnf));first|(refine fF ?_)|((apply qJ);first|((refine ixC hx hln ?_ ?_;(first|rfl|omega))))|((with_reducible show StT _ _ _ _ _);first|((refine stC (T:=3) (k:=0) (-1) hw hx ?_ ?_ ?_ ?_ ?_;(exact rfl);(omega);(exact rfl);(exact rfl))))|(refine fB ?_)|(refine fA ?_))
  refine⟨i+1,hlt,Y6,(eF),?_⟩;rw[←qio i ix Y6];exact sbE
 ·have hlt':¬(i:Int)<P:=Y6
  repeat'((try(conv=>whnf));first|(refine fG ?_))
  obtain rfl:i=P:=Y6;refine⟨rfl,?_⟩;rw[ZA Y6,zC];exact Ent.refl
theorem qdb(cap:Int)(hc:1≤cap∧cap≤32)(Q:Own):qt Tryz.prog W0 270 [.int .i64 cap] Q fun v own'=>
  ∃s:Nat×Nat×Nat,(v= .pointer (some ⟨s.1,0,none⟩)∧LI s.2.2 (List.replicate s.2.2 (-1)) []∧2*cap≤s.2.2∧s.2.2≤200)∧Ent W0 own' ((s.1,lgP cap none 0 0 none 0 0 s.2.1 s.2.2)::(q0K qx 3 s.2.1 (List.replicate s.2.2 (-1))::Q)):=by
 refine sH [] ?_;have hmx:max 0 (min cap 32)=cap:=Y6
 repeat'((try(conv=>whnf));first|(refine qf (fun b0 hb0=> ?_))|(refine q5D ?_)|(refine qgS ?_))
 refine qX (σ:=Nat) (fun p=> [(4, .int .i64 p)]) (fun _=>(b0,fun z=>z=Obj.cells #[.int .i64 cap, .slice none 0 0, .slice none 0 0, .slice none 0 0] 299 (0,0))::Q) (fun p=>1≤p∧(p:Int)≤4*cap+1) (fun p=>(2*cap-p).toNat) 1 ⟨Y6,Y6⟩ (eF) (by rw[hmx];exact Ent.refl) rfl ?_;rintro p junk ⟨hp1,hp2⟩
 by_cases hlt:(p:Int)<2*cap
 ·repeat'((try(conv=>whnf));first|(refine fF ?_)|(refine fB ?_)|(refine fA ?_))
  exact⟨p*2,⟨Y6,Y6⟩,Y6,(eF),Ent.refl⟩
 ·repeat'((try(conv=>whnf));first|(refine fG ?_)|(refine mkC (enc:=qx) p 0 rfl rfl rfl Y6 (fun bx=> ?_))|((apply qe);first|((refine qm (qfn (b:=b0) (ib:=bx) (P:=p) (cap:=cap) (ix:=List.replicate p 0) zJ Y6 Q) sbE ?_ ?_ (fun _ v hv=> ?_);(exact rfl);(exact rfl);(subst hv))))|(refine fB ?_)|(refine fA ?_)|(refine fN ?_))
  exact⟨(b0,_,p),⟨rfl,LI.new (show 0<p by omega),(by show 2*cap≤(p:Int);omega),(by show p≤200;omega)⟩,Ent.refl⟩
theorem qfE{ix ad:List Int}{aa:Option Addr}{ca:Nat}{a:Int}{D:Nat}(hI:LI P ix ad)(h1:Cl W0 own b 1 (.slice aa ad.length ca))(h3:Cl W0 own b 3 (.slice (some ⟨ib,0,none⟩) P P))(hA:RdE qx 1 W0 own aa ad)(hX:RdE qx 1 W0 own (some ⟨ib,0,none⟩) ix)(hP:P≤1000000)(ha:0≤a∧a≤9223372036854775807)
  (hs:qb5 P ix ad a D) (hd:∀e,e<D→∃v,ix[(hmP P a+e) % P]? =some v∧0≤v∧ad[v.toNat]? ≠some a):
  qE Tryz.prog W0 266 [.pointer (some ⟨b,0,none⟩), .int .i64 a] own (.int .i64 ((hmP P a+D) % P:Nat)):=by
 refine qg (sH [3,5,7,9,11,13,15,17,19,21,23,25,27,29,31,0,3,5,7,9,11,13,15,17,19,21,23,25,27,29,31,33,35,37,39,41,43,45,47,49,51,0] ?_);have hp0:=hI.p0;have hm1:=Int.emod_nonneg a (show(P:Int)≠0 by omega);have hm2:=Y3 a (show(0:Int)<P by omega);have hm3:=qi5 (P:=P) ha.1;have hm4:hmP P a<P:=ya _ hp0
 repeat'((try(conv=>whnf));first|(refine q0d h3 ?_)|(refine q8A ?_ ?_;omega)|(refine fB ?_))
 refine q1O (σ:=Nat) (fun d=> [(5, .int .i64 ((hmP P a+d) % P:Nat))]) (fun d=>d≤D) (fun d=>D-d) 0 (zq _) ⟨vi (hm3.trans (by rw[Zy,Nat.mod_eq_of_lt hm4])),True.intro⟩ rfl ?_;rintro d junk hdD;have hkP:(hmP P a+d) % P<P:=ya _ hp0
 by_cases hlt:d<D
 ·obtain⟨v,hv,hv0,hne⟩:=hd d hlt
  rcases hI.rng _ v hv with e|⟨-,hvl⟩
  ·omega
  obtain⟨y,hy⟩:∃y,ad[v.toNat]? =some y:=⟨_,z6 Y6⟩
  have hya:y≠a:=fun e=>hne (by rw[hy,e])
  have hge:v≥0:=hv0;have hnx:=qcg (P:=P) (h:=hmP P a) (d:=d);have hln:=hI.len
  repeat'((try(conv=>whnf));first|(refine fH ?_)|(refine fF ?_)|(refine fJ ?_)|(refine q0d h3 ?_)|(refine q0d h1 ?_)|(refine q8A ?_ ?_;omega)|((apply gLd);first|(refine q0r hX hv rfl ?_)|(refine q0r hA hy rfl ?_))|((apply qJ);first|((refine ixE hA hy ?_ ?_;(first|rfl|omega))))|(refine fB ?_)|(refine q8m ?_ ?_;omega))
  exact⟨d+1,hlt,Y6,⟨vi hnx,True.intro⟩,Ent.refl⟩
 ·obtain rfl:d=D:=Y6;obtain⟨v,hv⟩:=hI.at (hmP P a+d);have hln:=hI.len
  by_cases hv0:0≤v
  ·have hy:ad[v.toNat]? =some a:=(hs v hv).resolve_left Y6;have hge:v≥0:=hv0;have hna:¬(a≠a):=fun e=>e rfl
   repeat'((try(conv=>whnf));first|(refine fH ?_)|(refine fG ?_)|(refine fJ ?_)|(refine q0d h3 ?_)|(refine q0d h1 ?_)|((apply gLd);first|(refine q0r hX hv rfl ?_)|(refine q0r hA hy rfl ?_))|((apply qJ);first|((refine ixE hA hy ?_ ?_;(first|rfl|omega))))|(refine q8m ?_ ?_;omega))
   all_goals exact⟨rfl,(eC)⟩
  ·have hge:¬v≥0:=hv0
   repeat'((try(conv=>whnf));first|(refine fI ?_)|(refine fD ?_)|(refine fK ?_)|(refine q0d h3 ?_)|((apply gLd);first|(refine q0r hX hv rfl ?_))|(refine q8m ?_ ?_;omega))
   all_goals exact⟨rfl,(eC)⟩
variable{ix ad vl:List Int}{aa va:Option Addr}{ca cv:Nat}{a:Int}
theorem qc0{n:Nat}(hx:ad.idxOf? a=some n):ad[n]? =some a:=by
 obtain⟨hlt,hb, -⟩:=Zj.1 hx;rw[z6 hlt]
 simpa using hb
theorem qkW(hx:ad.idxOf? a=none):a∉ad:=fun h=>by
 have h3:=ZF.1 hx a h;simp at h3
theorem RdE.mem{l:List Int}{T:TypeId}{b:Nat} [m:qy b (fun o=>o=Obj.cells (l.map qx).flatten.toArray T) own]:RdE qx 1 W0 own (some ⟨b,0,none⟩) l:=q1A m.h (fun _ _=>rfl) (by rw[zL])
theorem q7A(hI:LI P ix ad)(h1:Cl W0 own b 1 (.slice aa ad.length ca))(h3:Cl W0 own b 3 (.slice (some ⟨ib,0,none⟩) P P))(hA:RdE qx 1 W0 own aa ad)(hX:RdE qx 1 W0 own (some ⟨ib,0,none⟩) ix)(hP:P≤1000000)(ha:0≤a∧a≤9223372036854775807):
  ∃k v,k<P∧(∀own':Own,Ent W0 own' own→qE Tryz.prog W0 266 [.pointer (some ⟨b,0,none⟩), .int .i64 a] own' (.int .i64 (k:Nat)))∧ix[k]? =some v∧(match ad.idxOf? a with
   |some n=>v=n
   |none=>v= -1)∧(a∉ad→ad.length+1<P→LI P (ix.set k ad.length) (ad++ [a])):=by
 obtain⟨D,h4,h5⟩:=hI.find a;obtain⟨v,hv,hm⟩:=hI.found h4 h5;refine⟨_,v,ya _ hI.p0,fun own' e=>qfE hI (h1.ent e) (h3.ent e) (hA.ent e) (hX.ent e) hP ha h4 h5,hv,hm,fun hn hr=> ?_⟩;refine hI.put ?_ h5 hn hr;rw[hv];cases hx:ad.idxOf? a with
 |none=>rw[hx] at hm;rw[hm]
 |some n=>exact absurd (zg (qc0 hx)) hn
theorem qlo(hI:LI P ix ad)(h1:Cl W0 own b 1 (.slice aa ad.length ca))(h2:Cl W0 own b 2 (.slice va vl.length cv))(h3:Cl W0 own b 3 (.slice (some ⟨ib,0,none⟩) P P))(hA:RdE qx 1 W0 own aa ad)(hV:RdE q09 1 W0 own va vl)(hX:RdE qx 1 W0 own (some ⟨ib,0,none⟩) ix)(hP:P≤1000000)(ha:0≤a∧a≤9223372036854775807)(hl:vl.length=ad.length):
  qE Tryz.prog W0 191 [.pointer (some ⟨b,0,none⟩), .int .i64 a] own (.tuple #[uv ((q41 ad vl a).getD 0), .bool (q41 ad vl a).isSome]):=by
 refine qg (sH [3,5,7,9,11,13,15,17,19,21,0] ?_);obtain⟨k,v,hk,hpl,hv,hm, -⟩:=q7A hI h1 h3 hA hX hP ha;have hln:=hI.len;unfold q41;cases hx:ad.idxOf? a with
 |none=>
  rw[hx] at hm;subst hm
  repeat'((try(conv=>whnf));first|(refine fH ?_)|(refine fE ?_)|(refine fG ?_)|(refine q0d h3 ?_)|((with_reducible show IxS _ _ _ P _);(rw[←hln]);(refine ixE hX hv ?_ ?_;rfl))|((apply gLd);first|(refine q0r hX hv rfl ?_))|((apply qz);first|((refine qj (fun ex=>hpl _ Ent.right) ?_))))
  all_goals exact⟨rfl,(eC)⟩
 |some n=>
  rw[hx] at hm;subst hm;have hnl:=(z7.1 (qc0 hx)).1;obtain⟨y,hy⟩:∃y,vl[n]? =some y:=⟨_,z6 Y6⟩
  dsimp only;rw[hy]
  repeat'((try(conv=>whnf));first|(refine fH ?_)|(refine fD ?_)|(refine fG ?_)|(refine q0d h3 ?_)|(refine q0d h2 ?_)|((with_reducible show IxS _ _ _ P _);(rw[←hln]);(refine ixE hX hv ?_ ?_;rfl))|((apply gLd);first|(refine q0r hX hv rfl ?_)|(refine q0r hV hy rfl ?_))|((apply qJ);first|((refine ixE hV hy ?_ ?_;(first|rfl|omega))))|((apply qz);first|((refine qj (fun ex=>hpl _ Ent.right) ?_))))
  all_goals exact⟨rfl,(eC)⟩
theorem qfv{n:Nat}(h1:Cl W0 own b 1 (.slice aa n ca)):qE Tryz.prog W0 140 [.pointer (some ⟨b,0,none⟩)] own (.int .i64 n):=by
 refine qg (sH [] ?_)
 repeat'((try(conv=>whnf));first|(refine q0d h1 ?_)|(refine fD ?_))
 all_goals exact⟨rfl,(eC)⟩
theorem q3H(h1:Cl W0 own b 1 (.slice aa ad.length ca))(hA:RdE qx 1 W0 own aa ad)(hl:ad.length≤1000000):qt Tryz.prog W0 179 [.pointer (some ⟨b,0,none⟩)] own fun v own'=>
  ∃s:Option Addr×Nat×Own,(v= .slice s.1 ad.length s.2.1∧qu qx 3 1 s.1 s.2.1 ad s.2.2)∧Ent W0 own' (s.2.2++own):=by
 refine sH [] ?_;have hcl:=qI (cap:=ca) hA Y6
 repeat'((try(conv=>whnf));first|(refine q0d h1 ?_)|((apply qe);first|((refine qi hcl (fun y v hv=> ?_))))|(refine fD ?_))
 all_goals(obtain⟨rfl,hB1⟩:=hv;exact⟨y,⟨rfl,hB1⟩,Ent.refl⟩)
theorem qd8(h2:Cl W0 own b 2 (.slice va vl.length cv))(hV:RdE q09 1 W0 own va vl)(hl:vl.length≤1000000):qt Tryz.prog W0 253 [.pointer (some ⟨b,0,none⟩)] own fun v own'=>
  ∃s:Option Addr×Nat×Own,(v= .slice s.1 vl.length s.2.1∧qu q09 49 1 s.1 s.2.1 vl s.2.2)∧Ent W0 own' (s.2.2++own):=by
 refine sH [] ?_;have hcl:=qK (cap:=cv) hV Y6
 repeat'((try(conv=>whnf));first|(refine q0d h2 ?_)|((apply qe);first|((refine qi hcl (fun y v hv=> ?_))))|(refine fD ?_))
 all_goals(obtain⟨rfl,hB1⟩:=hv;exact⟨y,⟨rfl,hB1⟩,Ent.refl⟩)
structure LH where
 b:Nat
 aa:Option Addr
 ca:Nat
 aD:Own
 va:Option Addr
 cv:Nat
 vD:Own
 ib:Nat
 P:Nat
 ix:List Int
abbrev LH.O(g:LH)(cap:Int)(ad vl:List Int)(Q:Own):Own:=(g.b,lgP cap g.aa ad.length g.ca g.va vl.length g.cv g.ib g.P)::(q0K qx 3 g.ib g.ix::(g.aD++(g.vD++Q)))
structure LH.ok(g:LH)(cap:Int)(ad vl:List Int):Prop where
 hA:qu qx 3 1 g.aa g.ca ad g.aD
 hV:qu q09 49 1 g.va g.cv vl g.vD
 hI:LI g.P g.ix ad
 hP:2*cap≤g.P∧g.P≤200
 hc:1≤cap
 hl:vl.length=ad.length
 hm:(ad.length:Int)≤cap
theorem qlt{g:LH}{cap v:Int}(hg:g.ok cap ad vl)(ha:0≤a∧a≤9223372036854775807)(Q:Own):
  qt Tryz.prog W0 268 [.pointer (some ⟨g.b,0,none⟩), .int .i64 a,uv v] (g.O cap ad vl Q) fun r own'=>
   ∃g':LH,(r= .bool (q5k cap ad vl a v).isSome∧g'.b=g.b∧g'.ok cap ((q5k cap ad vl a v).getD (ad,vl)).1 ((q5k cap ad vl a v).getD (ad,vl)).2)∧Ent W0 own' (g'.O cap ((q5k cap ad vl a v).getD (ad,vl)).1 ((q5k cap ad vl a v).getD (ad,vl)).2 Q):=by
 refine sH [3,5,7,9,11,13,15,17,19,21,23,25,27,30,0,3,5,7,9,11,13,15,17,19,21,23,0,3,5,7,9,11,13,15,17,19,21,23,26,0,3,5,7,9,11,13,15,21,23,25,29,1,18,1,20,27,32,34,35,37,40,41,43,46,0,1,27,1,20,32,34,35,37,40,41,43,46,0,32,20,34,35,37,40,41,43,46,0,32,1,20,27,34,35,37,40,41,43,46,0,27,20,34,35,37,40,41,43,46,0,1,27,1,18,1,20,32,34,35,37,40,41,43,46,0,32,20,34,35,37,40,41,43,46,0,32,18,20,34,35,37,40,41,43,46,0,32,1,18,1,20,27,34,35,37,40,41,43,46,0,27,20,34,35,37,40,41,43,46,0,27,18,20,34,35,37,40,41,43,46,0] ?_;have hmb:(g.b,lgP cap g.aa ad.length g.ca g.va vl.length g.cv g.ib g.P)∈g.O cap ad vl Q:=zm;have hAr:RdE qx 1 W0 (g.O cap ad vl Q) g.aa ad:=(hg.hA.rd (W0:=W0)).up;have hX:RdE qx 1 W0 (g.O cap ad vl Q) (some ⟨g.ib,0,none⟩) g.ix:=RdE.mem (T:=3);have hln:=hg.hI.len;have hP:=hg.hP;have hml:=hg.hm;have hvl:=hg.hl;have hc1:=hg.hc;obtain⟨k,q,hk,hpl,hv,hm,hput⟩:=q7A hg.hI (q0E (cs:= #[.int .i64 cap, .slice g.aa ad.length g.ca, .slice g.va vl.length g.cv, .slice (some ⟨g.ib,0,none⟩) g.P g.P]) hmb rfl) (q0E (cs:= #[.int .i64 cap, .slice g.aa ad.length g.ca, .slice g.va vl.length g.cv, .slice (some ⟨g.ib,0,none⟩) g.P g.P]) hmb rfl) hAr hX Y6 ha;have hw:∀x∈g.ix,(qx x).length=1:=fun _ _=>rfl
 unfold q5k;cases hx:ad.idxOf? a with
 |some n=>
  rw[hx] at hm;subst hm;have hnl:=(z7.1 (qc0 hx)).1;obtain⟨y,hy⟩:∃y,vl[n]? =some y:=⟨_,z6 Y6⟩
  have hVr:RdE q09 1 W0 (g.O cap ad vl Q) g.va vl:=(hg.hV.rd (W0:=W0)).up;dsimp only[Option.getD_some,Option.isSome_some]
  repeat'((try(conv=>whnf));first|(refine fH ?_)|(refine fE ?_)|(refine fG ?_)|((refine q3o (enc:=q09) (T:=49) (k:=0) v hg.hV hy ?_ ?_ ?_ ?_ (fun D' hb=> ?_);(exact rfl);(omega);(exact rfl);(exact rfl)))|((apply gLd);first|(refine qaB hw hv rfl ?_))|((apply qJ);first|((refine ixC hv hln.symm ?_ ?_;(first|rfl|omega)))|((refine ixE hVr hy ?_ ?_;(first|rfl|omega))))|((apply qe);first|((refine qd (hpl _ Ent.refl) ?_)))|(refine fA ?_))
  all_goals exact⟨{g with vD:=D'},⟨rfl,rfl,⟨hg.hA,(by show qu q09 _ 1 g.va g.cv (vl.set n v) D';exact hb),hg.hI,hg.hP,hg.hc,by rw[zj];exact hvl,hml⟩⟩,by show Ent W0 _ ((g.b,lgP cap g.aa ad.length g.ca g.va (vl.set n v).length g.cv g.ib g.P)::_);rw[zj];exact sbE⟩
 |none=>
  rw[hx] at hm;subst hm;dsimp only
  by_cases hcap:(ad.length:Int)=cap
  ·rw[if_pos hcap]
   repeat'((try(conv=>whnf));first|(refine fH ?_)|(refine fD ?_)|(refine fF ?_)|(refine fG ?_)|((apply gLd);first|(refine qaB hw hv rfl ?_))|((apply qJ);first|((refine ixC hv hln.symm ?_ ?_;(first|rfl|omega))))|((apply qe);first|((refine qd (hpl _ Ent.refl) ?_)))|(refine fA ?_))
   all_goals exact⟨g,⟨rfl,rfl,hg⟩,Ent.refl⟩
  ·rw[if_neg hcap]
   repeat'((try(conv=>whnf));first|(refine fH ?_)|(refine fD ?_)|(refine fG ?_)|(refine qf (fun bk hbk=> ?_))|((apply q0p (enc:=qx) (T:=3) a hg.hA;(exact rfl);(exact rfl);(omega);(exact rfl);(exact rfl);(omega);intro a3 c3 D3 hb3))|((apply q0p (enc:=q09) (T:=49) v hg.hV;(exact rfl);(exact rfl);(omega);(exact rfl);(exact rfl);(omega);intro a4 c4 D4 hb4))|((apply gLd);first|(refine qaB hw hv rfl ?_))|((apply qJ);first|((refine ixC hv hln.symm ?_ ?_;(first|rfl|omega))))|((apply qe);first|((refine qd (hpl _ Ent.refl) ?_)))|((with_reducible show StT _ _ _ _ _);first|((refine stC (T:=3) (k:=0) ((ad.length:Int)) hw hv ?_ ?_ ?_ ?_ ?_;(exact rfl);(omega);(exact rfl);(exact rfl))))|(refine fA ?_)|(refine fN ?_)|(refine q1c.mk ?_ ?_))
   all_goals
    have hI':=hput (qkW hx) Y6;refine⟨⟨g.b,a3,c3,D3,a4,c4,D4,g.ib,g.P,g.ix.set k ad.length⟩,⟨rfl,rfl,⟨hb3,hb4,hI',hP,hc1,by simp[hvl],by simp;omega⟩⟩,?_⟩;dsimp only[Option.getD_some,LH.O];rw[z8,z8];exact sbE
end
open Go
def AP.no:AP→Int
 | .idle=>0
 | .loc _=>1
 | .ent _=>2
 | .rd .. =>3
 | .lk .. =>5
 | .tn _=>6
 | .ck _=>7
 | .dc=>8
 | .wr .. =>9
 | .rl .. =>10
 | .sp=>11
 | .ps=>12
 | .lv=>14
abbrev ptr(b:Nat):Value:= .pointer (some ⟨b,0,none⟩)
structure AH where
 b:Nat
 sb:Nat
 sa:Option Addr
 sc:Nat
 sD:Own
 g:LH
 na:Option Addr
 nc:Nat
 nD:Own
 oa:Option Addr
 oc:Nat
 oD:Own
 eb:Nat
 rd:Value
 ld:Int
 lk:Value
 tn:Value
 ck:Value
 wr:Value
 rl:Value
 th:Value
 us:Value
abbrev atP(c:Cfg)(t:Nat)(h:AH)(x:AT)(k:Int):Obj→Prop:=fun z=>z=Obj.cells #[ptr h.sb,ptr h.g.b, .slice h.na x.seen.length h.nc, .slice none 0 0, .slice none 0 0,ptr h.eb,h.rd, .int .i64 h.ld, .pointer none,h.lk,h.tn,h.ck,h.wr,h.rl, .pointer none,
 .int .i64 c.words, .int .i64 c.orecs, .int .i64 c.base, .int .i64 c.c0, .int .i64 c.c1, .int .i64 c.c2, .int .i64 c.c3, .int .i64 c.reads, .int .i64 c.writes, .int .i64 c.allocs, .int .i64 c.frees, .int .i64 c.clock, .bool c.strong,
 .int .i64 t, .int .i64 x.st, .int .i64 x.code, .int .i64 k,h.th,h.us, .int .i64 x.addr,uv x.val, .slice h.oa x.oc.length h.oc,uv x.ck, .bool x.dn, .int .i64 0] 189 (0,0)
abbrev AH.R(h:AH)(c:Cfg)(t:Nat)(x:AT)(e:Nat)(Q:Own):Own:=(h.sb,stP c.reads h.sa x.set.length h.sc)::((h.eb,enP t e x.rv)::(h.sD++(h.nD++(h.oD++h.g.O c.writes x.ad x.vl Q))))
abbrev AH.O(h:AH)(c:Cfg)(t:Nat)(x:AT)(k:Int)(e:Nat)(Q:Own):Own:=(h.b,atP c t h x k)::h.R c t x e Q
structure AH.ok(h:AH)(c:Cfg)(x:AT):Prop where
 hs:qu qx 3 1 h.sa h.sc x.set h.sD
 hn:qu qx 3 1 h.na h.nc x.seen h.nD
 ho:qu qx 3 1 h.oa h.oc x.oc h.oD
 hg:h.g.ok c.writes x.ad x.vl
 ls:x.set.length≤100000
 ln:x.seen.length≤100000
 lo:x.oc.length≤100000
 rv:0≤x.rv∧x.rv≤1099511627776
 wr:c.writes≤32
section
variable{W0:World}{own Q:Own}{c:Cfg}{t:Nat}{h:AH}{x:AT}{k:Int}{b e:Nat}
theorem qcO(h31:Cl W0 own b 31 (.int .i64 k)):qE Tryz.prog W0 82 [ptr b] own (.bool (decide (k≠0))):=by
 refine qg (sH [] ?_)
 repeat'((try(conv=>whnf));first|(refine q0d h31 ?_))
 all_goals exact⟨rfl,(eC)⟩
theorem q6y(h30:Cl W0 own b 30 (.int .i64 k)):qE Tryz.prog W0 60 [ptr b] own (.int .i64 k):=by
 refine qg (sH [] ?_)
 repeat'((try(conv=>whnf));first|(refine q0d h30 ?_))
 all_goals exact⟨rfl,(eC)⟩
theorem q7p(h29:Cl W0 own b 29 (.int .i64 k)):qE Tryz.prog W0 180 [ptr b] own (.int .i64 k):=by
 refine qg (sH [] ?_)
 repeat'((try(conv=>whnf));first|(refine q0d h29 ?_))
 all_goals exact⟨rfl,(eC)⟩
theorem qcN(h35:Cl W0 own b 35 (uv k)):qE Tryz.prog W0 261 [ptr b] own (uv k):=by
 refine qg (sH [] ?_)
 repeat'((try(conv=>whnf));first|(refine q0d h35 ?_))
 all_goals exact⟨rfl,(eC)⟩
theorem q0F{d:Bool}(h38:Cl W0 own b 38 (.bool d)):qE Tryz.prog W0 55 [ptr b] own (.bool d):=by
 refine qg (sH [] ?_)
 repeat'((try(conv=>whnf));first|(refine q0d h38 ?_))
 all_goals exact⟨rfl,(eC)⟩
theorem q5N{w a:Int}(h15:Cl W0 own b 15 (.int .i64 w))(hw:0≤w∧w≤1099511627776):qE Tryz.prog W0 188 [ptr b,uv a] own (.bool (decide (a≥w))):=by
 refine qg (sH [] ?_)
 repeat'((try(conv=>whnf));first|(refine q0d h15 ?_)|(refine fC ?_))
 all_goals exact⟨rfl,(eC)⟩
theorem q4g{s:Int}(h29:Cl W0 own b 29 (.int .i64 s))(h31:Cl W0 own b 31 (.int .i64 0)):qE Tryz.prog W0 184 [ptr b, .int .i64 s] own (.int .i64 0):=by
 refine qg (sH [] ?_);have hb:=qcO h31;rw[show decide ((0:Int)≠0)=false by simp] at hb
 repeat'((try(conv=>whnf));first|(refine fH ?_)|(refine fG ?_)|(refine q0d h29 ?_)|((apply qe);first|((refine qd (hb) ?_))))
 all_goals exact⟨rfl,(eC)⟩
theorem q3n{b2 n c2:Nat}{a2:Option Addr}(h30:Cl W0 own b 30 (.int .i64 k))(h1:Cl W0 own b 1 (ptr b2))(hl:Cl W0 own b2 1 (.slice a2 n c2)):qE Tryz.prog W0 99 [ptr b] own (.bool (decide (k=1∧n≠0))):=by
 refine qg (sH [] ?_);have hln:=qfv hl
 by_cases hk:k=1
 ·repeat'((try(conv=>whnf));first|(refine fH ?_)|(refine fJ ?_)|(refine q0d h30 ?_)|(refine q0d h1 ?_)|((apply qe);first|((refine qd (hln) ?_))))
  all_goals exact⟨q0J (vb (by by_cases hn:n=0 <;>simp[hk,hn] <;>omega)),(eC)⟩
 ·repeat'((try(conv=>whnf));first|(refine fI ?_)|(refine fK ?_)|(refine q0d h30 ?_))
  all_goals exact⟨q0J (vb (by simp[hk])),(eC)⟩
theorem q9Z{b2:Nat}{n cc:Int}(h5:Cl W0 own b 5 (ptr b2))(hn:Cl W0 own b2 1 (.int .i64 n))(hv:Cl W0 own b2 2 (uv cc))(hb:0≤cc∧cc≤1099511627776)(hn2:1<n):qE Tryz.prog W0 247 [ptr b] own (.int .i64 cc):=by
 refine qg (sH [] ?_);have hs:=q3J hn hv hb;rw[if_neg Y6] at hs
 repeat'((try(conv=>whnf));first|(refine fD ?_)|(refine q0d h5 ?_)|((apply qe);first|((refine qd (hs) ?_))))
 all_goals exact⟨rfl,(eC)⟩
theorem q7t(Q:Own):qt Tryz.prog W0 176 [ptr h.b] ((h.b,atP c t h x k)::Q) fun v own'=>∃_:Unit,v= .tuple #[]∧Ent W0 own' ((h.b,atP c t h x 14)::Q):=by
 refine qD (sH [3,5,7,9,11,13,15,17,19,21,23,25,27,29,31,33,35,37,0,3,5,7,9,11,13,15,17,19,21,23,25,0] ?_)
 repeat'((try(conv=>whnf));first|(refine fH ?_)|(refine fI ?_)|(refine fE ?_)|(refine fA ?_)|(refine fN ?_)|(apply q6K;(exact rfl);(exact rfl);all_goals intro hc))
 all_goals exact⟨rfl,sbE⟩
theorem q4Y(cd:Int)(Q:Own):qt Tryz.prog W0 233 [ptr h.b, .int .i64 cd] ((h.b,atP c t h x k)::Q) fun v own'=>∃_:Unit,v= .tuple #[]∧Ent W0 own' ((h.b,atP c t h {x with code:=cd} 14)::Q):=by
 refine qD (sH [] ?_)
 repeat'((try(conv=>whnf));first|((apply qe);first|((refine qm (q7t (h:=h) (c:=c) (t:=t) (x:={x with code:=cd}) (k:=k) _) sbE ?_ ?_ (fun _ v hv=> ?_);(exact rfl);(exact rfl);(subst hv))))|(refine fN ?_))
 all_goals exact⟨rfl,sbE⟩
theorem q2y(g:FuncId)(cs:Array Value)(Q:Own):qt Tryz.prog W0 185 [ptr h.b, .func (.func g) #[] cs] ((h.b,atP c t h x k)::Q) fun v own'=>∃_:Unit,v= .tuple #[]∧Ent W0 own' ((h.b,atP c t {h with th:= .func (.func g) #[] cs} x 1)::Q):=by
 refine qD (sH [] ?_)
 repeat'((try(conv=>whnf));first|(refine fN ?_))
 all_goals exact⟨rfl,sbE⟩
end
open Go Go.Lib
theorem q6C(l:List Int):(q7H l).Pairwise (· < ·)∧(∀x,x∈q7H l↔x∈l)∧(q7H l).length≤l.length:=by
 have h:=q2q (d:=(srt l).toArray) (by rw[zL];exact q1R l) (srt l).length Y8;refine⟨h.1,fun x=>((h.2.1 x).trans ?_).trans q8Q,Zl h.2.2 (Nat.le_of_eq (q1a l))⟩;constructor
 ·rintro⟨j,hj,rfl⟩;rw[getElem!_pos _ j (by simpa using hj),ym];exact yo _
 ·intro hx;obtain⟨j,hj,e⟩:=ZO hx;exact⟨j,hj,by rw[getElem!_pos _ j (by simpa using hj),ym];exact e⟩
theorem qdC{l:List Int}(h:l.Pairwise (· < ·)):q7H l=l:=by
 have h1:(l.mergeSort fun x y=>decide (x≤y))=l:=List.mergeSort_of_pairwise (h.imp fun h=>by simpa using Int.le_of_lt h);unfold q7H;rw[h1];refine compact_all l fun j hj=> ?_
 cases j with
 |zero=>rfl
 |succ j=>
  refine keeps_pos ?_;rw[getElem!_pos _ (j+1) (by simpa using hj),getElem!_pos _ (j+1-1) (by simp;omega),ym,ym];have:=Zr.1 h j (j+1) Y6 hj Y6;simp only[Nat.add_sub_cancel];omega
theorem q7I(l:List Int):q7H (q7H l)=q7H l:=qdC (q6C l).1
open Go
abbrev q5u(v:Value)(T:TypeId):Obj→Prop:=fun z=>z=Obj.cells #[v] T (0,0)
abbrev abP(b:Nat):Obj→Prop:=q5u (ptr b) 118
abbrev fnv(g:FuncId)(cs:List Value):Value:= .func (.func g) #[] cs.toArray
structure LkO(t:Nat)(h:AH)(x:AT)(s:Int)(ld:Bool)(E:Own):Prop where
 h:∃(kb:Nat) (la:Option Addr) (lc:Nat) (lD:Own) (oa:Option Addr) (oc:Nat) (oD:Own),h.lk=ptr kb∧qu qx 3 1 la lc x.oc lD∧qu q09 49 1 oa oc x.old oD∧E=(kb,lkP t la x.oc.length lc oa x.old.length oc s ld)::(lD++oD)
def LkQ(t:Nat)(h:AH)(x:AT)(E:Own):Prop:=(x.oc= []∧E= [])∨(x.oc≠ []∧x.old.length=x.oc.length∧∃s,LkO t h x s false E)
structure TnO(h:AH)(b:Bool)(v:Int)(d:Bool)(E:Own):Prop where
 h:∃tb:Nat,h.tn=ptr tb∧E= [(tb,tnP b v d)]
def FnO(h:AH):Ko→Own→Prop
 | .en cd,E=>(∃ab cb:Nat,h.th=fnv 186 [ptr ab,ptr cb]∧E= [(ab,abP h.b),(cb,q5u (.int .i64 cd) 3)])∨(cd=7∧∃ab:Nat,h.th=fnv 189 [ptr ab]∧E= [(ab,abP h.b)])
 | .tk v,E=>∃fb vb ab:Nat,h.th=fnv 192 [ptr fb,ptr vb]∧E= [(fb,q5u (fnv 190 [ptr ab]) 187),(vb,q5u (uv v) 49),(ab,abP h.b)]
 | .wr a v,E=>∃ab xb vb:Nat,h.th=fnv 195 [ptr ab,ptr xb,ptr vb]∧E= [(ab,abP h.b),(xb,q5u (uv a) 49),(vb,q5u (uv v) 49)]
section
variable{P:Program}{W0:World}{own r:Own}{f f0:FuncId}{args args0:List Value}{b:Nat}{p p':Obj→Prop}
theorem q1l{σ:Type}{R:σ→Value→Prop}{O:σ→Own}{K:Value→Own→Prop} [m:q1r b p own r](h:qt P W0 f0 args0 ((b,p')::r) fun v own'=>∃s,R s v∧Ent W0 own' (O s))(ep:p=p')(ek:f=f0)(ea:args=args0)(hk:∀s v,R s v→K v (O s)):q0w P W0 own f args K:=by
 subst ek;subst ea;subst ep;exact⟨fun w hw=>(h w (Ent.of_perm m.h w hw)).mono fun _ _ ⟨_,_,he,hs,s,hR,hE⟩=>⟨_,O s,he,hE _ hs,hk s _ hR⟩⟩
theorem qG{σ:Type}{R:σ→Value→Prop}{O:σ→Own}{K:Value→Own→Prop} [m:q1r b p own r](h:qt P W0 f0 args0 ((b,p')::r) fun v own'=>∃s,R s v∧Ent W0 own' (O s))(hk:∀s v,R s v→K v (O s))(ep:p=p':=by exact rfl)(ek:f=f0:=by exact rfl)(ea:args=args0:=by exact rfl):q0w P W0 own f args K:=q1l h ep ek ea hk
end
def PhO(W0:World)(c:Cfg)(t:Nat)(h:AH)(x:AT)(E:Own):Prop:=
 match x.ph with
 | .idle=>E= []
 | .loc k=>FnO h k E
 | .ent _=>E= []
 | .rd n bf vl=>h.ld=n∧∃r ab:Nat,h.rd=ptr r∧h.us=fnv 190 [ptr ab]∧E= [(r,rdP x.addr (qF c x.addr) x.rv n bf vl false),(ab,abP h.b)]
 | .lk s ld=>LkO t h x s ld E
 | .tn b=>∃E1 E2,TnO h b (if b then x.tk else 0) false E1∧LkQ t h x E2∧E=E1++E2
 | .ck l=>∃(E1 E2:Own) (cb:Nat) (ca:Option Addr) (cc:Nat) (cD:Own),TnO h true x.tk true E1∧LkQ t h x E2∧h.ck=ptr cb∧(RdE qx 1 W0 cD ca l∧l.length≤cc)∧E=(cb,ckP ca l.length cc x.rv false)::(cD++(E1++E2))
 | .dc=>∃E1 E2,TnO h true x.tk true E1∧LkQ t h x E2∧E=E1++E2
 | .wr a v=>∃(E1:Own) (wb:Nat) (wa:Option Addr) (wc:Nat) (wD:Own) (va:Option Addr) (vc:Nat) (vD:Own),TnO h true x.tk true E1∧h.wr=ptr wb∧(RdE qx 1 W0 wD wa a∧a.length≤wc)∧(RdE q09 1 W0 vD va v∧v.length≤vc)∧E=(wb,wrP wa a.length wc va v.length vc)::(wD++(vD++E1))
 | .rl o w=>∃(E1:Own) (wb:Nat) (wa:Option Addr) (wc:Nat) (wD:Own) (va:Option Addr) (vc:Nat) (vD:Own),TnO h true x.tk true E1∧h.rl=ptr wb∧(RdE qx 1 W0 wD wa o∧o.length≤wc)∧(RdE q09 1 W0 vD va w∧w.length≤vc)∧E=(wb,rlP wa o.length wc va w.length vc)::(wD++(vD++E1))
 | .sp=>TnO h true x.tk true E
 | .ps=>TnO h true x.tk true E
 | .lv=>E= []
section
variable{W0:World}{own Q:Own}{c:Cfg}{t:Nat}{h:AH}{x:AT}{k:Int}{b e:Nat}
theorem q8H(hh:h.ok c x)(ho:x.oc= [])(cd:Int)(Q:Own):qt Tryz.prog W0 187 [ptr h.b, .int .i64 cd] (h.O c t x k e Q) fun v own'=>
  ∃s:AH×Own,(v= .tuple #[]∧s.1.b=h.b∧s.1.ok c (x.endA c cd)∧PhO W0 c t s.1 (x.endA c cd) s.2)∧Ent W0 own' (s.1.O c t (x.endA c cd) (x.endA c cd).ph.no e (s.2++Q)):=by
 refine sH [3,5,7,9,11,13,15,17,19,21,24,25,27,30,31,33,35,38,0] ?_;have hst:=fun(own':Own) (m1:qy h.b (atP c t h {x with code:=cd} k) own') (m2:qy h.g.b (lgP c.writes h.g.aa x.ad.length h.g.ca h.g.va x.vl.length h.g.cv h.g.ib h.g.P) own')=>q3n (W0:=W0) (qk m1 rfl) (qk m1 rfl) (qk m2 rfl)
 unfold AT.endA
 by_cases hs:cd=1∧x.ad≠ []
 ·rw[if_pos hs];have hs2:decide (cd=1∧x.ad.length≠0)=true:=decide_eq_true ⟨hs.1,fun h=>hs.2 (zA.1 h)⟩;simp only[hs2] at hst;have hml:x.ad.length≤1000000:=by
   have h1:=hh.hg.hm;have h2:=hh.wr;omega
  have hAd:=fun(own':Own) (m2:qy h.g.b (lgP c.writes h.g.aa x.ad.length h.g.ca h.g.va x.vl.length h.g.cv h.g.ib h.g.P) own') (m3:qv own' h.g.aD)=>q3H (W0:=W0) (own:=own') (qk m2 rfl) ((hh.hg.hA.rd (W0:=W0)).up) hml
  repeat'((try(conv=>whnf));first|(refine fD ?_)|((apply qe);first|((refine qd (hst _ Y9 Y9) ?_))|((refine qi (hAd _ Y9 Y9) (fun y v hv=> ?_);(obtain⟨a1,c1,D1⟩:=y;obtain⟨rfl,hB1⟩:=hv;dsimp only at hB1))))|(refine fA ?_)|(refine fN ?_))
  have hR:RdE qx 1 W0 D1 a1 x.ad:=hB1.rd (W0:=W0);refine qX (σ:=Nat×Option Addr×Nat×Own) (fun s=> [(29, .int .i64 s.1),(4, .slice s.2.1 ((x.ad.take s.1).map (qF c)).length s.2.2.1)]) (fun s=>s.2.2.2++(D1++h.O c t {x with code:=cd} k e Q)) (fun s=>s.1≤x.ad.length∧qu qx 3 1 s.2.1 s.2.2.1 ((x.ad.take s.1).map (qF c)) s.2.2.2) (fun s=>x.ad.length-s.1) (0,none,0,[]) ⟨Y8,qu.nil⟩ (eF) sbE rfl ?_;rintro⟨i,qa,qc,Dq⟩ junk ⟨hi,hq⟩;dsimp only at hi hq ⊢;have htl:((x.ad.take i).map (qF c)).length≤1000000:=by rw[zk,zU];omega
  by_cases hlt:i<x.ad.length
  ·obtain⟨y,hy⟩:∃y,x.ad[i]? =some y:=⟨_,z6 hlt⟩
   have hlt':(i:Int)<x.ad.length:=Y6;have htk:(x.ad.take (i+1)).map (qF c)=(x.ad.take i).map (qF c)++ [qF c y]:=by rw[zZ,hy,zH];rfl
   repeat'((try(conv=>whnf));first|(refine fF ?_)|(refine qf (fun bk hbk=> ?_))|(apply q0p (enc:=qx) (T:=3) (qF c y) hq;(exact rfl);(exact rfl);(omega);(exact rfl);(exact rfl);(omega);intro a3 c3 D3 hb3)|((apply gLd);first|(refine q0r hR hy rfl ?_))|((apply qJ);first|((refine ixE hR hy ?_ ?_;(first|rfl|omega))))|((apply qe);first|((refine qd (q3I W0 _ c y) ?_)))|(refine fB ?_)|(refine fQ ?_))
   refine⟨(i+1,a3,c3,D3),⟨hlt,by dsimp only;rw[htk];exact hb3⟩,by simp only;omega,?_,sbE⟩;dsimp only;rw[htk,z8];exact(eF)
  ·obtain rfl:i=x.ad.length:=Y6;rw[Z4] at hq htl ⊢;have hlt':¬(x.ad.length:Int)<x.ad.length:=Y6;have hSo:=fun(own':Own) (m:qv own' Dq)=>q7D (W0:=W0) (own:=own') (c:=qc) ((hq.rd (W0:=W0)).up) htl
   have hNl:=fun(own' D:Own) (sa:Option Addr) (sc:Nat) (hB:qu qx 3 1 sa sc (q7H (x.ad.map (qF c))) D) (m:qv own' D)=>qaR (W0:=W0) (own:=own') (c:=sc) ((hB.rd (W0:=W0)).up) (Zl (q6C _).2.2 htl) t
   repeat'((try(conv=>whnf));first|(refine fG ?_)|((apply qe);first|((refine qi (hSo _ Y9) (fun y v hv=> ?_);(obtain⟨a2,c2,D2⟩:=y;obtain⟨rfl,hB2⟩:=hv;dsimp only at hB2)))|((refine qi (hNl _ _ _ _ hB2 Y9) (fun y v hv=> ?_);(obtain⟨kb,a3,c3,D3⟩:=y;obtain⟨rfl,hB3⟩:=hv;dsimp only at hB3))))|(refine fA ?_)|(refine fN ?_))
   rw[q7I] at hB3;rw[q7I];exact⟨({h with oa:=a2,oc:=c2,oD:=D2,lk:=ptr kb},(kb,lkP t a3 (q7H (x.ad.map (qF c))).length c3 none 0 0 0 false)::(D3++ [])),⟨rfl,rfl,⟨hh.hs,hh.hn,hB2,hh.hg,hh.ls,hh.ln,Zl (q6C _).2.2 (by rw[zk];have:=hh.hg.hm;have:=hh.wr;omega),hh.rv,hh.wr⟩,⟨kb,a3,c3,D3,none,0,[],rfl,hB3,qu.nil,rfl⟩⟩,by rw[zC,zl];exact sbE⟩
 ·rw[if_neg hs];have hs2:decide (cd=1∧x.ad.length≠0)=false:=decide_eq_false fun h=>hs ⟨h.1,fun e=>h.2 (by rw[e];rfl)⟩
  simp only[hs2] at hst
  repeat'((try(conv=>whnf));first|(refine fE ?_)|((apply qe);first|((refine qd (hst _ Y9 Y9) ?_))|((refine qi (q5M _) (fun tb v hv=> ?_);(subst hv))))|(refine fN ?_))
  exact⟨({h with tn:=ptr tb},[(tb,tnP false 0 false)]),⟨rfl,rfl,⟨hh.hs,hh.hn,hh.ho,hh.hg,hh.ls,hh.ln,hh.lo,hh.rv,hh.wr⟩,⟨_,[],⟨tb,rfl,rfl⟩, .inl ⟨ho,rfl⟩,rfl⟩⟩,sbE⟩
end
end Go.Proofs.YtbhbldllneadeaaGreatDoor
