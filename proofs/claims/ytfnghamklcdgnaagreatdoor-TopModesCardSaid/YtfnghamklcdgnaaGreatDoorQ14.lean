/- What the laws share, part 14. No condition. -/
import Derived.Shelf.Sort.Plain
import Derived.Shelf.Slices.In.SortNone
import Derived.Shelf.Slices.CompactI
import Derived.Ground.Names2Prog
import Derived.Test.YtfnghamklcdgnaaGreatDoorProg
import Derived.Lib.SlicesCompact
import Derived.Test.YtfnghamklcdgnaaGreatDoorQ13
set_option maxHeartbeats 8000000
set_option maxRecDepth 10000
namespace Go.Proofs.YtfnghamklcdgnaaGreatDoor
open Go Go.Shelf
def qbj:Go.Shelf.Ren:=⟨fun|189=>67|125=>101|257=>100|128=>152|129=>153|294=>143|295=>144|296=>145|297=>146|298=>147|299=>148|216=>149|300=>150|301=>151|328=>212|329=>213|330=>214|331=>215|332=>216|215=>217|343=>289|n=>n,fun|28=>24|3=>3|46=>93|0=>0|51=>268|53=>45|4=>4|183=>261|182=>260|131=>205|5=>5|9=>9|218=>302|222=>306|228=>340|229=>208|n=>n,fun|n=>n⟩
theorem qhQ:Go.Proofs.Lays.n189 Tryz.prog qbj:={
 mixed:=by kernel_rfl
 f125:=Tryz.func101.trans (congrArg some (by kernel_rfl))
 f128:=Tryz.func152.trans (congrArg some (by kernel_rfl))
 f129:=Tryz.func153.trans (congrArg some (by kernel_rfl))
 f189:=Tryz.func67.trans (congrArg some (by kernel_rfl))
 f215:=Tryz.func217.trans (congrArg some (by kernel_rfl))
 f216:=Tryz.func149.trans (congrArg some (by kernel_rfl))
 f257:=Tryz.func100.trans (congrArg some (by kernel_rfl))
 f294:=Tryz.func143.trans (congrArg some (by kernel_rfl))
 f295:=Tryz.func144.trans (congrArg some (by kernel_rfl))
 f296:=Tryz.func145.trans (congrArg some (by kernel_rfl))
 f297:=Tryz.func146.trans (congrArg some (by kernel_rfl))
 f298:=Tryz.func147.trans (congrArg some (by kernel_rfl))
 f299:=Tryz.func148.trans (congrArg some (by kernel_rfl))
 f300:=Tryz.func150.trans (congrArg some (by kernel_rfl))
 f301:=Tryz.func151.trans (congrArg some (by kernel_rfl))
 f328:=Tryz.func212.trans (congrArg some (by kernel_rfl))
 f329:=Tryz.func213.trans (congrArg some (by kernel_rfl))
 f330:=Tryz.func214.trans (congrArg some (by kernel_rfl))
 f331:=Tryz.func215.trans (congrArg some (by kernel_rfl))
 f332:=Tryz.func216.trans (congrArg some (by kernel_rfl))
 f343:=Tryz.func289.trans (congrArg some (by kernel_rfl))
 t0:=Tryz.underlying0
 a0:=Tryz.isAgg0
 z0:=Tryz.sizeOf0
 v0:=Tryz.zeroValue0
 t3:=Tryz.underlying3
 a3:=Tryz.isAgg3
 z3:=Tryz.sizeOf3
 v3:=Tryz.zeroValue3
 t4:=Tryz.underlying4
 a4:=Tryz.isAgg4
 z4:=Tryz.sizeOf4
 v4:=Tryz.zeroValue4
 t5:=Tryz.underlying5
 a5:=Tryz.isAgg5
 z5:=Tryz.sizeOf5
 v5:=Tryz.zeroValue5
 t9:=Tryz.underlying9
 a9:=Tryz.isAgg9
 z9:=Tryz.sizeOf9
 v9:=Tryz.zeroValue9
 t28:=Tryz.underlying24
 a28:=Tryz.isAgg24
 z28:=Tryz.sizeOf24
 v28:=Tryz.zeroValue24
 t46:=Tryz.underlying93
 a46:=Tryz.isAgg93
 z46:=Tryz.sizeOf93
 v46:=Tryz.zeroValue93
 t51:=Tryz.underlying268
 a51:=Tryz.isAgg268
 z51:=Tryz.sizeOf268
 v51:=Tryz.zeroValue268
 t53:=Tryz.underlying45
 a53:=Tryz.isAgg45
 z53:=Tryz.sizeOf45
 v53:=Tryz.zeroValue45
 t131:=Tryz.underlying205
 a131:=Tryz.isAgg205
 z131:=Tryz.sizeOf205
 v131:=Tryz.zeroValue205
 t182:=Tryz.underlying260
 a182:=Tryz.isAgg260
 z182:=Tryz.sizeOf260
 v182:=Tryz.zeroValue260
 t183:=Tryz.underlying261
 a183:=Tryz.isAgg261
 z183:=Tryz.sizeOf261
 v183:=Tryz.zeroValue261
 t218:=Tryz.underlying302
 a218:=Tryz.isAgg302
 z218:=Tryz.sizeOf302
 v218:=Tryz.zeroValue302
 t222:=Tryz.underlying306
 a222:=Tryz.isAgg306
 z222:=Tryz.sizeOf306
 v222:=Tryz.zeroValue306
 t228:=Tryz.underlying340
 a228:=Tryz.isAgg340
 z228:=Tryz.sizeOf340
 v228:=Tryz.zeroValue340
 t229:=Tryz.underlying208
 a229:=Tryz.isAgg208
 z229:=Tryz.sizeOf208
 v229:=Tryz.zeroValue208}
open Go.Sort Go.RowKit in
theorem q6e(blk off cap:Nat)(zs:jd)(w:World)(i:Go.Sort.Holds (Value.int .i64) w blk off zs.toArray)(d:blk<w.heap.size)(g:zs.length<4611686018427387904):
  Calls Tryz.prog 67 #[.slice (some ⟨blk,off,none⟩) zs.length cap] w fun e q=>
   e= .returned (.tuple #[])/\∃n os,q=grow (putRow (Value.int .i64) (Sort.ahead w n) blk off (zs.mergeSort fun x y=>decide (x<=y)).toArray) os:=Any.slices_Sort_int qhQ blk off cap zs w i d g
open Go.RowKit Go.Sort in
theorem q2u(p:j8)(cap:Nat)(w:World):
  Calls Tryz.prog 67 #[.slice p 0 cap] w fun e d=>e= .returned (.tuple #[])/\d=w:=Any.slices_Sort_int_none qhQ p cap w
def qbk:Go.Shelf.Ren:=⟨fun|20=>68|n=>n,fun|22=>24|3=>3|4=>4|0=>0|n=>n,fun|n=>n⟩
theorem qm5:Go.Proofs.Lays2.n20 Tryz.prog qbk:={
 mixed:=by kernel_rfl
 f20:=Tryz.func68.trans (congrArg some (by kernel_rfl))
 t0:=Tryz.underlying0
 a0:=Tryz.isAgg0
 z0:=Tryz.sizeOf0
 v0:=Tryz.zeroValue0
 t3:=Tryz.underlying3
 a3:=Tryz.isAgg3
 z3:=Tryz.sizeOf3
 v3:=Tryz.zeroValue3
 t4:=Tryz.underlying4
 a4:=Tryz.isAgg4
 z4:=Tryz.sizeOf4
 v4:=Tryz.zeroValue4
 t22:=Tryz.underlying24
 a22:=Tryz.isAgg24
 z22:=Tryz.sizeOf24
 v22:=Tryz.zeroValue24
 i3:=by kernel_rfl}
open Go.RowKit Go.Lib Go.Sort in
theorem q3D(blk off cap:Nat)(zs:jd)(w:World)(i:Go.Sort.Holds (Value.int .i64) w blk off zs.toArray)(g:zs.length<=9223372036854775807)(d:zs.length<=cap):
  Calls Tryz.prog 68 #[.slice (some ⟨blk,off,none⟩) zs.length cap] w fun e u=>e= .returned (.slice (some ⟨blk,off,none⟩) (Lib.compact zs).length cap)/\∃q,u=putRow (Value.int .i64) (Sort.ahead w q) blk off (Lib.compact zs++List.replicate (zs.length-(Lib.compact zs).length) 0).toArray:=Any.slices_Compact_int qm5 blk off cap zs w i g d
open Go
def srt(l:jd):jd:=l.mergeSort fun x y=>decide (x<=y)
theorem q1p(l:jd):(srt l).length=l.length:=List.length_mergeSort l
theorem q9t{l:jd}{x:Int}:x∈srt l↔x∈l:=List.mem_mergeSort
theorem q1z(l:jd):(srt l).Pairwise (· <= ·):=by
 have:=List.pairwise_mergeSort (le:=fun(x y:Int)=>decide (x<=y)) (fun a b c h1 h2=>by simp only[decide_eq_true_eq] at*;omega) (fun a b=>by simp only[yd,decide_eq_true_eq];omega) l;exact this.imp (fun h=>by simpa using h)
def cmp(l:jd):jd:=Go.Lib.compact l
theorem q2D{d:Array Int}(C:d.toList.Pairwise (· <= ·)):∀m,m<=d.size->(Go.Lib.compactUpTo d m).Pairwise (· < ·)/\(∀x,x∈Go.Lib.compactUpTo d m↔ ∃j,j<m/\d[j]! =x)/\(Go.Lib.compactUpTo d m).length<=m
 |0,_=>by simp[Go.Lib.compactUpTo]
 |m+1,hm=>by
  obtain⟨B,A,h3⟩:=q2D C m Yb;have hle:∀i j,i<=j->j<d.size->d[i]! <=d[j]! :=fun i j hij g=>by
   by_cases he:i=j
   ·subst he;exact zK _
   ·rw[getElem!_pos d i Yb,getElem!_pos d j g];have:=ZF.1 C i j (by simpa using (by omega:i<d.size)) (by simpa using g) Yb
    simpa using this
  rw[Go.Lib.compactUpTo_succ]
  by_cases u:Go.Lib.keeps d m=true
  ·rw[if_pos u];have y:m=0\/d[m]! ≠d[m-1]! :=by
    by_cases z:m=0
    ·exact .inl z
    ·right;intro he;rw[Go.Lib.keeps_neg Yb he] at u;cases u
   refine⟨?_,?_,by simp;omega⟩
   ·rw[Y0];refine⟨B,yO _ _,fun a G b hb=>?_⟩;rw[zf] at hb;subst hb;obtain⟨j,g,rfl⟩:=(A a).1 G
    rcases y with z|y
    ·omega
    ·have e1:=hle j (m-1) Yb Yb;have e2:=hle (m-1) m Yb Yb;omega
   ·intro x;rw[zw,A,zf];constructor
    ·rintro(⟨j,g,rfl⟩|rfl)
     ·exact⟨j,Yb,rfl⟩
     ·exact⟨m,Yb,rfl⟩
    ·rintro⟨j,g,rfl⟩
     by_cases q:j=m
     ·subst q;exact .inr rfl
     ·exact .inl ⟨j,Yb,rfl⟩
  ·rw[if_neg u,zC];refine⟨B,fun x=>?_,Yb⟩;rw[A];have he:0<m/\d[m]! =d[m-1]! :=by
    by_cases z:m=0
    ·subst z;exact absurd (Go.Lib.keeps_lt_one d 0 Yb) u
    ·refine⟨Yb,?_⟩
     by_cases h:d[m]! =d[m-1]!
     ·exact h
     ·exact absurd (Go.Lib.keeps_pos h) u
   constructor
   ·rintro⟨j,g,rfl⟩;exact⟨j,Yb,rfl⟩
   ·rintro⟨j,g,rfl⟩
    by_cases q:j=m
    ·subst q;exact⟨j-1,Yb,he.2.symm⟩
    ·exact⟨j,Yb,rfl⟩
theorem q3s{l:jd}(y:l.Pairwise (· <= ·)):(cmp l).Pairwise (· < ·)/\(∀x,x∈cmp l↔x∈l)/\(cmp l).length<=l.length:=by
 obtain⟨i,q,u⟩:=q2D (d:=l.toArray) (by simpa using y) l.length Yd;refine⟨i,fun x=>(q x).trans ?_,u⟩;rw[List.mem_iff_getElem];constructor
 ·rintro⟨j,g,rfl⟩;exact⟨j,g,by rw[getElem!_pos _ j (by simpa using g)];simp⟩
 ·rintro⟨j,g,rfl⟩;exact⟨j,g,by rw[getElem!_pos _ j (by simpa using g)];simp⟩
theorem q6L:∀l:jd,(l.map qw).flatten=l.map (Value.int .i64)
 | []=>rfl
 |x::l=>by simp[q6L l]
theorem St.put_row{W0:World}{own:Own}{w:World}{b:Nat}{T:TypeId}{C:Own->Own}{l l':jd}{rest:je}{n:Nat}{os:Array Obj}(s:St W0 own w)(g:At [(b,j7 ((l.map qw).flatten++rest).toArray T)] own C)(y:l'.length=l.length):
  St W0 (C [(b,j7 ((l'.map qw).flatten++rest).toArray T)]) (Go.Sort.grow (Go.Sort.putRow (Value.int .i64) (Go.Sort.ahead w n) b 0 l'.toArray) os):=by
 have hu:=g.up (j7 ((l'.map qw).flatten++rest).toArray T);have hb:=s.mem_size hu.mem;refine s.up hu rfl rfl rfl ?_ ?_ ?_
 ·simp[Go.Sort.grow,Go.Sort.putRow,Go.Sort.mapBlock,Go.Sort.ahead]
 ·intro k d i;simp only[Go.Sort.grow,Go.Sort.putRow,Go.Sort.mapBlock,Go.Sort.ahead];rw[ZZ (by simpa using d),ZR,if_neg (fun e=>i e.symm)]
 ·obtain⟨o,z,A⟩:=s.owns _ hu.mem;refine⟨_,?_,rfl⟩;simp only[Go.Sort.grow,Go.Sort.putRow,Go.Sort.mapBlock,Go.Sort.ahead];rw[ZZ (by simpa using hb),ZR,if_pos rfl];have u:o=Obj.cells ((l.map qw).flatten++rest).toArray T:=A;have q:w.heap[b]? =some o:=z;rw[q,u];simp only[Zm,Go.Sort.onCells,Go.Sort.putCells,q6L]
  congr 2
  apply Array.ext';rw[Array.toList_mapIdx];refine List.ext_getElem (by simp[y]) fun k h1 h2=>?_
  simp only[List.getElem_mapIdx]
  by_cases d:k<l'.length
  ·rw[if_pos ⟨Yb,by simpa using d⟩,List.getElem_append_left (by simpa using d),getElem!_pos _ _ (by simpa using d)];simp
  ·rw[if_neg (by simp;omega),yc (by simp;omega),yc (by simp;omega)];simp[y]
section
variable{W0:World}{own:Own}
theorem q3u{w:World}{b:Nat}{l:jd}{rest:je}{T:TypeId}(s:St W0 own w)(hm:(b,j7 ((l.map qw).flatten++rest).toArray T)∈own):Go.Sort.Holds (Value.int .i64) w b 0 l.toArray:=fun j q=>by
 have d:j<l.length:=by simpa using q
 refine⟨?_,?_⟩
 ·rw[getElem!_pos _ j q];refine q0E hm ?_ w s;rw[zy,q6L,zQ,zB (by simpa using d)];simp[d]
 ·obtain⟨o,u,y⟩:=s.owns _ hm;have i:o=Obj.cells ((l.map qw).flatten++rest).toArray T:=y;have g:w.heap[b]? =some o:=u;simp[World.frozen?,g,i]
theorem q9r{a:j8}{l:jd}{cap:Nat}{D:Own}{C:Own->Own}(q:qq qw 3 1 a cap l D)(d:At D own C)(u:l.length<4611686018427387904):
  jk W0 67 [.slice a l.length cap] own fun v own'=>∃i:Own,(v= .tuple #[]/\qq qw 3 1 a cap (srt l) i)/\Ent W0 own' (C i):=by
 intro w g
 rcases q.how with ⟨rfl,rfl,rfl⟩|⟨b,rest,rfl,rfl,hlen,hle⟩
 ·refine(q2u a 0 w).mono ?_;rintro e y ⟨rfl,rfl⟩;exact⟨_,own,rfl,g,[],⟨rfl,by rw[show srt []= [] from List.mergeSort_nil];exact qq.nil⟩,by rw[d.same];exact Ent.refl⟩
 ·have hm:=(d.up (fun _=>True)).mem;refine(q6e b 0 cap l w (q3u g hm) (g.mem_size hm) u).mono ?_;rintro e y ⟨rfl,n,os,rfl⟩;exact⟨_,_,rfl,g.put_row d (q1p l),_,⟨rfl,fun _ _=>rfl, .inr ⟨b,rest,rfl,rfl,by rw[q1p];exact hlen,by rw[q1p];exact hle⟩⟩,Ent.refl⟩
theorem q48{a:j8}{l:jd}{cap:Nat}{D:Own}{C:Own->Own}(y:qq qw 3 1 a cap l D)(d:At D own C)(A:l.length<=9223372036854775807)(i:l.Pairwise (· <= ·)):
  jk W0 68 [.slice a l.length cap] own fun v own'=>∃u:Own,(v= .slice a (cmp l).length cap/\qq qw 3 1 a cap (cmp l) u)/\Ent W0 own' (C u):=by
 cases l with
 |nil=>
  refine sH (jo 10 3 (0::(jo 10 3 [0]))) ?_
  repeat'((try conv=>whnf);first|refine fE ?_)
  exact⟨D,⟨rfl,y⟩,by rw[d.same];exact Ent.refl⟩
 |cons x r=>
  intro w z;have hcl:=(q3s i).2.2
  rcases y.how with ⟨h,_,_⟩|⟨b,rest,rfl,rfl,hlen,hle⟩
  ·cases h
  ·generalize x::r=l at*;have hm:=(d.up (fun _=>True)).mem;refine(q3D b 0 cap l w (q3u z hm) A hle).mono ?_;rintro e w' ⟨rfl,q,rfl⟩;have g:=z.put_row (n:=q) (os:= #[]) (l':=cmp l++List.replicate (l.length-(cmp l).length) 0) d (by simp;omega);rw[Go.Sort.grow_empty] at g;refine⟨_,_,rfl,g,_,⟨rfl,fun _ _=>rfl, .inr ⟨b,((List.replicate (l.length-(cmp l).length) 0).map qw).flatten++rest,rfl,rfl,?_,Yb⟩⟩,?_⟩
   ·simp only[q6L,z8,zi,zD];omega
   ·rw[zv,zP,zd];exact Ent.refl
end
open Go
section
variable{α:Type}{enc:α->je}{sz:Nat}{W0:World}{own:Own}{a:j8}{n c m:Nat}{l:List α}{x:α}
theorem qgc{K:Value->Prop}(hn:n=m+1)(h:K (.slice (slA a c 1 sz) m (c-1))):qkO a n c sz (some 1) none none K:=by
 refine⟨1,n,c,rfl,rfl,rfl,Yb,(fun h=>by cases h),(fun h=>by cases h),(fun h=>by cases h),?_⟩;rw[show n-1=m by omega];exact h
theorem qgd{K:Value->Prop}{i:Int}(hi:i=n)(d:n<=c)(h:K (.slice (slA a c 0 sz) n c)):qkO a n c sz none (some i) none K:=
 ⟨0,n,c,rfl,hi,rfl,Yb,fun _=>d,(fun h=>by cases h),(fun h=>by cases h),h⟩
theorem RdE.tl(h:RdE enc sz W0 own a (x::l))(d:(x::l).length<=c):RdE enc sz W0 own (slA a c 1 sz) l:=by
 have:=h.sl (c:=1) (r:=(x::l).length) (m:=c) (zN _) d
 simpa using this
theorem RdE.hd(h:RdE enc sz W0 own a l)(d:l.length<=c):RdE enc sz W0 own (slA a c 0 sz) l:=by
 have:=h.sl (c:=0) (r:=l.length) (m:=c) (zN _) d
 simpa using this
end
section
variable{W0:World}{own F:Own}{h:MH}{m:MS}{b c:Nat}{a:j8}{rv w:Int}{l:jd}{f:Bool}
abbrev ckP(a:j8)(n c:Nat)(rv:Int)(f:Bool):Obj->Prop:=fun z=>z=Obj.cells #[.slice a n c,j4 rv, .bool f] 354 (0,0)
theorem q9m(i:RdE qw 1 W0 own a l)(hl:l.length<=1000000)(rv:Int):jk W0 246 [.slice a l.length c,j4 rv] own fun v own'=>
  ∃s:Nat×j8×Nat×Own,(v= jn s.1/\qq qw 3 1 s.2.1 s.2.2.1 l s.2.2.2)/\Ent W0 own' ((s.1,ckP s.2.1 l.length s.2.2.1 rv false)::(s.2.2.2++own)):=by
 refine sH [] ?_;have g:=qR (cap:=c) i Yb
 repeat'((try conv=>whnf);first|(apply qe;first|refine qk g fun y v q=>?_;obtain⟨a1,c1,D1⟩:=y;obtain⟨rfl,d⟩:=q;dsimp only at d)|refine qg fun bk hbk=>?_)
 all_goals exact⟨(_,a1,c1,D1),⟨rfl,d⟩,Ent.refl⟩
theorem q5n{n:Nat}(d:Cl W0 own b 0 (.slice a n c))(g:Cl W0 own b 2 (.bool f)):jl W0 249 [jn b] own (.bool (f||decide (n=0))):=by
 refine qi (sH [] ?_);cases f
 all_goals
  repeat'((try conv=>whnf);first|refine fH ?_|refine fI ?_|refine q0k g ?_|refine q0k d ?_)
  all_goals first|exact⟨rfl,(eC)⟩|exact⟨q0s (vb Yd),(eC)⟩
theorem qdR(d:Cl W0 own b 2 (.bool f)):jl W0 251 [jn b] own (.bool f):=by
 refine qi (sH [] ?_)
 repeat'((try conv=>whnf);first|refine q0k d ?_)
 all_goals exact⟨rfl,(eC)⟩
theorem qdS{j:Nat}(u:h.ok m.L)(i:RdE qw 1 W0 F a ((j:Int)::l))(y:m.o[j]? =some w)(hw:okU w)(Q:Own) [eq:qx Q F]:
  jk W0 250 [jn b,jn h.mb] ((b,ckP a (l.length+1) c rv false)::(h.O m++Q)) fun v own'=>
   ∃_:Unit,v=(acL 2 j w).v/\Ent W0 own' ((b,ckP (slA a c 1 1) l.length (c-1) rv (decide (q5J w>rv)))::(h.O m++Q)):=by
 refine qG (sH (jo 11 3 [26,0]) ?_);have g:=fun own'=>q6q (W0:=W0) (own:=own') w hw
 have q:((j:Int)::l)[0]? =some (j:Int):=rfl;have d:=fun(own':Own) (mm:qy b (ckP a (l.length+1) c rv false) own')=>q5n (W0:=W0) (own:=own') (qj mm rfl) (qj mm rfl)
 have hd0:(false||decide (l.length+1=0))=false:=Yd;rw[hd0] at d
 repeat'((try conv=>whnf);first|refine fD ?_|refine qgc rfl ?_|apply gLd;refine q0n i q rfl ?_|(apply qL;first|refine ixE i q ?_ ?_;(first|rfl|omega))|(apply qe;first|refine qd (d _ Ye) ?_|refine q0x 1 j u Yc y ?_ ?_ ?_;exact rfl;exact rfl)|apply qz;refine qT g ?_|refine fO ?_|refine fA ?_|refine fL ?_|refine fN ?_|refine fM ?_|refine qg fun bk hbk=>?_)
 all_goals exact⟨rfl,sbE⟩
abbrev wrP(a:j8)(n c:Nat)(a2:j8)(n2 c2:Nat):Obj->Prop:=fun z=>z=Obj.cells #[.slice a n c, .slice a2 n2 c2] 356 (0,0)
abbrev rlP(a:j8)(n c:Nat)(a2:j8)(n2 c2:Nat):Obj->Prop:=fun z=>z=Obj.cells #[.slice a n c, .slice a2 n2 c2] 358 (0,0)
variable{a2:j8}{c2:Nat}{l2:jd}{v:Int}
theorem q9p(L:RdE qw 1 W0 own a l)(z:RdE q06 1 W0 own a2 l2)(hl:l.length<=1000000)(he:l2.length=l.length)(G:l.length<=c)(i:l2.length<=c2):jk W0 253 [.slice a l.length c, .slice a2 l2.length c2] own fun v own'=>
  ∃s:Nat×(j8×Nat×Own)×(j8×Nat×Own),(v= jn s.1/\qq qw 3 1 s.2.1.1 s.2.1.2.1 l s.2.1.2.2/\qq q06 45 1 s.2.2.1 s.2.2.2.1 l2 s.2.2.2.2)/\
   Ent W0 own' ((s.1,wrP s.2.1.1 l.length s.2.1.2.1 s.2.2.1 l2.length s.2.2.2.1)::(s.2.2.2.2++(s.2.1.2.2++own))):=by
 refine sH [3,5,7,11,13,15,10,18,19,22,23,0] ?_;have A:=fun(own':Own) [qx own' own]=>qR (cap:=c) ((RdE.hd L G).up (own:=own')) Yb
 have q:=fun(own':Own) [qx own' own]=>qW (cap:=c2) ((RdE.hd z i).up (own:=own')) Yb
 have B:min (l.length:Int) l2.length=l.length:=Yb;have u:min (l.length:Int) l2.length=l2.length:=Yb
 repeat'((try conv=>whnf);first|refine qgd B G ?_|refine qgd u i ?_|(apply qe;first|refine qk (A _) fun y v C=>?_;obtain⟨a3,J,H⟩:=y;obtain⟨rfl,d⟩:=C;dsimp only at d|refine qk (q _) fun y v C=>?_;obtain⟨a4,K,I⟩:=y;obtain⟨rfl,g⟩:=C;dsimp only at g)|refine qg fun bk hbk=>?_|refine q5c ?_)
 all_goals exact⟨(_,(a3,J,H),(a4,K,I)),⟨rfl,d,g⟩,Ent.refl⟩
theorem q86(L:RdE qw 1 W0 own a l)(z:RdE q06 1 W0 own a2 l2)(hl:l.length<=1000000)(he:l2.length=l.length)(G:l.length<=c)(i:l2.length<=c2):jk W0 258 [.slice a l.length c, .slice a2 l2.length c2] own fun v own'=>
  ∃s:Nat×(j8×Nat×Own)×(j8×Nat×Own),(v= jn s.1/\qq qw 3 1 s.2.1.1 s.2.1.2.1 l s.2.1.2.2/\qq q06 45 1 s.2.2.1 s.2.2.2.1 l2 s.2.2.2.2)/\
   Ent W0 own' ((s.1,rlP s.2.1.1 l.length s.2.1.2.1 s.2.2.1 l2.length s.2.2.2.1)::(s.2.2.2.2++(s.2.1.2.2++own))):=by
 refine sH [3,5,7,11,13,15,10,18,19,22,23,0] ?_;have A:=fun(own':Own) [qx own' own]=>qR (cap:=c) ((RdE.hd L G).up (own:=own')) Yb
 have q:=fun(own':Own) [qx own' own]=>qW (cap:=c2) ((RdE.hd z i).up (own:=own')) Yb
 have B:min (l.length:Int) l2.length=l.length:=Yb;have u:min (l.length:Int) l2.length=l2.length:=Yb
 repeat'((try conv=>whnf);first|refine qgd B G ?_|refine qgd u i ?_|(apply qe;first|refine qk (A _) fun y v C=>?_;obtain⟨a3,J,H⟩:=y;obtain⟨rfl,d⟩:=C;dsimp only at d|refine qk (q _) fun y v C=>?_;obtain⟨a4,K,I⟩:=y;obtain⟨rfl,g⟩:=C;dsimp only at g)|refine qg fun bk hbk=>?_|refine q5c ?_)
 all_goals exact⟨(_,(a3,J,H),(a4,K,I)),⟨rfl,d,g⟩,Ent.refl⟩
theorem q5A{n:Nat}(d:Cl W0 own b 0 (.slice a n c)):jl W0 256 [jn b] own (.bool (decide (n=0))):=by
 refine qi (sH [] ?_)
 repeat'((try conv=>whnf);first|refine q0k d ?_)
 all_goals exact⟨q0s (vb Yd),(eC)⟩
theorem q8d{n:Nat}(d:Cl W0 own b 0 (.slice a n c)):jl W0 260 [jn b] own (.bool (decide (n=0))):=by
 refine qi (sH [] ?_)
 repeat'((try conv=>whnf);first|refine q0k d ?_)
 all_goals exact⟨q0s (vb Yd),(eC)⟩
theorem q8j{j:Nat}(z:h.ok m.L)(u:RdE qw 1 W0 F a ((j:Int)::l))(g:RdE q06 1 W0 F a2 (v::l2))(A:m.d[j]? =some w)(Q:Own) [eq:qx Q F]:
  jk W0 255 [jn b,jn h.mb] ((b,wrP a (l.length+1) c a2 (l2.length+1) c2)::(h.O m++Q)) fun r own'=>
   ∃_:Unit,r=(acS 1 j w v).v/\Ent W0 own' ((b,wrP (slA a c 1 1) l.length (c-1) (slA a2 c2 1 1) l2.length (c2-1))::(h.O {m with d:=m.d.set j v}++Q)):=by
 refine qG (sH (jo 13 3 (1::30::31::33::35::38::40::41::0::38::30::31::33::35::40::41::0::(jo 14 3 [32,33,35,38,0]))) ?_);have y:((j:Int)::l)[0]? =some (j:Int):=rfl;have q:(v::l2)[0]? =some v:=rfl;have i:=fun(own':Own) (mm:qy b (wrP a (l.length+1) c a2 (l2.length+1) c2) own')=>q5A (W0:=W0) (own:=own') (qj mm rfl)
 rw[show decide (l.length+1=0)=false by simp] at i
 repeat'((try conv=>whnf);first|refine fD ?_|refine qgc rfl ?_|(apply gLd;first|refine q0n u y rfl ?_|refine q0n g q rfl ?_)|(apply qL;first|refine ixE u y ?_ ?_;(first|rfl|omega)|refine ixE g q ?_ ?_;(first|rfl|omega))|(apply qe;first|refine qd (i _ Ye) ?_|refine q2p 0 j v {m with d:=m.d.set j v} z Yc A rfl ?_ ?_ ?_;exact rfl;exact rfl)|refine fO ?_|refine fA ?_|refine fL ?_|refine fN ?_|refine fM ?_|refine qg fun bk hbk=>?_|refine q1k.mk ?_ ?_)
 all_goals exact⟨rfl,sbE⟩
theorem qer{j:Nat}(y:h.ok m.L)(q:RdE qw 1 W0 F a ((j:Int)::l))(d:RdE q06 1 W0 F a2 (v::l2))(z:m.o[j]? =some w)(Q:Own) [eq:qx Q F]:
  jk W0 259 [jn b,jn h.mb] ((b,rlP a (l.length+1) c a2 (l2.length+1) c2)::(h.O m++Q)) fun r own'=>
   ∃_:Unit,r=(acS 2 j w v).v/\Ent W0 own' ((b,rlP (slA a c 1 1) l.length (c-1) (slA a2 c2 1 1) l2.length (c2-1))::(h.O {m with o:=m.o.set j v}++Q)):=by
 refine qG (sH (jo 13 3 (1::30::31::33::35::38::40::41::0::38::30::31::33::35::40::41::0::(jo 14 3 [32,33,35,38,0]))) ?_);have u:((j:Int)::l)[0]? =some (j:Int):=rfl;have i:(v::l2)[0]? =some v:=rfl;have g:=fun(own':Own) (mm:qy b (rlP a (l.length+1) c a2 (l2.length+1) c2) own')=>q8d (W0:=W0) (own:=own') (qj mm rfl)
 rw[show decide (l.length+1=0)=false by simp] at g
 repeat'((try conv=>whnf);first|refine fD ?_|refine qgc rfl ?_|(apply gLd;first|refine q0n q u rfl ?_|refine q0n d i rfl ?_)|(apply qL;first|refine ixE q u ?_ ?_;(first|rfl|omega)|refine ixE d i ?_ ?_;(first|rfl|omega))|(apply qe;first|refine qd (g _ Ye) ?_|refine q2p 1 j v {m with o:=m.o.set j v} y Yc z rfl ?_ ?_ ?_;exact rfl;exact rfl)|refine fO ?_|refine fA ?_|refine fL ?_|refine fN ?_|refine fM ?_|refine qg fun bk hbk=>?_|refine q1k.mk ?_ ?_)
 all_goals exact⟨rfl,sbE⟩
theorem qjP{cap n:Nat}{D:Own}{C:Own->Own}(q:qq qw 3 1 a cap l D)(d:At D own C)(u:l.length<=9223372036854775807)(g:l.Pairwise (· <= ·))(y:n=l.length):
  jk W0 68 [.slice a n cap] own fun v own'=>∃i:Own,(v= .slice a (cmp l).length cap/\qq qw 3 1 a cap (cmp l) i)/\Ent W0 own' (C i):=by
 subst y;exact q48 q d u g
theorem q8f(B:RdE qw 1 W0 own a l)(hl:l.length<=1000000):jk W0 265 [.slice a l.length c] own fun v own'=>
  ∃s:j8×Nat×Own,(v= .slice s.1 (q8l l).length s.2.1/\qq qw 3 1 s.1 s.2.1 (q8l l) s.2.2)/\Ent W0 own' (s.2.2++own):=by
 refine sH [] ?_;have u:=qR (cap:=c) B Yb;have z:(srt l).length<=9223372036854775807:=by rw[q1p];omega
 repeat'((try conv=>whnf);first|(apply qe;first|refine qk u fun y v g=>?_;obtain⟨a1,c1,D1⟩:=y;obtain⟨rfl,d⟩:=g;dsimp only at d|refine qk (q9r d At.head Yb) fun D2 v g=>?_;obtain⟨rfl,i⟩:=g|refine qk (qjP i At.head z (q1z l) (q1p l).symm) fun A v g=>?_;obtain⟨rfl,q⟩:=g))
 all_goals exact⟨(a1,c1,A),⟨rfl,q⟩,Ent.refl⟩
abbrev lkP(t:Nat)(a:j8)(n c:Nat)(a2:j8)(n2 c2:Nat)(s:Int)(ld:Bool):Obj->Prop:=fun z=>z=Obj.cells #[j4 t, .slice a n c, .slice a2 n2 c2,uv s, .bool ld] 352 (0,0)
theorem qbD(i:RdE qw 1 W0 own a l)(hl:l.length<=1000000)(t:Nat):jk W0 266 [j4 t, .slice a l.length c] own fun v own'=>
  ∃s:Nat×j8×Nat×Own,(v= jn s.1/\qq qw 3 1 s.2.1 s.2.2.1 (q8l l) s.2.2.2)/\Ent W0 own' ((s.1,lkP t s.2.1 (q8l l).length s.2.2.1 none 0 0 0 false)::(s.2.2.2++own)):=by
 refine sH [] ?_;have g:=q8f (c:=c) i Yb
 repeat'((try conv=>whnf);first|(apply qe;first|refine qk g fun y v q=>?_;obtain⟨a1,c1,D1⟩:=y;obtain⟨rfl,d⟩:=q;dsimp only at d)|refine qg fun bk hbk=>?_)
 all_goals exact⟨(_,a1,c1,D1),⟨rfl,d⟩,Ent.refl⟩
theorem q3J{n n2:Nat}(d:Cl W0 own b 1 (.slice a n c))(g:Cl W0 own b 2 (.slice a2 n2 c2)):jl W0 242 [jn b] own (.bool (decide (n2=n))):=by
 refine qi (sH (jo 12 3 [0]) ?_)
 repeat'((try conv=>whnf);first|refine q0k d ?_|refine q0k g ?_)
 all_goals exact⟨q0s (vb (by simp;omega)),(eC)⟩
theorem qgt(q:Cl W0 own b 2 (.slice a2 l2.length c2))(g:RdE q06 1 W0 own a2 l2)(hl:l2.length<=1000000):jk W0 297 [jn b] own fun v own'=>
  ∃s:j8×Nat×Own,(v= .slice s.1 l2.length s.2.1/\qq q06 45 1 s.1 s.2.1 l2 s.2.2)/\Ent W0 own' (s.2.2++own):=by
 refine sH [] ?_;have i:=qW (cap:=c2) g Yb
 repeat'((try conv=>whnf);first|refine q0k q ?_|apply qe;refine qk i fun y v u=>?_)
 all_goals(obtain⟨rfl,d⟩:=u;exact⟨y,⟨rfl,d⟩,Ent.refl⟩)
variable{t j:Nat}{s:Int}
theorem qgv(u:h.ok m.L)(q:RdE qw 1 W0 F a l)(i:l[l2.length]? =some (j:Int))(y:m.o[j]? =some w)(hw:okU w)(Q:Own) [eq:qx Q F]:
  jk W0 241 [jn b,jn h.mb] ((b,lkP t a l.length c a2 l2.length c2 s false)::(h.O m++Q)) fun r own'=>
   ∃_:Unit,r=(acL 2 j w).v/\Ent W0 own' ((b,lkP t a l.length c a2 l2.length c2 w (decide (q3R w<0)))::(h.O m++Q)):=by
 refine qG (sH (jo 12 3 (28::29::31::33::36::0::(jo 10 3 (24::25::27::30::0::(jo 8 3 (jo 11 27 (1::19::21::23::25::49::51::53::55::58::59::61::63::66::0::49::51::53::55::19::21::23::25::58::59::61::63::66::0::(jo 9 3 [22,24,25,27,30,0])))))))) ?_);have hlt:=(z7.1 i).1;have g:=fun own'=>q82 (W0:=W0) (own:=own') w hw
 have d:=fun(own':Own) (mm:qy b (lkP t a l.length c a2 l2.length c2 s false) own')=>q3J (W0:=W0) (own:=own') (qj mm rfl) (qj mm rfl)
 rw[show decide (l2.length=l.length)=false from decide_eq_false Yb] at d
 repeat'((try conv=>whnf);first|refine fE ?_|refine fD ?_|apply gLd;refine q0n q i rfl ?_|(apply qL;first|refine ixE q i ?_ ?_;(first|rfl|omega))|(apply qe;first|refine qd (d _ Ye) ?_|refine q0x 1 j u Yc y ?_ ?_ ?_;exact rfl;exact rfl)|apply qz;refine qT g ?_|refine fO ?_|refine fA ?_|refine fL ?_|refine fN ?_|refine fM ?_|refine qg fun bk hbk=>?_)
 all_goals exact⟨rfl,sbE⟩
theorem qgw{u:Own}(B:h.ok m.L)(q:RdE qw 1 W0 F a l)(g:qq q06 45 1 a2 c2 l2 u)(i:l[l2.length]? =some (j:Int))(C:m.o[j]? =some w)(hs:0<=s/\s+17<=18446744073709551615)(ht:t<16)(hl2:l2.length<=1000000)(Q:Own) [eq:qx Q F]:
  jk W0 241 [jn b,jn h.mb] ((b,lkP t a l.length c a2 l2.length c2 s true)::(h.O m++(u++Q))) fun r own'=>
   ∃y:j8×Nat×Own,(r=(acW 2 j w (s+t+1) (decide (w=s))).v/\qq q06 45 1 y.1 y.2.1 (if w=s then l2++ [s] else l2) y.2.2)/\
    Ent W0 own' ((b,lkP t a l.length c y.1 (if w=s then l2++ [s] else l2).length y.2.1 s false)::(h.O {m with o:=if w=s then m.o.set j (s+t+1) else m.o}++(y.2.2++Q))):=by
 refine sH (jo 12 3 (28::29::31::33::36::0::(jo 10 3 (24::25::27::30::0::(jo 8 3 (jo 11 27 (1::19::21::23::25::49::51::53::55::58::59::61::63::66::0::49::51::53::55::19::21::23::25::58::59::61::63::66::0::(jo 9 3 [22,24,25,27,30,0])))))))) ?_;have hlt:=(z7.1 i).1;have d:=fun(own':Own) (mm:qy b (lkP t a l.length c a2 l2.length c2 s true) own')=>q3J (W0:=W0) (own:=own') (qj mm rfl) (qj mm rfl)
 rw[show decide (l2.length=l.length)=false from decide_eq_false Yb] at d
 by_cases he:w=s
 ·subst he;rw[if_pos rfl,if_pos rfl,show decide (w=w)=true from decide_eq_true rfl]
  repeat'((try conv=>whnf);first|refine fE ?_|refine fD ?_|refine qg fun H A=>?_|apply q0f (enc:=q06) (T:=45) w g;exact rfl;exact rfl;omega;exact rfl;exact rfl;omega;intro a3 I G z|apply gLd;refine q0n q i rfl ?_|(apply qL;first|refine ixE q i ?_ ?_;(first|rfl|omega))|(apply qe;first|refine qd (d _ Ye) ?_|refine q3W 1 j w (w+t+1) {m with o:=m.o.set j (w+t+1)} B Yc C (if_pos rfl).symm ?_ ?_ ?_;exact rfl;exact rfl;rw[show decide (w=w)=true from decide_eq_true rfl])|refine fC ?_|refine fO ?_|refine fA ?_|refine fL ?_|refine fN ?_|refine fM ?_|refine q1k.mk ?_ ?_)
  all_goals exact⟨(a3,I,G),⟨rfl,z⟩,by rw[z8];exact sbE⟩
 ·rw[if_neg he,if_neg he,show decide (w=s)=false from decide_eq_false he]
  repeat'((try conv=>whnf);first|refine fD ?_|apply gLd;refine q0n q i rfl ?_|(apply qL;first|refine ixE q i ?_ ?_;(first|rfl|omega))|(apply qe;first|refine qd (d _ Ye) ?_|refine q3W 1 j s (s+t+1) m B Yc C (if_neg he).symm ?_ ?_ ?_;exact rfl;exact rfl;rw[show decide (w=s)=false from decide_eq_false he])|refine fC ?_|refine fO ?_|refine fA ?_|refine fL ?_|refine fN ?_|refine fM ?_|refine qg fun H A=>?_|refine q1k.mk ?_ ?_)
  all_goals exact⟨(a2,c2,u),⟨rfl,g⟩,sbE⟩
abbrev stP(cap:Int)(a:j8)(n c:Nat):Obj->Prop:=fun z=>z=Obj.cells #[j4 cap, .slice a n c] 348 (0,0)
variable{cap:Int}{D:Own}
theorem qei(cap:Int)(hc:0<=cap/\cap<=32)(Q:Own):jk W0 270 [j4 cap] Q fun v own'=>∃b:Nat,v= jn b/\Ent W0 own' ((b,stP cap none 0 0)::Q):=by
 refine sH [] ?_
 repeat'((try conv=>whnf);first|refine qg fun bk hbk=>?_|refine q5c ?_|refine qhT ?_)
 all_goals(rw[show max 0 (min cap 32)=cap by omega];exact⟨_,rfl,Ent.refl⟩)
theorem qew(d:Cl W0 own b 1 (.slice a l.length c))(g:RdE qw 1 W0 own a l)(hl:l.length<=1000000)(o:Int):jl W0 295 [jn b,j4 o] own (.bool (decide (o∈l))):=by
 refine qi (sH [] ?_);have i:=q0z (cap:=c) g Yb o
 repeat'((try conv=>whnf);first|refine q0k d ?_|apply qe;refine qd (i) ?_|refine fH ?_)
 all_goals exact⟨rfl,(eC)⟩
theorem qbM(i:Cl W0 own b 1 (.slice a l.length c))(q:RdE qw 1 W0 own a l)(hl:l.length<=1000000):jk W0 247 [jn b] own fun v own'=>
  ∃s:j8×Nat×Own,(v= .slice s.1 l.length s.2.1/\qq qw 3 1 s.1 s.2.1 l s.2.2)/\Ent W0 own' (s.2.2++own):=by
 refine sH [] ?_;have g:=qR (cap:=c) q Yb
 repeat'((try conv=>whnf);first|refine q0k i ?_|apply qe;refine qk g fun y v u=>?_|refine fD ?_)
 all_goals(obtain⟨rfl,d⟩:=u;exact⟨y,⟨rfl,d⟩,Ent.refl⟩)
theorem qev(i:qq qw 3 1 a c l D)(B:l.length<=1000000)(o:Int)(Q:Own):
  jk W0 235 [jn b,j4 o] ((b,stP cap a l.length c)::(D++Q)) fun v own'=>
   ∃y:j8×Nat×Own,(v= .bool (q60 cap l o).isSome/\qq qw 3 1 y.1 y.2.1 ((q60 cap l o).getD l) y.2.2)/\Ent W0 own' ((b,stP cap y.1 ((q60 cap l o).getD l).length y.2.1)::(y.2.2++Q)):=by
 refine sH (jo 11 3 [0]) ?_;have d:=qew (W0:=W0) (own:=(b,stP cap a l.length c)::(D++Q)) (q0E (cs:= #[j4 cap, .slice a l.length c]) (T:=348) (fz:=(0,0)) zp rfl) ((i.rd (W0:=W0)).up) B o;unfold q60
 by_cases g:o∈l
 ·rw[if_pos g];rw[decide_eq_true g] at d
  repeat'((try conv=>whnf);first|refine fE ?_|refine fD ?_|apply qe;refine qd (d) ?_)
  all_goals exact⟨(a,c,D),⟨rfl,i⟩,Ent.refl⟩
 ·rw[if_neg g];rw[decide_eq_false g] at d
  by_cases A:(l.length:Int)>=cap
  ·rw[if_pos A]
   repeat'((try conv=>whnf);first|refine fD ?_|refine fF ?_|apply qe;refine qd (d) ?_|refine fA ?_)
   all_goals exact⟨(a,c,D),⟨rfl,i⟩,Ent.refl⟩
  ·rw[if_neg A]
   repeat'((try conv=>whnf);first|refine fD ?_|refine fG ?_|refine qg fun bk hbk=>?_|apply q0f (enc:=qw) (T:=3) o i;exact rfl;exact rfl;omega;exact rfl;exact rfl;omega;intro a3 z u q|apply qe;refine qd (d) ?_|refine fA ?_|refine fN ?_)
   all_goals exact⟨(a3,z,u),⟨rfl,q⟩,by show Ent W0 _ ((b,stP cap a3 (l++ [o]).length z)::(u++Q));rw[z8];exact sbE⟩
end
open Go
theorem qj9{P:Nat}{a:Int}(ha:0<=a):(a % (P:Int)*5) % (P:Int)=(hmP P a:Int):=by
 obtain⟨n,rfl⟩:∃n:Nat,a=n:=⟨a.toNat,Yb⟩
 unfold hmP;rw[zF,<-Int.natCast_emod];have:((n % P:Nat):Int)*5=((n % P*5:Nat):Int):=by rw[yG];rfl
 rw[this,<-Int.natCast_emod]
theorem qdl{P h d:Nat}:(((h+d) % P:Nat)+1:Int) % (P:Int)=(((h+(d+1)) % P:Nat):Int):=by
 have e:(((h+d) % P:Nat)+1:Int)=(((h+d) % P+1:Nat):Int):=Yb;rw[e,<-Int.natCast_emod,Nat.mod_add_mod,yf]
theorem qjo(i:Nat)(l:jd)(hi:i<l.length):(List.replicate i (-1)++l.drop i).set i (-1)=List.replicate (i+1) (-1)++l.drop (i+1):=by
 rw[ZG _ _ Yd,zD,ZC,Zd hi,yL,yY,zd];rfl
section
variable{W0:World}{own:Own}{b ib P:Nat}{cap:Int}
abbrev lgP(cap:Int)(a:j8)(n c:Nat)(a2:j8)(n2 c2:Nat)(ib P:Nat):Obj->Prop:=fun z=>z=Obj.cells #[j4 cap, .slice a n c, .slice a2 n2 c2, .slice (some ⟨ib,0,none⟩) P P] 301 (0,0)
theorem qgk{ix:jd}(hix:ix.length=P)(hP:P<=1000000)(Q:Own):jk W0 299 [jn b] ((b,lgP cap none 0 0 none 0 0 ib P)::(q0S qw 3 ib ix::Q)) fun v own'=>
  ∃_:Unit,v= .tuple #[]/\Ent W0 own' ((b,lgP cap none 0 0 none 0 0 ib P)::(q0S qw 3 ib (List.replicate P (-1))::Q)):=by
 refine qG (sH [] ?_)
 repeat'((try conv=>whnf);first|refine fD ?_|refine fA ?_|refine fN ?_)
 refine qQ (σ:=Nat) (fun i=> [(16,j4 i)]) (fun i=>(b,lgP cap none 0 0 none 0 0 ib P)::(q0S qw 3 ib (List.replicate i (-1)++ix.drop i)::Q)) (fun i=>i<=P) (fun i=>P-i) 0 (zl _) (eF) (by rw[yg,zj,List.drop_zero];exact Ent.refl) rfl ?_;rintro i junk hi;have hw:∀x∈(List.replicate i (-1)++ix.drop i:jd),(qw x).length=1:=fun _ _=>rfl
 by_cases q:i<P
 ·have u:(List.replicate i (-1)++ix.drop i:jd)[i]? =some (ix[i]' Yb):=by
   rw[zJ Yd,zD,ZC,yJ,ZI,z6]
  have d:(i:Int)<P:=Yb;have g:P=(List.replicate i (-1)++ix.drop i:jd).length:=by simp;omega
  repeat'((try conv=>whnf);first|refine fF ?_|(apply qL;first|refine ixC u g ?_ ?_;(first|rfl|omega))|((with_reducible show StT _ _ _ _ _);first|refine stC (T:=3) (k:=0) (-1) hw u ?_ ?_ ?_ ?_ ?_;exact rfl;omega;exact rfl;exact rfl)|refine fB ?_|refine fA ?_)
  refine⟨i+1,q,Yb,(eF),?_⟩;rw[<-qjo i ix Yb];exact sbE
 ·have d:¬(i:Int)<P:=Yb
  repeat'((try conv=>whnf);first|refine fG ?_)
  obtain rfl:i=P:=Yb;refine⟨rfl,?_⟩;rw[ZN Yb,zC];exact Ent.refl
theorem qeg(cap:Int)(hc:1<=cap/\cap<=32)(Q:Own):jk W0 271 [j4 cap] Q fun v own'=>
  ∃s:Nat×Nat×Nat,(v= jn s.1/\LI s.2.2 (List.replicate s.2.2 (-1)) []/\2*cap<=s.2.2/\s.2.2<=200)/\Ent W0 own' ((s.1,lgP cap none 0 0 none 0 0 s.2.1 s.2.2)::(q0S qw 3 s.2.1 (List.replicate s.2.2 (-1))::Q)):=by
 refine sH [] ?_;have d:max 0 (min cap 32)=cap:=Yb
 repeat'((try conv=>whnf);first|refine qg fun b0 hb0=>?_|refine q5c ?_|refine qhT ?_)
 refine qQ (σ:=Nat) (fun p=> [(4,j4 p)]) (fun _=>(b0,fun z=>z=Obj.cells #[j4 cap,j6,j6,j6] 301 (0,0))::Q) (fun p=>1<=p/\(p:Int)<=4*cap+1) (fun p=>(2*cap-p).toNat) 1 ⟨Yb,Yb⟩ (eF) (by rw[d];exact Ent.refl) rfl ?_;rintro p junk ⟨hp1,hp2⟩
 by_cases hlt:(p:Int)<2*cap
 ·repeat'((try conv=>whnf);first|refine fF ?_|refine fB ?_|refine fA ?_)
  exact⟨p*2,⟨Yb,Yb⟩,Yb,(eF),Ent.refl⟩
 ·repeat'((try conv=>whnf);first|refine fG ?_|refine mkC (enc:=qw) p 0 rfl rfl rfl Yb fun g=>?_|(apply qe;first|refine qr (qgk (b:=b0) (ib:=g) (P:=p) (cap:=cap) (ix:=List.replicate p 0) zD Yb Q) sbE ?_ ?_ fun _ v i=>?_;exact rfl;exact rfl;subst i)|refine fB ?_|refine fA ?_|refine fN ?_)
  exact⟨(b0,_,p),⟨rfl,LI.new (show 0<p by omega),(by show 2*cap<=(p:Int);omega),(by show p<=200;omega)⟩,Ent.refl⟩
theorem qgA{ix ad:jd}{aa:j8}{ca:Nat}{a:Int}{D:Nat}(u:LI P ix ad)(N:Cl W0 own b 1 (.slice aa ad.length ca))(C:Cl W0 own b 3 (.slice (some ⟨ib,0,none⟩) P P))(G:RdE qw 1 W0 own aa ad)(H:RdE qw 1 W0 own (some ⟨ib,0,none⟩) ix)(hP:P<=1000000)(O:0<=a/\a<=9223372036854775807)
  (R:qbU P ix ad a D) (hd:∀e,e<D->∃v,ix[(hmP P a+e) % P]? =some v/\0<=v/\ad[v.toNat]? ≠some a):
  jl W0 267 [jn b,j4 a] own (j4 ((hmP P a+D) % P:Nat)):=by
 refine qi (sH (jo 15 3 (0::(jo 25 3 [0]))) ?_);have B:=u.p0;have hm1:=Y2 a (show(P:Int)≠0 by omega);have hm2:=yK a (show(0:Int)<P by omega);have J:=qj9 (P:=P) O.1;have K:hmP P a<P:=yp _ B
 repeat'((try conv=>whnf);first|refine q0k C ?_|refine q2R ?_ ?_;omega|refine fB ?_)
 refine q1C (σ:=Nat) (fun d=> [(5,j4 ((hmP P a+d) % P:Nat))]) (fun d=>d<=D) (fun d=>D-d) 0 (zl _) ⟨vi (J.trans (by rw[ZI,yV K])),True.intro⟩ rfl ?_;rintro d junk hdD;have hkP:(hmP P a+d) % P<P:=yp _ B
 by_cases A:d<D
 ·obtain⟨v,i,g,L⟩:=hd d A
  rcases u.rng _ v i with e|⟨-,hvl⟩
  ·omega
  obtain⟨y,q⟩:∃y,ad[v.toNat]? =some y:=⟨_,z6 Yb⟩
  have hya:y≠a:=fun e=>L (by rw[q,e])
  have z:v>=0:=g;have M:=qdl (P:=P) (h:=hmP P a) (d:=d);have I:=u.len
  repeat'((try conv=>whnf);first|refine fH ?_|refine fF ?_|refine fJ ?_|refine q0k C ?_|refine q0k N ?_|refine q2R ?_ ?_;omega|(apply gLd;first|refine q0n H i rfl ?_|refine q0n G q rfl ?_)|(apply qL;first|refine ixE G q ?_ ?_;(first|rfl|omega))|refine fB ?_|refine q8X ?_ ?_;omega)
  exact⟨d+1,A,Yb,⟨vi M,True.intro⟩,Ent.refl⟩
 ·obtain rfl:d=D:=Yb;obtain⟨v,i⟩:=u.at (hmP P a+d);have I:=u.len
  by_cases g:0<=v
  ·have q:ad[v.toNat]? =some a:=(R v i).resolve_left Yb;have z:v>=0:=g;have hna:¬(a≠a):=fun e=>e rfl
   repeat'((try conv=>whnf);first|refine fH ?_|refine fG ?_|refine fJ ?_|refine q0k C ?_|refine q0k N ?_|(apply gLd;first|refine q0n H i rfl ?_|refine q0n G q rfl ?_)|(apply qL;first|refine ixE G q ?_ ?_;(first|rfl|omega))|refine q8X ?_ ?_;omega)
   all_goals exact⟨rfl,(eC)⟩
  ·have z:¬v>=0:=g
   repeat'((try conv=>whnf);first|refine fI ?_|refine fD ?_|refine fK ?_|refine q0k C ?_|apply gLd;refine q0n H i rfl ?_|refine q8X ?_ ?_;omega)
   all_goals exact⟨rfl,(eC)⟩
variable{ix ad vl:jd}{aa va:j8}{ca cv:Nat}{a:Int}
theorem qd3{n:Nat}(g:ad.idxOf? a=some n):ad[n]? =some a:=by
 obtain⟨d,hb, -⟩:=Zv.1 g;rw[z6 d]
 simpa using hb
theorem qm0(g:ad.idxOf? a=none):a∉ad:=fun h=>by
 have d:=ZQ.1 g a h;simp at d
theorem RdE.mem{l:jd}{T:TypeId}{b:Nat} [m:qy b (j7 (l.map qw).flatten.toArray T) own]:RdE qw 1 W0 own (some ⟨b,0,none⟩) l:=q1Q m.h (fun _ _=>rfl) (by rw[zQ])
theorem q89(d:LI P ix ad)(z:Cl W0 own b 1 (.slice aa ad.length ca))(A:Cl W0 own b 3 (.slice (some ⟨ib,0,none⟩) P P))(B:RdE qw 1 W0 own aa ad)(G:RdE qw 1 W0 own (some ⟨ib,0,none⟩) ix)(C:P<=1000000)(H:0<=a/\a<=9223372036854775807):
  ∃k v,k<P/\(∀own':Own,Ent W0 own' own->jl W0 267 [jn b,j4 a] own' (j4 (k:Nat)))/\ix[k]? =some v/\(match ad.idxOf? a with
   |some n=>v=n
   |none=>v= -1)/\(a∉ad->ad.length+1<P->LI P (ix.set k ad.length) (ad++ [a])):=by
 obtain⟨D,i,g⟩:=d.find a;obtain⟨v,u,hm⟩:=d.found i g;refine⟨_,v,yp _ d.p0,fun own' e=>qgA d (z.ent e) (A.ent e) (B.ent e) (G.ent e) C H i g,u,hm,fun q I=>?_⟩;refine d.put ?_ g q I;rw[u];cases y:ad.idxOf? a with
 |none=>rw[y] at hm;rw[hm]
 |some n=>exact absurd (zh (qd3 y)) q
theorem qic(B:LI P ix ad)(G:Cl W0 own b 1 (.slice aa ad.length ca))(H:Cl W0 own b 2 (.slice va vl.length cv))(u:Cl W0 own b 3 (.slice (some ⟨ib,0,none⟩) P P))(I:RdE qw 1 W0 own aa ad)(C:RdE q06 1 W0 own va vl)(d:RdE qw 1 W0 own (some ⟨ib,0,none⟩) ix)(J:P<=1000000)(K:0<=a/\a<=9223372036854775807)(hl:vl.length=ad.length):
  jl W0 192 [jn b,j4 a] own (.tuple #[uv ((q14 ad vl a).getD 0), .bool (q14 ad vl a).isSome]):=by
 refine qi (sH (jo 10 3 [0]) ?_);obtain⟨k,v,hk,i,q,hm, -⟩:=q89 B G u I d J K;have g:=B.len;unfold q14;cases z:ad.idxOf? a with
 |none=>
  rw[z] at hm;subst hm
  repeat'((try conv=>whnf);first|refine fH ?_|refine fE ?_|refine fG ?_|refine q0k u ?_|(with_reducible show IxS _ _ _ P _);rw[<-g];refine ixE d q ?_ ?_;rfl|apply gLd;refine q0n d q rfl ?_|apply qz;refine qm (fun ex=>i _ Ent.right) ?_)
  all_goals exact⟨rfl,(eC)⟩
 |some n=>
  rw[z] at hm;subst hm;have hnl:=(z7.1 (qd3 z)).1;obtain⟨y,A⟩:∃y,vl[n]? =some y:=⟨_,z6 Yb⟩
  dsimp only;rw[A]
  repeat'((try conv=>whnf);first|refine fH ?_|refine fD ?_|refine fG ?_|refine q0k u ?_|refine q0k H ?_|(with_reducible show IxS _ _ _ P _);rw[<-g];refine ixE d q ?_ ?_;rfl|(apply gLd;first|refine q0n d q rfl ?_|refine q0n C A rfl ?_)|(apply qL;first|refine ixE C A ?_ ?_;(first|rfl|omega))|apply qz;refine qm (fun ex=>i _ Ent.right) ?_)
  all_goals exact⟨rfl,(eC)⟩
theorem qgr{n:Nat}(d:Cl W0 own b 1 (.slice aa n ca)):jl W0 141 [jn b] own (j4 n):=by
 refine qi (sH [] ?_)
 repeat'((try conv=>whnf);first|refine q0k d ?_|refine fD ?_)
 all_goals exact⟨rfl,(eC)⟩
theorem q49(i:Cl W0 own b 1 (.slice aa ad.length ca))(q:RdE qw 1 W0 own aa ad)(hl:ad.length<=1000000):jk W0 180 [jn b] own fun v own'=>
  ∃s:j8×Nat×Own,(v= .slice s.1 ad.length s.2.1/\qq qw 3 1 s.1 s.2.1 ad s.2.2)/\Ent W0 own' (s.2.2++own):=by
 refine sH [] ?_;have g:=qR (cap:=ca) q Yb
 repeat'((try conv=>whnf);first|refine q0k i ?_|apply qe;refine qk g fun y v u=>?_|refine fD ?_)
 all_goals(obtain⟨rfl,d⟩:=u;exact⟨y,⟨rfl,d⟩,Ent.refl⟩)
theorem qed(i:Cl W0 own b 2 (.slice va vl.length cv))(q:RdE q06 1 W0 own va vl)(hl:vl.length<=1000000):jk W0 254 [jn b] own fun v own'=>
  ∃s:j8×Nat×Own,(v= .slice s.1 vl.length s.2.1/\qq q06 45 1 s.1 s.2.1 vl s.2.2)/\Ent W0 own' (s.2.2++own):=by
 refine sH [] ?_;have g:=qW (cap:=cv) q Yb
 repeat'((try conv=>whnf);first|refine q0k i ?_|apply qe;refine qk g fun y v u=>?_|refine fD ?_)
 all_goals(obtain⟨rfl,d⟩:=u;exact⟨y,⟨rfl,d⟩,Ent.refl⟩)
structure LH where
 b:Nat
 aa:j8
 ca:Nat
 aD:Own
 va:j8
 cv:Nat
 vD:Own
 ib:Nat
 P:Nat
 ix:jd
abbrev LH.O(g:LH)(cap:Int)(ad vl:jd)(Q:Own):Own:=(g.b,lgP cap g.aa ad.length g.ca g.va vl.length g.cv g.ib g.P)::(q0S qw 3 g.ib g.ix::(g.aD++(g.vD++Q)))
structure LH.ok(g:LH)(cap:Int)(ad vl:jd):Prop where
 hA:qq qw 3 1 g.aa g.ca ad g.aD
 hV:qq q06 45 1 g.va g.cv vl g.vD
 hI:LI g.P g.ix ad
 hP:2*cap<=g.P/\g.P<=200
 hc:1<=cap
 hl:vl.length=ad.length
 hm:(ad.length:Int)<=cap
theorem qmF{g:LH}{cap v:Int}(d:g.ok cap ad vl)(ha:0<=a/\a<=9223372036854775807)(Q:Own):
  jk W0 269 [jn g.b,j4 a,uv v] (g.O cap ad vl Q) fun r own'=>
   ∃g':LH,(r= .bool (q2Q cap ad vl a v).isSome/\g'.b=g.b/\g'.ok cap ((q2Q cap ad vl a v).getD (ad,vl)).1 ((q2Q cap ad vl a v).getD (ad,vl)).2)/\Ent W0 own' (g'.O cap ((q2Q cap ad vl a v).getD (ad,vl)).1 ((q2Q cap ad vl a v).getD (ad,vl)).2 Q):=by
 refine sH (jo 13 3 (30::0::(jo 11 3 (0::(jo 11 3 (26::0::(jo 7 3 [21,23,25,29,1,18,1,20,27,32,34,35,37,40,41,43,46,0,1,27,1,20,32,34,35,37,40,41,43,46,0,32,20,34,35,37,40,41,43,46,0,32,1,20,27,34,35,37,40,41,43,46,0,27,20,34,35,37,40,41,43,46,0,1,27,1,18,1,20,32,34,35,37,40,41,43,46,0,32,20,34,35,37,40,41,43,46,0,32,18,20,34,35,37,40,41,43,46,0,32,1,18,1,20,27,34,35,37,40,41,43,46,0,27,20,34,35,37,40,41,43,46,0,27,18,20,34,35,37,40,41,43,46,0]))))))) ?_;have B:(g.b,lgP cap g.aa ad.length g.ca g.va vl.length g.cv g.ib g.P)∈g.O cap ad vl Q:=zp;have I:RdE qw 1 W0 (g.O cap ad vl Q) g.aa ad:=(d.hA.rd (W0:=W0)).up;have Z:RdE qw 1 W0 (g.O cap ad vl Q) (some ⟨g.ib,0,none⟩) g.ix:=RdE.mem (T:=3);have u:=d.hI.len;have Y:=d.hP;have O:=d.hm;have G:=d.hl;have N:=d.hc;obtain⟨k,q,hk,z,A,hm,C⟩:=q89 d.hI (q0E (cs:= #[j4 cap, .slice g.aa ad.length g.ca, .slice g.va vl.length g.cv, .slice (some ⟨g.ib,0,none⟩) g.P g.P]) B rfl) (q0E (cs:= #[j4 cap, .slice g.aa ad.length g.ca, .slice g.va vl.length g.cv, .slice (some ⟨g.ib,0,none⟩) g.P g.P]) B rfl) I Z Yb ha;have hw:∀x∈g.ix,(qw x).length=1:=fun _ _=>rfl
 unfold q2Q;cases H:ad.idxOf? a with
 |some n=>
  rw[H] at hm;subst hm;have hnl:=(z7.1 (qd3 H)).1;obtain⟨y,S⟩:∃y,vl[n]? =some y:=⟨_,z6 Yb⟩
  have K:RdE q06 1 W0 (g.O cap ad vl Q) g.va vl:=(d.hV.rd (W0:=W0)).up;dsimp only[Option.getD_some,Option.isSome_some]
  repeat'((try conv=>whnf);first|refine fH ?_|refine fE ?_|refine fG ?_|refine q3L (enc:=q06) (T:=45) (k:=0) v d.hV S ?_ ?_ ?_ ?_ fun R hb=>?_;exact rfl;omega;exact rfl;exact rfl|apply gLd;refine qkQ hw A rfl ?_|(apply qL;first|refine ixC A u.symm ?_ ?_;(first|rfl|omega)|refine ixE K S ?_ ?_;(first|rfl|omega))|apply qe;refine qd (z _ Ent.refl) ?_|refine fA ?_)
  all_goals exact⟨{g with vD:=R},⟨rfl,rfl,⟨d.hA,(by show qq q06 _ 1 g.va g.cv (vl.set n v) R;exact hb),d.hI,d.hP,d.hc,by rw[zm];exact G,O⟩⟩,by show Ent W0 _ ((g.b,lgP cap g.aa ad.length g.ca g.va (vl.set n v).length g.cv g.ib g.P)::_);rw[zm];exact sbE⟩
 |none=>
  rw[H] at hm;subst hm;dsimp only
  by_cases i:(ad.length:Int)=cap
  ·rw[if_pos i]
   repeat'((try conv=>whnf);first|refine fH ?_|refine fD ?_|refine fF ?_|refine fG ?_|apply gLd;refine qkQ hw A rfl ?_|(apply qL;first|refine ixC A u.symm ?_ ?_;(first|rfl|omega))|apply qe;refine qd (z _ Ent.refl) ?_|refine fA ?_)
   all_goals exact⟨g,⟨rfl,rfl,d⟩,Ent.refl⟩
  ·rw[if_neg i]
   repeat'((try conv=>whnf);first|refine fH ?_|refine fD ?_|refine fG ?_|refine qg fun bk hbk=>?_|apply q0f (enc:=qw) (T:=3) a d.hA;exact rfl;exact rfl;omega;exact rfl;exact rfl;omega;intro a3 W U L|apply q0f (enc:=q06) (T:=45) v d.hV;exact rfl;exact rfl;omega;exact rfl;exact rfl;omega;intro a4 X V M|apply gLd;refine qkQ hw A rfl ?_|(apply qL;first|refine ixC A u.symm ?_ ?_;(first|rfl|omega))|apply qe;refine qd (z _ Ent.refl) ?_|((with_reducible show StT _ _ _ _ _);first|refine stC (T:=3) (k:=0) ((ad.length:Int)) hw A ?_ ?_ ?_ ?_ ?_;exact rfl;omega;exact rfl;exact rfl)|refine fA ?_|refine fN ?_|refine q1k.mk ?_ ?_)
   all_goals
    have J:=C (qm0 H) Yb;refine⟨⟨g.b,a3,W,U,a4,X,V,g.ib,g.P,g.ix.set k ad.length⟩,⟨rfl,rfl,⟨L,M,J,Y,N,by simp[G],by simp;omega⟩⟩,?_⟩;dsimp only[Option.getD_some,LH.O];rw[z8,z8];exact sbE
end
open Go
def AP.no:AP->Int
 | .idle=>0
 | .loc _=>1
 | .ent _=>2
 | .rd .. =>3
 | .pp .. =>4
 | .lk .. =>5
 | .tn _=>6
 | .ck _=>7
 | .dc=>8
 | .wr .. =>9
 | .rl .. =>10
 | .sp=>11
 | .ps=>12
 | .ph .. =>13
 | .lv=>14
structure AH where
 b:Nat
 sb:Nat
 sa:j8
 sc:Nat
 sD:Own
 g:LH
 na:j8
 nc:Nat
 nD:Own
 oa:j8
 oc:Nat
 oD:Own
 eb:Nat
 rd:Value
 ld:Int
 lk:Value
 tn:Value
 ck:Value
 wr:Value
 rl:Value
 th:Value
 us:Value
 la:j8
 lc:Nat
 lD:Own
 fa:j8
 fc:Nat
 fD:Own
 pp:Value
 pu:Value
abbrev atP(c:Cfg)(t:Nat)(h:AH)(x:AT)(k:Int):Obj->Prop:=fun z=>z=Obj.cells #[ptr h.sb,ptr h.g.b, .slice h.na x.seen.length h.nc, .slice h.la x.al.length h.lc, .slice h.fa x.fr.length h.fc,ptr h.eb,h.rd,j4 h.ld,h.pp,h.lk,h.tn,h.ck,h.wr,h.rl,h.pu,
 j4 c.words,j4 c.orecs,j4 c.base,j4 c.c0,j4 c.c1,j4 c.c2,j4 c.c3,j4 c.reads,j4 c.writes,j4 c.allocs,j4 c.frees,j4 c.clock, .bool c.strong,
 j4 t,j4 x.st,j4 x.code,j4 k,h.th,h.us,j4 x.addr,uv x.val, .slice h.oa x.oc.length h.oc,uv x.ck, .bool x.dn,j4 x.pu] 185 (0,0)
abbrev AH.R0(h:AH)(c:Cfg)(t:Nat)(x:AT)(e:Nat)(Q:Own):Own:=(h.sb,stP c.reads h.sa x.set.length h.sc)::((h.eb,enP t e x.rv)::(h.sD++(h.nD++(h.oD++(h.lD++(h.fD++Q))))))
abbrev AH.R(h:AH)(c:Cfg)(t:Nat)(x:AT)(e:Nat)(Q:Own):Own:=h.R0 c t x e (h.g.O c.writes x.ad x.vl Q)
abbrev AH.O(h:AH)(c:Cfg)(t:Nat)(x:AT)(k:Int)(e:Nat)(Q:Own):Own:=(h.b,atP c t h x k)::h.R c t x e Q
structure AH.ok(h:AH)(c:Cfg)(x:AT):Prop where
 hs:qq qw 3 1 h.sa h.sc x.set h.sD
 hn:qq qw 3 1 h.na h.nc x.seen h.nD
 ho:qq qw 3 1 h.oa h.oc x.oc h.oD
 hg:h.g.ok c.writes x.ad x.vl
 ls:x.set.length<=100000
 ln:x.seen.length<=100000
 lo:x.oc.length<=100000
 rv:0<=x.rv/\x.rv<=1099511627776
 wr:c.writes<=32
 hl:qq qw 3 1 h.la h.lc x.al h.lD
 hf:qq qw 3 1 h.fa h.fc x.fr h.fD
 ll:x.al.length<=1000
 lf:x.fr.length<=1000
 pl:x.pu<=x.al.length
 lb:∀b∈x.al,0<=b/\b<64
 ax:c.allocs<=1000/\c.frees<=1000
theorem AH.ok.to{h d:AH}{c:Cfg}{x x':AT}(N:h.ok c x)(e:(d.sa,d.sc,d.sD,d.na,d.nc,d.nD,d.oa,d.oc,d.oD,d.g,d.la,d.lc,d.lD,d.fa,d.fc,d.fD,x'.set,x'.seen,x'.oc,x'.ad,x'.vl,x'.rv,x'.al,x'.fr,x'.pu)=
  (h.sa,h.sc,h.sD,h.na,h.nc,h.nD,h.oa,h.oc,h.oD,h.g,h.la,h.lc,h.lD,h.fa,h.fc,h.fD,x.set,x.seen,x.oc,x.ad,x.vl,x.rv,x.al,x.fr,x.pu)):d.ok c x':=by
 simp only[Prod.mk.injEq] at e;obtain⟨B,C,G,H,I,J,K,L,M,g,i,q,u,y,z,A,f1,f2,f3,f4,f5,f6,f7,f8,f9⟩:=e;obtain⟨h1,h2,h3,h4,h5,h6,h7,h8,h9,g1,g2,g3,g4,g5,g6,g7⟩:=N;constructor <;>first|assumption|simp only[B,C,G,H,I,J,K,L,M,g,i,q,u,y,z,A,f1,f2,f3,f4,f5,f6,f7,f8,f9];assumption
section
variable{W0:World}{own Q:Own}{c:Cfg}{t:Nat}{h:AH}{x:AT}{k:Int}{b e:Nat}
theorem qdQ(d:Cl W0 own b 31 (j4 k)):jl W0 78 [ptr b] own (.bool (decide (k≠0))):=by
 refine qi (sH [] ?_)
 repeat'((try conv=>whnf);first|refine q0k d ?_)
 all_goals exact⟨rfl,(eC)⟩
theorem q3E(d:Cl W0 own b 30 (j4 k)):jl W0 56 [ptr b] own (j4 k):=by
 refine qi (sH [] ?_)
 repeat'((try conv=>whnf);first|refine q0k d ?_)
 all_goals exact⟨rfl,(eC)⟩
theorem q7W(d:Cl W0 own b 29 (j4 k)):jl W0 181 [ptr b] own (j4 k):=by
 refine qi (sH [] ?_)
 repeat'((try conv=>whnf);first|refine q0k d ?_)
 all_goals exact⟨rfl,(eC)⟩
theorem q7X(d:Cl W0 own b 35 (uv k)):jl W0 262 [ptr b] own (uv k):=by
 refine qi (sH [] ?_)
 repeat'((try conv=>whnf);first|refine q0k d ?_)
 all_goals exact⟨rfl,(eC)⟩
theorem q16{d:Bool}(g:Cl W0 own b 38 (.bool d)):jl W0 51 [ptr b] own (.bool d):=by
 refine qi (sH [] ?_)
 repeat'((try conv=>whnf);first|refine q0k g ?_)
 all_goals exact⟨rfl,(eC)⟩
theorem q6k{w a:Int}(d:Cl W0 own b 15 (j4 w))(hw:0<=w/\w<=1099511627776):jl W0 189 [ptr b,uv a] own (.bool (decide (a>=w))):=by
 refine qi (sH [] ?_)
 repeat'((try conv=>whnf);first|refine q0k d ?_|refine fC ?_)
 all_goals exact⟨rfl,(eC)⟩
theorem q2L{s:Int}(d:Cl W0 own b 29 (j4 s))(g:Cl W0 own b 31 (j4 0)):jl W0 185 [ptr b,j4 s] own (j4 0):=by
 refine qi (sH [] ?_);have hb:=qdQ g;rw[show decide ((0:Int)≠0)=false by simp] at hb
 repeat'((try conv=>whnf);first|refine fH ?_|refine fG ?_|refine q0k d ?_|apply qe;refine qd (hb) ?_)
 all_goals exact⟨rfl,(eC)⟩
theorem q3K{b2 n c2:Nat}{a2:j8}(d:Cl W0 own b 30 (j4 k))(q:Cl W0 own b 1 (ptr b2))(u:Cl W0 own b2 1 (.slice a2 n c2)):jl W0 96 [ptr b] own (.bool (decide (k=1/\n≠0))):=by
 refine qi (sH [] ?_);have g:=qgr u
 by_cases i:k=1
 ·repeat'((try conv=>whnf);first|refine fH ?_|refine fJ ?_|refine q0k d ?_|refine q0k q ?_|apply qe;refine qd (g) ?_)
  all_goals exact⟨q0s (vb (by by_cases y:n=0 <;>simp[i,y] <;>omega)),(eC)⟩
 ·repeat'((try conv=>whnf);first|refine fI ?_|refine fK ?_|refine q0k d ?_)
  all_goals exact⟨q0s (vb (by simp[i])),(eC)⟩
theorem qaJ{b2:Nat}{n cc:Int}(g:Cl W0 own b 5 (ptr b2))(i:Cl W0 own b2 1 (j4 n))(q:Cl W0 own b2 2 (uv cc))(hb:0<=cc/\cc<=1099511627776)(hn2:1<n):jl W0 248 [ptr b] own (j4 cc):=by
 refine qi (sH [] ?_);have d:=q4b i q hb;rw[if_neg Yb] at d
 repeat'((try conv=>whnf);first|refine fD ?_|refine q0k g ?_|apply qe;refine qd (d) ?_)
 all_goals exact⟨rfl,(eC)⟩
theorem q17(g:FuncId)(cs:jg)(Q:Own):jk W0 186 [ptr h.b, .func (.func g) #[] cs] ((h.b,atP c t h x k)::Q) fun v own'=>∃_:Unit,v= .tuple #[]/\Ent W0 own' ((h.b,atP c t {h with th:= .func (.func g) #[] cs} x 1)::Q):=by
 refine qG (sH [] ?_)
 repeat'((try conv=>whnf);first|refine fN ?_)
 all_goals exact⟨rfl,sbE⟩
end
open Go Go.Lib
theorem q7b(l:jd):(q8l l).Pairwise (· < ·)/\(∀x,x∈q8l l↔x∈l)/\(q8l l).length<=l.length:=by
 have h:=q2D (d:=(srt l).toArray) (by rw[zQ];exact q1z l) (srt l).length Yd;refine⟨h.1,fun x=>((h.2.1 x).trans ?_).trans q9t,Zq h.2.2 (Nat.le_of_eq (q1p l))⟩;constructor
 ·rintro⟨j,g,rfl⟩;rw[getElem!_pos _ j (by simpa using g),yB];exact ZW _
 ·intro i;obtain⟨j,g,e⟩:=yj i;exact⟨j,g,by rw[getElem!_pos _ j (by simpa using g),yB];exact e⟩
theorem qeM{l:jd}(h:l.Pairwise (· < ·)):q8l l=l:=by
 have g:(l.mergeSort fun x y=>decide (x<=y))=l:=List.mergeSort_of_pairwise (h.imp fun h=>by simpa using Int.le_of_lt h);unfold q8l;rw[g];refine compact_all l fun j d=>?_
 cases j with
 |zero=>rfl
 |succ j=>
  refine keeps_pos ?_;rw[getElem!_pos _ (j+1) (by simpa using d),getElem!_pos _ (j+1-1) (by simp;omega),yB,yB];have:=ZF.1 h j (j+1) Yb d Yb;simp only[Nat.add_sub_cancel];omega
theorem q8m(l:jd):q8l (q8l l)=q8l l:=qeM (q7b l).1
open Go
abbrev q2P(v:Value)(T:TypeId):Obj->Prop:=fun z=>z=Obj.cells #[v] T (0,0)
abbrev abP(b:Nat):Obj->Prop:=q2P (ptr b) 116
abbrev fnv(g:FuncId)(cs:je):Value:= .func (.func g) #[] cs.toArray
structure LkO(t:Nat)(h:AH)(x:AT)(s:Int)(ld:Bool)(E:Own):Prop where
 h:∃(kb:Nat) (la:j8) (lc:Nat) (lD:Own) (oa:j8) (oc:Nat) (oD:Own),h.lk=ptr kb/\qq qw 3 1 la lc x.oc lD/\qq q06 45 1 oa oc x.old oD/\E=(kb,lkP t la x.oc.length lc oa x.old.length oc s ld)::(lD++oD)
def LkQ(t:Nat)(h:AH)(x:AT)(E:Own):Prop:=(x.oc= []/\E= [])\/(x.oc≠ []/\x.old.length=x.oc.length/\∃s,LkO t h x s false E)
structure TnO(h:AH)(b:Bool)(v:Int)(d:Bool)(E:Own):Prop where
 h:∃tb:Nat,h.tn=ptr tb/\E= [(tb,tnP b v d)]
def FnO(h:AH):Ko->Own->Prop
 | .en d,E=>(∃ab cb:Nat,h.th=fnv 187 [ptr ab,ptr cb]/\E= [(ab,abP h.b),(cb,q2P (j4 d) 3)])\/(d=7/\∃ab:Nat,h.th=fnv 190 [ptr ab]/\E= [(ab,abP h.b)])\/(d=8/\∃ab:Nat,h.th=fnv 278 [ptr ab]/\E= [(ab,abP h.b)])
 | .tk v,E=>∃fb vb ab:Nat,h.th=fnv 193 [ptr fb,ptr vb]/\E= [(fb,q2P (fnv 191 [ptr ab]) 183),(vb,q2P (uv v) 45),(ab,abP h.b)]
 | .wr a v,E=>∃ab xb vb:Nat,h.th=fnv 196 [ptr ab,ptr xb,ptr vb]/\E= [(ab,abP h.b),(xb,q2P (uv a) 45),(vb,q2P (uv v) 45)]
 | .ud d,E=>d=3/\∃ab:Nat,h.th=fnv 273 [ptr ab]/\E= [(ab,abP h.b)]
 | .fd b v,E=>∃ab bb vb:Nat,h.th=fnv 279 [ptr ab,ptr bb,ptr vb]/\E= [(ab,abP h.b),(bb,q2P (j4 b) 3),(vb,q2P (uv v) 45)]
def UsO(h:AH)(x:AT)(E:Own):Prop:=(x.us<0/\∃ab:Nat,h.us=fnv 191 [ptr ab]/\E= [(ab,abP h.b)])\/(¬x.us<0/\∃ab bb:Nat,h.us=fnv 281 [ptr ab,ptr bb]/\E= [(ab,abP h.b),(bb,q2P (j4 x.us) 3)])
section
variable{P:Program}{W0:World}{own r:Own}{f f0:FuncId}{args args0:je}{b:Nat}{p p':Obj->Prop}
theorem q12{σ:Type}{R:σ->Value->Prop}{O:σ->Own}{K:Value->Own->Prop} [m:q1H b p own r](h:qu P W0 f0 args0 ((b,p')::r) fun v own'=>∃s,R s v/\Ent W0 own' (O s))(g:p=p')(d:f=f0)(ea:args=args0)(u:∀s v,R s v->K v (O s)):q0g P W0 own f args K:=by
 subst d;subst ea;subst g;exact⟨fun w hw=>(h w (Ent.of_perm m.h w hw)).mono fun _ _ ⟨_,_,he,y,s,q,i⟩=>⟨_,O s,he,i _ y,u s _ q⟩⟩
theorem qO{σ:Type}{R:σ->Value->Prop}{O:σ->Own}{K:Value->Own->Prop} [m:q1H b p own r](h:qu P W0 f0 args0 ((b,p')::r) fun v own'=>∃s,R s v/\Ent W0 own' (O s))(i:∀s v,R s v->K v (O s))(g:p=p':=by exact rfl)(d:f=f0:=by exact rfl)(ea:args=args0:=by exact rfl):q0g P W0 own f args K:=q12 h g d ea i
end
class q2g(D own:Own)(r:outParam Own):Prop where
 h:own.Perm (D++r)
instance q2g.nil{own:Own}:q2g [] own own:=⟨List.Perm.refl _⟩
instance q2g.cons{D own r r1:Own}{b:Nat}{p:Obj->Prop} [m:q1H b p own r1] [k:q2g D r1 r]:q2g ((b,p)::D) own r:=⟨m.h.trans (k.h.cons _)⟩
instance q2g.app{A D own r r1:Own} [m:q07 A own r1] [k:q2g D r1 r]:q2g (A++D) own r:=⟨m.h.trans (by rw[zd];exact k.h.append_left A)⟩
section
variable{P:Program}{W0:World}{own D r r1:Own}{f f0:FuncId}{args args0:je}{b:Nat}{p p':Obj->Prop}
theorem q38{σ:Type}{R:σ->Value->Prop}{O:σ->Own->Own}{d:Own->Own}{K:Value->Own->Prop} [B:q1H b p own r1] [C:q2g D r1 r](h:∀Q,qu P W0 f0 args0 (d Q) fun v own'=>∃s,R s v/\Ent W0 own' (O s Q))(q:∀Q,Ent W0 ((b,p')::(D++Q)) (d Q))
  (i:p=p') (g:f=f0) (ea:args=args0) (z:∀s v,R s v->K v (O s r)):q0g P W0 own f args K:=by
 subst g;subst ea;subst i;exact⟨fun w hw=>(h r w (q r w (Ent.of_perm (B.h.trans (C.h.cons _)) w hw))).mono fun _ _ ⟨_,_,he,A,s,y,u⟩=>⟨_,O s r,he,u _ A,z s _ y⟩⟩
theorem qn{σ:Type}{R:σ->Value->Prop}{O:σ->Own->Own}{d:Own->Own}{K:Value->Own->Prop} [m1:q1H b p own r1] [m2:q2g D r1 r](h:∀Q,qu P W0 f0 args0 (d Q) fun v own'=>∃s,R s v/\Ent W0 own' (O s Q))(q:∀Q,Ent W0 ((b,p')::(D++Q)) (d Q))(u:∀s v,R s v->K v (O s r))(i:p=p':=by exact rfl)(g:f=f0:=by exact rfl)(ea:args=args0:=by exact rfl):q0g P W0 own f args K:=q38 h q i g ea u
end
def PhO(W0:World)(c:Cfg)(t:Nat)(h:AH)(x:AT)(E:Own):Prop:=
 match x.ph with
 | .idle=>E= []
 | .loc k=>FnO h k E
 | .ent _=>E= []
 | .rd n bf vl=>h.ld=n/\∃(r:Nat) (E2:Own),h.rd=ptr r/\UsO h x E2/\E=(r,rdP x.addr (qC c x.addr) x.rv n bf vl false)::E2
 | .pp n k hd nx=>((x.al.length:Int)<c.allocs/\0<=k/\k<4)/\∃qb ab cb:Nat,h.pp=ptr qb/\h.th=fnv 275 [ptr ab,ptr cb]/\E= [(qb,ppP k n hd nx (-1)),(ab,abP h.b),(cb,q2P (j4 k) 3)]
 | .lk s ld=>LkO t h x s ld E
 | .tn b=>∃E1 E2,TnO h b (if b then x.tk else 0) false E1/\LkQ t h x E2/\E=E1++E2
 | .ck l=>∃(E1 E2:Own) (cb:Nat) (ca:j8) (cc:Nat) (g:Own),TnO h true x.tk true E1/\LkQ t h x E2/\h.ck=ptr cb/\(RdE qw 1 W0 g ca l/\l.length<=cc)/\E=(cb,ckP ca l.length cc x.rv false)::(g++(E1++E2))
 | .dc=>∃E1 E2,TnO h true x.tk true E1/\LkQ t h x E2/\E=E1++E2
 | .wr a v=>∃(E1:Own) (d:Nat) (wa:j8) (wc:Nat) (wD:Own) (va:j8) (vc:Nat) (vD:Own),TnO h true x.tk true E1/\h.wr=ptr d/\(RdE qw 1 W0 wD wa a/\a.length<=wc)/\(RdE q06 1 W0 vD va v/\v.length<=vc)/\E=(d,wrP wa a.length wc va v.length vc)::(wD++(vD++E1))
 | .rl o w=>∃(E1:Own) (d:Nat) (wa:j8) (wc:Nat) (wD:Own) (va:j8) (vc:Nat) (vD:Own),TnO h true x.tk true E1/\h.rl=ptr d/\(RdE qw 1 W0 wD wa o/\o.length<=wc)/\(RdE q06 1 W0 vD va w/\w.length<=vc)/\E=(d,rlP wa o.length wc va w.length vc)::(wD++(vD++E1))
 | .sp=>TnO h true x.tk true E
 | .ps=>TnO h true x.tk true E
 | .ph n b hd=>∃pb:Nat,h.pu=ptr pb/\E= [(pb,puP (ql c b) b n hd)]
 | .lv=>E= []
theorem AH.b_eq{h:AH}{b:Nat}(e:h.b=b):∃d:AH,h={d with b:=b}:=⟨h,by cases h;cases e;rfl⟩
theorem AH.ok.wg{h:AH}{c:Cfg}{x:AT}{g':LH}{ad vl:jd}(d:h.ok c x)(i:g'.ok c.writes ad vl):AH.ok {h with g:=g'} c {x with ad:=ad,vl:=vl}:=
 ⟨d.hs,d.hn,d.ho,i,d.ls,d.ln,d.lo,d.rv,d.wr,d.hl,d.hf,d.ll,d.lf,d.pl,d.lb,d.ax⟩
def AtQ(W0:World)(c:Cfg)(t:Nat)(b:Nat)(x:AT)(e:Nat)(Q:Own)(r:Value)(v:Value)(own':Own):Prop:=
 ∃s:AH×Own,(v=r/\s.1.b=b/\s.1.ok c x/\PhO W0 c t s.1 x s.2)/\Ent W0 own' (s.1.O c t x x.ph.no e (s.2++Q))
section
variable{W0:World}{own Q:Own}{c:Cfg}{t:Nat}{h:AH}{x:AT}{k:Int}{b e:Nat}
theorem q5r(d:h.ok c x)(Q:Own):jk W0 177 [ptr h.b] (h.O c t x k e Q) (AtQ W0 c t h.b x.fin e Q (.tuple #[])):=by
 unfold AtQ AT.fin;refine sH (jo 18 3 (0::(jo 12 3 [0]))) ?_;have hll:=d.ll;have hpl:=d.pl
 by_cases g:x.code=1
 ·simp only[if_pos (show x.code=1\/x.pu=x.al.length from .inl g)]
  repeat'((try conv=>whnf);first|refine fI ?_|refine fE ?_|refine fJ ?_|refine fA ?_|refine fN ?_)
  all_goals exact⟨(h,[]),⟨rfl,rfl,d.to rfl,rfl⟩,sbE⟩
 ·by_cases i:x.pu=x.al.length
  ·simp only[if_pos (show x.code=1\/x.pu=x.al.length from .inr i)];have u:(x.pu:Int)=x.al.length:=Yb
   repeat'((try conv=>whnf);first|refine fH ?_|refine fF ?_|refine fK ?_|refine fA ?_|refine fN ?_)
   all_goals exact⟨(h,[]),⟨rfl,rfl,d.to rfl,rfl⟩,sbE⟩
  ·simp only[if_neg (show ¬(x.code=1\/x.pu=x.al.length) from fun e=>e.elim g i)];have u:¬(x.pu:Int)=x.al.length:=Yb;obtain⟨b,hb⟩:∃b,x.al[x.pu]? =some b:=⟨_,z6 Yb⟩
   have hbb:=d.lb b (zh hb);rw[zg,hb,Z6];have q:RdE qw 1 W0 h.lD h.la x.al:=d.hl.rd (W0:=W0)
   repeat'((try conv=>whnf);first|refine fH ?_|refine fG ?_|refine fK ?_|apply gLd;refine q0n q hb rfl ?_|(apply qL;first|refine ixE q hb ?_ ?_;(first|rfl|omega))|(apply qe;first|refine qd (q3G W0 _ c b Yb) ?_|refine qk (q6i (ql c b) b _) fun pb v y=>?_;subst y)|refine fA ?_|refine fQ ?_|refine fN ?_)
   all_goals exact⟨({h with pu:=ptr pb},[(pb,puP (ql c b) b 0 0)]),⟨rfl,rfl,d.to rfl,⟨pb,rfl,rfl⟩⟩,sbE⟩
theorem q2x(i:h.ok c x)(d:Int)(Q:Own):jk W0 234 [ptr h.b,j4 d] (h.O c t x k e Q) (AtQ W0 c t h.b (x.undo d) e Q (.tuple #[])):=by
 unfold AtQ;refine sH [] ?_;have g:=fun Q=>q5r (W0:=W0) (h:=h) (c:=c) (t:=t) (x:={x with code:=d}) (k:=k) (e:=e) (i.to rfl) Q
 unfold AtQ at g
 repeat'((try conv=>whnf);first|(apply qe;first|refine qr (g Q) sbE ?_ ?_ fun s v u=>?_;exact rfl;exact rfl;obtain⟨rfl,q⟩:=u)|refine fN ?_)
 all_goals exact⟨s,⟨rfl,q⟩,Ent.refl⟩
theorem q5m(d:h.ok c x)(ho:x.oc= [])(q:Int)(Q:Own):jk W0 188 [ptr h.b,j4 q] (h.O c t x k e Q) (AtQ W0 c t h.b (x.endA c q) e Q (.tuple #[])):=by
 unfold AtQ;refine sH (jo 10 3 [24,25,27,30,31,33,35,38,0]) ?_;have g:=fun(own':Own) (m1:qy h.b (atP c t h {x with code:=q} k) own') (Y:qy h.g.b (lgP c.writes h.g.aa x.ad.length h.g.ca h.g.va x.vl.length h.g.cv h.g.ib h.g.P) own')=>q3K (W0:=W0) (qj m1 rfl) (qj m1 rfl) (qj Y rfl)
 unfold AT.endA
 by_cases J:q=1/\x.ad≠ []
 ·rw[if_pos J];have A:decide (q=1/\x.ad.length≠0)=true:=decide_eq_true ⟨J.1,fun h=>J.2 (zL.1 h)⟩;simp only[A] at g;have V:x.ad.length<=1000000:=by
   have h1:=d.hg.hm;have h2:=d.wr;omega
  have O:=fun(own':Own) (Y:qy h.g.b (lgP c.writes h.g.aa x.ad.length h.g.ca h.g.va x.vl.length h.g.cv h.g.ib h.g.P) own') (m3:qx own' h.g.aD)=>q49 (W0:=W0) (own:=own') (qj Y rfl) ((d.hg.hA.rd (W0:=W0)).up) V
  repeat'((try conv=>whnf);first|refine fD ?_|(apply qe;first|refine qd (g _ Ye Ye) ?_|refine qk (O _ Ye Ye) fun y v C=>?_;obtain⟨a1,c1,D1⟩:=y;obtain⟨rfl,G⟩:=C;dsimp only at G)|refine fA ?_|refine fN ?_)
  have Z:RdE qw 1 W0 D1 a1 x.ad:=G.rd (W0:=W0);refine qQ (σ:=Nat×j8×Nat×Own) (fun s=> [(29,j4 s.1),(4, .slice s.2.1 ((x.ad.take s.1).map (qC c)).length s.2.2.1)]) (fun s=>s.2.2.2++(D1++h.O c t {x with code:=q} k e Q)) (fun s=>s.1<=x.ad.length/\qq qw 3 1 s.2.1 s.2.2.1 ((x.ad.take s.1).map (qC c)) s.2.2.2) (fun s=>x.ad.length-s.1) (0,none,0,[]) ⟨Yd,qq.nil⟩ (eF) sbE rfl ?_;rintro⟨i,qa,qc,Dq⟩ junk ⟨hi,N⟩;dsimp only at hi N ⊢;have B:((x.ad.take i).map (qC c)).length<=1000000:=by rw[zi,zM];omega
  by_cases H:i<x.ad.length
  ·obtain⟨y,W⟩:∃y,x.ad[i]? =some y:=⟨_,z6 H⟩
   have I:(i:Int)<x.ad.length:=Yb;have K:(x.ad.take (i+1)).map (qC c)=(x.ad.take i).map (qC c)++ [qC c y]:=by rw[zY,W,zv];rfl
   repeat'((try conv=>whnf);first|refine fF ?_|refine qg fun bk hbk=>?_|apply q0f (enc:=qw) (T:=3) (qC c y) N;exact rfl;exact rfl;omega;exact rfl;exact rfl;omega;intro a3 M L U|apply gLd;refine q0n Z W rfl ?_|(apply qL;first|refine ixE Z W ?_ ?_;(first|rfl|omega))|apply qe;refine qd (q4a W0 _ c y) ?_|refine fB ?_|refine fQ ?_)
   refine⟨(i+1,a3,M,L),⟨H,by dsimp only;rw[K];exact U⟩,by simp only;omega,?_,sbE⟩;dsimp only;rw[K,z8];exact(eF)
  ·obtain rfl:i=x.ad.length:=Yb;rw[Z3] at N B ⊢;have I:¬(x.ad.length:Int)<x.ad.length:=Yb;have S:=fun(own':Own) (m:qx own' Dq)=>q8f (W0:=W0) (own:=own') (c:=qc) ((N.rd (W0:=W0)).up) B
   have R:=fun(own' D:Own) (sa:j8) (sc:Nat) (hB:qq qw 3 1 sa sc (q8l (x.ad.map (qC c))) D) (m:qx own' D)=>qbD (W0:=W0) (own:=own') (c:=sc) ((hB.rd (W0:=W0)).up) (Zq (q7b _).2.2 B) t
   repeat'((try conv=>whnf);first|refine fG ?_|(apply qe;first|refine qk (S _ Ye) fun y v C=>?_;obtain⟨a2,c2,D2⟩:=y;obtain⟨rfl,u⟩:=C;dsimp only at u|refine qk (R _ _ _ _ u Ye) fun y v C=>?_;obtain⟨X,a3,M,L⟩:=y;obtain⟨rfl,z⟩:=C;dsimp only at z)|refine fA ?_|refine fN ?_)
   rw[q8m] at z;rw[q8m];exact⟨({h with oa:=a2,oc:=c2,oD:=D2,lk:=ptr X},(X,lkP t a3 (q8l (x.ad.map (qC c))).length M none 0 0 0 false)::(L++ [])),⟨rfl,rfl,⟨d.hs,d.hn,u,d.hg,d.ls,d.ln,Zq (q7b _).2.2 (by rw[zi];have:=d.hg.hm;have:=d.wr;omega),d.rv,d.wr,d.hl,d.hf,d.ll,d.lf,d.pl,d.lb,d.ax⟩,⟨X,a3,M,L,none,0,[],rfl,z,qq.nil,rfl⟩⟩,by rw[zC,zk];exact sbE⟩
 ·rw[if_neg J];have A:decide (q=1/\x.ad.length≠0)=false:=decide_eq_false fun h=>J ⟨h.1,fun e=>h.2 (by rw[e];rfl)⟩
  simp only[A] at g
  repeat'((try conv=>whnf);first|refine fE ?_|(apply qe;first|refine qd (g _ Ye Ye) ?_|refine qk (q6j _) fun tb v C=>?_;subst C)|refine fN ?_)
  exact⟨({h with tn:=ptr tb},[(tb,tnP false 0 false)]),⟨rfl,rfl,d.to rfl,⟨_,[],⟨tb,rfl,rfl⟩, .inl ⟨ho,rfl⟩,rfl⟩⟩,sbE⟩
end
open Go
abbrev qnO(c:Cfg)(t sb lb:Nat):Obj->Prop:=fun z=>z=Obj.cells #[ptr sb,ptr lb,j6,j6,j6, .pointer none, .pointer none,j4 0, .pointer none, .pointer none, .pointer none, .pointer none, .pointer none, .pointer none, .pointer none,
 j4 c.words,j4 c.orecs,j4 c.base,j4 c.c0,j4 c.c1,j4 c.c2,j4 c.c3,j4 c.reads,j4 c.writes,j4 c.allocs,j4 c.frees,j4 c.clock, .bool c.strong,
 j4 t,j4 0,j4 0,j4 0, .nilFunc, .nilFunc,j4 0,uv 0,j6,uv 0, .bool false,j4 0] 185 (0,0)
section
variable{W0:World}{own Q:Own}{c:Cfg}{t:Nat}{h:AH}{x:AT}{k:Int}{b e:Nat}
theorem qjN(c:Cfg)(z:0<=c.reads/\c.reads<=32)(hw:1<=c.writes/\c.writes<=32)(t:Nat)(Q:Own):jk W0 198 [c.v,j4 t] Q fun v own'=>
  ∃s:Nat×Nat×LH,(v=ptr s.1/\s.2.2.ok c.writes [] [])/\
   Ent W0 own' ((s.1,qnO c t s.2.1 s.2.2.b)::(s.2.1,stP c.reads none 0 0)::s.2.2.O c.writes [] [] Q):=by
 refine sH [3,5,9,19,1,8,11,1,14,15,17,21,24,25,0,17,14,15,21,24,25,0,1,11,1,8,1,14,15,17,21,24,25,0,17,14,15,21,24,25,0,17,8,14,15,21,24,25,0,17,1,8,11,14,15,21,24,25,0,11,8,14,15,21,24,25,0] ?_;have A:=fun(own':Own)=>qei (W0:=W0) c.reads z own'
 have u:=fun(own':Own)=>qeg (W0:=W0) c.writes hw own'
 repeat'((try conv=>whnf);first|(apply qe;first|refine qk (A _) fun sb v i=>?_;subst i|refine qk (u _) fun y v i=>?_;obtain⟨lb,ib,P⟩:=y;obtain⟨rfl,q,d,g⟩:=i;dsimp only at q d g)|refine fA ?_|refine fL ?_|refine qg fun bk hbk=>?_|refine q1k.mk ?_ ?_)
 all_goals exact⟨(_,sb,⟨lb,none,0,[],none,0,[],ib,P,List.replicate P (-1)⟩),⟨rfl,⟨qq.nil,qq.nil,q,⟨d,g⟩,hw.1,rfl,(by show(0:Int)<=c.writes;omega)⟩⟩,sbE⟩
theorem qdO{g:LH}{sb:Nat}(q:g.ok c.writes [] [])(hw:c.writes<=32)(y:c.allocs<=1000/\c.frees<=1000)(Q:Own):jk W0 199 [ptr b] ((b,qnO c t sb g.b)::(sb,stP c.reads none 0 0)::g.O c.writes [] [] Q) fun v own'=>
  ∃h:AH,(v= j4 0/\h.b=b/\h.ok c {AT.new with st:=1,ph:= .ent 0})/\Ent W0 own' (h.O c t {AT.new with st:=1,ph:= .ent 0} 2 0 Q):=by
 refine sH [] ?_;have d:=fun(own':Own) (i:qy b (qnO c t sb g.b) own')=>q2L (W0:=W0) (qj i rfl) (qj i rfl)
 repeat'((try conv=>whnf);first|refine fD ?_|(apply qe;first|refine qd (d _ Ye) ?_|refine qk (q9n t _) fun eb v u=>?_;subst u)|refine fA ?_|refine fN ?_)
 all_goals exact⟨⟨b,sb,none,0,[],g,none,0,[],none,0,[],eb, .pointer none,0, .pointer none, .pointer none, .pointer none, .pointer none, .pointer none, .nilFunc, .nilFunc,none,0,[],none,0,[], .pointer none, .pointer none⟩,⟨rfl,rfl,⟨qq.nil,qq.nil,qq.nil,q,Yc,Yc,Yc,Yc,hw,qq.nil,qq.nil,Yc,Yc,Yc,(fun b hb=>by cases hb),y⟩⟩,sbE⟩
theorem q6g(d:0<=x.rv/\x.rv<=1099511627776)(a:Int)(g:FuncId)(cs:jg)(Q:Own):jk W0 194 [ptr h.b,j4 a, .func (.func g) #[] cs] ((h.b,atP c t h x k)::([(h.eb,enP t 3 x.rv)]++Q)) fun v own'=>
  ∃r:Nat,v= .tuple #[]/\Ent W0 own' ((h.b,atP c t {h with us:= .func (.func g) #[] cs,ld:=0,rd:=ptr r} {x with addr:=a} 3)::((r,rdP a (qC c a) x.rv 0 0 0 false)::([(h.eb,enP t 3 x.rv)]++Q))):=by
 refine sH [] ?_;have i:=fun(own':Own) (y:qy h.b (atP c t {h with us:= .func (.func g) #[] cs,ld:=0} {x with addr:=a} 3) own') (q:qy h.eb (enP t 3 x.rv) own')=>qaJ (W0:=W0) (qj y rfl) (qj q rfl) (qj q rfl) d Yc
 repeat'((try conv=>whnf);first|(apply qe;first|refine qd (q4a W0 _ c a) ?_|refine qd (i _ Ye Ye) ?_|refine qk (qbE a (qC c a) x.rv _) fun r v u=>?_;subst u)|refine fQ ?_|refine fN ?_)
 all_goals exact⟨r,rfl,sbE⟩
theorem qaH(i:h.ok c x)(I:x.st=1)(a:Int)(M:0<=a)(G:0<=c.words/\c.words<=1099511627776)(Q:Own):jk W0 121 [ptr h.b,uv a] (h.O c t x 0 3 Q) fun v own'=>
  AtQ W0 c t h.b (x.read c a) 3 Q (j4 0) v own':=by
 unfold AtQ;refine sH [] ?_;have q:=fun(own':Own) (B:qy h.b (atP c t h x 0) own')=>q2L (W0:=W0) (s:=x.st) (qj B rfl) (qj B rfl)
 have d:=fun(own':Own) (B:qy h.b (atP c t h x 0) own')=>q6k (W0:=W0) (a:=a) (qj B rfl) G
 rw[I] at q;unfold AT.read
 by_cases A:c.words<=a
 ·rw[if_pos A];have hd:decide (a>=c.words)=true:=decide_eq_true A;simp only[hd] at d
  repeat'((try conv=>whnf);first|refine fE ?_|refine fD ?_|refine qg fun u y=>?_|(apply qe;first|refine qd (q _ Ye) ?_|refine qd (d _ Ye) ?_|refine q12 (q17 (h:=h) (c:=c) (t:=t) (x:=x) (k:=0) ?_ ?_ _) ?_ ?_ ?_ fun _ v z=>?_;rotate_left 2;exact rfl;exact rfl;exact rfl;subst z)|refine fA ?_)
  all_goals exact⟨({h with th:=fnv 190 [ptr u]},[(u,abP h.b)]),⟨rfl,rfl,i.to rfl, .inr (.inl ⟨rfl,u,rfl,rfl⟩)⟩,by show Ent W0 _ (AH.O _ c t _ 1 3 _);exact sbE⟩
 ·rw[if_neg A];have hd:decide (a>=c.words)=false:=decide_eq_false A;simp only[hd] at d;have g:=fun(own':Own) (J:qy h.g.b (lgP c.writes h.g.aa x.ad.length h.g.ca h.g.va x.vl.length h.g.cv h.g.ib h.g.P) own') (m3:qx own' h.g.aD) (m4:qx own' h.g.vD) (m5:qy h.g.ib (j7 (h.g.ix.map qw).flatten.toArray 3) own')=>
   qic (W0:=W0) (a:=a) i.hg.hI (qj J rfl) (qj J rfl) (qj J rfl) ((i.hg.hA.rd (W0:=W0)).up) ((i.hg.hV.rd (W0:=W0)).up) (RdE.mem (T:=3)) (by have:=i.hg.hP;omega) ⟨M,Yb⟩ i.hg.hl
  cases L:q14 x.ad x.vl a with
  |some w=>
   simp only[L,Z6,Zu] at g
   repeat'((try conv=>whnf);first|refine fE ?_|refine fD ?_|refine qg fun u y=>?_|(apply qe;first|refine qd (q _ Ye) ?_|refine qd (d _ Ye) ?_|refine qd (g _ Ye Ye Ye Ye) ?_|refine q12 (q17 (h:=h) (c:=c) (t:=t) (x:=x) (k:=0) ?_ ?_ _) ?_ ?_ ?_ fun _ v z=>?_;rotate_left 2;exact rfl;exact rfl;exact rfl;subst z)|refine fB ?_|refine fO ?_|refine fA ?_|refine fN ?_)
   rename_i ab C fb H _;dsimp only;exact⟨({h with th:=fnv 193 [ptr fb,ptr u]},[(fb,q2P (fnv 191 [ptr ab]) 183),(u,q2P (uv w) 45),(ab,abP h.b)]),⟨rfl,rfl,i.to rfl,⟨fb,u,ab,rfl,rfl⟩⟩,by show Ent W0 _ (AH.O _ c t _ 1 3 _);exact sbE⟩
  |none=>
   simp only[L,yk,Zp] at g
   repeat'((try conv=>whnf);first|refine fD ?_|refine qg fun u y=>?_|(apply qe;first|refine qd (q _ Ye) ?_|refine qd (d _ Ye) ?_|refine qd (g _ Ye Ye Ye Ye) ?_|refine q8E (D:= [(h.eb,enP t 3 x.rv)]) (q6g (h:=h) (c:=c) (t:=t) (x:=x) (k:=0) i.rv a ?_ ?_ _) ?_ ?_ ?_ fun K v z=>?_;rotate_left 2;exact rfl;exact rfl;exact rfl;subst z)|refine fB ?_|refine fO ?_|refine fA ?_|refine fN ?_)
   rename_i ab C fb H;dsimp only;exact⟨({h with us:=fnv 191 [ptr ab],ld:=0,rd:=ptr K},[(K,rdP a (qC c a) x.rv 0 0 0 false),(ab,abP h.b)]),⟨rfl,rfl,i.to rfl,⟨rfl,K,[(ab,abP h.b)],rfl, .inl ⟨by show(-1:Int)<0;decide,ab,rfl,rfl⟩,rfl⟩⟩,by show Ent W0 _ (AH.O _ c t _ 3 3 _);exact sbE⟩
theorem q7U(u:h.ok c x)(i:x.st=1)(a v:Int)(Q:Own):jk W0 123 [ptr h.b,uv a,uv v] (h.O c t x 0 3 Q) fun r own'=>
  AtQ W0 c t h.b {x with ph:= .loc (.wr a v)} 3 Q (j4 0) r own':=by
 unfold AtQ;refine sH [] ?_;have d:=fun(own':Own) (q:qy h.b (atP c t h x 0) own')=>q2L (W0:=W0) (s:=x.st) (qj q rfl) (qj q rfl)
 rw[i] at d
 repeat'((try conv=>whnf);first|refine fD ?_|refine qg fun g hbk=>?_|(apply qe;first|refine qd (d _ Ye) ?_|refine q12 (q17 (h:=h) (c:=c) (t:=t) (x:=x) (k:=0) ?_ ?_ _) ?_ ?_ ?_ fun _ v y=>?_;rotate_left 2;exact rfl;exact rfl;exact rfl;subst y)|refine fA ?_)
 rename_i ab hab xb hxb _;exact⟨({h with th:=fnv 196 [ptr ab,ptr xb,ptr g]},[(ab,abP h.b),(xb,q2P (uv a) 45),(g,q2P (uv v) 45)]),⟨rfl,rfl,u.to rfl,⟨ab,xb,g,rfl,rfl⟩⟩,sbE⟩
theorem q9h(u:h.ok c x)(y:x.st=1)(g:Int)(hcd:g=1\/g=2)(Q:Own):jk W0 120 [ptr h.b,j4 g] (h.O c t x 0 3 Q) fun r own'=>
  AtQ W0 c t h.b {x with ph:= .loc (.en g)} 3 Q (j4 0) r own':=by
 unfold AtQ;refine sH [] ?_;have q:=fun(own':Own) (z:qy h.b (atP c t h x 0) own')=>q2L (W0:=W0) (s:=x.st) (qj z rfl) (qj z rfl)
 rw[y] at q
 repeat'((try conv=>whnf);first|refine fH ?_|refine fI ?_|refine fD ?_|refine fG ?_|refine qg fun d hbk=>?_|(apply qe;first|refine qd (q _ Ye) ?_|refine q12 (q17 (h:=h) (c:=c) (t:=t) (x:=x) (k:=0) ?_ ?_ _) ?_ ?_ ?_ fun _ v A=>?_;rotate_left 2;exact rfl;exact rfl;exact rfl;subst A)|refine fA ?_|apply q0W;exact rfl;exact rfl;all_goals intro hc)
 all_goals
  first
  |(exfalso;omega)
  |(rename_i ab i _ _ _;exact⟨({h with th:=fnv 187 [ptr ab,ptr d]},[(ab,abP h.b),(d,q2P (j4 g) 3)]),⟨rfl,rfl,u.to rfl, .inl ⟨ab,d,rfl,rfl⟩⟩,sbE⟩)
  |(rename_i ab i _ _;exact⟨({h with th:=fnv 187 [ptr ab,ptr d]},[(ab,abP h.b),(d,q2P (j4 g) 3)]),⟨rfl,rfl,u.to rfl, .inl ⟨ab,d,rfl,rfl⟩⟩,sbE⟩)
  |(rename_i ab i _;exact⟨({h with th:=fnv 187 [ptr ab,ptr d]},[(ab,abP h.b),(d,q2P (j4 g) 3)]),⟨rfl,rfl,u.to rfl, .inl ⟨ab,d,rfl,rfl⟩⟩,sbE⟩)
theorem qdN(A:h.ok c x)(y:x.st=1)(k:Int)(B:0<=k/\k<4)(Q:Own):jk W0 200 [ptr h.b,j4 k] (h.O c t x 0 3 Q) (AtQ W0 c t h.b (x.alloc c k) 3 Q (j4 0)):=by
 unfold AtQ AT.alloc;refine sH (jo 12 3 [0,7,1,3,1,5,10,11,13,16,17,19,21,24,0,10,11,13,1,5,16,17,19,21,24,0,16,5,17,19,21,24,0,1,5,1,3,10,11,13,16,17,19,21,24,0,10,3,11,13,16,17,19,21,24,0,10,3,11,13,1,5,16,17,19,21,24,0,16,5,17,19,21,24,0]) ?_;have d:=fun(own':Own) (C:qy h.b (atP c t h x 0) own')=>q2L (W0:=W0) (s:=x.st) (qj C rfl) (qj C rfl)
 rw[y] at d
 by_cases i:c.allocs<=(x.al.length:Int)
 ·rw[if_pos i];have G:(x.al.length:Int)>=c.allocs:=i
  repeat'((try conv=>whnf);first|refine fH ?_|refine fD ?_|refine fF ?_|refine fG ?_|refine fK ?_|refine qg fun g u=>?_|(apply qe;first|refine qd (d _ Ye) ?_|refine q12 (q17 (h:=h) (c:=c) (t:=t) (x:=x) (k:=0) ?_ ?_ _) ?_ ?_ ?_ fun _ v z=>?_;rotate_left 2;exact rfl;exact rfl;exact rfl;subst z)|refine fA ?_)
  all_goals(rename_i ab q _;exact⟨({h with th:=fnv 273 [ptr ab]},[(ab,abP h.b)]),⟨rfl,rfl,A.to rfl,⟨rfl,ab,rfl,rfl⟩⟩,by show Ent W0 _ (AH.O _ c t _ 1 3 _);exact sbE⟩)
 ·rw[if_neg i];have G:¬(x.al.length:Int)>=c.allocs:=i
  repeat'((try conv=>whnf);first|refine fH ?_|refine fD ?_|refine fG ?_|refine fK ?_|refine qg fun g u=>?_|(apply qe;first|refine qd (d _ Ye) ?_|refine qk (qeh k _) fun qb v z=>?_;subst z)|refine fA ?_|refine fN ?_|refine q1k.mk ?_ ?_)
  all_goals(rename_i ab q;exact⟨({h with pp:=ptr qb,th:=fnv 275 [ptr ab,ptr g]},[(qb,ppP k 0 0 0 (-1)),(ab,abP h.b),(g,q2P (j4 k) 3)]),⟨rfl,rfl,A.to rfl,⟨⟨by dsimp only;omega,B.1,B.2⟩,qb,ab,g,rfl,rfl,rfl⟩⟩,by show Ent W0 _ (AH.O _ c t _ 4 3 _);exact sbE⟩)
theorem qgg(g:h.ok c x)(C:x.st=1)(a:Int)(hcw:0<=c.words/\c.words<=64)(Q:Own):jk W0 201 [ptr h.b,uv a] (h.O c t x 0 3 Q) (AtQ W0 c t h.b (x.free c a) 3 Q (j4 0)):=by
 unfold AtQ AT.free;refine sH (jo 8 3 [0]) ?_;have i:=fun(own':Own) (K:qy h.b (atP c t h x 0) own')=>q2L (W0:=W0) (s:=x.st) (qj K rfl) (qj K rfl)
 rw[C] at i;have q:=fun own=>q9j W0 own c a
 have hbl: -1<=qJ c a/\qJ c a<64:=by have:=q3w c a;have:=qP c;omega
 generalize qJ c a=bb at*
 by_cases B:bb<0
 ·rw[if_pos B]
  repeat'((try conv=>whnf);first|refine fD ?_|refine fF ?_|refine qg fun u z=>?_|(apply qe;first|refine qd (i _ Ye) ?_|refine qd (q _) ?_|refine q12 (q17 (h:=h) (c:=c) (t:=t) (x:=x) (k:=0) ?_ ?_ _) ?_ ?_ ?_ fun _ v A=>?_;rotate_left 2;exact rfl;exact rfl;exact rfl;subst A)|refine fA ?_|refine fQ ?_|refine fN ?_)
  all_goals(rename_i ab y _;exact⟨({h with th:=fnv 278 [ptr ab]},[(ab,abP h.b)]),⟨rfl,rfl,g.to rfl, .inr (.inr ⟨rfl,ab,rfl,rfl⟩)⟩,by show Ent W0 _ (AH.O _ c t _ 1 3 _);exact sbE⟩)
 ·rw[if_neg B];have d:=fun(own':Own) (H:qy h.g.b (lgP c.writes h.g.aa x.ad.length h.g.ca h.g.va x.vl.length h.g.cv h.g.ib h.g.P) own') (m3:qx own' h.g.aD) (m4:qx own' h.g.vD) (m5:qy h.g.ib (j7 (h.g.ix.map qw).flatten.toArray 3) own')=>
   qic (W0:=W0) (a:=c.words+bb) g.hg.hI (qj H rfl) (qj H rfl) (qj H rfl) ((g.hg.hA.rd (W0:=W0)).up) ((g.hg.hV.rd (W0:=W0)).up) (RdE.mem (T:=3)) (by have:=g.hg.hP;omega) Yb g.hg.hl
  cases J:q14 x.ad x.vl (c.words+bb) with
  |some w=>
   simp only[J,Z6,Zu] at d
   repeat'((try conv=>whnf);first|refine fE ?_|refine fD ?_|refine fG ?_|refine qg fun u z=>?_|(apply qe;first|refine qd (i _ Ye) ?_|refine qd (q _) ?_|refine qd (d _ Ye Ye Ye Ye) ?_|refine q12 (q17 (h:=h) (c:=c) (t:=t) (x:=x) (k:=0) ?_ ?_ _) ?_ ?_ ?_ fun _ v A=>?_;rotate_left 2;exact rfl;exact rfl;exact rfl;subst A)|refine fB ?_|refine fO ?_|refine fA ?_|refine fQ ?_|refine fN ?_)
   all_goals(rename_i ab y xb G _;exact⟨({h with th:=fnv 279 [ptr ab,ptr xb,ptr u]},[(ab,abP h.b),(xb,q2P (j4 bb) 3),(u,q2P (uv w) 45)]),⟨rfl,rfl,g.to rfl,⟨ab,xb,u,rfl,rfl⟩⟩,by show Ent W0 _ (AH.O _ c t _ 1 3 _);exact sbE⟩)
  |none=>
   simp only[J,yk,Zp] at d
   repeat'((try conv=>whnf);first|refine fD ?_|refine fG ?_|refine qg fun u z=>?_|(apply qe;first|refine qd (i _ Ye) ?_|refine qd (q _) ?_|refine qd (d _ Ye Ye Ye Ye) ?_|refine q8E (D:= [(h.eb,enP t 3 x.rv)]) (q6g (h:=h) (c:=c) (t:=t) (x:=x) (k:=0) g.rv (c.words+bb) ?_ ?_ _) ?_ ?_ ?_ fun I v A=>?_;rotate_left 2;exact rfl;exact rfl;exact rfl;subst A)|refine fB ?_|refine fO ?_|refine fA ?_|refine fQ ?_|refine fN ?_)
   all_goals(rename_i ab y xb G;exact⟨({h with us:=fnv 281 [ptr ab,ptr xb],ld:=0,rd:=ptr I},(I,rdP (c.words+bb) (qC c (c.words+bb)) x.rv 0 0 0 false):: [(ab,abP h.b),(xb,q2P (j4 bb) 3)]),⟨rfl,rfl,g.to rfl,⟨rfl,I,_,rfl, .inr ⟨B,ab,xb,rfl,rfl⟩,rfl⟩⟩,by show Ent W0 _ (AH.O _ c t _ 3 3 _);exact sbE⟩)
end
open Go
section
variable{W0:World}{own Q:Own}{c:Cfg}{t:Nat}{h:AH}{x:AT}{k:Int}{b e:Nat}
theorem qle{g':LH}(e:g'.b=h.g.b):atP c t h x k=atP c t {h with g:=g'} x k:=by
 unfold atP;dsimp only;rw[e]
theorem q75(B:h.ok c x)(a v:Int)(G:0<=a/\a<=9223372036854775807)(Q:Own):jk W0 197 [ptr h.b,j4 a,uv v] (h.O c t x 0 e Q)
  (AtQ W0 c t h.b (match q2Q c.writes x.ad x.vl a v with
   |some l=>{x with ad:=l.1,vl:=l.2,ph:= .idle}
   |none=>x.undo 3) e Q (.bool (q2Q c.writes x.ad x.vl a v).isSome)):=by
 unfold AtQ;refine sH [] ?_;have q:=fun(Q:Own)=>qmF (W0:=W0) (v:=v) B.hg G Q
 generalize q2Q c.writes x.ad x.vl a v=z at*;cases z with
 |none=>
  dsimp only[Option.isSome_none,Option.getD_none] at*;have u:=fun(g':LH) (H:g'.ok c.writes x.ad x.vl)=>q2x (W0:=W0) (h:={h with g:=g'}) (c:=c) (t:=t) (x:=x) (k:=0) (e:=e) (B.wg H) 3 Q
  unfold AtQ at u
  repeat'((try conv=>whnf);first|refine fE ?_|(apply qe;first|refine qr (q ((h.b,atP c t h x 0)::h.R0 c t x e Q)) sbE ?_ ?_ fun g' v A=>?_;exact rfl;exact rfl;(obtain⟨rfl,d,i⟩:=A;have C:=u g' i)|refine qr C (by rw[qle d];exact sbE) ?_ ?_ fun s v A=>?_;exact rfl;exact rfl;obtain⟨rfl,I⟩:=A)|refine fA ?_)
  all_goals exact⟨s,⟨rfl,I⟩,Ent.refl⟩
 |some y=>
  obtain⟨ad,vl⟩:=y;dsimp only[Option.isSome_some,Option.getD_some] at*
  repeat'((try conv=>whnf);first|refine fD ?_|(apply qe;first|refine qr (q ((h.b,atP c t h x 0)::h.R0 c t x e Q)) sbE ?_ ?_ fun g' v A=>?_;exact rfl;exact rfl;obtain⟨rfl,d,i⟩:=A)|refine fA ?_)
  refine⟨({h with g:=g'},[]),⟨rfl,rfl,(B.wg i).to rfl,rfl⟩,?_⟩;rw[qle d];exact sbE
theorem qjR{ab cb:Nat}(g:h.ok c x)(i:x.oc= [])(d:Int)(Q:Own):jk W0 187 [ptr ab,ptr cb] (h.O c t x k e ([(ab,abP h.b),(cb,q2P (j4 d) 3)]++Q)) (AtQ W0 c t h.b (x.endA c d) e Q (.tuple #[])):=by
 refine sH [] ?_;have he:=q5m (W0:=W0) (t:=t) (e:=e) (k:=k) g i d Q;unfold AtQ at he ⊢
 repeat'((try conv=>whnf);first|(apply qe;first|refine qr he sbE ?_ ?_ fun s v u=>?_;exact rfl;exact rfl;obtain⟨rfl,q⟩:=u)|refine fA ?_)
 exact⟨s,⟨rfl,q⟩,Ent.refl⟩
theorem qep{ab:Nat}(d:h.ok c x)(g:x.oc= [])(Q:Own):jk W0 190 [ptr ab] (h.O c t x k e ([(ab,abP h.b)]++Q)) (AtQ W0 c t h.b (x.endA c 7) e Q (.tuple #[])):=by
 refine sH [] ?_;have he:=q5m (W0:=W0) (t:=t) (e:=e) (k:=k) d g 7 Q;unfold AtQ at he ⊢
 repeat'((try conv=>whnf);first|(apply qe;first|refine qr he sbE ?_ ?_ fun s v q=>?_;exact rfl;exact rfl;obtain⟨rfl,i⟩:=q)|refine fA ?_)
 exact⟨s,⟨rfl,i⟩,Ent.refl⟩
theorem qe4{ab:Nat}(d:h.ok c x)(g:x.oc= [])(Q:Own):jk W0 278 [ptr ab] (h.O c t x k e ([(ab,abP h.b)]++Q)) (AtQ W0 c t h.b (x.endA c 8) e Q (.tuple #[])):=by
 refine sH [] ?_;have he:=q5m (W0:=W0) (t:=t) (e:=e) (k:=k) d g 8 Q;unfold AtQ at he ⊢
 repeat'((try conv=>whnf);first|(apply qe;first|refine qr he sbE ?_ ?_ fun s v q=>?_;exact rfl;exact rfl;obtain⟨rfl,i⟩:=q)|refine fA ?_)
 exact⟨s,⟨rfl,i⟩,Ent.refl⟩
theorem qbu{ab:Nat}(d:h.ok c x)(Q:Own):jk W0 273 [ptr ab] (h.O c t x k e ([(ab,abP h.b)]++Q)) (AtQ W0 c t h.b (x.undo 3) e Q (.tuple #[])):=by
 refine sH [] ?_;have he:=q2x (W0:=W0) (t:=t) (e:=e) (k:=k) d 3 Q;unfold AtQ at he ⊢
 repeat'((try conv=>whnf);first|(apply qe;first|refine qr he sbE ?_ ?_ fun s v i=>?_;exact rfl;exact rfl;obtain⟨rfl,g⟩:=i)|refine fA ?_)
 exact⟨s,⟨rfl,g⟩,Ent.refl⟩
theorem q8b{ab:Nat}(d:h.ok c x)(v:Int)(Q:Own):jk W0 191 [uv v,ptr ab] (h.O c t x 0 e ([(ab,abP h.b)]++Q)) (AtQ W0 c t h.b {x with val:=v,ph:= .idle} e Q (.tuple #[])):=by
 unfold AtQ;refine sH [] ?_
 repeat'((try conv=>whnf);first|refine fA ?_|refine fN ?_)
 all_goals exact⟨(h,[]),⟨rfl,rfl,d.to rfl,rfl⟩,sbE⟩
theorem qmj:okF Tryz.prog 191=true:=by kernel_rfl
theorem qeq{fb vb ab:Nat}(d:h.ok c x)(v:Int)(Q:Own):jk W0 193 [ptr fb,ptr vb] (h.O c t x 0 e ([(fb,q2P (fnv 191 [ptr ab]) 183),(vb,q2P (uv v) 45),(ab,abP h.b)]++Q)) (AtQ W0 c t h.b {x with val:=v,ph:= .idle} e Q (.tuple #[])):=by
 refine sH [] ?_;have he:=q8b (W0:=W0) (t:=t) (e:=e) (ab:=ab) d v Q;unfold AtQ at he ⊢
 repeat'((try conv=>whnf);first|refine q3S.mk ⟨qmj,?_⟩|(apply qe;first|refine qr he sbE ?_ ?_ fun s v i=>?_;exact rfl;exact rfl;obtain⟨rfl,g⟩:=i)|refine fA ?_)
 all_goals exact⟨s,⟨rfl,g⟩,Ent.refl⟩
theorem qbS{ab xb vb:Nat}(A:h.ok c x)(C:x.oc= [])(q:0<=c.words/\c.words<=1099511627776)(a v:Int)(B:0<=a)(Q:Own):
  jk W0 196 [ptr ab,ptr xb,ptr vb] (h.O c t x 0 e ([(ab,abP h.b),(xb,q2P (uv a) 45),(vb,q2P (uv v) 45)]++Q)) (AtQ W0 c t h.b (({x with ph:= .idle}:AT).kont c (.wr a v)) e Q (.tuple #[])):=by
 refine sH [] ?_;have d:=fun(own':Own) (G:qy h.b (atP c t h x 0) own')=>q6k (W0:=W0) (a:=a) (qj G rfl) q
 unfold AT.kont;dsimp only
 by_cases i:c.words<=a
 ·rw[if_pos i];have hd:decide (a>=c.words)=true:=decide_eq_true i;simp only[hd] at d;have he:=q5m (W0:=W0) (h:=h) (c:=c) (x:={x with ph:= .idle}) (t:=t) (e:=e) (k:=0) (A.to rfl) C 7 Q;unfold AtQ at he ⊢
  repeat'((try conv=>whnf);first|refine fE ?_|(apply qe;first|refine qd (d _ Ye) ?_|refine qr he sbE ?_ ?_ fun s v y=>?_;exact rfl;exact rfl;obtain⟨rfl,u⟩:=y)|refine fA ?_)
  exact⟨s,⟨rfl,u⟩,Ent.refl⟩
 ·rw[if_neg i];have hd:decide (a>=c.words)=false:=decide_eq_false i;simp only[hd] at d;have g:=q75 (W0:=W0) (t:=t) (e:=e) A a v ⟨B,Yb⟩ Q;generalize q2Q c.writes x.ad x.vl a v=z at*;unfold AtQ at g ⊢
  repeat'((try conv=>whnf);first|refine fD ?_|(apply qe;first|refine qd (d _ Ye) ?_|refine qr g sbE ?_ ?_ fun s v y=>?_;exact rfl;exact rfl;obtain⟨rfl,u⟩:=y)|refine fB ?_|refine fA ?_)
  all_goals exact⟨s,⟨rfl,by cases z <;>exact u⟩,by cases z <;>exact Ent.refl⟩
theorem qaL(u:h.ok c x)(K:x.oc= [])(hcw:0<=c.words/\c.words<=64)(b v:Int)(hb:0<=b/\b<qh c)(Q:Own):jk W0 280 [ptr h.b,j4 b,uv v] (h.O c t x 0 3 Q) (AtQ W0 c t h.b (({x with ph:= .idle}:AT).frd c b v) 3 Q (.tuple #[])):=by
 refine sH (jo 13 3 [0]) ?_;have hcl:=q0J hb.1 hb.2;have hbl:=qP c;have i:=fun own=>q3G W0 own c b Yb
 have hax:=u.ax;have hlf:=u.lf;unfold AT.frd;generalize ql c b=kc at*
 by_cases H:v≠kc+1
 ·rw[if_pos H];have he:=q5m (W0:=W0) (h:=h) (c:=c) (x:={x with ph:= .idle}) (t:=t) (e:=3) (k:=0) (u.to rfl) K 8 Q;unfold AtQ at he ⊢
  repeat'((try conv=>whnf);first|refine fF ?_|(apply qe;first|refine qd (i _) ?_|refine qr he sbE ?_ ?_ fun s v q=>?_;exact rfl;exact rfl;obtain⟨rfl,y⟩:=q)|refine fC ?_|refine fQ ?_)
  all_goals exact⟨s,⟨rfl,y⟩,Ent.refl⟩
 ·rw[if_neg H]
  by_cases A:c.frees<=(x.fr.length:Int)
  ·rw[if_pos A];have J:(x.fr.length:Int)>=c.frees:=A;have he:=q2x (W0:=W0) (h:=h) (c:=c) (x:=x) (t:=t) (e:=3) (k:=0) u 3 Q;unfold AtQ at he ⊢
   repeat'((try conv=>whnf);first|refine fF ?_|refine fG ?_|(apply qe;first|refine qd (i _) ?_|refine qr he sbE ?_ ?_ fun s v q=>?_;exact rfl;exact rfl;obtain⟨rfl,y⟩:=q)|refine fC ?_|refine fA ?_|refine fQ ?_)
   all_goals exact⟨s,⟨rfl,y⟩,Ent.refl⟩
  ·rw[if_neg A];have J:¬(x.fr.length:Int)>=c.frees:=A;have g:=q75 (W0:=W0) (t:=t) (e:=3) u (c.words+b) 0 Yb Q;dsimp only;generalize q2Q c.writes x.ad x.vl (c.words+b) 0=z at*;unfold AtQ at g ⊢;cases z with
   |none=>
    dsimp only[Option.isSome_none] at g ⊢
    repeat'((try conv=>whnf);first|refine fD ?_|refine fG ?_|(apply qe;first|refine qd (i _) ?_|refine qr g sbE ?_ ?_ fun s v q=>?_;exact rfl;exact rfl;obtain⟨rfl,y⟩:=q)|refine fB ?_|refine fC ?_|refine fA ?_|refine fQ ?_)
    all_goals exact⟨s,⟨rfl,y⟩,Ent.refl⟩
   |some l=>
    obtain⟨ad,vl⟩:=l;dsimp only[Option.isSome_some] at g ⊢
    repeat'((try conv=>whnf);first|refine fE ?_|refine fG ?_|refine qg fun bk hbk=>?_|apply q0f (enc:=qw) (T:=3) b I;exact rfl;exact rfl;omega;exact rfl;exact rfl;omega;intro a5 c5 D5 C|(apply qe;first|refine qd (i _) ?_|refine qr g sbE ?_ ?_ fun s v q=>?_;exact rfl;exact rfl;(obtain⟨ah1,E1⟩:=s;obtain⟨rfl,G,d,hyp⟩:=q;obtain⟨B,rfl⟩:=AH.b_eq G;obtain rfl:E1= []:=hyp;have I:=d.hf;dsimp only at I))|refine fB ?_|refine fC ?_|refine fA ?_|refine fQ ?_|refine fN ?_)
    all_goals exact⟨({B with b:=h.b,fa:=a5,fc:=c5,fD:=D5},[]),⟨rfl,rfl,⟨d.hs,d.hn,d.ho,d.hg,d.ls,d.ln,d.lo,d.rv,d.wr,d.hl,C,d.ll,by dsimp only;rw[z8,zA];omega,d.pl,d.lb,d.ax⟩,rfl⟩,by show Ent W0 _ ((h.b,atP c t _ _ 0)::_);unfold atP;simp only[z8];exact sbE⟩
theorem qe5{ab bb vb:Nat}(g:h.ok c x)(i:x.oc= [])(d:0<=c.words/\c.words<=64)(b v:Int)(hb:0<=b/\b<qh c)(Q:Own):jk W0 279 [ptr ab,ptr bb,ptr vb] (h.O c t x 0 3 ([(ab,abP h.b),(bb,q2P (j4 b) 3),(vb,q2P (uv v) 45)]++Q)) (AtQ W0 c t h.b (({x with ph:= .idle}:AT).frd c b v) 3 Q (.tuple #[])):=by
 refine sH [] ?_;have he:=qaL (W0:=W0) (t:=t) g i d b v hb Q;unfold AtQ at he ⊢
 repeat'((try conv=>whnf);first|(apply qe;first|refine qr he sbE ?_ ?_ fun s v u=>?_;exact rfl;exact rfl;obtain⟨rfl,q⟩:=u)|refine fA ?_)
 exact⟨s,⟨rfl,q⟩,Ent.refl⟩
theorem qe6{ab bb:Nat}(g:h.ok c x)(i:x.oc= [])(d:0<=c.words/\c.words<=64)(b v:Int)(hb:0<=b/\b<qh c)(Q:Own):jk W0 281 [uv v,ptr ab,ptr bb] (h.O c t x 0 3 ([(ab,abP h.b),(bb,q2P (j4 b) 3)]++Q)) (AtQ W0 c t h.b (({x with ph:= .idle}:AT).frd c b v) 3 Q (.tuple #[])):=by
 refine sH [] ?_;have he:=qaL (W0:=W0) (t:=t) g i d b v hb Q;unfold AtQ at he ⊢
 repeat'((try conv=>whnf);first|(apply qe;first|refine qr he sbE ?_ ?_ fun s v u=>?_;exact rfl;exact rfl;obtain⟨rfl,q⟩:=u)|refine fA ?_)
 exact⟨s,⟨rfl,q⟩,Ent.refl⟩
theorem qnY:okF Tryz.prog 281=true:=by kernel_rfl
theorem UsO.use{E:Own}(C:UsO h x E)(u:0<=c.words/\c.words<=64)(hub:x.us<qh c):∃(g:FuncId) (cs:je),h.us=fnv g cs/\okF Tryz.prog g=true/\∀(d:AH) (x':AT) (v:Int) (Q:Own),d.b=h.b->d.ok c x'->x'.us=x.us->x'.oc= []->
  jk W0 g (uv v::cs) (d.O c t x' 0 3 (E++Q)) (AtQ W0 c t d.b (({x' with ph:= .idle}:AT).got c v) 3 Q (.tuple #[])):=by
 rcases C with ⟨B,ab,q,rfl⟩|⟨B,ab,bb,q,rfl⟩
 ·refine⟨_,_,q,qmj,fun d x' v Q i y z _=>?_⟩;unfold AT.got;rw[if_pos (show x'.us<0 by omega),<-i];exact q8b y v Q
 ·refine⟨_,_,q,qnY,fun d x' v Q i y z A=>?_⟩;unfold AT.got;rw[if_neg (show ¬x'.us<0 by omega),<-i,<-z];exact qe6 y A u x'.us v ⟨Yb,Yb⟩ Q
theorem qnV:okF Tryz.prog 187=true:=by kernel_rfl
theorem qnZ:okF Tryz.prog 190=true:=by kernel_rfl
theorem qo0:okF Tryz.prog 193=true:=by kernel_rfl
theorem qo1:okF Tryz.prog 196=true:=by kernel_rfl
theorem qnW:okF Tryz.prog 278=true:=by kernel_rfl
theorem qnX:okF Tryz.prog 279=true:=by kernel_rfl
theorem qnQ:okF Tryz.prog 273=true:=by kernel_rfl
theorem qmi:okF Tryz.prog 275=true:=by kernel_rfl
end
open Go
theorem AH.th_eq{h:AH}{v:Value}(e:h.th=v):∃d:AH,h={d with th:=v}:=⟨h,by cases h;cases e;rfl⟩
abbrev azP:Obj->Prop:=fun z=>z=Obj.cells #[j4 0,j4 0,j4 0,uv 0,uv 0, .bool false] 109 (0,0)
section
variable{W0:World}{own Q:Own}{c:Cfg}{t:Nat}{h:AH}{x:AT}{k:Int}{b e mb:Nat}
theorem q2c{f:FuncId}{cs:je}{x':AT}{E:Own}(g:h.th=fnv f cs)(d:okF Tryz.prog f=true)(he:∀Q,jk W0 f cs (h.O c t x 0 3 (E++Q)) (AtQ W0 c t h.b x' 3 Q (.tuple #[])))(Q:Own):
  jk W0 117 [ptr h.b,ptr mb] (h.O c t x 1 3 (E++Q)) (AtQ W0 c t h.b x' 3 Q (.tuple #[acz.v,j4 0])):=by
 unfold AtQ at he ⊢;refine sH [] ?_;obtain⟨h',rfl⟩:=AH.th_eq g
 repeat'((try conv=>whnf);first|refine fE ?_|refine q3S.mk ⟨d,?_⟩|(apply qe;first|refine qr (he ((i,azP)::Q)) sbE ?_ ?_ fun s v u=>?_;exact rfl;exact rfl;obtain⟨rfl,q⟩:=u)|refine fA ?_|refine fL ?_|refine fN ?_|refine fM ?_|refine qg fun i hbk=>?_)
 all_goals exact⟨s,⟨rfl,q⟩,sbE⟩
theorem qk5(u:h.ok c x)(q:x.oc= [])(y:0<=c.words/\c.words<=64){kk:Ko}{E:Own}(i:FnO h kk E)(z:∀a v,kk= .wr a v->0<=a)(A:∀b v,kk= .fd b v->0<=b/\b<qh c)(Q:Own):
  jk W0 117 [ptr h.b,ptr mb] (h.O c t x 1 3 (E++Q)) (AtQ W0 c t h.b (({x with ph:= .idle}:AT).kont c kk) 3 Q (.tuple #[acz.v,j4 0])):=by
 have g:h.ok c {x with ph:= .idle}:=u.to rfl;cases kk with
 |en B=>
  rcases i with ⟨ab,cb,d,rfl⟩|⟨rfl,ab,d,rfl⟩|⟨rfl,ab,d,rfl⟩
  ·exact q2c d qnV (fun Q=>qjR g q B Q) Q
  ·exact q2c d qnZ (fun Q=>qep g q Q) Q
  ·exact q2c d qnW (fun Q=>qe4 g q Q) Q
 |tk v=>
  obtain⟨fb,vb,ab,d,rfl⟩:=i;exact q2c d qo0 (fun Q=>qeq u v Q) Q
 |wr a v=>
  obtain⟨ab,xb,vb,d,rfl⟩:=i;exact q2c d qo1 (fun Q=>qbS u q Yb a v (z a v rfl) Q) Q
 |ud B=>
  obtain⟨rfl,ab,d,rfl⟩:=i;exact q2c d qnQ (fun Q=>qbu g Q) Q
 |fd b v=>
  obtain⟨ab,bb,vb,d,rfl⟩:=i;exact q2c d qnX (fun Q=>qe5 u q y b v (A b v rfl) Q) Q
end
open Go
theorem AH.tn_eq{h:AH}{v:Value}(e:h.tn=v):∃d:AH,h={d with tn:=v}:=⟨h,by cases h;cases e;rfl⟩
section
variable{W0:World}{own Q E:Own}{c:Cfg}{t:Nat}{h:AH}{x:AT}{k w:Int}{b e:Nat}{mh:MH}{m:MS}
theorem qmL(i:h.ok c x)(g:mh.ok m.L)(d:TnO h true x.tk true E)(Q:Own):jk W0 117 [ptr h.b,ptr mh.mb] (h.O c t x 11 3 (E++(mh.O m++Q)))
  (AtQ W0 c t h.b {x with ph:= .ps} 3 (mh.O {m with ck:=qV (x.ck+1)}++Q) (.tuple #[(acS 3 0 m.ck (qV (x.ck+1))).v,j4 19])):=by
 unfold AtQ;refine sH [] ?_
 repeat'((try conv=>whnf);first|refine fE ?_|refine fD ?_|refine arw (k:= .u64) ?_|(apply qe;first|refine q2p 2 0 (qV (x.ck+1)) {m with ck:=qV (x.ck+1)} g Yc rfl rfl ?_ ?_ ?_;exact rfl;exact rfl)|refine fO ?_|refine fA ?_|refine fL ?_|refine fN ?_|refine fM ?_|refine qg fun bk hbk=>?_)
 all_goals exact⟨(h,E),⟨rfl,rfl,i.to rfl,d⟩,by show Ent W0 _ (AH.O _ c t _ 12 3 _);exact sbE⟩
theorem qmJ(C:h.ok c x)(B:mh.ok m.L)(A:TnO h true x.tk true E)(d:0<=x.tk/\x.tk<=1099511627776)(Q:Own):jk W0 117 [ptr h.b,ptr mh.mb] (h.O c t x 12 3 (E++(mh.O m++Q)))
  (AtQ W0 c t h.b x.fin 3 (mh.O {m with sv:=qV (x.tk+1)}++Q) (.tuple #[(acS 5 0 m.sv (qV (x.tk+1))).v,j4 20])):=by
 refine sH [] ?_;obtain⟨tb,i,rfl⟩:=A.h;obtain⟨u,rfl⟩:=AH.tn_eq i;have y:=fun Q=>q5r (W0:=W0) (t:=t) (k:=12) (e:=3) C Q
 unfold AtQ at y ⊢;have g:=fun(own':Own) (z:qy tb (tnP true x.tk true) own')=>qeH (W0:=W0) (c:=x.tk) (qj z rfl) (qj z rfl) d
 repeat'((try conv=>whnf);first|refine fE ?_|refine fD ?_|(apply qe;first|refine qd (g _ Ye) ?_|refine q4x (D:=mh.O m) (qjZ B d _) fun _ v q=>?_;subst q|refine qn (b:=u.b) (D:=AH.R {u with tn:=ptr tb} c t x 3 []) y (fun Q=>sbE) fun s v q=>?_;obtain⟨rfl,G⟩:=q)|refine fA ?_|refine fL ?_|refine fM ?_|refine qg fun bk hbk=>?_)
 all_goals exact⟨s,⟨rfl,G⟩,sbE⟩
theorem qmI(g:h.ok c x)(d:mh.ok m.L)(i:m.sl[t]? =some w)(Q:Own):jk W0 117 [ptr h.b,ptr mh.mb] (h.O c t x 14 3 (mh.O m++Q))
  (AtQ W0 c t h.b {x with ph:= .idle,st:=2} 3 (mh.O {m with sl:=m.sl.set t 0}++Q) (.tuple #[(acS 6 t w 0).v,j4 24])):=by
 unfold AtQ;refine sH [] ?_
 repeat'((try conv=>whnf);first|refine fE ?_|refine fD ?_|(apply qe;first|refine q4x (D:=mh.O m) (qgq d i _) fun _ v q=>?_;subst q)|refine fA ?_|refine fL ?_|refine fN ?_|refine fM ?_|refine qg fun bk hbk=>?_)
 all_goals exact⟨(h,[]),⟨rfl,rfl,g.to rfl,rfl⟩,by show Ent W0 _ (AH.O _ c t _ 0 3 _);exact sbE⟩
end
open Go
theorem AH.lk_eq{h:AH}{v:Value}(e:h.lk=v):∃d:AH,h={d with lk:=v}:=⟨h,by cases h;cases e;rfl⟩
theorem LkQ.of{t:Nat}{h i:AH}{x x':AT}{E:Own}(d:x'.oc=x.oc)(g:x'.old=x.old)(q:i.lk=h.lk)(A:LkQ t h x E):LkQ t i x' E:=by
 unfold LkQ at*;rw[d,g]
 rcases A with h|⟨u,y,s,⟨z⟩⟩
 ·exact .inl h
 ·exact .inr ⟨u,y,s,⟨by rw[d,g,q];exact z⟩⟩
theorem TnO.of{h g:AH}{b d:Bool}{v:Int}{E:Own}(e:g.tn=h.tn)(i:TnO h b v d E):TnO g b v d E:=⟨by rw[e];exact i.h⟩
section
variable{W0:World}{own Q E:Own}{c:Cfg}{t:Nat}{h:AH}{x:AT}{k w:Int}{b e:Nat}{mh:MH}{m:MS}
theorem qkc{E1 E2:Own}(A:h.ok c x)(z:mh.ok m.L)(y:TnO h false 0 false E1)(g:LkQ t h x E2)(Q:Own):jk W0 169 [ptr h.b,ptr mh.mb] (h.O c t x 6 3 ((E1++E2)++(mh.O m++Q)))
  (AtQ W0 c t h.b {x with tk:=m.tk,ph:= .tn true} 3 (mh.O {m with tk:=qV (m.tk+1)}++Q) (.tuple #[(acA 4 0 m.tk 1).v,j4 13])):=by
 unfold AtQ;refine sH [] ?_;obtain⟨tb,q,rfl⟩:=y.h;obtain⟨u,rfl⟩:=AH.tn_eq q;have i:=fun(own':Own) (C:qy tb (tnP true m.tk false) own')=>q5y (W0:=W0) (d:=false) (qj C rfl)
 repeat'((try conv=>whnf);first|refine fE ?_|refine fD ?_|(apply qe;first|refine qd (i _ Ye) ?_|refine qA (D:=mh.O m) (qh7 (b:=tb) z _) fun _ v B=>?_;subst B)|refine fA ?_|refine fL ?_|refine fM ?_|refine qg fun bk hbk=>?_)
 all_goals exact⟨({u with tn:=ptr tb},[(tb,tnP true m.tk false)]++E2),⟨rfl,rfl,A.to rfl,⟨_,E2,⟨tb,rfl,rfl⟩,by refine LkQ.of ?_ ?_ ?_ g <;>rfl,rfl⟩⟩,by show Ent W0 _ (AH.O _ c t _ 6 3 _);exact sbE⟩
theorem qk3{o:Nat}(H:h.ok c x)(G:mh.ok m.L){s:Int}(C:LkO t h x s false E)(z:x.oc[x.old.length]? =some (o:Int))(I:m.o[o]? =some w)(hw:okU w)(Q:Own):jk W0 168 [ptr h.b,ptr mh.mb] (h.O c t x 5 3 (E++(mh.O m++Q)))
  (AtQ W0 c t h.b {x with ph:= .lk w (decide (q3R w<0))} 3 (mh.O m++Q) (.tuple #[(acL 2 o w).v,j4 11])):=by
 unfold AtQ;refine sH [] ?_;obtain⟨g,la,lc,lD,oa,oc,oD,q,y,i,rfl⟩:=C.h;obtain⟨B,rfl⟩:=AH.lk_eq q;have hlt:=(z7.1 z).1;have d:=fun(own':Own) (A:qy g (lkP t la x.oc.length lc oa x.old.length oc w (decide (q3R w<0))) own')=>q3J (W0:=W0) (own:=own') (qj A rfl) (qj A rfl)
 rw[show decide (x.old.length=x.oc.length)=false from decide_eq_false Yb] at d;have u:=fun(Q:Own) (eq:qx Q lD)=>qgv (W0:=W0) (b:=g) (t:=t) (c:=lc) (c2:=oc) (a2:=oa) (l2:=x.old) (s:=s) G (y.rd (W0:=W0)) z I hw Q
 repeat'((try conv=>whnf);first|refine fD ?_|(apply qe;first|refine qd (d _ Ye) ?_|refine qA (D:=mh.O m) (u _ Ye) fun _ v J=>?_;subst J)|refine fA ?_|refine fL ?_|refine fM ?_|refine qg fun bk hbk=>?_)
 all_goals exact⟨({B with lk:=ptr g},(g,lkP t la x.oc.length lc oa x.old.length oc w (decide (q3R w<0)))::(lD++oD)),⟨rfl,rfl,H.to rfl,⟨g,la,lc,lD,oa,oc,oD,rfl,y,i,rfl⟩⟩,by show Ent W0 _ (AH.O _ c t _ 5 3 _);dsimp only;rw[zk,zd];exact sbE⟩
theorem qk4{o:Nat}(M:h.ok c x)(U:mh.ok m.L){s:Int}(T:LkO t h x s true E)(S:x.oc[x.old.length]? =some (o:Int))(V:m.o[o]? =some w)(W:0<=s/\s+17<=18446744073709551615)(X:t<16)(Q:Own):jk W0 168 [ptr h.b,ptr mh.mb] (h.O c t x 5 3 (E++(mh.O m++Q)))
  (AtQ W0 c t h.b (if w=s then{x with old:=x.old++ [s],ph:=if x.old.length+1=x.oc.length then .tn false else .lk s false} else{x with ph:= .lk s false}) 3 (mh.O {m with o:=if w=s then m.o.set o (s+t+1) else m.o}++Q) (.tuple #[(acW 2 o w (s+t+1) (decide (w=s))).v,j4 12])):=by
 unfold AtQ;refine sH [] ?_;obtain⟨i,la,lc,lD,oa,oc,oD,O,L,N,rfl⟩:=T.h;obtain⟨G,rfl⟩:=AH.lk_eq O;have K:=(z7.1 S).1;have hlo:=M.lo;have R:x.oc≠ []:=fun h=>by rw[h] at K;exact Nat.not_lt_zero _ K
 have B:=fun(own':Own) (n2 c2:Nat) (a2:j8) (A:qy i (lkP t la x.oc.length lc a2 n2 c2 s false) own')=>q3J (W0:=W0) (own:=own') (qj A rfl) (qj A rfl)
 have q:=fun(Q:Own) (eq:qx Q lD)=>qgw (W0:=W0) (b:=i) (t:=t) (c:=lc) (c2:=oc) (a2:=oa) (l2:=x.old) (s:=s) U (L.rd (W0:=W0)) N S V W X Yb Q
 by_cases he:w=s
 ·simp only[if_pos he] at q ⊢
  by_cases J:x.old.length+1=x.oc.length
  ·simp only[if_pos J];have hd2:decide ((x.old++ [s]).length=x.oc.length)=true:=decide_eq_true (by rw[z8];exact J);have d:=fun(own':Own) (c2:Nat) (a2:j8) (A:qy i (lkP t la x.oc.length lc a2 (x.old++ [s]).length c2 s false) own')=>B own' _ c2 a2 A
   simp only[hd2] at d
   repeat'((try conv=>whnf);first|refine fE ?_|(apply qe;first|refine qd (d _ _ _ Ye) ?_|refine qr (q ((H,azP)::AH.O {G with lk:=ptr i} c t x 5 3 (lD++Q)) Ye) sbE ?_ ?_ fun y v C=>?_;exact rfl;exact rfl;obtain⟨a3,z,u⟩:=y;obtain⟨rfl,g⟩:=C;dsimp only at g|refine qk (q6j _) fun tb v C=>?_;subst C)|refine fA ?_|refine fL ?_|refine fN ?_|refine fM ?_|refine qg fun H I=>?_)
   all_goals exact⟨({G with lk:=ptr i,tn:=ptr tb},[(tb,tnP false 0 false)]++((i,lkP t la x.oc.length lc a3 (x.old++ [s]).length z s false)::(lD++u))),⟨rfl,rfl,M.to rfl,⟨_,_,⟨tb,rfl,rfl⟩,(.inr ⟨R,by rw[z8];exact J,s,⟨i,la,lc,lD,a3,z,u,rfl,L,g,rfl⟩⟩),rfl⟩⟩,by show Ent W0 _ (AH.O _ c t _ 6 3 _);simp only[zd,zk,zj];exact sbE⟩
  ·simp only[if_neg J];have hd2:decide ((x.old++ [s]).length=x.oc.length)=false:=decide_eq_false (by rw[z8];exact J);have d:=fun(own':Own) (c2:Nat) (a2:j8) (A:qy i (lkP t la x.oc.length lc a2 (x.old++ [s]).length c2 s false) own')=>B own' _ c2 a2 A
   simp only[hd2] at d
   repeat'((try conv=>whnf);first|refine fE ?_|refine fD ?_|(apply qe;first|refine qd (d _ _ _ Ye) ?_|refine qr (q ((H,azP)::AH.O {G with lk:=ptr i} c t x 5 3 (lD++Q)) Ye) sbE ?_ ?_ fun y v C=>?_;exact rfl;exact rfl;obtain⟨a3,z,u⟩:=y;obtain⟨rfl,g⟩:=C;dsimp only at g)|refine fA ?_|refine fL ?_|refine fM ?_|refine qg fun H I=>?_)
   all_goals exact⟨({G with lk:=ptr i},((i,lkP t la x.oc.length lc a3 (x.old++ [s]).length z s false)::(lD++u))),⟨rfl,rfl,M.to rfl,⟨i,la,lc,lD,a3,z,u,rfl,L,g,rfl⟩⟩,by show Ent W0 _ (AH.O _ c t _ 5 3 _);simp only[zd,zk];exact sbE⟩
 ·simp only[if_neg he] at q ⊢;have hd2:decide (x.old.length=x.oc.length)=false:=decide_eq_false Yb;have d:=fun(own':Own) (c2:Nat) (a2:j8) (A:qy i (lkP t la x.oc.length lc a2 x.old.length c2 s false) own')=>B own' _ c2 a2 A
  simp only[hd2] at d
  repeat'((try conv=>whnf);first|refine fE ?_|refine fD ?_|(apply qe;first|refine qd (d _ _ _ Ye) ?_|refine qr (q ((H,azP)::AH.O {G with lk:=ptr i} c t x 5 3 (lD++Q)) Ye) sbE ?_ ?_ fun y v C=>?_;exact rfl;exact rfl;obtain⟨a3,z,u⟩:=y;obtain⟨rfl,g⟩:=C;dsimp only at g)|refine fA ?_|refine fL ?_|refine fM ?_|refine qg fun H I=>?_)
  all_goals exact⟨({G with lk:=ptr i},((i,lkP t la x.oc.length lc a3 x.old.length z s false)::(lD++u))),⟨rfl,rfl,M.to rfl,⟨i,la,lc,lD,a3,z,u,rfl,L,g,rfl⟩⟩,by show Ent W0 _ (AH.O _ c t _ 5 3 _);simp only[zd,zk];exact sbE⟩
end
open Go
section
variable{W0:World}{own Q E:Own}{c:Cfg}{t:Nat}{h:AH}{x:AT}{k w:Int}{b e:Nat}{mh:MH}{m:MS}
theorem qkd{E1 E2:Own}(I:h.ok c x)(W:mh.ok m.L)(V:TnO h true x.tk false E1)(G:LkQ t h x E2)(Q:Own):jk W0 169 [ptr h.b,ptr mh.mb] (h.O c t x 6 3 ((E1++E2)++(mh.O m++Q)))
  (AtQ W0 c t h.b (if m.sv=x.tk then(if x.set= [] then{x with ph:= .dc} else{x with ph:= .ck x.set}) else{x with ph:= .tn true}) 3 (mh.O m++Q) (.tuple #[(acL 5 0 m.sv).v,j4 14])):=by
 unfold AtQ;refine sH [] ?_;obtain⟨tb,R,rfl⟩:=V.h;obtain⟨A,rfl⟩:=AH.tn_eq R;have u:=fun Q=>qh8 (W0:=W0) (b:=tb) (c:=x.tk) W Q
 by_cases he:m.sv=x.tk
 ·simp only[if_pos he,decide_eq_true he] at u ⊢;have C:=fun(own':Own) (z:qy tb (tnP true x.tk true) own')=>q5y (W0:=W0) (d:=true) (qj z rfl)
  have hls:=I.ls;have K:=fun(own':Own) (z:qy A.sb (stP c.reads A.sa x.set.length A.sc) own') (m3:qx own' A.sD)=>qbM (W0:=W0) (own:=own') (qj z rfl) ((I.hs.rd (W0:=W0)).up) Yb
  have M:=fun(own':Own) (X:qy A.b (atP c t {A with tn:=ptr tb} x 6) own') (z:qy A.eb (enP t 3 x.rv) own')=>qaJ (W0:=W0) (qj X rfl) (qj z rfl) (qj z rfl) I.rv Yc
  have L:=fun(own' D:Own) (sa:j8) (sc:Nat) (U:qq qw 3 1 sa sc x.set D) (m:qx own' D)=>q9m (W0:=W0) (own:=own') (c:=sc) ((U.rd (W0:=W0)).up) Yb x.rv
  have B:=fun(cb cc:Nat) (ca:j8) (own':Own) (z:qy cb (ckP ca x.set.length cc x.rv false) own')=>q5n (W0:=W0) (own:=own') (qj z rfl) (qj z rfl)
  by_cases N:x.set= []
  ·simp only[if_pos N];have S:(false||decide (x.set.length=0))=true:=by rw[N];rfl
   simp only[S] at B
   repeat'((try conv=>whnf);first|refine fE ?_|refine fD ?_|(apply qe;first|refine qd (C _ Ye) ?_|refine qd (M _ Ye Ye) ?_|refine qd (H _ Ye) ?_|refine qA (D:=mh.O m) (u _) fun _ v g=>?_;subst g|refine qk (K _ Ye Ye) fun y v g=>?_;obtain⟨a1,c1,D1⟩:=y;obtain⟨rfl,i⟩:=g;dsimp only at i|refine qk (L _ _ _ _ i Ye) fun y v g=>?_;(obtain⟨cb,a2,c2,O⟩:=y;obtain⟨rfl,q⟩:=g;dsimp only at q;have H:=B cb c2 a2))|refine fA ?_|refine fL ?_|refine fN ?_|refine fM ?_|refine qg fun T J=>?_)
   all_goals exact⟨({A with tn:=ptr tb,ck:=ptr cb},[(tb,tnP true x.tk true)]++E2),⟨rfl,rfl,I.to rfl,⟨_,E2,⟨tb,rfl,rfl⟩,by refine LkQ.of ?_ ?_ ?_ G <;>rfl,rfl⟩⟩,by show Ent W0 _ (AH.O _ c t _ 8 3 _);exact sbE⟩
  ·simp only[if_neg N];have S:(false||decide (x.set.length=0))=false:=by rw[yX];exact decide_eq_false fun e=>N (zL.1 e)
   simp only[S] at B
   repeat'((try conv=>whnf);first|refine fE ?_|refine fD ?_|(apply qe;first|refine qd (C _ Ye) ?_|refine qd (M _ Ye Ye) ?_|refine qd (H _ Ye) ?_|refine qA (D:=mh.O m) (u _) fun _ v g=>?_;subst g|refine qk (K _ Ye Ye) fun y v g=>?_;obtain⟨a1,c1,D1⟩:=y;obtain⟨rfl,i⟩:=g;dsimp only at i|refine qk (L _ _ _ _ i Ye) fun y v g=>?_;(obtain⟨cb,a2,c2,O⟩:=y;obtain⟨rfl,q⟩:=g;dsimp only at q;have H:=B cb c2 a2))|refine fA ?_|refine fL ?_|refine fN ?_|refine fM ?_|refine qg fun T J=>?_)
   all_goals exact⟨({A with tn:=ptr tb,ck:=ptr cb},(cb,ckP a2 x.set.length c2 x.rv false)::(O++([(tb,tnP true x.tk true)]++E2))),⟨rfl,rfl,I.to rfl,⟨_,E2,cb,a2,c2,O,⟨tb,rfl,rfl⟩,by refine LkQ.of ?_ ?_ ?_ G <;>rfl,rfl,⟨q.rd,q.le⟩,rfl⟩⟩,by show Ent W0 _ (AH.O _ c t _ 7 3 _);simp only[zd,zk,zj];exact sbE⟩
 ·simp only[if_neg he,decide_eq_false he] at u ⊢;have C:=fun(own':Own) (z:qy tb (tnP true x.tk false) own')=>q5y (W0:=W0) (d:=false) (qj z rfl)
  repeat'((try conv=>whnf);first|refine fD ?_|(apply qe;first|refine qd (C _ Ye) ?_|refine qA (D:=mh.O m) (u _) fun _ v g=>?_;subst g)|refine fA ?_|refine fL ?_|refine fM ?_|refine qg fun T J=>?_)
  all_goals exact⟨({A with tn:=ptr tb},[(tb,tnP true x.tk false)]++E2),⟨rfl,rfl,I.to rfl,⟨_,E2,⟨tb,rfl,rfl⟩,by refine LkQ.of ?_ ?_ ?_ G <;>rfl,rfl⟩⟩,by show Ent W0 _ (AH.O _ c t _ 6 3 _);exact sbE⟩
end
open Go
theorem AH.ck_eq{h:AH}{v u:Value}(e:h.ck=v)(d:h.tn=u):∃g:AH,h={g with ck:=v,tn:=u}:=⟨h,by cases h;cases e;cases d;rfl⟩
section
variable{W0:World}{own Q E:Own}{c:Cfg}{t:Nat}{h:AH}{x:AT}{k w:Int}{b e:Nat}{mh:MH}{m:MS}
theorem qaI{E1 E2:Own}(u:h.ok c x)(N:TnO h true x.tk true E1)(B:LkQ t h x E2)(Q:Own):jk W0 252 [ptr h.b] (h.O c t x k 3 ((E1++E2)++Q))
  (AtQ W0 c t h.b x.rest 3 Q (.tuple #[])):=by
 unfold AtQ AT.rest;refine sH [3,5,7,9,11,15,17,19,21,23,1,13,26,28,29,31,34,35,37,39,42,0,26,13,28,29,31,34,35,37,39,42,0] ?_
 rcases B with ⟨q,rfl⟩|⟨q,T,s,⟨O,la,lc,lD,oa,oc,oD,C,hB,A,rfl⟩⟩
 ·simp only[if_pos q];have U:x.oc.length=0:=by rw[q];rfl
  have hz2:(x.oc.length:Int)=0:=Yb
  repeat'((try conv=>whnf);first|refine fF ?_|refine fA ?_|refine fN ?_)
  all_goals exact⟨(h,E1),⟨rfl,rfl,u.to rfl,N⟩,by show Ent W0 _ (AH.O _ c t _ 12 3 _);exact sbE⟩
 ·simp only[if_neg q];obtain⟨z,rfl⟩:=AH.lk_eq C;have hz0:x.oc.length≠0:=fun e=>q (zL.1 e)
  have U:¬(x.oc.length:Int)=0:=Yb;have hlo:=u.lo;have I:=fun(own':Own) (V:qy O (lkP t la x.oc.length lc oa x.old.length oc s false) own') (W:qx own' oD)=>qgt (W0:=W0) (own:=own') (qj V rfl) ((A.rd (W0:=W0)).up) Yb
  have G:=fun(D:Own) (a:j8) (cc:Nat) (d:qq q06 45 1 a cc x.old D) (own':Own) (m:qx own' z.oD) (W:qx own' D)=>q86 (W0:=W0) (own:=own') (c:=z.oc) (c2:=cc) ((u.ho.rd (W0:=W0)).up) ((d.rd (W0:=W0)).up) Yb T u.ho.le d.le
  repeat'((try conv=>whnf);first|refine fG ?_|(apply qe;first|refine qk (I _ Ye Ye) fun y v J=>?_;(obtain⟨a3,S,R⟩:=y;obtain⟨rfl,d⟩:=J;dsimp only at d;have H:=G R a3 S d)|refine qk (H _ Ye Ye) fun y v J=>?_;obtain⟨K,⟨a4,M,L⟩,⟨a5,c5,D5⟩⟩:=y;obtain⟨rfl,g,i⟩:=J;dsimp only at g i)|refine fA ?_|refine fN ?_|refine q1k.mk ?_ ?_)
  all_goals exact⟨({z with lk:=ptr O,rl:=ptr K},(K,rlP a4 x.oc.length M a5 x.old.length c5)::(L++(D5++E1))),⟨rfl,rfl,u.to rfl,⟨E1,K,a4,M,L,a5,c5,D5,by refine TnO.of ?_ N;rfl,rfl,⟨g.rd,g.le⟩,⟨i.rd,i.le⟩,rfl⟩⟩,by show Ent W0 _ (AH.O _ c t _ 10 3 _);simp only[zd,zk];exact sbE⟩
theorem qmG{E1 E2:Own}{cb cc o:Nat}{ca:j8}{y:Own}{l:jd}(I:h.ok c x)(R:mh.ok m.L)(O:TnO h true x.tk true E1)(q:LkQ t h x E2)(H:h.ck=ptr cb)(N:RdE qw 1 W0 y ca ((o:Int)::l))(G:l.length+1<=cc)(S:m.o[o]? =some w)(hw:okU w)(Q:Own):
  jk W0 170 [ptr h.b,ptr mh.mb] (h.O c t x 7 3 ((cb,ckP ca (l.length+1) cc x.rv false)::(y++((E1++E2)++(mh.O m++Q)))))
  (AtQ W0 c t h.b (if q5J w>x.rv then{x with code:=9}.rest else if l= [] then{x with ph:= .dc} else{x with ph:= .ck l}) 3 (mh.O m++Q) (.tuple #[(acL 2 o w).v,j4 15])):=by
 unfold AtQ;refine sH [] ?_;obtain⟨tb,K,rfl⟩:=O.h;obtain⟨z,rfl⟩:=AH.ck_eq H K;have g:=fun(Q:Own) (eq:qx Q y)=>qdS (W0:=W0) (b:=cb) (c:=cc) (rv:=x.rv) R N S hw Q
 have u:=fun(own':Own) (f:Bool) (C:qy cb (ckP (slA ca cc 1 1) l.length (cc-1) x.rv f) own')=>qdR (W0:=W0) (own:=own') (qj C rfl)
 have i:=fun(own':Own) (C:qy cb (ckP (slA ca cc 1 1) l.length (cc-1) x.rv false) own')=>q5n (W0:=W0) (own:=own') (qj C rfl) (qj C rfl)
 by_cases d:q5J w>x.rv
 ·simp only[if_pos d,decide_eq_true d] at g ⊢;have J:=fun Q=>qaI (W0:=W0) (t:=t) (k:=7) (c:=c) (x:={x with code:=9}) (h:={z with ck:=ptr cb,tn:=ptr tb}) (E1:= [(tb,tnP true x.tk true)]) (E2:=E2) (I.to rfl) ⟨tb,rfl,rfl⟩ (by refine LkQ.of ?_ ?_ ?_ q <;>rfl) Q
  repeat'((try conv=>whnf);first|refine fE ?_|(apply qe;first|refine qd (u _ _ Ye) ?_|refine qA (D:=mh.O m) (g _ Ye) fun _ v d=>?_;subst d|refine qn (b:=z.b) (D:=AH.R {z with ck:=ptr cb,tn:=ptr tb} c t x 3 ([(tb,tnP true x.tk true)]++(E2++ []))) J (fun Q=>by simp only[zd];exact sbE) fun s v d=>?_;obtain⟨rfl,T⟩:=d)|refine fA ?_|refine fL ?_|refine fN ?_|refine fM ?_|refine qg fun M A=>?_)
  all_goals exact⟨s,⟨rfl,T⟩,sbE⟩
 ·simp only[if_neg d,decide_eq_false d] at g ⊢
  by_cases B:l= []
  ·simp only[if_pos B];have L:(false||decide (l.length=0))=true:=by rw[B];rfl
   simp only[L] at i
   repeat'((try conv=>whnf);first|refine fE ?_|refine fD ?_|(apply qe;first|refine qd (u _ _ Ye) ?_|refine qd (i _ Ye) ?_|refine qA (D:=mh.O m) (g _ Ye) fun _ v d=>?_;subst d)|refine fA ?_|refine fL ?_|refine fN ?_|refine fM ?_|refine qg fun M A=>?_)
   all_goals exact⟨({z with ck:=ptr cb,tn:=ptr tb},[(tb,tnP true x.tk true)]++E2),⟨rfl,rfl,I.to rfl,⟨_,E2,⟨tb,rfl,rfl⟩,by refine LkQ.of ?_ ?_ ?_ q <;>rfl,rfl⟩⟩,by show Ent W0 _ (AH.O _ c t _ 8 3 _);exact sbE⟩
  ·simp only[if_neg B];have L:(false||decide (l.length=0))=false:=by rw[yX];exact decide_eq_false fun e=>B (zL.1 e)
   simp only[L] at i
   repeat'((try conv=>whnf);first|refine fD ?_|(apply qe;first|refine qd (u _ _ Ye) ?_|refine qd (i _ Ye) ?_|refine qA (D:=mh.O m) (g _ Ye) fun _ v d=>?_;subst d)|refine fA ?_|refine fL ?_|refine fM ?_|refine qg fun M A=>?_)
   all_goals exact⟨({z with ck:=ptr cb,tn:=ptr tb},(cb,ckP (slA ca cc 1 1) l.length (cc-1) x.rv false)::(y++([(tb,tnP true x.tk true)]++E2))),⟨rfl,rfl,I.to rfl,⟨_,E2,cb,_,_,y,⟨tb,rfl,rfl⟩,by refine LkQ.of ?_ ?_ ?_ q <;>rfl,rfl,⟨RdE.tl N G,Yb⟩,rfl⟩⟩,by show Ent W0 _ (AH.O _ c t _ 7 3 _);simp only[zd,zk,zj];exact sbE⟩
end
open Go
theorem AH.rl_eq{h:AH}{v u:Value}(e:h.rl=v)(d:h.tn=u):∃g:AH,h={g with rl:=v,tn:=u}:=⟨h,by cases h;cases e;cases d;rfl⟩
section
variable{W0:World}{own Q E:Own}{c:Cfg}{t:Nat}{h:AH}{x:AT}{k w:Int}{b e:Nat}{mh:MH}{m:MS}
theorem q2a{d:Bool}{ck:Int}{b2 n c2:Nat}{a2:j8}(g:Cl W0 own b 38 (.bool d))(y:Cl W0 own b 37 (uv ck))(hck:0<=ck/\ck<=1099511627776)(u:Cl W0 own b 30 (j4 k))(z:Cl W0 own b 1 (ptr b2))(A:Cl W0 own b2 1 (.slice a2 n c2)):
  jl W0 64 [ptr b] own (j4 (if d=true/\k=1/\n≠0 then ck+1 else-1)):=by
 refine qi (sH [] ?_);have q:=q3K u z A;cases d with
 |false=>
  rw[if_neg Yd]
  repeat'((try conv=>whnf);first|refine fI ?_|refine fE ?_|refine q0k g ?_)
  all_goals exact⟨rfl,(eC)⟩
 |true=>
  by_cases i:k=1/\n≠0
  ·rw[decide_eq_true i] at q;rw[if_pos ⟨rfl,i⟩]
   repeat'((try conv=>whnf);first|refine fH ?_|refine fD ?_|refine q0k g ?_|refine q0k y ?_|apply qe;refine qd (q) ?_|refine fB ?_)
   all_goals exact⟨rfl,(eC)⟩
  ·rw[decide_eq_false i] at q;rw[if_neg (fun e=>i e.2)]
   repeat'((try conv=>whnf);first|refine fH ?_|refine fE ?_|refine q0k g ?_|apply qe;refine qd (q) ?_)
   all_goals exact⟨rfl,(eC)⟩
theorem q5B:(x.dn=true/\x.sto=true)↔(x.dn=true/\x.code=1/\x.ad.length≠0):=by
 unfold AT.sto;rw[decide_eq_true_iff];exact⟨fun h=>⟨h.1,h.2.1,fun e=>h.2.2 (zL.1 e)⟩,fun h=>⟨h.1,h.2.1,fun e=>h.2.2 (by rw[e];rfl)⟩⟩
theorem qmK{E1:Own}{i wc vc o:Nat}{wa va:j8}{wD vD:Own}{l l2:jd}{v:Int}(K:h.ok c x)(U:mh.ok m.L)(T:TnO h true x.tk true E1)(L:h.rl=ptr i)(S:RdE qw 1 W0 wD wa ((o:Int)::l))(y:RdE q06 1 W0 vD va (v::l2))(H:l.length+1<=wc)(I:l2.length+1<=vc)
  (V:m.o[o]? =some w) (J:0<=x.ck/\x.ck<=1099511627776) (Q:Own):jk W0 173 [ptr h.b,ptr mh.mb] (h.O c t x 10 3 ((i,rlP wa (l.length+1) wc va (l2.length+1) vc)::(wD++(vD++(E1++(mh.O m++Q))))))
  (AtQ W0 c t h.b (if l= [] then{x with ph:=if x.dn=true/\x.sto=true then .sp else .ps} else{x with ph:= .rl l l2}) 3 (mh.O {m with o:=m.o.set o v}++Q) (.tuple #[(acS 2 o w v).v,j4 18])):=by
 unfold AtQ;refine sH [] ?_;obtain⟨tb,M,rfl⟩:=T.h;obtain⟨d,rfl⟩:=AH.rl_eq L M;have u:=fun(Q:Own) (e1:qx Q wD) (e2:qx Q vD)=>qer (W0:=W0) (F:=Q) (b:=i) (c:=wc) (c2:=vc) U (S.up) (y.up) V Q
 have g:=fun(own':Own) (O:qy i (rlP (slA wa wc 1 1) l.length (wc-1) (slA va vc 1 1) l2.length (vc-1)) own')=>q8d (W0:=W0) (own:=own') (qj O rfl)
 have q:=fun(own':Own) (G:qy d.b (atP c t {d with rl:=ptr i,tn:=ptr tb} x 12) own') (O:qy d.g.b (lgP c.writes d.g.aa x.ad.length d.g.ca d.g.va x.vl.length d.g.cv d.g.ib d.g.P) own')=>q2a (W0:=W0) (qj G rfl) (qj G rfl) J (qj G rfl) (qj G rfl) (qj O rfl)
 by_cases B:l= []
 ·have N:decide (l.length=0)=true:=by rw[B];rfl
  simp only[if_pos B,N] at g ⊢
  by_cases C:x.dn=true/\x.sto=true
  ·simp only[if_pos C,if_pos (q5B.1 C)] at q ⊢;have hp:x.ck+1>=0:=Yb
   repeat'((try conv=>whnf);first|refine fE ?_|refine fF ?_|(apply qe;first|refine qd (g _ Ye) ?_|refine qd (q _ Ye Ye) ?_|refine qA (D:=mh.O m) (u _ Ye Ye) fun _ v A=>?_;subst A)|refine fA ?_|refine fL ?_|refine fN ?_|refine fM ?_|refine qg fun R z=>?_)
   all_goals exact⟨({d with rl:=ptr i,tn:=ptr tb},[(tb,tnP true x.tk true)]),⟨rfl,rfl,K.to rfl,(⟨tb,rfl,rfl⟩:TnO _ _ _ _ _)⟩,by show Ent W0 _ (AH.O _ c t _ 11 3 _);exact sbE⟩
  ·simp only[if_neg C,if_neg (fun e=>C (q5B.2 e))] at q ⊢
   repeat'((try conv=>whnf);first|refine fE ?_|refine fD ?_|(apply qe;first|refine qd (g _ Ye) ?_|refine qd (q _ Ye Ye) ?_|refine qA (D:=mh.O m) (u _ Ye Ye) fun _ v A=>?_;subst A)|refine fA ?_|refine fL ?_|refine fN ?_|refine fM ?_|refine qg fun R z=>?_)
   all_goals exact⟨({d with rl:=ptr i,tn:=ptr tb},[(tb,tnP true x.tk true)]),⟨rfl,rfl,K.to rfl,(⟨tb,rfl,rfl⟩:TnO _ _ _ _ _)⟩,by show Ent W0 _ (AH.O _ c t _ 12 3 _);exact sbE⟩
 ·have N:decide (l.length=0)=false:=decide_eq_false fun e=>B (zL.1 e)
  simp only[if_neg B,N] at g ⊢
  repeat'((try conv=>whnf);first|refine fD ?_|(apply qe;first|refine qd (g _ Ye) ?_|refine qA (D:=mh.O m) (u _ Ye Ye) fun _ v A=>?_;subst A)|refine fA ?_|refine fL ?_|refine fM ?_|refine qg fun R z=>?_)
  all_goals exact⟨({d with rl:=ptr i,tn:=ptr tb},(i,rlP (slA wa wc 1 1) l.length (wc-1) (slA va vc 1 1) l2.length (vc-1))::(wD++(vD++ [(tb,tnP true x.tk true)]))),⟨rfl,rfl,K.to rfl,⟨_,i,_,_,wD,_,_,vD,⟨tb,rfl,rfl⟩,rfl,⟨RdE.tl S H,Yb⟩,⟨RdE.tl y I,Yb⟩,rfl⟩⟩,by show Ent W0 _ (AH.O _ c t _ 10 3 _);simp only[zd,zk,zj];exact sbE⟩
end
open Go
section
variable{W0:World}{own Q E:Own}{c:Cfg}{t:Nat}{h:AH}{x:AT}{k w:Int}{b e:Nat}{mh:MH}{m:MS}
theorem q7d:x.sto=true↔(x.code=1/\x.ad.length≠0):=by
 unfold AT.sto;rw[decide_eq_true_iff];exact⟨fun h=>⟨h.1,fun e=>h.2 (zL.1 e)⟩,fun h=>⟨h.1,fun e=>h.2 (by rw[e];rfl)⟩⟩
theorem qmH{E1 E2:Own}(C:h.ok c x)(U:mh.ok m.L)(hE:TnO h true x.tk true E1)(T:LkQ t h x E2)(hcl:0<=c.clock/\c.clock<=1099511627776)(Q:Own):jk W0 171 [ptr h.b,ptr mh.mb] (h.O c t x 8 3 ((E1++E2)++(mh.O m++Q)))
  (AtQ W0 c t h.b (if x.sto=true/\m.ck>=c.clock then{x with ck:=m.ck,code:=6}.rest else if x.sto=true then{x with ck:=m.ck,dn:=true,ph:= .wr x.ad x.vl} else{x with ck:=m.ck,dn:=true}.rest) 3 (mh.O m++Q) (.tuple #[(acL 3 0 m.ck).v,j4 16])):=by
 unfold AtQ;refine sH (jo 15 3 (0::(jo 7 3 [19,21,23,25,1,18,27,30,32,33,35,38,39,41,43,46,0,27,18,30,32,33,35,38,39,41,43,46,0]))) ?_;have g:=fun(own':Own) (N:qy h.b (atP c t h {x with ck:=m.ck} 8) own') (G:qy h.g.b (lgP c.writes h.g.aa x.ad.length h.g.ca h.g.va x.vl.length h.g.cv h.g.ib h.g.P) own')=>q3K (W0:=W0) (qj N rfl) (qj N rfl) (qj G rfl)
 have q:=fun(own':Own) (N:qy h.b (atP c t h {x with ck:=m.ck,dn:=true} 8) own') (G:qy h.g.b (lgP c.writes h.g.aa x.ad.length h.g.ca h.g.va x.vl.length h.g.cv h.g.ib h.g.P) own')=>q3K (W0:=W0) (qj N rfl) (qj N rfl) (qj G rfl)
 have M:=fun(cd:Int) (dn:Bool) Q=>qaI (W0:=W0) (t:=t) (k:=8) (c:=c) (x:={x with ck:=m.ck,code:=cd,dn:=dn}) (h:=h) (E1:=E1) (E2:=E2) (C.to rfl) hE (by refine LkQ.of ?_ ?_ ?_ T <;>rfl) Q
 by_cases i:x.sto=true
 ·have hd:decide (x.code=1/\x.ad.length≠0)=true:=decide_eq_true (q7d.1 i);simp only[hd] at g q
  by_cases O:m.ck>=c.clock
  ·simp only[if_pos (And.intro i O)];have W:(acL (((2:Nat):Int)+1) ((0:Nat):Int) m.ck).got>=c.clock:=O
   repeat'((try conv=>whnf);first|refine fH ?_|refine fF ?_|(apply qe;first|refine q0x 2 0 U Yc rfl ?_ ?_ ?_;exact rfl;exact rfl|refine qn (b:=h.b) (D:=AH.R h c t x 3 (E1++(E2++ []))) (M 6 x.dn) (fun Q=>by simp only[zd];exact sbE) fun s v u=>?_;obtain⟨rfl,i⟩:=u)|apply qz;refine qm (fun ex=>g _ Ye Ye) ?_|refine fC ?_|refine fO ?_|refine fA ?_|refine fL ?_|refine fN ?_|refine fM ?_|refine qg fun bk I=>?_)
   all_goals exact⟨s,⟨rfl,i⟩,sbE⟩
  ·simp only[if_neg (fun e:x.sto=true/\m.ck>=c.clock=>O e.2),if_pos i];have W:¬(acL (((2:Nat):Int)+1) ((0:Nat):Int) m.ck).got>=c.clock:=O;have J:x.ad.length<=1000000:=by
    have h1:=C.hg.hm;have h2:=C.wr;omega
   have X:=C.hg.hl;have S:=fun(own':Own) (G:qy h.g.b (lgP c.writes h.g.aa x.ad.length h.g.ca h.g.va x.vl.length h.g.cv h.g.ib h.g.P) own') (m3:qx own' h.g.aD)=>q49 (W0:=W0) (own:=own') (qj G rfl) ((C.hg.hA.rd (W0:=W0)).up) J
   have V:=fun(own':Own) (G:qy h.g.b (lgP c.writes h.g.aa x.ad.length h.g.ca h.g.va x.vl.length h.g.cv h.g.ib h.g.P) own') (m3:qx own' h.g.vD)=>qed (W0:=W0) (own:=own') (qj G rfl) ((C.hg.hV.rd (W0:=W0)).up) Yb
   have K:=fun(a a2:j8) (cc H:Nat) (D R:Own) (hB:qq qw 3 1 a cc x.ad D) (d:qq q06 45 1 a2 H x.vl R) (own':Own) (m:qx own' D) (m3:qx own' R)=>q9p (W0:=W0) (own:=own') (c:=cc) (c2:=H) ((hB.rd (W0:=W0)).up) ((d.rd (W0:=W0)).up) J X hB.le d.le
   repeat'((try conv=>whnf);first|refine fH ?_|refine fE ?_|refine fG ?_|(apply qe;first|refine qd (q _ Ye Ye) ?_|refine q0x 2 0 U Yc rfl ?_ ?_ ?_;exact rfl;exact rfl|refine qk (S _ Ye Ye) fun y v u=>?_;(obtain⟨a1,c1,D1⟩:=y;obtain⟨rfl,z⟩:=u;dsimp only at z;try have L:=K _ _ _ _ _ _ z d)|refine qk (V _ Ye Ye) fun y v u=>?_;(obtain⟨a2,c2,R⟩:=y;obtain⟨rfl,d⟩:=u;dsimp only at d;try have L:=K _ _ _ _ _ _ z d)|refine qk (L _ Ye Ye) fun y v u=>?_;obtain⟨Y,⟨a4,c4,Z⟩,⟨a5,c5,D5⟩⟩:=y;obtain⟨rfl,A,B⟩:=u;dsimp only at A B)|apply qz;refine qm (fun ex=>g _ Ye Ye) ?_|refine fC ?_|refine fO ?_|refine fA ?_|refine fL ?_|refine fN ?_|refine fM ?_|refine qg fun bk I=>?_|refine q1k.mk ?_ ?_)
   all_goals exact⟨({h with wr:=ptr Y},(Y,wrP a4 x.ad.length c4 a5 x.vl.length c5)::(Z++(D5++E1))),⟨rfl,rfl,C.to rfl,⟨E1,Y,a4,c4,Z,a5,c5,D5,by refine TnO.of ?_ hE;rfl,rfl,⟨A.rd,A.le⟩,⟨B.rd,B.le⟩,rfl⟩⟩,by show Ent W0 _ (AH.O _ c t _ 9 3 _);simp only[zd,zk];exact sbE⟩
 ·simp only[if_neg (fun e:x.sto=true/\m.ck>=c.clock=>i e.1),if_neg i];have hd:decide (x.code=1/\x.ad.length≠0)=false:=decide_eq_false fun e=>i (q7d.2 e)
  simp only[hd] at g q
  repeat'((try conv=>whnf);first|refine fI ?_|refine fD ?_|(apply qe;first|refine qd (q _ Ye Ye) ?_|refine q0x 2 0 U Yc rfl ?_ ?_ ?_;exact rfl;exact rfl|refine qn (b:=h.b) (D:=AH.R h c t x 3 (E1++(E2++ []))) (M x.code true) (fun Q=>by simp only[zd];exact sbE) fun s v u=>?_;obtain⟨rfl,i⟩:=u)|apply qz;refine qm (fun ex=>g _ Ye Ye) ?_|refine fO ?_|refine fA ?_|refine fL ?_|refine fN ?_|refine fM ?_|refine qg fun bk I=>?_)
  all_goals exact⟨s,⟨rfl,i⟩,sbE⟩
end
open Go
theorem AH.wr_eq{h:AH}{v u:Value}(e:h.wr=v)(d:h.tn=u):∃g:AH,h={g with wr:=v,tn:=u}:=⟨h,by cases h;cases e;cases d;rfl⟩
section
variable{W0:World}{own Q E:Own}{c:Cfg}{t:Nat}{h:AH}{x:AT}{k w:Int}{b e:Nat}{mh:MH}{m:MS}
theorem qke{E1:Own}{g wc vc o:Nat}{wa va:j8}{wD vD:Own}{l l2:jd}{v:Int}(J:h.ok c x)(I:mh.ok m.L)(H:TnO h true x.tk true E1)(B:h.wr=ptr g)(C:RdE qw 1 W0 wD wa ((o:Int)::l))(i:RdE q06 1 W0 vD va (v::l2))(u:l.length+1<=wc)(y:l2.length+1<=vc)
  (K:m.d[o]? =some w) (L:l≠ []) (Q:Own):jk W0 172 [ptr h.b,ptr mh.mb] (h.O c t x 9 3 ((g,wrP wa (l.length+1) wc va (l2.length+1) vc)::(wD++(vD++(E1++(mh.O m++Q))))))
  (AtQ W0 c t h.b {x with ph:= .wr l l2} 3 (mh.O {m with d:=m.d.set o v}++Q) (.tuple #[(acS 1 o w v).v,j4 17])):=by
 unfold AtQ;refine sH [] ?_;obtain⟨tb,A,rfl⟩:=H.h;obtain⟨G,rfl⟩:=AH.wr_eq B A;have z:=fun(Q:Own) (e1:qx Q wD) (e2:qx Q vD)=>q8j (W0:=W0) (F:=Q) (b:=g) (c:=wc) (c2:=vc) I (C.up) (i.up) K Q
 have q:=fun(own':Own) (O:qy g (wrP (slA wa wc 1 1) l.length (wc-1) (slA va vc 1 1) l2.length (vc-1)) own')=>q5A (W0:=W0) (own:=own') (qj O rfl)
 have N:decide (l.length=0)=false:=decide_eq_false fun e=>L (zL.1 e)
 simp only[N] at q
 repeat'((try conv=>whnf);first|refine fD ?_|(apply qe;first|refine qd (q _ Ye) ?_|refine qA (D:=mh.O m) (z _ Ye Ye) fun _ v M=>?_;subst M)|refine fA ?_|refine fL ?_|refine fM ?_|refine qg fun bk hbk=>?_)
 all_goals exact⟨({G with wr:=ptr g,tn:=ptr tb},(g,wrP (slA wa wc 1 1) l.length (wc-1) (slA va vc 1 1) l2.length (vc-1))::(wD++(vD++ [(tb,tnP true x.tk true)]))),⟨rfl,rfl,J.to rfl,⟨_,g,_,_,wD,_,_,vD,⟨tb,rfl,rfl⟩,rfl,⟨RdE.tl C u,Yb⟩,⟨RdE.tl i y,Yb⟩,rfl⟩⟩,by show Ent W0 _ (AH.O _ c t _ 9 3 _);simp only[zd,zk,zj];exact sbE⟩
end
open Go
theorem AH.pp_eq{h:AH}{v:Value}(e:h.pp=v):∃d:AH,h={d with pp:=v}:=⟨h,by cases h;cases e;rfl⟩
theorem qjL{n:Int}{N:Nat}{K:Int->Prop}(h0:0<=n/\n<4)(g:N=2 ^ n.toNat)(h:K N):Shl .i64 1 n K:=by
 subst g;have d:n=0\/n=1\/n=2\/n=3:=Yb
 rcases d with rfl|rfl|rfl|rfl <;>exact qjK Yc Yc h
theorem qdz{cap:Int}{n i:Nat}{a:Int}{l:jd×jd}(h:i<n):q1J cap (n-i) (a+i) l=match q2Q cap l.1 l.2 (a+i) 0 with
  |some l'=>q1J cap (n-(i+1)) (a+(i+1:Nat)) l'
  |none=>(l,false):=by
 rw[show n-i=(n-(i+1))+1 by omega,q1J,show a+(i:Int)+1=a+(i+1:Nat) by omega];cases q2Q cap l.1 l.2 (a+i) 0 <;>rfl
section
variable{W0:World}{own Q:Own}{c:Cfg}{t:Nat}{h:AH}{x:AT}{k:Int}{b e:Nat}
theorem q7V{qb:Nat}{n hd nx:Int}(q:h.ok c x)(Z:h.pp=ptr qb)(hcw:0<=c.words/\c.words<=64)(k:Int)(hk:0<=k/\k<4)(b:Int)(hb:b= -1\/(0<=b/\b<qh c))(hal:(x.al.length:Int)<c.allocs)(Q:Own):jk W0 276 [ptr h.b,j4 k] (h.O c t x 0 3 ((qb,ppP k n hd nx b)::Q)) (AtQ W0 c t h.b (({x with ph:= .idle}:AT).allo c k b) 3 Q (.tuple #[])):=by
 refine sH [] ?_;have B:=fun(own':Own) (m1:qy qb (ppP k n hd nx b) own')=>qbG (W0:=W0) (own:=own') (b:=qb) (n:=b) (qj m1 rfl)
 obtain⟨G,rfl⟩:=AH.pp_eq Z;unfold AT.allo;have hax:=q.ax;have hll:=q.ll;have hbl:=qP c
 by_cases J:b<0
 ·rw[if_pos J];have he:=fun Q=>q2x (W0:=W0) (t:=t) (e:=3) (k:=0) q 4 Q
  unfold AtQ at he ⊢
  repeat'((try conv=>whnf);first|refine fF ?_|(apply qe;first|refine qd (B _ Ye) ?_|refine qr (he ((qb,ppP k n hd nx b)::Q)) sbE ?_ ?_ fun s v C=>?_;exact rfl;exact rfl;obtain⟨rfl,M⟩:=C)|refine fA ?_)
  all_goals exact⟨s,⟨rfl,M⟩,sbE⟩
 ·rw[if_neg J];have hq:=q.hl;have X:∀(a5:j8) (c5:Nat) (D5:Own),qq qw 3 1 a5 c5 (x.al++ [b]) D5->AH.ok {G with pp:=ptr qb,la:=a5,lc:=c5,lD:=D5} c {x with al:=x.al++ [b]}:=fun a5 c5 D5 u=>
   ⟨q.hs,q.hn,q.ho,q.hg,q.ls,q.ln,q.lo,q.rv,q.wr,u,q.hf,by dsimp only;rw[z8,zA];omega,q.lf,by dsimp only;rw[z8];have:=q.pl;omega,fun y O=>by
    rcases zw.1 O with O|O
    ·exact q.lb y O
    ·rw[zf.1 O];omega,q.ax⟩
  have A:=fun(a5:j8) (c5:Nat) (D5:Own) (u:qq qw 3 1 a5 c5 (x.al++ [b]) D5) Q=>q75 (W0:=W0) (t:=t) (e:=3) (X a5 c5 D5 u) (c.words+b) (k+1) Yb ((qb,ppP k n hd nx b)::Q)
  dsimp only at A ⊢;generalize q2Q c.writes x.ad x.vl (c.words+b) (k+1)=z at*;cases z with
  |none=>
   unfold AtQ at A ⊢;dsimp only[Option.isSome_none] at A ⊢
   repeat'((try conv=>whnf);first|refine fE ?_|refine fG ?_|refine qg fun bk B=>?_|apply q0f (enc:=qw) (T:=3) b hq;exact rfl;exact rfl;omega;exact rfl;exact rfl;omega;intro a5 c5 D5 u;(have I:=A a5 c5 D5 u)|(apply qe;first|refine qd (B _ Ye) ?_|refine q38 (b:=G.b) (D:=AH.R {G with pp:=ptr qb,la:=a5,lc:=c5,lD:=D5} c t {x with al:=x.al++ [b]} 3 [(qb,ppP k n hd nx b)]) I (fun Q=>sbE) ?_ ?_ ?_ fun s v C=>?_;(solve|exact rfl|(unfold atP;simp only[z8];rfl));exact rfl;exact rfl;obtain⟨rfl,M⟩:=C)|refine fB ?_|refine fC ?_|refine fA ?_|refine fN ?_)
   all_goals exact⟨s,⟨rfl,M⟩,sbE⟩
  |some l=>
   obtain⟨N,V⟩:∃N:Nat,N=2 ^ k.toNat:=⟨_,rfl⟩
   have hN8:N<=8:=by
    subst V;have h4:k=0\/k=1\/k=2\/k=3:=Yb
    rcases h4 with rfl|rfl|rfl|rfl <;>decide
   have hfb:=q6K (c:=c) (b:=b) Yb Yb;have W:=fun own=>q4K W0 own c b Yb
   generalize qs c b=fb at*;rw[<-V];unfold AtQ at A ⊢;dsimp only[Option.isSome_some] at A ⊢
   repeat'((try conv=>whnf);first|refine fD ?_|refine fG ?_|refine qg fun bk B=>?_|apply q0f (enc:=qw) (T:=3) b hq;exact rfl;exact rfl;omega;exact rfl;exact rfl;omega;intro a5 c5 D5 u;(have I:=A a5 c5 D5 u)|refine qjL hk V ?_|(apply qe;first|refine qd (B _ Ye) ?_|refine q38 (b:=G.b) (D:=AH.R {G with pp:=ptr qb,la:=a5,lc:=c5,lD:=D5} c t {x with al:=x.al++ [b]} 3 [(qb,ppP k n hd nx b)]) I (fun Q=>sbE) ?_ ?_ ?_ fun s v C=>?_;(solve|exact rfl|(unfold atP;simp only[z8];rfl));exact rfl;exact rfl;obtain⟨ah1,E1⟩:=s;obtain⟨rfl,ae,af,hyp⟩:=C;obtain⟨R,rfl⟩:=AH.b_eq ae;obtain rfl:E1= []:=hyp|refine qd (W _) ?_)|refine fB ?_|refine fC ?_|refine fA ?_|refine fQ ?_|refine fN ?_)
   refine qQ (σ:=Nat×AH×jd×jd) (fun s=> [(50,j4 s.1)]) (fun s=>AH.O s.2.1 c t {x with al:=x.al++ [b],ad:=s.2.2.1,vl:=s.2.2.2,ph:= .idle} 0 3 ((qb,ppP k n hd nx b)::Q)) (fun s=>s.1<=N/\s.2.1.b=G.b/\s.2.1.ok c {x with al:=x.al++ [b],ad:=s.2.2.1,vl:=s.2.2.2,ph:= .idle}/\q1J c.writes N fb l=q1J c.writes (N-s.1) (fb+s.1) s.2.2) (fun s=>N-s.1) (0,{R with b:=G.b},l.1,l.2) ⟨zl _,rfl,af,Yd⟩ (eF) sbE rfl ?_;rintro⟨i,ahi,ad,vl⟩ junk ⟨hi,Y,H,g⟩;obtain⟨U,rfl⟩:=AH.b_eq Y;dsimp only at hi H g ⊢
   by_cases K:i<N
   ·have L:(i:Int)<N:=Yb;have d:=q75 (W0:=W0) (t:=t) (e:=3) H (fb+i) 0 Yb ((qb,ppP k n hd nx b)::Q);rw[qdz K] at g;dsimp only at d g;generalize q2Q c.writes ad vl (fb+i) 0=z2 at*;unfold AtQ at d;cases z2 with
    |none=>
     dsimp only[Option.isSome_none] at d g;rw[g];dsimp only;rw[if_neg Yc]
     repeat'((try conv=>whnf);first|refine fE ?_|refine fF ?_|(apply qe;first|refine qr d sbE ?_ ?_ fun s v C=>?_;exact rfl;exact rfl;obtain⟨rfl,M⟩:=C)|refine fB ?_)
     all_goals exact⟨s,⟨rfl,M⟩,sbE⟩
    |some l2=>
     dsimp only[Option.isSome_some] at d g
     repeat'((try conv=>whnf);first|refine fD ?_|refine fF ?_|(apply qe;first|refine qr d sbE ?_ ?_ fun s v C=>?_;exact rfl;exact rfl;obtain⟨S,E3⟩:=s;obtain⟨rfl,aj,aq,au⟩:=C;obtain rfl:E3= []:=au)|refine fB ?_)
     exact⟨(i+1,S,l2.1,l2.2),⟨K,aj,aq,g⟩,by simp only;omega,(eF),sbE⟩
   ·obtain rfl:i=N:=Yb;have L:¬(i:Int)<i:=Yb;rw[ZC,q1J] at g;rw[g];dsimp only;rw[if_pos rfl]
    repeat'((try conv=>whnf);first|refine fG ?_|refine fC ?_|refine fN ?_)
    all_goals exact⟨({U with b:=G.b},[]),⟨rfl,rfl,H.to rfl,rfl⟩,sbE⟩
theorem q6f{qb ab cb:Nat}{n hd nx:Int}(q:h.ok c x)(i:h.pp=ptr qb)(g:0<=c.words/\c.words<=64)(k:Int)(u:0<=k/\k<4)(b:Int)(hb:b= -1\/(0<=b/\b<qh c))(d:(x.al.length:Int)<c.allocs)(Q:Own):jk W0 275 [ptr ab,ptr cb] (h.O c t x 0 3 ([(qb,ppP k n hd nx b),(ab,abP h.b),(cb,q2P (j4 k) 3)]++Q)) (AtQ W0 c t h.b (({x with ph:= .idle}:AT).allo c k b) 3 Q (.tuple #[])):=by
 refine sH [] ?_;have he:=q7V (W0:=W0) (t:=t) (n:=n) (hd:=hd) (nx:=nx) q i g k u b hb d Q;unfold AtQ at he ⊢
 repeat'((try conv=>whnf);first|(apply qe;first|refine qr he sbE ?_ ?_ fun s v z=>?_;exact rfl;exact rfl;obtain⟨rfl,y⟩:=z)|refine fA ?_)
 all_goals exact⟨s,⟨rfl,y⟩,Ent.refl⟩
end
open Go
theorem AH.pt_eq{h:AH}{v u:Value}(e:h.pp=v)(d:h.th=u):∃g:AH,h={g with pp:=v,th:=u}:=⟨h,by cases h;cases e;cases d;rfl⟩
theorem AH.pu_eq{h:AH}{v:Value}(e:h.pu=v):∃d:AH,h={d with pu:=v}:=⟨h,by cases h;cases e;rfl⟩
section
variable{W0:World}{own Q E:Own}{c:Cfg}{t:Nat}{h:AH}{x:AT}{w hd nx:Int}{qb ab cb pb j k:Nat}{mh:MH}{m:MS}
abbrev ppO(h:AH)(qb ab cb:Nat)(k n hd nx:Int):Own:= [(qb,ppP k n hd nx (-1)),(ab,abP h.b),(cb,q2P (j4 k) 3)]
theorem qk6(H:h.ok c x)(K:mh.ok m.L)(B:h.pp=ptr qb)(C:h.th=fnv 275 [ptr ab,ptr cb])(A:0<=c.words/\c.words<=64)(hk:k<4)(u:(x.al.length:Int)<c.allocs)(L:m.hd[k]? =some w)(hw:okU w)(Q:Own):
  jk W0 167 [ptr h.b,ptr mh.mb] (h.O c t x 4 3 (ppO h qb ab cb k 0 hd nx++(mh.O m++Q)))
  (AtQ W0 c t h.b (if q02 w<0 then({x with ph:= .idle}:AT).allo c k (-1) else{x with ph:= .pp 1 k w nx}) 3 (mh.O m++Q) (.tuple #[(acL 7 k w).v,j4 8])):=by
 refine sH [3,5,7,10,11,0] ?_;obtain⟨q,rfl⟩:=AH.pt_eq B C;have g:=fun Q=>qk0 (W0:=W0) (b:=qb) (hd:=hd) (nx:=nx) (bl:= -1) K L hw Q
 have i:=fun own=>q78 (W0:=W0) (own:=own) (acL 7 k w)
 rw[show(if(acL 7 (k:Int) w).c=8 then(9:Int) else if(acL 7 (k:Int) w).k=3 then 10 else 8)=8 from rfl] at i
 by_cases I:q02 w<0
 ·simp only[if_pos I] at g ⊢;have d:=fun(own':Own) (G:qy qb (ppP k 3 w nx (-1)) own')=>q2v (W0:=W0) (n:=3) (qj G rfl)
  have he:=fun Q=>q6f (W0:=W0) (t:=t) (ab:=ab) (cb:=cb) (n:=3) (hd:=w) (nx:=nx) H rfl A k Yb (-1) (.inl rfl) u Q
  unfold AtQ at he ⊢
  repeat'((try conv=>whnf);first|refine fE ?_|refine q3S.mk ⟨qmi,?_⟩|(apply qe;first|refine qd (d _ Ye) ?_|refine qA (D:=mh.O m) (g _) fun _ v y=>?_;subst y|refine qn (b:=q.b) (D:=AH.R {q with pp:=ptr qb,th:=fnv 275 [ptr ab,ptr cb]} c t x 3 [(qb,ppP k 3 w nx (-1)),(ab,abP q.b),(cb,q2P (j4 k) 3)]) he (fun Q=>sbE) fun s v y=>?_;obtain⟨rfl,M⟩:=y)|apply qz;refine qT (fun _=>i _) ?_|refine fA ?_|refine fL ?_|refine fN ?_|refine fM ?_|refine qg fun J z=>?_)
  all_goals exact⟨s,⟨rfl,M⟩,sbE⟩
 ·simp only[if_neg I] at g ⊢;have d:=fun(own':Own) (G:qy qb (ppP k 1 w nx (-1)) own')=>q2v (W0:=W0) (n:=1) (qj G rfl)
  simp only[show decide ((1:Int)=3)=false from rfl] at d;unfold AtQ
  repeat'((try conv=>whnf);first|refine fD ?_|(apply qe;first|refine qd (d _ Ye) ?_|refine qA (D:=mh.O m) (g _) fun _ v y=>?_;subst y)|apply qz;refine qT (fun _=>i _) ?_|refine fA ?_|refine fL ?_|refine fM ?_|refine qg fun J z=>?_)
  all_goals exact⟨({q with pp:=ptr qb,th:=fnv 275 [ptr ab,ptr cb]},ppO q qb ab cb k 1 w nx),⟨rfl,rfl,H.to rfl,⟨⟨u,Yb,Yb⟩,qb,ab,cb,rfl,rfl,rfl⟩⟩,sbE⟩
theorem qk7(C:h.ok c x)(B:mh.ok m.L)(u:h.pp=ptr qb)(z:h.th=fnv 275 [ptr ab,ptr cb])(hk:k<4)(i:(x.al.length:Int)<c.allocs)(q:okU hd)(H:q02 hd=(j:Int))(G:m.nx[j]? =some w)(Q:Own):
  jk W0 167 [ptr h.b,ptr mh.mb] (h.O c t x 4 3 (ppO h qb ab cb k 1 hd nx++(mh.O m++Q)))
  (AtQ W0 c t h.b {x with ph:= .pp 2 k hd w} 3 (mh.O m++Q) (.tuple #[(acL 8 j w).v,j4 9])):=by
 refine sH [3,5,7,10,11,0] ?_;obtain⟨A,rfl⟩:=AH.pt_eq u z;have y:=fun Q=>qk1 (W0:=W0) (b:=qb) (kc:=k) (nx:=nx) (bl:= -1) B q H G Q
 have g:=fun own=>q78 (W0:=W0) (own:=own) (acL 8 j w)
 rw[show(if(acL 8 (j:Int) w).c=8 then(9:Int) else if(acL 8 (j:Int) w).k=3 then 10 else 8)=9 from rfl] at g;have d:=fun(own':Own) (J:qy qb (ppP k 2 hd w (-1)) own')=>q2v (W0:=W0) (n:=2) (qj J rfl)
 simp only[show decide ((2:Int)=3)=false from rfl] at d;unfold AtQ
 repeat'((try conv=>whnf);first|refine fD ?_|(apply qe;first|refine qd (d _ Ye) ?_|refine qA (D:=mh.O m) (y _) fun _ v I=>?_;subst I)|apply qz;refine qT (fun _=>g _) ?_|refine fA ?_|refine fL ?_|refine fM ?_|refine qg fun bk hbk=>?_)
 all_goals exact⟨({A with pp:=ptr qb,th:=fnv 275 [ptr ab,ptr cb]},ppO A qb ab cb k 2 hd w),⟨rfl,rfl,C.to rfl,⟨⟨i,Yb,Yb⟩,qb,ab,cb,rfl,rfl,rfl⟩⟩,sbE⟩
theorem qk8(I:h.ok c x)(K:mh.ok m.L)(C:h.pp=ptr qb)(G:h.th=fnv 275 [ptr ab,ptr cb])(A:0<=c.words/\c.words<=64)(hk:k<4)(u:(x.al.length:Int)<c.allocs)(B:okU hd)(M:0<=nx/\nx<=64)(O:0<=q02 hd/\q02 hd<qh c)(L:m.hd[k]? =some w)(Q:Own):
  jk W0 167 [ptr h.b,ptr mh.mb] (h.O c t x 4 3 (ppO h qb ab cb k 2 hd nx++(mh.O m++Q)))
  (AtQ W0 c t h.b (if w=hd then({x with ph:= .idle}:AT).allo c k (q02 hd) else{x with ph:= .pp 0 k hd nx}) 3 (mh.O {m with hd:=if w=hd then m.hd.set k (q05 hd (nx-1)) else m.hd}++Q) (.tuple #[(acW 7 k w (q05 hd (nx-1)) (decide (w=hd))).v,j4 10])):=by
 refine sH [3,5,7,10,11,0] ?_;obtain⟨q,rfl⟩:=AH.pt_eq C G;have i:=fun Q=>qk2 (W0:=W0) (b:=qb) (bl:= -1) K B M L Q
 have d:=fun own=>q78 (W0:=W0) (own:=own) (acW 7 k w (q05 hd (nx-1)) (decide (w=hd)))
 rw[show(if(acW 7 (k:Int) w (q05 hd (nx-1)) (decide (w=hd))).c=8 then(9:Int) else if(acW 7 (k:Int) w (q05 hd (nx-1)) (decide (w=hd))).k=3 then 10 else 8)=10 from rfl] at d
 by_cases he:w=hd
 ·simp only[if_pos he,decide_eq_true he] at i d ⊢;have g:=fun(own':Own) (H:qy qb (ppP k 3 hd nx (q02 hd)) own')=>q2v (W0:=W0) (n:=3) (qj H rfl)
  have he:=fun Q=>q6f (W0:=W0) (t:=t) (ab:=ab) (cb:=cb) (n:=3) (hd:=hd) (nx:=nx) I rfl A k Yb (q02 hd) (.inr O) u Q
  unfold AtQ at he ⊢
  repeat'((try conv=>whnf);first|refine fE ?_|refine q3S.mk ⟨qmi,?_⟩|(apply qe;first|refine qd (g _ Ye) ?_|refine qA (D:=mh.O m) (i _) fun _ v y=>?_;subst y|refine qn (b:=q.b) (D:=AH.R {q with pp:=ptr qb,th:=fnv 275 [ptr ab,ptr cb]} c t x 3 [(qb,ppP k 3 hd nx (q02 hd)),(ab,abP q.b),(cb,q2P (j4 k) 3)]) he (fun Q=>sbE) fun s v y=>?_;obtain⟨rfl,N⟩:=y)|apply qz;refine qT (fun _=>d _) ?_|refine fA ?_|refine fL ?_|refine fN ?_|refine fM ?_|refine qg fun J z=>?_)
  all_goals exact⟨s,⟨rfl,N⟩,sbE⟩
 ·simp only[if_neg he,decide_eq_false he] at i d ⊢;have g:=fun(own':Own) (H:qy qb (ppP k 0 hd nx (-1)) own')=>q2v (W0:=W0) (n:=0) (qj H rfl)
  simp only[show decide ((0:Int)=3)=false from rfl] at g;unfold AtQ
  repeat'((try conv=>whnf);first|refine fD ?_|(apply qe;first|refine qd (g _ Ye) ?_|refine qA (D:=mh.O m) (i _) fun _ v y=>?_;subst y)|apply qz;refine qT (fun _=>d _) ?_|refine fA ?_|refine fL ?_|refine fM ?_|refine qg fun J z=>?_)
  all_goals exact⟨({q with pp:=ptr qb,th:=fnv 275 [ptr ab,ptr cb]},ppO q qb ab cb k 0 hd nx),⟨rfl,rfl,I.to rfl,⟨⟨u,Yb,Yb⟩,qb,ab,cb,rfl,rfl,rfl⟩⟩,sbE⟩
theorem qeu{bl hd2:Int}{n n2:Nat}{m':MS}{ac:AcM}{ph:Int}(d:h.ok c x)(G:h.pu=ptr pb)(C:x.pu<x.al.length)(q:∀Q,jk W0 163 [ptr pb,ptr mh.mb] ((pb,puP (ql c bl) bl n hd)::(mh.O m++Q)) fun v own'=>∃_:Unit,v=ac.v/\Ent W0 own' ((pb,puP (ql c bl) bl n2 hd2)::(mh.O m'++Q)))
  (A:(if ac.c=8 then(22:Int) else if ac.k=3 then 23 else 21)=ph) (Q:Own):jk W0 178 [ptr h.b,ptr mh.mb] (h.O c t x 13 3 ([(pb,puP (ql c bl) bl n hd)]++(mh.O m++Q)))
  (AtQ W0 c t h.b (if n2=3 then({x with pu:=x.pu+1}:AT).fin else{x with ph:= .ph n2 bl hd2}) 3 (mh.O m'++Q) (.tuple #[ac.v,j4 ph])):=by
 refine sH [3,5,7,10,11,0] ?_;obtain⟨y,rfl⟩:=AH.pu_eq G;have hll:=d.ll;have i:=fun own=>q88 (W0:=W0) (own:=own) ac
 rw[A] at i;have g:=fun(own':Own) (J:qy pb (puP (ql c bl) bl n2 hd2) own')=>q8a (W0:=W0) (n:=n2) (qj J rfl)
 rw[show decide ((n2:Int)=3)=decide (n2=3) from decide_eq_decide.2 Yb] at g
 by_cases z:n2=3
 ·simp only[if_pos z,decide_eq_true z] at g ⊢;have he:=fun Q=>q5r (W0:=W0) (h:={y with pu:=ptr pb}) (c:=c) (x:={x with pu:=x.pu+1}) (t:=t) (k:=13) (e:=3) ⟨d.hs,d.hn,d.ho,d.hg,d.ls,d.ln,d.lo,d.rv,d.wr,d.hl,d.hf,d.ll,d.lf,C,d.lb,d.ax⟩ Q
  unfold AtQ at he ⊢
  repeat'((try conv=>whnf);first|refine fE ?_|(apply qe;first|refine qd (g _ Ye) ?_|refine qA (D:=mh.O m) (q _) fun _ v u=>?_;subst u|refine qn (b:=y.b) (D:=AH.R {y with pu:=ptr pb} c t x 3 []) he (fun Q=>sbE) fun s v u=>?_;obtain⟨rfl,I⟩:=u)|apply qz;refine qT (fun _=>i _) ?_|refine fB ?_|refine fA ?_|refine fL ?_|refine fN ?_|refine fM ?_|refine qg fun H B=>?_)
  all_goals exact⟨s,⟨rfl,I⟩,sbE⟩
 ·simp only[if_neg z,decide_eq_false z] at g ⊢;unfold AtQ
  repeat'((try conv=>whnf);first|refine fD ?_|(apply qe;first|refine qd (g _ Ye) ?_|refine qA (D:=mh.O m) (q _) fun _ v u=>?_;subst u)|apply qz;refine qT (fun _=>i _) ?_|refine fA ?_|refine fL ?_|refine fM ?_|refine qg fun H B=>?_)
  all_goals exact⟨({y with pu:=ptr pb},[(pb,puP (ql c bl) bl n2 hd2)]),⟨rfl,rfl,d.to rfl,⟨pb,rfl,rfl⟩⟩,sbE⟩
end
open Go
section
variable{W0:World}{c:Cfg}{t:Nat}{h:AH}{x x':AT}{e e':Nat}{mh:MH}{m m':MS}{r:AcM}{ph k:Int}{E:Own}{f:FuncId}
theorem q1V(i:(k=2/\f=165)\/(k=3/\f=166)\/(k=4/\f=167)\/(k=5/\f=168)\/(k=6/\f=169)\/(k=7/\f=170)\/(k=8/\f=171)\/(k=9/\f=172)\/(k=10/\f=173)\/(k=13/\f=178))
  (g:∀Q,jk W0 f [ptr h.b,ptr mh.mb] (h.O c t x k e (E++(mh.O m++Q))) (AtQ W0 c t h.b x' e' (mh.O m'++Q) (.tuple #[r.v,j4 ph]))) (Q:Own):jk W0 117 [ptr h.b,ptr mh.mb] (h.O c t x k e (E++(mh.O m++Q))) (AtQ W0 c t h.b x' e' (mh.O m'++Q) (.tuple #[r.v,j4 ph])):=by
 unfold AtQ at*;refine sH [] ?_
 rcases i with ⟨rfl,rfl⟩|⟨rfl,rfl⟩|⟨rfl,rfl⟩|⟨rfl,rfl⟩|⟨rfl,rfl⟩|⟨rfl,rfl⟩|⟨rfl,rfl⟩|⟨rfl,rfl⟩|⟨rfl,rfl⟩|⟨rfl,rfl⟩
 all_goals
  repeat'((try conv=>whnf);first|refine fE ?_|refine fD ?_|(apply qe;first|refine qr (g ((d,azP)::Q)) sbE ?_ ?_ fun s v u=>?_;exact rfl;exact rfl;obtain⟨rfl,q⟩:=u)|refine fO ?_|refine fA ?_|refine fL ?_|refine fM ?_|refine qg fun d hbk=>?_)
  all_goals exact⟨s,⟨rfl,q⟩,sbE⟩
end
open Go
theorem qjA(n i:Nat)(v:Int)(hi:i<n):(List.replicate i v++List.replicate (n-i) 0).set i v=List.replicate (i+1) v++List.replicate (n-(i+1)) 0:=by
 rw[ZG _ _ Yd,zD,ZC,show n-i=(n-(i+1))+1 by omega,yh,yL,yY,zd];rfl
abbrev axP(a:AcM):Obj->Prop:=fun z=>z=Obj.cells #[j4 a.k,j4 a.c,j4 a.i,j5 a.got,j5 a.put, .bool a.dn] 109 (0,0)
theorem RdE.memU{W0:World}{own:Own}{l:jd}{T:TypeId}{b:Nat} [m:qy b (j7 (l.map q06).flatten.toArray T) own]:RdE q06 1 W0 own (some ⟨b,0,none⟩) l:=q1Q m.h (fun _ _=>rfl) (by rw[zQ])
section
variable{W0:World}{own Q E:Own}{c:Cfg}{t:Nat}{h:AH}{x:AT}{k w:Int}{b e:Nat}{mh:MH}{m:MS}
theorem qkf{E1:Own}{A wc vc o:Nat}{wa va:j8}{wD vD:Own}{l2:jd}{v:Int}(K:h.ok c x)(hM:mh.ok m.L)(hE:TnO h true x.tk true E1)(Y:h.wr=ptr A)(hL:RdE qw 1 W0 wD wa [(o:Int)])(O:RdE q06 1 W0 vD va (v::l2))
  (hj:m.d[o]? =some w) (hs:x.dn=true/\x.sto=true) (hck:0<=x.ck/\x.ck<1099511627776) (Q:Own):jk W0 172 [ptr h.b,ptr mh.mb] (h.O c t x 9 3 ((A,wrP wa 1 wc va (l2.length+1) vc)::(wD++(vD++(E1++(mh.O m++Q))))))
  (AtQ W0 c t h.b {x with ph:= .rl x.oc (x.oc.map fun _=>(x.ck+1)*64)} 3 (mh.O {m with d:=m.d.set o v}++Q) (.tuple #[(acS 1 o w v).v,j4 17])):=by
 unfold AtQ;rw[show(x.oc.map fun _=>(x.ck+1)*64)=List.replicate x.oc.length ((x.ck+1)*64) from List.map_const'];refine sH [] ?_;obtain⟨tb,W,rfl⟩:=hE.h;obtain⟨g,rfl⟩:=AH.wr_eq Y W;have hlo:=K.lo;have V:=fun(Q:Own) (e1:qx Q wD) (e2:qx Q vD)=>q8j (W0:=W0) (F:=Q) (b:=A) (c:=wc) (c2:=vc) (l:= []) hM (hL.up) (O.up) hj Q
 have R:=fun(own':Own) (Z:qy A (wrP (slA wa wc 1 1) 0 (wc-1) (slA va vc 1 1) l2.length (vc-1)) own')=>q5A (W0:=W0) (own:=own') (qj Z rfl)
 repeat'((try conv=>whnf);first|refine fE ?_|refine mkC (enc:=q06) x.oc.length 0 rfl rfl rfl Yb fun N=>?_|(apply qe;first|refine qd (R _ Ye) ?_|refine qA (D:=mh.O m) (V _ Ye Ye) fun _ v X=>?_;subst X)|refine fA ?_|refine fM ?_|refine qg fun bk hbk=>?_)
 rename_i M _ _;have u:=fun(own':Own) (L:qy g.b (atP c t {g with wr:=ptr A,tn:=ptr tb} x 9) own') (Z:qy g.g.b (lgP c.writes g.g.aa x.ad.length g.g.ca g.g.va x.vl.length g.g.cv g.g.ib g.g.P) own')=>q2a (W0:=W0) (own:=own') (b:=g.b) (qj L rfl) (qj L rfl) Yb (qj L rfl) (qj L rfl) (qj Z rfl)
 rw[if_pos ⟨hs.1,q7d.1 hs.2⟩] at u;have S:=fun(own':Own)=>qha (W0:=W0) (own:=own') (x.ck+1) Yb
 refine qQ (σ:=Nat) (fun i=> [(30,j4 i)]) (fun i=>q0S q06 45 N (List.replicate i ((x.ck+1)*64)++List.replicate (x.oc.length-i) 0)::((bk,axP (acS 1 o w v))::(M,azP)::AH.O {g with wr:=ptr A,tn:=ptr tb} c t x 9 3 ((A,wrP (slA wa wc 1 1) 0 (wc-1) (slA va vc 1 1) l2.length (vc-1))::(wD++(vD++([(tb,tnP true x.tk true)]++(mh.O {m with d:=m.d.set o v}++Q))))))) (fun i=>i<=x.oc.length) (fun i=>x.oc.length-i) 0 (zl _) (eF) (by rw[yg,zj,Nat.sub_zero];exact sbE) rfl ?_;rintro i junk hi;have hw:∀z∈(List.replicate i ((x.ck+1)*64)++List.replicate (x.oc.length-i) 0:jd),(q06 z).length=1:=fun _ _=>rfl
 by_cases H:i<x.oc.length
 ·have hx:(List.replicate i ((x.ck+1)*64)++List.replicate (x.oc.length-i) 0:jd)[i]? =some 0:=by
   rw[zJ Yd,zD,ZC,Zi,if_pos Yb]
  have I:(i:Int)<x.oc.length:=Yb;have U:x.oc.length=(List.replicate i ((x.ck+1)*64)++List.replicate (x.oc.length-i) 0:jd).length:=by simp;omega
  repeat'((try conv=>whnf);first|refine fF ?_|(apply qL;first|refine ixC hx U ?_ ?_;(first|rfl|omega))|(apply qe;first|refine qd (u _ Ye Ye) ?_|refine qd (S _) ?_)|((with_reducible show StT _ _ _ _ _);first|refine stC (T:=45) (k:=0) (((x.ck+1)*64)) hw hx ?_ ?_ ?_ ?_ ?_;exact rfl;omega;exact rfl;exact rfl)|refine fB ?_|refine fO ?_)
  refine⟨i+1,H,Yb,(eF),?_⟩;rw[<-qjA _ _ _ H];exact sbE
 ·have I:¬(i:Int)<x.oc.length:=Yb;obtain rfl:i=x.oc.length:=Yb;rw[ZC,yg,zC];have J:=fun(own':Own) (m:qx own' g.oD) (m3:qy N (fun z=>z=Obj.cells ((List.replicate x.oc.length ((x.ck+1)*64)).map q06).flatten.toArray 45) own')=>q86 (W0:=W0) (own:=own') (c:=g.oc) (c2:=x.oc.length) ((K.ho.rd (W0:=W0)).up) (RdE.memU (T:=45) (l:=List.replicate x.oc.length ((x.ck+1)*64)) (b:=N)) Yb zD K.ho.le (by rw[zD];exact zN _)
  rw[zD] at J
  repeat'((try conv=>whnf);first|refine fG ?_|(apply qe;first|refine qk (J _ Ye Ye) fun y v X=>?_;obtain⟨rb,⟨a4,c4,D4⟩,⟨a5,c5,D5⟩⟩:=y;obtain⟨rfl,B,q⟩:=X;dsimp only at B q)|refine fA ?_|refine fL ?_|refine fN ?_|refine fM ?_)
  have G:(List.replicate x.oc.length ((x.ck+1)*64)).length=x.oc.length:=zD;have C:=q.le;rw[G] at C;exact⟨({g with wr:=ptr A,tn:=ptr tb,rl:=ptr rb},(rb,rlP a4 x.oc.length c4 a5 x.oc.length c5)::(D4++(D5++ [(tb,tnP true x.tk true)]))),⟨rfl,rfl,K.to rfl,⟨_,rb,a4,c4,D4,a5,c5,D5,⟨tb,rfl,rfl⟩,rfl,⟨B.rd,B.le⟩,⟨q.rd,q.le⟩,by rw[G]⟩⟩,by show Ent W0 _ (AH.O _ c t _ 10 3 _);simp only[zd,zk,zj];exact sbE⟩
end
open Go
section
variable{W0:World}{own Q:Own}{c:Cfg}{t:Nat}{h:AH}{x:AT}{k w:Int}{b e:Nat}{mh:MH}{m:MS}
theorem qgG(q:h.ok c x)(u:mh.ok m.L)(y:m.sl[t]? =some w)(Q:Own):jk W0 165 [ptr h.b,ptr mh.mb] (h.O c t x 2 0 (mh.O m++Q))
  (AtQ W0 c t h.b {x with ph:= .ent 1} 1 (mh.O {m with sl:=m.sl.set t 1}++Q) (.tuple #[(acS 6 t w 1).v,j4 2])):=by
 unfold AtQ;refine sH [] ?_;have g:=fun(own':Own) (d:qy h.eb (enP t 0 x.rv) own')=>q4b (W0:=W0) (n:=0) (qj d rfl) (qj d rfl) q.rv
 have i:=fun(own':Own) (d:qy h.eb (enP t 1 x.rv) own')=>q4b (W0:=W0) (n:=1) (qj d rfl) (qj d rfl) q.rv
 have hd:=fun(own':Own) (d:qy h.eb (enP t 1 x.rv) own')=>q5p (W0:=W0) (n:=1) (qj d rfl)
 simp only[show decide ((1:Int)=3)=false from rfl,if_pos (show(0:Int)<=1 by decide),if_pos (show(1:Int)<=1 by decide)] at g i hd
 repeat'((try conv=>whnf);first|refine fD ?_|(apply qe;first|refine qd (g _ Ye) ?_|refine qd (i _ Ye) ?_|refine qd (hd _ Ye) ?_|refine qA (D:=mh.O m) (qdY (b:=h.eb) (c:=x.rv) u y _) fun _ v z=>?_;subst z)|refine fA ?_|refine fL ?_|refine fM ?_|refine qg fun bk hbk=>?_)
 all_goals exact⟨(h,[]),⟨rfl,rfl,q.to rfl,rfl⟩,sbE⟩
theorem qgH(d:h.ok c x)(y:mh.ok m.L)(i:0<=m.ck/\m.ck<=1099511627776)(Q:Own):jk W0 165 [ptr h.b,ptr mh.mb] (h.O c t x 2 1 (mh.O m++Q))
  (AtQ W0 c t h.b {x with rv:=m.ck,ph:= .ent 2} 2 (mh.O m++Q) (.tuple #[(acL 3 0 m.ck).v,j4 3])):=by
 unfold AtQ;refine sH [] ?_;have q:=fun(own':Own) (g:qy h.eb (enP t 1 x.rv) own')=>q4b (W0:=W0) (n:=1) (qj g rfl) (qj g rfl) d.rv
 have u:=fun(own':Own) (g:qy h.eb (enP t 2 m.ck) own')=>q4b (W0:=W0) (n:=2) (qj g rfl) (qj g rfl) i
 have hd:=fun(own':Own) (g:qy h.eb (enP t 2 m.ck) own')=>q5p (W0:=W0) (n:=2) (qj g rfl)
 simp only[show decide ((2:Int)=3)=false from rfl,if_neg (show ¬(2:Int)<=1 by decide),if_pos (show(1:Int)<=1 by decide)] at q u hd;have hne:(-1:Int)≠m.ck:=Yb
 repeat'((try conv=>whnf);first|refine fD ?_|refine fF ?_|(apply qe;first|refine qd (q _ Ye) ?_|refine qd (u _ Ye) ?_|refine qd (hd _ Ye) ?_|refine qA (D:=mh.O m) (qdZ (b:=h.eb) (t:=t) (c:=x.rv) y _) fun _ v z=>?_;subst z)|refine fA ?_|refine fL ?_|refine fM ?_|refine qg fun bk hbk=>?_)
 all_goals exact⟨(h,[]),⟨rfl,rfl,⟨d.hs,d.hn,d.ho,d.hg,d.ls,d.ln,d.lo,i,d.wr,d.hl,d.hf,d.ll,d.lf,d.pl,d.lb,d.ax⟩,rfl⟩,sbE⟩
theorem qgI(i:h.ok c x)(q:mh.ok m.L)(u:m.sl[t]? =some w)(Q:Own):jk W0 165 [ptr h.b,ptr mh.mb] (h.O c t x 2 2 (mh.O m++Q))
  (AtQ W0 c t h.b {x with ph:= .idle} 3 (mh.O {m with sl:=m.sl.set t (qV (x.rv+2))}++Q) (.tuple #[(acS 6 t w (qV (x.rv+2))).v,j4 4])):=by
 unfold AtQ;refine sH [] ?_;have d:=fun(own':Own) (g:qy h.eb (enP t 2 x.rv) own')=>q4b (W0:=W0) (n:=2) (qj g rfl) (qj g rfl) i.rv
 have hd:=fun(own':Own) (g:qy h.eb (enP t 3 x.rv) own')=>q5p (W0:=W0) (n:=3) (qj g rfl)
 simp only[if_neg (show ¬(2:Int)<=1 by decide)] at d
 repeat'((try conv=>whnf);first|refine fE ?_|(apply qe;first|refine qd (d _ Ye) ?_|refine qd (hd _ Ye) ?_|refine qA (D:=mh.O m) (qe0 (b:=h.eb) (c:=x.rv) q u _) fun _ v y=>?_;subst y)|refine fA ?_|refine fL ?_|refine fN ?_|refine fM ?_|refine qg fun bk hbk=>?_)
 all_goals exact⟨(h,[]),⟨rfl,rfl,i.to rfl,rfl⟩,sbE⟩
end
open Go
theorem AH.rd_eq{h:AH}{v:Value}{l:Int}(e:h.rd=v)(d:h.ld=l):∃g:AH,h={g with rd:=v,ld:=l}:=⟨h,by cases h;cases e;cases d;rfl⟩
section
variable{W0:World}{own Q E2:Own}{c:Cfg}{t:Nat}{h:AH}{x:AT}{k w bf vl:Int}{b e r ab o:Nat}{mh:MH}{m:MS}
theorem qk9(J:h.ok c x)(L:mh.ok m.L)(G:h.rd=ptr r)(C:h.ld=0)(H:UsO h x E2)(N:qC c x.addr=(o:Int))(M:m.o[o]? =some w)(hw:okU w)(Q:Own):
  jk W0 166 [ptr h.b,ptr mh.mb] (h.O c t x 3 3 (((r,rdP x.addr o x.rv 0 0 0 false)::E2)++(mh.O m++Q)))
  (AtQ W0 c t h.b (if q3R w>=0\/q5J w>x.rv then x.undo 9 else{x with ph:= .rd 1 w 0}) 3 (mh.O m++Q) (.tuple #[(acL 2 o w).v,j4 5])):=by
 refine sH (jo 6 3 (17::19::21::23::1::16::1::25::27::30::32::33::0::30::1::25::27::32::33::0::32::25::27::33::0::1::25::27::1::16::30::32::33::0::30::16::32::33::0::30::1::16::1::25::27::32::33::0::32::25::27::33::0::25::27::16::32::33::0::(jo 23 3 (0::(jo 10 3 (24::26::27::29::31::34::0::(jo 14 3 (32::33::0::(jo 10 3 [24,0]))))))))) ?_;obtain⟨z,rfl⟩:=AH.rd_eq G C;have i:=fun Q=>qgD (W0:=W0) (b:=r) (a:=x.addr) (o:=o) (rv:=x.rv) L M hw Q
 by_cases I:q3R w>=0\/q5J w>x.rv
 ·simp only[if_pos I] at i ⊢;have q:=fun Q=>q2x (W0:=W0) (h:={z with rd:=ptr r,ld:=1}) (c:=c) (x:=x) (t:=t) (k:=3) (e:=3) (J.to rfl) 9 Q
  unfold AtQ at q ⊢;have g:=fun(own':Own) (y:qy r (rdP x.addr o x.rv 3 w 0 true) own')=>q2w (W0:=W0) (n:=3) (qj y rfl)
  have B:=fun(own':Own) (y:qy r (rdP x.addr o x.rv 3 w 0 true) own')=>q5v (W0:=W0) (d:=true) (qj y rfl)
  repeat'((try conv=>whnf);first|refine fE ?_|refine fD ?_|(apply qe;first|refine qd (g _ Ye) ?_|refine qd (B _ Ye) ?_|refine qA (D:=mh.O m) (i _) fun _ v u=>?_;subst u|refine qn (b:=z.b) (D:=AH.R {z with rd:=ptr r,ld:=1} c t x 3 []) q (fun Q=>sbE) fun s v u=>?_;obtain⟨rfl,O⟩:=u)|refine fB ?_|refine fA ?_|refine fL ?_|refine fN ?_|refine fM ?_|refine qg fun K A=>?_|refine q1k.mk ?_ ?_)
  all_goals exact⟨s,⟨rfl,O⟩,sbE⟩
 ·simp only[if_neg I] at i ⊢;have g:=fun(own':Own) (y:qy r (rdP x.addr o x.rv 1 w 0 false) own')=>q2w (W0:=W0) (n:=1) (qj y rfl)
  simp only[show decide ((1:Int)=3)=false from rfl] at g;unfold AtQ
  repeat'((try conv=>whnf);first|refine fE ?_|(apply qe;first|refine qd (g _ Ye) ?_|refine qA (D:=mh.O m) (i _) fun _ v u=>?_;subst u)|refine fB ?_|refine fA ?_|refine fL ?_|refine fN ?_|refine fM ?_|refine qg fun K A=>?_|refine q1k.mk ?_ ?_)
  all_goals exact⟨({z with rd:=ptr r,ld:=1},(r,rdP x.addr o x.rv 1 w 0 false)::E2),⟨rfl,rfl,J.to rfl,⟨rfl,r,E2,rfl,H,by dsimp only;rw[N]⟩⟩,sbE⟩
theorem qka{j:Nat}(A:h.ok c x)(y:mh.ok m.L)(i:h.rd=ptr r)(g:h.ld=1)(q:UsO h x E2)(C:qC c x.addr=(o:Int))(z:x.addr=(j:Int))(B:m.d[j]? =some w)(Q:Own):
  jk W0 166 [ptr h.b,ptr mh.mb] (h.O c t x 3 3 (((r,rdP j o x.rv 1 bf 0 false)::E2)++(mh.O m++Q)))
  (AtQ W0 c t h.b {x with ph:= .rd 2 bf w} 3 (mh.O m++Q) (.tuple #[(acL 1 j w).v,j4 6])):=by
 unfold AtQ;refine sH (jo 6 3 (17::19::21::23::1::16::1::25::27::30::32::33::0::30::1::25::27::32::33::0::32::25::27::33::0::1::25::27::1::16::30::32::33::0::30::16::32::33::0::30::1::16::1::25::27::32::33::0::32::25::27::33::0::25::27::16::32::33::0::(jo 23 3 (0::(jo 10 3 (24::26::27::29::31::34::0::(jo 14 3 (32::33::0::(jo 10 3 [24,0]))))))))) ?_;obtain⟨u,rfl⟩:=AH.rd_eq i g;have d:=fun(own':Own) (H:qy r (rdP j o x.rv 2 bf w false) own')=>q2w (W0:=W0) (n:=2) (qj H rfl)
 simp only[show decide ((2:Int)=3)=false from rfl] at d
 repeat'((try conv=>whnf);first|refine fE ?_|(apply qe;first|refine qd (d _ Ye) ?_|refine qA (D:=mh.O m) (qgE (b:=r) (o:=o) (rv:=x.rv) (bf:=bf) y B _) fun _ v G=>?_;subst G)|refine fB ?_|refine fA ?_|refine fL ?_|refine fN ?_|refine fM ?_|refine qg fun bk hbk=>?_|refine q1k.mk ?_ ?_)
 all_goals exact⟨({u with rd:=ptr r,ld:=2},(r,rdP j o x.rv 2 bf w false)::E2),⟨rfl,rfl,A.to rfl,⟨rfl,r,E2,rfl,q,by dsimp only;rw[C,z]⟩⟩,sbE⟩
end
open Go
theorem q9K{cap:Int}{l s:jd}{o:Int}(h:q60 cap l o=some s):s.length<=l.length+1:=by
 unfold q60 at h
 split at h
 ·cases h;omega
 ·split at h
  ·cases h
  ·cases h;rw[z8];exact zN _
theorem AH.ru_eq{h:AH}{v u:Value}{l:Int}(e:h.rd=v)(d:h.ld=l)(g:h.us=u):∃i:AH,h={i with rd:=v,ld:=l,us:=u}:=⟨h,by cases h;cases e;cases d;cases g;rfl⟩
theorem qdL(c:Cfg)(x:AT):((¬x.addr<c.words\/x.addr∈x.seen)/\x.saw c=x.seen)\/((x.addr<c.words/\x.addr∉x.seen)/\x.saw c=x.seen++ [x.addr]):=by
 unfold AT.saw q2O
 split
 ·rename_i d
  split
  ·rename_i g;exact .inl ⟨.inr g,rfl⟩
  ·rename_i g;exact .inr ⟨⟨d,g⟩,rfl⟩
 ·rename_i d;exact .inl ⟨.inl d,rfl⟩
section
variable{W0:World}{own Q E2:Own}{c:Cfg}{t:Nat}{h:AH}{x:AT}{k w bf vl:Int}{b e r ab o:Nat}{mh:MH}{m:MS}
theorem qkb(i:h.ok c x)(hM:mh.ok m.L)(au:h.rd=ptr r)(aq:h.ld=2)(ay:UsO h x E2)(af:0<=c.words/\c.words<=64)(aw:x.us<qh c)(Y:x.oc= [])(hj:m.o[o]? =some w)(hl1:x.set.length<100000)(hl2:x.seen.length<100000)(Q:Own):
  jk W0 166 [ptr h.b,ptr mh.mb] (h.O c t x 3 3 (((r,rdP x.addr o x.rv 2 bf vl false)::E2)++(mh.O m++Q)))
  (AtQ W0 c t h.b (if w≠bf then x.undo 9 else match q60 c.reads x.set (qC c x.addr) with
    |none=>{x with seen:=x.saw c}.undo 3
    |some s=>AT.got c {x with seen:=x.saw c,set:=s,ph:= .idle} vl) 3 (mh.O m++Q) (.tuple #[(acL 2 o w).v,j4 7])):=by
 refine sH (jo 6 3 (17::19::21::23::1::16::1::25::27::30::32::33::0::30::1::25::27::32::33::0::32::25::27::33::0::1::25::27::1::16::30::32::33::0::30::16::32::33::0::30::1::16::1::25::27::32::33::0::32::25::27::33::0::25::27::16::32::33::0::(jo 23 3 (0::(jo 10 3 (24::26::27::29::31::34::0::(jo 14 3 (32::33::0::(jo 10 3 [24,0]))))))))) ?_;obtain⟨g,cs,aj,W,X⟩:=ay.use (W0:=W0) (t:=t) af aw;obtain⟨u,rfl⟩:=AH.ru_eq au aq aj;have H:=fun Q=>qgF (W0:=W0) (b:=r) (a:=x.addr) (o:=o) (rv:=x.rv) (bf:=bf) (vl:=vl) hM hj Q
 have K:=fun(d:Bool) (own':Own) (O:qy r (rdP x.addr o x.rv 3 bf vl d) own')=>q2w (W0:=W0) (n:=3) (qj O rfl)
 by_cases h1:w≠bf
 ·simp only[if_pos h1,decide_eq_true h1] at H ⊢;have Z:=fun Q=>q2x (W0:=W0) (h:={u with rd:=ptr r,ld:=3,us:=fnv g cs}) (c:=c) (x:=x) (t:=t) (k:=3) (e:=3) (i.to rfl) 9 Q
  unfold AtQ at Z ⊢;have I:=fun(own':Own) (O:qy r (rdP x.addr o x.rv 3 bf vl true) own')=>q5v (W0:=W0) (d:=true) (qj O rfl)
  repeat'((try conv=>whnf);first|refine q6E ?_ ?_;exact rfl|refine fD ?_|(apply qe;first|refine qd (K _ _ Ye) ?_|refine qd (I _ Ye) ?_|refine qA (D:=mh.O m) (H _) fun _ v z=>?_;subst z|refine qn (b:=u.b) (D:=AH.R {u with rd:=ptr r,ld:=3,us:=fnv g cs} c t x 3 []) Z (fun Q=>sbE) fun s v z=>?_;obtain⟨rfl,L⟩:=z)|refine ari ?_ ?_;omega|refine fA ?_|refine fL ?_|refine fN ?_|refine fM ?_|refine qg fun bk N=>?_|refine q1k.mk ?_ ?_)
  all_goals exact⟨s,⟨rfl,L⟩,sbE⟩
 ·simp only[if_neg h1,decide_eq_false h1] at H ⊢;have I:=fun(own':Own) (O:qy r (rdP x.addr o x.rv 3 bf vl false) own')=>q5v (W0:=W0) (d:=false) (qj O rfl)
  have ae:=fun(own':Own) (O:qy r (rdP x.addr o x.rv 3 bf vl false) own')=>qgC (W0:=W0) (qj O rfl) (qj O rfl) (qj O rfl)
  have hq:=i.hn;have J:=fun(own':Own) (m3:qx own' u.nD)=>q0z (W0:=W0) (own:=own') (cap:=u.nc) ((i.hn.rd (W0:=W0)).up) Yb x.addr
  have G:=fun Q=>qev (W0:=W0) (b:=u.sb) (cap:=c.reads) i.hs Yb (qC c x.addr) Q
  rcases qdL c x with ⟨h2,S⟩|⟨⟨h2,L⟩,S⟩
  ·rw[S];have h3:x.addr<c.words\/¬x.addr<c.words:=Yb;have V:x.addr<c.words->decide (x.addr∈x.seen)=true:=fun h=>decide_eq_true (h2.resolve_left fun e=>e h)
   rcases h3 with h3|h3
   all_goals
    try simp only[V h3] at J
    cases R:q60 c.reads x.set (qC c x.addr) with
    |none=>
     simp only[R,Zp,yk] at G ⊢;have M:=fun(a3:j8) (B:Nat) (A:Own) (q:qq qw 3 1 a3 B x.set A) (a5:j8) (c5:Nat) (D5:Own) (C:qq qw 3 1 a5 c5 x.seen D5) Q=>q2x (W0:=W0) (h:={u with rd:=ptr r,ld:=3,us:=fnv g cs,na:=a5,nc:=c5,nD:=D5,sa:=a3,sc:=B,sD:=A}) (c:=c) (x:={x with seen:=x.seen}) (t:=t) (k:=3) (e:=3)
      ⟨q,C,i.ho,i.hg,i.ls,i.ln,i.lo,i.rv,i.wr,i.hl,i.hf,i.ll,i.lf,i.pl,i.lb,i.ax⟩ 3 Q
     unfold AtQ at M ⊢
     repeat'((try conv=>whnf);first|refine q0Q ?_ ?_;exact rfl|refine fI ?_|refine q6E ?_ ?_;exact rfl|refine fD ?_|apply q1x;exact rfl;omega|apply q1h;exact rfl;omega|(apply qe;first|refine qd (K _ _ Ye) ?_|refine qd (I _ Ye) ?_|refine qA (D:=mh.O m) (H _) fun _ v z=>?_;subst z|refine qA (D:=u.sD) (G _) fun y v z=>?_;obtain⟨a3,B,A⟩:=y;obtain⟨rfl,q⟩:=z;dsimp only at q|refine q38 (b:=u.b) (D:=AH.R {u with rd:=ptr r,ld:=3,us:=fnv g cs,na:=u.na,nc:=u.nc,nD:=u.nD,sa:=a3,sc:=B,sD:=A} c t {x with seen:=x.seen} 3 []) (M a3 B A q u.na u.nc u.nD i.hn) (fun Q=>sbE) ?_ ?_ ?_ fun s v z=>?_;(solve|exact rfl|(unfold atP;simp only[z8];rfl));exact rfl;exact rfl;obtain⟨rfl,L⟩:=z)|(apply qz;first|refine qm (fun ex=>J _ Ye) ?_|refine qm (fun ex=>q4a W0 _ c x.addr) ?_)|refine ari ?_ ?_;omega|refine fA ?_|refine fL ?_|refine fQ ?_|refine fN ?_|refine fM ?_|refine qg fun bk N=>?_|refine q1k.mk ?_ ?_)
     all_goals exact⟨s,⟨rfl,L⟩,sbE⟩
    |some U=>
     have av:=q9K R;simp only[R,Zu,Z6] at G ⊢;have M:=fun(a3:j8) (B:Nat) (A:Own) (q:qq qw 3 1 a3 B U A) (a5:j8) (c5:Nat) (D5:Own) (C:qq qw 3 1 a5 c5 x.seen D5) Q=>X {u with rd:=ptr r,ld:=3,us:=fnv g cs,na:=a5,nc:=c5,nD:=D5,sa:=a3,sc:=B,sD:=A} {x with seen:=x.seen,set:=U} vl Q rfl
      ⟨q,C,i.ho,i.hg,by dsimp only;omega,i.ln,i.lo,i.rv,i.wr,i.hl,i.hf,i.ll,i.lf,i.pl,i.lb,i.ax⟩ rfl Y
     unfold AtQ at M ⊢
     repeat'((try conv=>whnf);first|refine q0Q ?_ ?_;exact rfl|refine fI ?_|refine fD ?_|apply q1x;exact rfl;omega|apply q1h;exact rfl;omega|refine q3S.mk ⟨W,?_⟩|(apply qe;first|refine qd (K _ _ Ye) ?_|refine qd (I _ Ye) ?_|refine qA (D:=mh.O m) (H _) fun _ v z=>?_;subst z|refine qA (D:=u.sD) (G _) fun y v z=>?_;obtain⟨a3,B,A⟩:=y;obtain⟨rfl,q⟩:=z;dsimp only at q|refine q38 (b:=u.b) (D:=AH.R {u with rd:=ptr r,ld:=3,us:=fnv g cs,na:=u.na,nc:=u.nc,nD:=u.nD,sa:=a3,sc:=B,sD:=A} c t {x with seen:=x.seen,set:=U} 3 (E2++ [])) (M a3 B A q u.na u.nc u.nD i.hn) (fun Q=>by simp only[zd,zk,zj];exact sbE) ?_ ?_ ?_ fun s v z=>?_;(solve|exact rfl|(unfold atP;simp only[z8];rfl));exact rfl;exact rfl;obtain⟨rfl,L⟩:=z)|(apply qz;first|refine qm (fun ex=>J _ Ye) ?_|refine qm (fun ex=>q4a W0 _ c x.addr) ?_|refine qm (fun ex=>ae _ Ye) ?_)|refine ari ?_ ?_;omega|refine fA ?_|refine fL ?_|refine fQ ?_|refine fN ?_|refine fM ?_|refine qg fun bk N=>?_|refine q1k.mk ?_ ?_)
     all_goals exact⟨s,⟨rfl,L⟩,sbE⟩
  ·rw[S];simp only[decide_eq_false L] at J;have h5:(x.seen++ [x.addr]).length<=100000:=by rw[z8,zA];omega
   cases R:q60 c.reads x.set (qC c x.addr) with
   |none=>
    simp only[R,Zp,yk] at G ⊢;have M:=fun(a3:j8) (B:Nat) (A:Own) (q:qq qw 3 1 a3 B x.set A) (a5:j8) (c5:Nat) (D5:Own) (C:qq qw 3 1 a5 c5 (x.seen++ [x.addr]) D5) Q=>q2x (W0:=W0) (h:={u with rd:=ptr r,ld:=3,us:=fnv g cs,na:=a5,nc:=c5,nD:=D5,sa:=a3,sc:=B,sD:=A}) (c:=c) (x:={x with seen:=(x.seen++ [x.addr])}) (t:=t) (k:=3) (e:=3)
     ⟨q,C,i.ho,i.hg,i.ls,h5,i.lo,i.rv,i.wr,i.hl,i.hf,i.ll,i.lf,i.pl,i.lb,i.ax⟩ 3 Q
    unfold AtQ at M ⊢
    repeat'((try conv=>whnf);first|refine q0Q ?_ ?_;exact rfl|refine q6E ?_ ?_;exact rfl|refine fD ?_|apply q1x;exact rfl;omega|apply q0f (enc:=qw) (T:=3) x.addr hq;exact rfl;exact rfl;omega;exact rfl;exact rfl;omega;intro a5 c5 D5 C|(apply qe;first|refine qd (K _ _ Ye) ?_|refine qd (I _ Ye) ?_|refine qA (D:=mh.O m) (H _) fun _ v z=>?_;subst z|refine qA (D:=u.sD) (G _) fun y v z=>?_;obtain⟨a3,B,A⟩:=y;obtain⟨rfl,q⟩:=z;dsimp only at q|refine q38 (b:=u.b) (D:=AH.R {u with rd:=ptr r,ld:=3,us:=fnv g cs,na:=a5,nc:=c5,nD:=D5,sa:=a3,sc:=B,sD:=A} c t {x with seen:=(x.seen++ [x.addr])} 3 []) (M a3 B A q a5 c5 D5 C) (fun Q=>sbE) ?_ ?_ ?_ fun s v z=>?_;(solve|exact rfl|(unfold atP;simp only[z8];rfl));exact rfl;exact rfl;obtain⟨rfl,L⟩:=z)|(apply qz;first|refine qm (fun ex=>J _ Ye) ?_|refine qm (fun ex=>q4a W0 _ c x.addr) ?_)|refine ari ?_ ?_;omega|refine fA ?_|refine fL ?_|refine fQ ?_|refine fN ?_|refine fM ?_|refine qg fun bk N=>?_|refine q1k.mk ?_ ?_)
    all_goals exact⟨s,⟨rfl,L⟩,sbE⟩
   |some U=>
    have av:=q9K R;simp only[R,Zu,Z6] at G ⊢;have M:=fun(a3:j8) (B:Nat) (A:Own) (q:qq qw 3 1 a3 B U A) (a5:j8) (c5:Nat) (D5:Own) (C:qq qw 3 1 a5 c5 (x.seen++ [x.addr]) D5) Q=>X {u with rd:=ptr r,ld:=3,us:=fnv g cs,na:=a5,nc:=c5,nD:=D5,sa:=a3,sc:=B,sD:=A} {x with seen:=(x.seen++ [x.addr]),set:=U} vl Q rfl
     ⟨q,C,i.ho,i.hg,by dsimp only;omega,h5,i.lo,i.rv,i.wr,i.hl,i.hf,i.ll,i.lf,i.pl,i.lb,i.ax⟩ rfl Y
    unfold AtQ at M ⊢
    repeat'((try conv=>whnf);first|refine q0Q ?_ ?_;exact rfl|refine q6E ?_ ?_;exact rfl|refine fD ?_|apply q1x;exact rfl;omega|apply q0f (enc:=qw) (T:=3) x.addr hq;exact rfl;exact rfl;omega;exact rfl;exact rfl;omega;intro a5 c5 D5 C|refine q3S.mk ⟨W,?_⟩|(apply qe;first|refine qd (K _ _ Ye) ?_|refine qd (I _ Ye) ?_|refine qA (D:=mh.O m) (H _) fun _ v z=>?_;subst z|refine qA (D:=u.sD) (G _) fun y v z=>?_;obtain⟨a3,B,A⟩:=y;obtain⟨rfl,q⟩:=z;dsimp only at q|refine q38 (b:=u.b) (D:=AH.R {u with rd:=ptr r,ld:=3,us:=fnv g cs,na:=a5,nc:=c5,nD:=D5,sa:=a3,sc:=B,sD:=A} c t {x with seen:=(x.seen++ [x.addr]),set:=U} 3 (E2++ [])) (M a3 B A q a5 c5 D5 C) (fun Q=>by simp only[zd,zk,zj];exact sbE) ?_ ?_ ?_ fun s v z=>?_;(solve|exact rfl|(unfold atP;simp only[z8];rfl));exact rfl;exact rfl;obtain⟨rfl,L⟩:=z)|(apply qz;first|refine qm (fun ex=>J _ Ye) ?_|refine qm (fun ex=>q4a W0 _ c x.addr) ?_|refine qm (fun ex=>ae _ Ye) ?_)|refine ari ?_ ?_;omega|refine fA ?_|refine fL ?_|refine fQ ?_|refine fN ?_|refine fM ?_|refine qg fun bk N=>?_|refine q1k.mk ?_ ?_)
    all_goals exact⟨s,⟨rfl,L⟩,sbE⟩
end
end Go.Proofs.YtfnghamklcdgnaaGreatDoor
