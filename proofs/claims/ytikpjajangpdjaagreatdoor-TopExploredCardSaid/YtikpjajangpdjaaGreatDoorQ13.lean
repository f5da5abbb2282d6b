/- What the laws share, part 13. No condition. -/
import Derived.Shelf.Sort.Plain
import Derived.Shelf.Slices.In.SortNone
import Derived.Shelf.Slices.CompactI
import Derived.Ground.Names2Prog
import Derived.Test.YtikpjajangpdjaaGreatDoorProg
import Derived.Lib.SlicesCompact
import Derived.Test.YtikpjajangpdjaaGreatDoorQ12
set_option maxHeartbeats 8000000
set_option maxRecDepth 10000
namespace Go.Proofs.YtikpjajangpdjaaGreatDoor
open Go Go.Shelf
def qd7:Go.Shelf.Ren:=⟨fun|189=>94|125=>128|257=>127|128=>180|129=>181|294=>171|295=>172|296=>173|297=>174|298=>175|299=>176|216=>177|300=>178|301=>179|328=>240|329=>241|330=>242|331=>243|332=>244|215=>245|343=>310|n=>n,fun|28=>23|3=>3|46=>127|0=>0|51=>288|53=>72|4=>4|183=>281|182=>280|131=>221|5=>5|9=>9|218=>325|222=>329|228=>354|229=>243|n=>n,fun|n=>n⟩
theorem qkB:Go.Proofs.Lays.n189 Tryz.prog qd7:={
 mixed:=by kernel_rfl
 f125:=Tryz.func128.trans (congrArg some (by kernel_rfl))
 f128:=Tryz.func180.trans (congrArg some (by kernel_rfl))
 f129:=Tryz.func181.trans (congrArg some (by kernel_rfl))
 f189:=Tryz.func94.trans (congrArg some (by kernel_rfl))
 f215:=Tryz.func245.trans (congrArg some (by kernel_rfl))
 f216:=Tryz.func177.trans (congrArg some (by kernel_rfl))
 f257:=Tryz.func127.trans (congrArg some (by kernel_rfl))
 f294:=Tryz.func171.trans (congrArg some (by kernel_rfl))
 f295:=Tryz.func172.trans (congrArg some (by kernel_rfl))
 f296:=Tryz.func173.trans (congrArg some (by kernel_rfl))
 f297:=Tryz.func174.trans (congrArg some (by kernel_rfl))
 f298:=Tryz.func175.trans (congrArg some (by kernel_rfl))
 f299:=Tryz.func176.trans (congrArg some (by kernel_rfl))
 f300:=Tryz.func178.trans (congrArg some (by kernel_rfl))
 f301:=Tryz.func179.trans (congrArg some (by kernel_rfl))
 f328:=Tryz.func240.trans (congrArg some (by kernel_rfl))
 f329:=Tryz.func241.trans (congrArg some (by kernel_rfl))
 f330:=Tryz.func242.trans (congrArg some (by kernel_rfl))
 f331:=Tryz.func243.trans (congrArg some (by kernel_rfl))
 f332:=Tryz.func244.trans (congrArg some (by kernel_rfl))
 f343:=Tryz.func310.trans (congrArg some (by kernel_rfl))
 t0:=Tryz.underlying0
 a0:=Tryz.isAgg0
 z0:=Tryz.sizeOf0
 v0:=Tryz.zeroValue0
 t3:=Tryz.underlying3
 a3:=Tryz.isAgg3
 z3:=Tryz.sizeOf3
 v3:=Tryz.zeroValue3
 t4:=Tryz.underlying4
 a4:=Tryz.isAgg4
 z4:=Tryz.sizeOf4
 v4:=Tryz.zeroValue4
 t5:=Tryz.underlying5
 a5:=Tryz.isAgg5
 z5:=Tryz.sizeOf5
 v5:=Tryz.zeroValue5
 t9:=Tryz.underlying9
 a9:=Tryz.isAgg9
 z9:=Tryz.sizeOf9
 v9:=Tryz.zeroValue9
 t28:=Tryz.underlying23
 a28:=Tryz.isAgg23
 z28:=Tryz.sizeOf23
 v28:=Tryz.zeroValue23
 t46:=Tryz.underlying127
 a46:=Tryz.isAgg127
 z46:=Tryz.sizeOf127
 v46:=Tryz.zeroValue127
 t51:=Tryz.underlying288
 a51:=Tryz.isAgg288
 z51:=Tryz.sizeOf288
 v51:=Tryz.zeroValue288
 t53:=Tryz.underlying72
 a53:=Tryz.isAgg72
 z53:=Tryz.sizeOf72
 v53:=Tryz.zeroValue72
 t131:=Tryz.underlying221
 a131:=Tryz.isAgg221
 z131:=Tryz.sizeOf221
 v131:=Tryz.zeroValue221
 t182:=Tryz.underlying280
 a182:=Tryz.isAgg280
 z182:=Tryz.sizeOf280
 v182:=Tryz.zeroValue280
 t183:=Tryz.underlying281
 a183:=Tryz.isAgg281
 z183:=Tryz.sizeOf281
 v183:=Tryz.zeroValue281
 t218:=Tryz.underlying325
 a218:=Tryz.isAgg325
 z218:=Tryz.sizeOf325
 v218:=Tryz.zeroValue325
 t222:=Tryz.underlying329
 a222:=Tryz.isAgg329
 z222:=Tryz.sizeOf329
 v222:=Tryz.zeroValue329
 t228:=Tryz.underlying354
 a228:=Tryz.isAgg354
 z228:=Tryz.sizeOf354
 v228:=Tryz.zeroValue354
 t229:=Tryz.underlying243
 a229:=Tryz.isAgg243
 z229:=Tryz.sizeOf243
 v229:=Tryz.zeroValue243}
open Go.Sort Go.RowKit in
theorem q7l(blk off cap:Nat)(zs:je)(w:World)(i:Go.Sort.Holds (Value.int .i64) w blk off zs.toArray)(d:blk<w.heap.size)(g:zs.length<4611686018427387904):
  Calls Tryz.prog 94 #[.slice (some ⟨blk,off,none⟩) zs.length cap] w fun e q=>
   e= .returned (.tuple #[])/\∃n os,q=grow (putRow (Value.int .i64) (Sort.ahead w n) blk off (zs.mergeSort fun x y=>decide (x<=y)).toArray) os:=Any.slices_Sort_int qkB blk off cap zs w i d g
open Go.RowKit Go.Sort in
theorem q2V(p:j9)(cap:Nat)(w:World):
  Calls Tryz.prog 94 #[.slice p 0 cap] w fun e d=>e= .returned (.tuple #[])/\d=w:=Any.slices_Sort_int_none qkB p cap w
def qd8:Go.Shelf.Ren:=⟨fun|20=>95|n=>n,fun|22=>23|3=>3|4=>4|0=>0|n=>n,fun|n=>n⟩
theorem qpQ:Go.Proofs.Lays2.n20 Tryz.prog qd8:={
 mixed:=by kernel_rfl
 f20:=Tryz.func95.trans (congrArg some (by kernel_rfl))
 t0:=Tryz.underlying0
 a0:=Tryz.isAgg0
 z0:=Tryz.sizeOf0
 v0:=Tryz.zeroValue0
 t3:=Tryz.underlying3
 a3:=Tryz.isAgg3
 z3:=Tryz.sizeOf3
 v3:=Tryz.zeroValue3
 t4:=Tryz.underlying4
 a4:=Tryz.isAgg4
 z4:=Tryz.sizeOf4
 v4:=Tryz.zeroValue4
 t22:=Tryz.underlying23
 a22:=Tryz.isAgg23
 z22:=Tryz.sizeOf23
 v22:=Tryz.zeroValue23
 i3:=by kernel_rfl}
open Go.RowKit Go.Lib Go.Sort in
theorem q44(blk off cap:Nat)(zs:je)(w:World)(i:Go.Sort.Holds (Value.int .i64) w blk off zs.toArray)(g:zs.length<=9223372036854775807)(d:zs.length<=cap):
  Calls Tryz.prog 95 #[.slice (some ⟨blk,off,none⟩) zs.length cap] w fun e u=>e= .returned (.slice (some ⟨blk,off,none⟩) (Lib.compact zs).length cap)/\∃q,u=putRow (Value.int .i64) (Sort.ahead w q) blk off (Lib.compact zs++List.replicate (zs.length-(Lib.compact zs).length) 0).toArray:=Any.slices_Compact_int qpQ blk off cap zs w i g d
open Go
def srt(l:je):je:=l.mergeSort fun x y=>decide (x<=y)
theorem q1v(l:je):(srt l).length=l.length:=List.length_mergeSort l
theorem qaT{l:je}{x:Int}:x∈srt l↔x∈l:=List.mem_mergeSort
theorem q29(l:je):(srt l).Pairwise (· <= ·):=by
 have:=List.pairwise_mergeSort (le:=fun(x y:Int)=>decide (x<=y)) (fun a b c h1 h2=>by simp only[decide_eq_true_eq] at*;omega) (fun a b=>by simp only[Zd,decide_eq_true_eq];omega) l;exact this.imp (fun h=>by simpa using h)
def cmp(l:je):je:=Go.Lib.compact l
theorem q36{d:Array Int}(C:d.toList.Pairwise (· <= ·)):∀m,m<=d.size->(Go.Lib.compactUpTo d m).Pairwise (· < ·)/\(∀x,x∈Go.Lib.compactUpTo d m↔ ∃j,j<m/\d[j]! =x)/\(Go.Lib.compactUpTo d m).length<=m
 |0,_=>by simp[Go.Lib.compactUpTo]
 |m+1,hm=>by
  obtain⟨B,A,h3⟩:=q36 C m Yu;have hle:∀i j,i<=j->j<d.size->d[i]! <=d[j]! :=fun i j hij g=>by
   by_cases he:i=j
   ·subst he;exact zW _
   ·rw[getElem!_pos d i Yu,getElem!_pos d j g];have:=Zr.1 C i j (by simpa using (by omega:i<d.size)) (by simpa using g) Yu
    simpa using this
  rw[Go.Lib.compactUpTo_succ]
  by_cases u:Go.Lib.keeps d m=true
  ·rw[if_pos u];have y:m=0\/d[m]! ≠d[m-1]! :=by
    by_cases z:m=0
    ·exact .inl z
    ·right;intro he;rw[Go.Lib.keeps_neg Yu he] at u;cases u
   refine⟨?_,?_,by simp;omega⟩
   ·rw[yE];refine⟨B,yl _ _,fun a G b hb=>?_⟩;rw[zf] at hb;subst hb;obtain⟨j,g,rfl⟩:=(A a).1 G
    rcases y with z|y
    ·omega
    ·have e1:=hle j (m-1) Yu Yu;have e2:=hle (m-1) m Yu Yu;omega
   ·intro x;rw[zy,A,zf];constructor
    ·rintro(⟨j,g,rfl⟩|rfl)
     ·exact⟨j,Yu,rfl⟩
     ·exact⟨m,Yu,rfl⟩
    ·rintro⟨j,g,rfl⟩
     by_cases q:j=m
     ·subst q;exact .inr rfl
     ·exact .inl ⟨j,Yu,rfl⟩
  ·rw[if_neg u,zz];refine⟨B,fun x=>?_,Yu⟩;rw[A];have he:0<m/\d[m]! =d[m-1]! :=by
    by_cases z:m=0
    ·subst z;exact absurd (Go.Lib.keeps_lt_one d 0 Yu) u
    ·refine⟨Yu,?_⟩
     by_cases h:d[m]! =d[m-1]!
     ·exact h
     ·exact absurd (Go.Lib.keeps_pos h) u
   constructor
   ·rintro⟨j,g,rfl⟩;exact⟨j,Yu,rfl⟩
   ·rintro⟨j,g,rfl⟩
    by_cases q:j=m
    ·subst q;exact⟨j-1,Yu,he.2.symm⟩
    ·exact⟨j,Yu,rfl⟩
theorem q5c{l:je}(y:l.Pairwise (· <= ·)):(cmp l).Pairwise (· < ·)/\(∀x,x∈cmp l↔x∈l)/\(cmp l).length<=l.length:=by
 obtain⟨i,q,u⟩:=q36 (d:=l.toArray) (by simpa using y) l.length Yw;refine⟨i,fun x=>(q x).trans ?_,u⟩;rw[Ya];constructor
 ·rintro⟨j,g,rfl⟩;exact⟨j,g,by rw[getElem!_pos _ j (by simpa using g)];simp⟩
 ·rintro⟨j,g,rfl⟩;exact⟨j,g,by rw[getElem!_pos _ j (by simpa using g)];simp⟩
theorem q80:∀l:je,(l.map qv).flatten=l.map (Value.int .i64)
 | []=>rfl
 |x::l=>by simp[q80 l]
theorem St.put_row{W0:World}{own:Own}{w:World}{b:Nat}{T:TypeId}{C:Own->Own}{l l':je}{rest:jf}{n:Nat}{os:Array Obj}(s:St W0 own w)(g:At [(b,j8 ((l.map qv).flatten++rest).toArray T)] own C)(y:l'.length=l.length):
  St W0 (C [(b,j8 ((l'.map qv).flatten++rest).toArray T)]) (Go.Sort.grow (Go.Sort.putRow (Value.int .i64) (Go.Sort.ahead w n) b 0 l'.toArray) os):=by
 have hu:=g.up (j8 ((l'.map qv).flatten++rest).toArray T);have hb:=s.mem_size hu.mem;refine s.up hu rfl rfl rfl ?_ ?_ ?_
 ·simp[Go.Sort.grow,Go.Sort.putRow,Go.Sort.mapBlock,Go.Sort.ahead]
 ·intro k d i;simp only[Go.Sort.grow,Go.Sort.putRow,Go.Sort.mapBlock,Go.Sort.ahead];rw[y5 (by simpa using d),ZR,if_neg (fun e=>i e.symm)]
 ·obtain⟨o,z,A⟩:=s.owns _ hu.mem;refine⟨_,?_,rfl⟩;simp only[Go.Sort.grow,Go.Sort.putRow,Go.Sort.mapBlock,Go.Sort.ahead];rw[y5 (by simpa using hb),ZR,if_pos rfl];have u:o=Obj.cells ((l.map qv).flatten++rest).toArray T:=A;have q:w.heap[b]? =some o:=z;rw[q,u];simp only[Zu,Go.Sort.onCells,Go.Sort.putCells,q80]
  congr 2
  apply Array.ext';rw[Array.toList_mapIdx];refine List.ext_getElem (by simp[y]) fun k h1 h2=>?_
  simp only[List.getElem_mapIdx]
  by_cases d:k<l'.length
  ·rw[if_pos ⟨Yu,by simpa using d⟩,List.getElem_append_left (by simpa using d),getElem!_pos _ _ (by simpa using d)];simp
  ·rw[if_neg (by simp;omega),y7 (by simp;omega),y7 (by simp;omega)];simp[y]
section
variable{W0:World}{own:Own}
theorem q3U{w:World}{b:Nat}{l:je}{rest:jf}{T:TypeId}(s:St W0 own w)(hm:(b,j8 ((l.map qv).flatten++rest).toArray T)∈own):Go.Sort.Holds (Value.int .i64) w b 0 l.toArray:=fun j q=>by
 have d:j<l.length:=by simpa using q
 refine⟨?_,?_⟩
 ·rw[getElem!_pos _ j q];refine q0O hm ?_ w s;rw[zA,q80,zU,zG (by simpa using d)];simp[d]
 ·obtain⟨o,u,y⟩:=s.owns _ hm;have i:o=Obj.cells ((l.map qv).flatten++rest).toArray T:=y;have g:w.heap[b]? =some o:=u;simp[World.frozen?,g,i]
theorem qaR{a:j9}{l:je}{cap:Nat}{D:Own}{C:Own->Own}(q:qo qv 3 1 a cap l D)(d:At D own C)(u:l.length<4611686018427387904):
  jn W0 94 [.slice a l.length cap] own fun v own'=>∃i:Own,(v= .tuple #[]/\qo qv 3 1 a cap (srt l) i)/\Ent W0 own' (C i):=by
 intro w g
 rcases q.how with ⟨rfl,rfl,rfl⟩|⟨b,rest,rfl,rfl,hlen,hle⟩
 ·refine(q2V a 0 w).mono ?_;rintro e y ⟨rfl,rfl⟩;exact⟨_,own,rfl,g,[],⟨rfl,by rw[show srt []= [] from List.mergeSort_nil];exact qo.nil⟩,by rw[d.same];exact Ent.refl⟩
 ·have hm:=(d.up (fun _=>True)).mem;refine(q7l b 0 cap l w (q3U g hm) (g.mem_size hm) u).mono ?_;rintro e y ⟨rfl,n,os,rfl⟩;exact⟨_,_,rfl,g.put_row d (q1v l),_,⟨rfl,fun _ _=>rfl, .inr ⟨b,rest,rfl,rfl,by rw[q1v];exact hlen,by rw[q1v];exact hle⟩⟩,Ent.refl⟩
theorem q4B{a:j9}{l:je}{cap:Nat}{D:Own}{C:Own->Own}(y:qo qv 3 1 a cap l D)(d:At D own C)(A:l.length<=9223372036854775807)(i:l.Pairwise (· <= ·)):
  jn W0 95 [.slice a l.length cap] own fun v own'=>∃u:Own,(v= .slice a (cmp l).length cap/\qo qv 3 1 a cap (cmp l) u)/\Ent W0 own' (C u):=by
 cases l with
 |nil=>
  refine sH (jq 10 3 (0::(jq 10 3 [0]))) ?_
  repeat'((try conv=>whnf);first|refine fE ?_)
  exact⟨D,⟨rfl,y⟩,by rw[d.same];exact Ent.refl⟩
 |cons x r=>
  intro w z;have hcl:=(q5c i).2.2
  rcases y.how with ⟨h,_,_⟩|⟨b,rest,rfl,rfl,hlen,hle⟩
  ·cases h
  ·generalize x::r=l at*;have hm:=(d.up (fun _=>True)).mem;refine(q44 b 0 cap l w (q3U z hm) A hle).mono ?_;rintro e w' ⟨rfl,q,rfl⟩;have g:=z.put_row (n:=q) (os:= #[]) (l':=cmp l++List.replicate (l.length-(cmp l).length) 0) d (by simp;omega);rw[Go.Sort.grow_empty] at g;refine⟨_,_,rfl,g,_,⟨rfl,fun _ _=>rfl, .inr ⟨b,((List.replicate (l.length-(cmp l).length) 0).map qv).flatten++rest,rfl,rfl,?_,Yu⟩⟩,?_⟩
   ·simp only[q80,z8,zi,zO];omega
   ·rw[zB,zY,zd];exact Ent.refl
end
open Go
section
variable{α:Type}{enc:α->jf}{sz:Nat}{W0:World}{own:Own}{a:j9}{n c m:Nat}{l:List α}{x:α}
theorem qng{K:Value->Prop}(hn:n=m+1)(h:K (.slice (slA a c 1 sz) m (c-1))):qon a n c sz (some 1) none none K:=by
 refine⟨1,n,c,rfl,rfl,rfl,Yu,(fun h=>by cases h),(fun h=>by cases h),(fun h=>by cases h),?_⟩;rw[show n-1=m by omega];exact h
theorem qj0{K:Value->Prop}{i:Int}(g:i=n)(d:n<=c)(h:K (.slice (slA a c 0 sz) n c)):qon a n c sz none (some i) none K:=
 ⟨0,n,c,rfl,g,rfl,Yu,fun _=>d,(fun h=>by cases h),(fun h=>by cases h),h⟩
theorem RdE.tl(h:RdE enc sz W0 own a (x::l))(d:(x::l).length<=c):RdE enc sz W0 own (slA a c 1 sz) l:=by
 have:=h.sl (c:=1) (r:=(x::l).length) (m:=c) (zq _) d
 simpa using this
theorem RdE.hd(h:RdE enc sz W0 own a l)(d:l.length<=c):RdE enc sz W0 own (slA a c 0 sz) l:=by
 have:=h.sl (c:=0) (r:=l.length) (m:=c) (zq _) d
 simpa using this
end
section
variable{W0:World}{own F:Own}{h:MH}{m:MS}{b c:Nat}{a:j9}{rv w:Int}{l:je}{f:Bool}
abbrev ckP(a:j9)(n c:Nat)(rv:Int)(f:Bool):Obj->Prop:=fun z=>z=Obj.cells #[.slice a n c,j5 rv, .bool f] 370 (0,0)
theorem qaM(i:RdE qv 1 W0 own a l)(hl:l.length<=1000000)(rv:Int):jn W0 275 [.slice a l.length c,j5 rv] own fun v own'=>
  ∃s:Nat×j9×Nat×Own,(v= jp s.1/\qo qv 3 1 s.2.1 s.2.2.1 l s.2.2.2)/\Ent W0 own' ((s.1,ckP s.2.1 l.length s.2.2.1 rv false)::(s.2.2.2++own)):=by
 refine sH [] ?_;have g:=qL (cap:=c) i Yu
 repeat'((try conv=>whnf);first|(apply qe;first|refine qi g fun y v q=>?_;obtain⟨a1,c1,D1⟩:=y;obtain⟨rfl,d⟩:=q;dsimp only at d)|refine qf fun bk hbk=>?_)
 all_goals exact⟨(_,a1,c1,D1),⟨rfl,d⟩,Ent.refl⟩
theorem q6e{n:Nat}(d:Cl W0 own b 0 (.slice a n c))(g:Cl W0 own b 2 (.bool f)):jo W0 278 [jp b] own (.bool (f||decide (n=0))):=by
 refine qg (sH [] ?_);cases f
 all_goals
  repeat'((try conv=>whnf);first|refine fH ?_|refine fI ?_|refine q0m g ?_|refine q0m d ?_)
  all_goals first|exact⟨rfl,(eC)⟩|exact⟨q0a (vb Yw),(eC)⟩
theorem qgd(d:Cl W0 own b 2 (.bool f)):jo W0 280 [jp b] own (.bool f):=by
 refine qg (sH [] ?_)
 repeat'((try conv=>whnf);first|refine q0m d ?_)
 all_goals exact⟨rfl,(eC)⟩
theorem qge{j:Nat}(y:h.ok m.L)(q:RdE qv 1 W0 F a ((j:Int)::l))(z:m.o[j]? =some w)(hw:okU w)(Q:Own) [eq:qr Q F]:
  jn W0 279 [jp b,jp h.mb] ((b,ckP a (l.length+1) c rv false)::(h.O m++Q)) fun v own'=>
   ∃_:Unit,v=(acL 2 j w).v/\Ent W0 own' ((b,ckP (slA a c 1 1) l.length (c-1) rv (decide (q7B w>rv)))::(h.O m++Q)):=by
 refine qE (sH (jq 11 3 [26,0]) ?_);have i:=fun own'=>q7u (W0:=W0) (own:=own') w hw
 have u:((j:Int)::l)[0]? =some (j:Int):=rfl;have d:=fun(own':Own) (mm:qy b (ckP a (l.length+1) c rv false) own')=>q6e (W0:=W0) (own:=own') (qk mm rfl) (qk mm rfl)
 have g:(false||decide (l.length+1=0))=false:=Yw;rw[g] at d
 repeat'((try conv=>whnf);first|refine fD ?_|refine qng rfl ?_|apply gLd;refine q0l q u rfl ?_|(apply qF;first|refine ixE q u ?_ ?_;(first|rfl|omega))|(apply qe;first|refine qd (d _ Yx) ?_|refine q0Z 1 j y Yv z ?_ ?_ ?_;exact rfl;exact rfl)|apply qC;refine q35 i ?_|refine fO ?_|refine fA ?_|refine fL ?_|refine fN ?_|refine fM ?_|refine qf fun bk hbk=>?_)
 all_goals exact⟨rfl,sbE⟩
abbrev wrP(a:j9)(n c:Nat)(a2:j9)(d c2:Nat):Obj->Prop:=fun z=>z=Obj.cells #[.slice a n c, .slice a2 d c2] 372 (0,0)
abbrev rlP(a:j9)(n c:Nat)(a2:j9)(d c2:Nat):Obj->Prop:=fun z=>z=Obj.cells #[.slice a n c, .slice a2 d c2] 374 (0,0)
variable{a2:j9}{c2:Nat}{l2:je}{v:Int}
theorem qaP(L:RdE qv 1 W0 own a l)(z:RdE q05 1 W0 own a2 l2)(hl:l.length<=1000000)(he:l2.length=l.length)(G:l.length<=c)(i:l2.length<=c2):jn W0 282 [.slice a l.length c, .slice a2 l2.length c2] own fun v own'=>
  ∃s:Nat×(j9×Nat×Own)×(j9×Nat×Own),(v= jp s.1/\qo qv 3 1 s.2.1.1 s.2.1.2.1 l s.2.1.2.2/\qo q05 72 1 s.2.2.1 s.2.2.2.1 l2 s.2.2.2.2)/\
   Ent W0 own' ((s.1,wrP s.2.1.1 l.length s.2.1.2.1 s.2.2.1 l2.length s.2.2.2.1)::(s.2.2.2.2++(s.2.1.2.2++own))):=by
 refine sH [3,5,7,11,13,15,10,18,19,22,23,0] ?_;have A:=fun(own':Own) [qr own' own]=>qL (cap:=c) ((RdE.hd L G).up (own:=own')) Yu
 have q:=fun(own':Own) [qr own' own]=>qN (cap:=c2) ((RdE.hd z i).up (own:=own')) Yu
 have B:min (l.length:Int) l2.length=l.length:=Yu;have u:min (l.length:Int) l2.length=l2.length:=Yu
 repeat'((try conv=>whnf);first|refine qj0 B G ?_|refine qj0 u i ?_|(apply qe;first|refine qi (A _) fun y v C=>?_;obtain⟨a3,J,H⟩:=y;obtain⟨rfl,d⟩:=C;dsimp only at d|refine qi (q _) fun y v C=>?_;obtain⟨a4,K,I⟩:=y;obtain⟨rfl,g⟩:=C;dsimp only at g)|refine qf fun bk hbk=>?_|refine q7f ?_)
 all_goals exact⟨(_,(a3,J,H),(a4,K,I)),⟨rfl,d,g⟩,Ent.refl⟩
theorem q9x(L:RdE qv 1 W0 own a l)(z:RdE q05 1 W0 own a2 l2)(hl:l.length<=1000000)(he:l2.length=l.length)(G:l.length<=c)(i:l2.length<=c2):jn W0 287 [.slice a l.length c, .slice a2 l2.length c2] own fun v own'=>
  ∃s:Nat×(j9×Nat×Own)×(j9×Nat×Own),(v= jp s.1/\qo qv 3 1 s.2.1.1 s.2.1.2.1 l s.2.1.2.2/\qo q05 72 1 s.2.2.1 s.2.2.2.1 l2 s.2.2.2.2)/\
   Ent W0 own' ((s.1,rlP s.2.1.1 l.length s.2.1.2.1 s.2.2.1 l2.length s.2.2.2.1)::(s.2.2.2.2++(s.2.1.2.2++own))):=by
 refine sH [3,5,7,11,13,15,10,18,19,22,23,0] ?_;have A:=fun(own':Own) [qr own' own]=>qL (cap:=c) ((RdE.hd L G).up (own:=own')) Yu
 have q:=fun(own':Own) [qr own' own]=>qN (cap:=c2) ((RdE.hd z i).up (own:=own')) Yu
 have B:min (l.length:Int) l2.length=l.length:=Yu;have u:min (l.length:Int) l2.length=l2.length:=Yu
 repeat'((try conv=>whnf);first|refine qj0 B G ?_|refine qj0 u i ?_|(apply qe;first|refine qi (A _) fun y v C=>?_;obtain⟨a3,J,H⟩:=y;obtain⟨rfl,d⟩:=C;dsimp only at d|refine qi (q _) fun y v C=>?_;obtain⟨a4,K,I⟩:=y;obtain⟨rfl,g⟩:=C;dsimp only at g)|refine qf fun bk hbk=>?_|refine q7f ?_)
 all_goals exact⟨(_,(a3,J,H),(a4,K,I)),⟨rfl,d,g⟩,Ent.refl⟩
theorem q6s{n:Nat}(d:Cl W0 own b 0 (.slice a n c)):jo W0 285 [jp b] own (.bool (decide (n=0))):=by
 refine qg (sH [] ?_)
 repeat'((try conv=>whnf);first|refine q0m d ?_)
 all_goals exact⟨q0a (vb Yw),(eC)⟩
theorem q9D{n:Nat}(d:Cl W0 own b 0 (.slice a n c)):jo W0 289 [jp b] own (.bool (decide (n=0))):=by
 refine qg (sH [] ?_)
 repeat'((try conv=>whnf);first|refine q0m d ?_)
 all_goals exact⟨q0a (vb Yw),(eC)⟩
theorem q9H{j:Nat}(z:h.ok m.L)(u:RdE qv 1 W0 F a ((j:Int)::l))(g:RdE q05 1 W0 F a2 (v::l2))(A:m.d[j]? =some w)(Q:Own) [eq:qr Q F]:
  jn W0 284 [jp b,jp h.mb] ((b,wrP a (l.length+1) c a2 (l2.length+1) c2)::(h.O m++Q)) fun r own'=>
   ∃_:Unit,r=(acS 1 j w v).v/\Ent W0 own' ((b,wrP (slA a c 1 1) l.length (c-1) (slA a2 c2 1 1) l2.length (c2-1))::(h.O {m with d:=m.d.set j v}++Q)):=by
 refine qE (sH (jq 13 3 (1::30::31::33::35::38::40::41::0::38::30::31::33::35::40::41::0::(jq 14 3 [32,33,35,38,0]))) ?_);have y:((j:Int)::l)[0]? =some (j:Int):=rfl;have q:(v::l2)[0]? =some v:=rfl;have i:=fun(own':Own) (mm:qy b (wrP a (l.length+1) c a2 (l2.length+1) c2) own')=>q6s (W0:=W0) (own:=own') (qk mm rfl)
 rw[show decide (l.length+1=0)=false by simp] at i
 repeat'((try conv=>whnf);first|refine fD ?_|refine qng rfl ?_|(apply gLd;first|refine q0l u y rfl ?_|refine q0l g q rfl ?_)|(apply qF;first|refine ixE u y ?_ ?_;(first|rfl|omega)|refine ixE g q ?_ ?_;(first|rfl|omega))|(apply qe;first|refine qd (i _ Yx) ?_|refine q2N 0 j v {m with d:=m.d.set j v} z Yv A rfl ?_ ?_ ?_;exact rfl;exact rfl)|refine fO ?_|refine fA ?_|refine fL ?_|refine fN ?_|refine fM ?_|refine qf fun bk hbk=>?_|refine q1a.mk ?_ ?_)
 all_goals exact⟨rfl,sbE⟩
theorem qgH{j:Nat}(y:h.ok m.L)(q:RdE qv 1 W0 F a ((j:Int)::l))(d:RdE q05 1 W0 F a2 (v::l2))(z:m.o[j]? =some w)(Q:Own) [eq:qr Q F]:
  jn W0 288 [jp b,jp h.mb] ((b,rlP a (l.length+1) c a2 (l2.length+1) c2)::(h.O m++Q)) fun r own'=>
   ∃_:Unit,r=(acS 2 j w v).v/\Ent W0 own' ((b,rlP (slA a c 1 1) l.length (c-1) (slA a2 c2 1 1) l2.length (c2-1))::(h.O {m with o:=m.o.set j v}++Q)):=by
 refine qE (sH (jq 13 3 (1::30::31::33::35::38::40::41::0::38::30::31::33::35::40::41::0::(jq 14 3 [32,33,35,38,0]))) ?_);have u:((j:Int)::l)[0]? =some (j:Int):=rfl;have i:(v::l2)[0]? =some v:=rfl;have g:=fun(own':Own) (mm:qy b (rlP a (l.length+1) c a2 (l2.length+1) c2) own')=>q9D (W0:=W0) (own:=own') (qk mm rfl)
 rw[show decide (l.length+1=0)=false by simp] at g
 repeat'((try conv=>whnf);first|refine fD ?_|refine qng rfl ?_|(apply gLd;first|refine q0l q u rfl ?_|refine q0l d i rfl ?_)|(apply qF;first|refine ixE q u ?_ ?_;(first|rfl|omega)|refine ixE d i ?_ ?_;(first|rfl|omega))|(apply qe;first|refine qd (g _ Yx) ?_|refine q2N 1 j v {m with o:=m.o.set j v} y Yv z rfl ?_ ?_ ?_;exact rfl;exact rfl)|refine fO ?_|refine fA ?_|refine fL ?_|refine fN ?_|refine fM ?_|refine qf fun bk hbk=>?_|refine q1a.mk ?_ ?_)
 all_goals exact⟨rfl,sbE⟩
theorem qnn{cap n:Nat}{D:Own}{C:Own->Own}(q:qo qv 3 1 a cap l D)(d:At D own C)(u:l.length<=9223372036854775807)(g:l.Pairwise (· <= ·))(y:n=l.length):
  jn W0 95 [.slice a n cap] own fun v own'=>∃i:Own,(v= .slice a (cmp l).length cap/\qo qv 3 1 a cap (cmp l) i)/\Ent W0 own' (C i):=by
 subst y;exact q4B q d u g
theorem q9F(B:RdE qv 1 W0 own a l)(hl:l.length<=1000000):jn W0 294 [.slice a l.length c] own fun v own'=>
  ∃s:j9×Nat×Own,(v= .slice s.1 (q9I l).length s.2.1/\qo qv 3 1 s.1 s.2.1 (q9I l) s.2.2)/\Ent W0 own' (s.2.2++own):=by
 refine sH [] ?_;have u:=qL (cap:=c) B Yu;have z:(srt l).length<=9223372036854775807:=by rw[q1v];omega
 repeat'((try conv=>whnf);first|(apply qe;first|refine qi u fun y v g=>?_;obtain⟨a1,c1,D1⟩:=y;obtain⟨rfl,d⟩:=g;dsimp only at d|refine qi (qaR d At.head Yu) fun D2 v g=>?_;obtain⟨rfl,i⟩:=g|refine qi (qnn i At.head z (q29 l) (q1v l).symm) fun A v g=>?_;obtain⟨rfl,q⟩:=g))
 all_goals exact⟨(a1,c1,A),⟨rfl,q⟩,Ent.refl⟩
abbrev lkP(t:Nat)(a:j9)(n c:Nat)(a2:j9)(d c2:Nat)(s:Int)(ld:Bool):Obj->Prop:=fun z=>z=Obj.cells #[j5 t, .slice a n c, .slice a2 d c2,uv s, .bool ld] 368 (0,0)
theorem qdw(i:RdE qv 1 W0 own a l)(hl:l.length<=1000000)(t:Nat):jn W0 295 [j5 t, .slice a l.length c] own fun v own'=>
  ∃s:Nat×j9×Nat×Own,(v= jp s.1/\qo qv 3 1 s.2.1 s.2.2.1 (q9I l) s.2.2.2)/\Ent W0 own' ((s.1,lkP t s.2.1 (q9I l).length s.2.2.1 none 0 0 0 false)::(s.2.2.2++own)):=by
 refine sH [] ?_;have g:=q9F (c:=c) i Yu
 repeat'((try conv=>whnf);first|(apply qe;first|refine qi g fun y v q=>?_;obtain⟨a1,c1,D1⟩:=y;obtain⟨rfl,d⟩:=q;dsimp only at d)|refine qf fun bk hbk=>?_)
 all_goals exact⟨(_,a1,c1,D1),⟨rfl,d⟩,Ent.refl⟩
theorem q49{n d:Nat}(g:Cl W0 own b 1 (.slice a n c))(i:Cl W0 own b 2 (.slice a2 d c2)):jo W0 271 [jp b] own (.bool (decide (d=n))):=by
 refine qg (sH (jq 12 3 [0]) ?_)
 repeat'((try conv=>whnf);first|refine q0m g ?_|refine q0m i ?_)
 all_goals exact⟨q0a (vb (by simp;omega)),(eC)⟩
theorem qjf(q:Cl W0 own b 2 (.slice a2 l2.length c2))(g:RdE q05 1 W0 own a2 l2)(hl:l2.length<=1000000):jn W0 322 [jp b] own fun v own'=>
  ∃s:j9×Nat×Own,(v= .slice s.1 l2.length s.2.1/\qo q05 72 1 s.1 s.2.1 l2 s.2.2)/\Ent W0 own' (s.2.2++own):=by
 refine sH [] ?_;have i:=qN (cap:=c2) g Yu
 repeat'((try conv=>whnf);first|refine q0m q ?_|apply qe;refine qi i fun y v u=>?_)
 all_goals(obtain⟨rfl,d⟩:=u;exact⟨y,⟨rfl,d⟩,Ent.refl⟩)
variable{t j:Nat}{s:Int}
theorem qjh(u:h.ok m.L)(q:RdE qv 1 W0 F a l)(i:l[l2.length]? =some (j:Int))(y:m.o[j]? =some w)(hw:okU w)(Q:Own) [eq:qr Q F]:
  jn W0 270 [jp b,jp h.mb] ((b,lkP t a l.length c a2 l2.length c2 s false)::(h.O m++Q)) fun r own'=>
   ∃_:Unit,r=(acL 2 j w).v/\Ent W0 own' ((b,lkP t a l.length c a2 l2.length c2 w (decide (q4R w<0)))::(h.O m++Q)):=by
 refine qE (sH (jq 12 3 (28::29::31::33::36::0::(jq 10 3 (24::25::27::30::0::(jq 8 3 (jq 11 27 (1::19::21::23::25::49::51::53::55::58::59::61::63::66::0::49::51::53::55::19::21::23::25::58::59::61::63::66::0::(jq 9 3 [22,24,25,27,30,0])))))))) ?_);have hlt:=(z7.1 i).1;have g:=fun own'=>q9v (W0:=W0) (own:=own') w hw
 have d:=fun(own':Own) (mm:qy b (lkP t a l.length c a2 l2.length c2 s false) own')=>q49 (W0:=W0) (own:=own') (qk mm rfl) (qk mm rfl)
 rw[show decide (l2.length=l.length)=false from decide_eq_false Yu] at d
 repeat'((try conv=>whnf);first|refine fE ?_|refine fD ?_|apply gLd;refine q0l q i rfl ?_|(apply qF;first|refine ixE q i ?_ ?_;(first|rfl|omega))|(apply qe;first|refine qd (d _ Yx) ?_|refine q0Z 1 j u Yv y ?_ ?_ ?_;exact rfl;exact rfl)|apply qC;refine q35 g ?_|refine fO ?_|refine fA ?_|refine fL ?_|refine fN ?_|refine fM ?_|refine qf fun bk hbk=>?_)
 all_goals exact⟨rfl,sbE⟩
theorem qji{u:Own}(B:h.ok m.L)(q:RdE qv 1 W0 F a l)(g:qo q05 72 1 a2 c2 l2 u)(i:l[l2.length]? =some (j:Int))(C:m.o[j]? =some w)(hs:0<=s/\s+17<=18446744073709551615)(ht:t<16)(hl2:l2.length<=1000000)(Q:Own) [eq:qr Q F]:
  jn W0 270 [jp b,jp h.mb] ((b,lkP t a l.length c a2 l2.length c2 s true)::(h.O m++(u++Q))) fun r own'=>
   ∃y:j9×Nat×Own,(r=(acW 2 j w (s+t+1) (decide (w=s))).v/\qo q05 72 1 y.1 y.2.1 (if w=s then l2++ [s] else l2) y.2.2)/\
    Ent W0 own' ((b,lkP t a l.length c y.1 (if w=s then l2++ [s] else l2).length y.2.1 s false)::(h.O {m with o:=if w=s then m.o.set j (s+t+1) else m.o}++(y.2.2++Q))):=by
 refine sH (jq 12 3 (28::29::31::33::36::0::(jq 10 3 (24::25::27::30::0::(jq 8 3 (jq 11 27 (1::19::21::23::25::49::51::53::55::58::59::61::63::66::0::49::51::53::55::19::21::23::25::58::59::61::63::66::0::(jq 9 3 [22,24,25,27,30,0])))))))) ?_;have hlt:=(z7.1 i).1;have d:=fun(own':Own) (mm:qy b (lkP t a l.length c a2 l2.length c2 s true) own')=>q49 (W0:=W0) (own:=own') (qk mm rfl) (qk mm rfl)
 rw[show decide (l2.length=l.length)=false from decide_eq_false Yu] at d
 by_cases he:w=s
 ·subst he;rw[if_pos rfl,if_pos rfl,show decide (w=w)=true from decide_eq_true rfl]
  repeat'((try conv=>whnf);first|refine fE ?_|refine fD ?_|refine qf fun H A=>?_|apply q0z (enc:=q05) (T:=72) w g;exact rfl;exact rfl;omega;exact rfl;exact rfl;omega;intro a3 I G z|apply gLd;refine q0l q i rfl ?_|(apply qF;first|refine ixE q i ?_ ?_;(first|rfl|omega))|(apply qe;first|refine qd (d _ Yx) ?_|refine qeq 1 j w (w+t+1) {m with o:=m.o.set j (w+t+1)} B Yv C (if_pos rfl).symm ?_ ?_ ?_;exact rfl;exact rfl;rw[show decide (w=w)=true from decide_eq_true rfl])|refine fC ?_|refine fO ?_|refine fA ?_|refine fL ?_|refine fN ?_|refine fM ?_|refine q1a.mk ?_ ?_)
  all_goals exact⟨(a3,I,G),⟨rfl,z⟩,by rw[z8];exact sbE⟩
 ·rw[if_neg he,if_neg he,show decide (w=s)=false from decide_eq_false he]
  repeat'((try conv=>whnf);first|refine fD ?_|apply gLd;refine q0l q i rfl ?_|(apply qF;first|refine ixE q i ?_ ?_;(first|rfl|omega))|(apply qe;first|refine qd (d _ Yx) ?_|refine qeq 1 j s (s+t+1) m B Yv C (if_neg he).symm ?_ ?_ ?_;exact rfl;exact rfl;rw[show decide (w=s)=false from decide_eq_false he])|refine fC ?_|refine fO ?_|refine fA ?_|refine fL ?_|refine fN ?_|refine fM ?_|refine qf fun H A=>?_|refine q1a.mk ?_ ?_)
  all_goals exact⟨(a2,c2,u),⟨rfl,g⟩,sbE⟩
abbrev stP(cap:Int)(a:j9)(n c:Nat):Obj->Prop:=fun z=>z=Obj.cells #[j5 cap, .slice a n c] 364 (0,0)
variable{cap:Int}{D:Own}
theorem qgC(cap:Int)(hc:0<=cap/\cap<=32)(Q:Own):jn W0 299 [j5 cap] Q fun v own'=>∃b:Nat,v= jp b/\Ent W0 own' ((b,stP cap none 0 0)::Q):=by
 refine sH [] ?_
 repeat'((try conv=>whnf);first|refine qf fun bk hbk=>?_|refine q7f ?_|refine qkG ?_)
 all_goals(rw[show max 0 (min cap 32)=cap by omega];exact⟨_,rfl,Ent.refl⟩)
theorem qgL(d:Cl W0 own b 1 (.slice a l.length c))(g:RdE qv 1 W0 own a l)(hl:l.length<=1000000)(o:Int):jo W0 320 [jp b,j5 o] own (.bool (decide (o∈l))):=by
 refine qg (sH [] ?_);have i:=q0B (cap:=c) g Yu o
 repeat'((try conv=>whnf);first|refine q0m d ?_|apply qe;refine qd (i) ?_|refine fH ?_)
 all_goals exact⟨rfl,(eC)⟩
theorem qdE(i:Cl W0 own b 1 (.slice a l.length c))(q:RdE qv 1 W0 own a l)(hl:l.length<=1000000):jn W0 276 [jp b] own fun v own'=>
  ∃s:j9×Nat×Own,(v= .slice s.1 l.length s.2.1/\qo qv 3 1 s.1 s.2.1 l s.2.2)/\Ent W0 own' (s.2.2++own):=by
 refine sH [] ?_;have g:=qL (cap:=c) q Yu
 repeat'((try conv=>whnf);first|refine q0m i ?_|apply qe;refine qi g fun y v u=>?_|refine fD ?_)
 all_goals(obtain⟨rfl,d⟩:=u;exact⟨y,⟨rfl,d⟩,Ent.refl⟩)
theorem qgK(i:qo qv 3 1 a c l D)(B:l.length<=1000000)(o:Int)(Q:Own):
  jn W0 264 [jp b,j5 o] ((b,stP cap a l.length c)::(D++Q)) fun v own'=>
   ∃y:j9×Nat×Own,(v= .bool (q6D cap l o).isSome/\qo qv 3 1 y.1 y.2.1 ((q6D cap l o).getD l) y.2.2)/\Ent W0 own' ((b,stP cap y.1 ((q6D cap l o).getD l).length y.2.1)::(y.2.2++Q)):=by
 refine sH (jq 11 3 [0]) ?_;have d:=qgL (W0:=W0) (own:=(b,stP cap a l.length c)::(D++Q)) (q0O (cs:= #[j5 cap, .slice a l.length c]) (T:=364) (fz:=(0,0)) zj rfl) ((i.rd (W0:=W0)).up) B o;unfold q6D
 by_cases g:o∈l
 ·rw[if_pos g];rw[decide_eq_true g] at d
  repeat'((try conv=>whnf);first|refine fE ?_|refine fD ?_|apply qe;refine qd (d) ?_)
  all_goals exact⟨(a,c,D),⟨rfl,i⟩,Ent.refl⟩
 ·rw[if_neg g];rw[decide_eq_false g] at d
  by_cases A:(l.length:Int)>=cap
  ·rw[if_pos A]
   repeat'((try conv=>whnf);first|refine fD ?_|refine fF ?_|apply qe;refine qd (d) ?_|refine fA ?_)
   all_goals exact⟨(a,c,D),⟨rfl,i⟩,Ent.refl⟩
  ·rw[if_neg A]
   repeat'((try conv=>whnf);first|refine fD ?_|refine fG ?_|refine qf fun bk hbk=>?_|apply q0z (enc:=qv) (T:=3) o i;exact rfl;exact rfl;omega;exact rfl;exact rfl;omega;intro a3 z u q|apply qe;refine qd (d) ?_|refine fA ?_|refine fN ?_)
   all_goals exact⟨(a3,z,u),⟨rfl,q⟩,by show Ent W0 _ ((b,stP cap a3 (l++ [o]).length z)::(u++Q));rw[z8];exact sbE⟩
end
open Go
theorem qmz{P:Nat}{a:Int}(ha:0<=a):(a % (P:Int)*5) % (P:Int)=(hmP P a:Int):=by
 obtain⟨n,rfl⟩:∃n:Nat,a=n:=⟨a.toNat,Yu⟩
 unfold hmP;rw[zD,<-Int.natCast_emod];have:((n % P:Nat):Int)*5=((n % P*5:Nat):Int):=by rw[Yd];rfl
 rw[this,<-Int.natCast_emod]
theorem qfC{P h d:Nat}:(((h+d) % P:Nat)+1:Int) % (P:Int)=(((h+(d+1)) % P:Nat):Int):=by
 have e:(((h+d) % P:Nat)+1:Int)=(((h+d) % P+1:Nat):Int):=Yu;rw[e,<-Int.natCast_emod,Nat.mod_add_mod,yu]
theorem qmQ(i:Nat)(l:je)(d:i<l.length):(List.replicate i (-1)++l.drop i).set i (-1)=List.replicate (i+1) (-1)++l.drop (i+1):=by
 rw[ZS _ _ Yw,zO,yd,ZG d,Yq,Y7,zd];rfl
section
variable{W0:World}{own:Own}{b ib P:Nat}{cap:Int}
abbrev lgP(cap:Int)(a:j9)(n c:Nat)(a2:j9)(d c2:Nat)(ib P:Nat):Obj->Prop:=fun z=>z=Obj.cells #[j5 cap, .slice a n c, .slice a2 d c2, .slice (some ⟨ib,0,none⟩) P P] 324 (0,0)
theorem qj5{ix:je}(hix:ix.length=P)(hP:P<=1000000)(Q:Own):jn W0 324 [jp b] ((b,lgP cap none 0 0 none 0 0 ib P)::(q0U qv 3 ib ix::Q)) fun v own'=>
  ∃_:Unit,v= .tuple #[]/\Ent W0 own' ((b,lgP cap none 0 0 none 0 0 ib P)::(q0U qv 3 ib (List.replicate P (-1))::Q)):=by
 refine qE (sH [] ?_)
 repeat'((try conv=>whnf);first|refine fD ?_|refine fA ?_|refine fN ?_)
 refine qK (σ:=Nat) (fun i=> [(16,j5 i)]) (fun i=>(b,lgP cap none 0 0 none 0 0 ib P)::(q0U qv 3 ib (List.replicate i (-1)++ix.drop i)::Q)) (fun i=>i<=P) (fun i=>P-i) 0 (zv _) (eF) (by rw[yM,zk,List.drop_zero];exact Ent.refl) rfl ?_;rintro i junk hi;have hw:∀x∈(List.replicate i (-1)++ix.drop i:je),(qv x).length=1:=fun _ _=>rfl
 by_cases q:i<P
 ·have u:(List.replicate i (-1)++ix.drop i:je)[i]? =some (ix[i]' Yu):=by
   rw[zT Yw,zO,yd,yo,ZV,z6]
  have d:(i:Int)<P:=Yu;have g:P=(List.replicate i (-1)++ix.drop i:je).length:=by simp;omega
  repeat'((try conv=>whnf);first|refine fF ?_|(apply qF;first|refine ixC u g ?_ ?_;(first|rfl|omega))|((with_reducible show StT _ _ _ _ _);first|refine stC (T:=3) (k:=0) (-1) hw u ?_ ?_ ?_ ?_ ?_;exact rfl;omega;exact rfl;exact rfl)|refine fB ?_|refine fA ?_)
  refine⟨i+1,q,Yu,(eF),?_⟩;rw[<-qmQ i ix Yu];exact sbE
 ·have d:¬(i:Int)<P:=Yu
  repeat'((try conv=>whnf);first|refine fG ?_)
  obtain rfl:i=P:=Yu;refine⟨rfl,?_⟩;rw[Zs Yu,zz];exact Ent.refl
theorem qgB(cap:Int)(hc:1<=cap/\cap<=32)(Q:Own):jn W0 300 [j5 cap] Q fun v own'=>
  ∃s:Nat×Nat×Nat,(v= jp s.1/\LI s.2.2 (List.replicate s.2.2 (-1)) []/\2*cap<=s.2.2/\s.2.2<=200)/\Ent W0 own' ((s.1,lgP cap none 0 0 none 0 0 s.2.1 s.2.2)::(q0U qv 3 s.2.1 (List.replicate s.2.2 (-1))::Q)):=by
 refine sH [] ?_;have d:max 0 (min cap 32)=cap:=Yu
 repeat'((try conv=>whnf);first|refine qf fun b0 hb0=>?_|refine q7f ?_|refine qkG ?_)
 refine qK (σ:=Nat) (fun p=> [(4,j5 p)]) (fun _=>(b0,fun z=>z=Obj.cells #[j5 cap,j7,j7,j7] 324 (0,0))::Q) (fun p=>1<=p/\(p:Int)<=4*cap+1) (fun p=>(2*cap-p).toNat) 1 ⟨Yu,Yu⟩ (eF) (by rw[d];exact Ent.refl) rfl ?_;rintro p junk ⟨hp1,hp2⟩
 by_cases hlt:(p:Int)<2*cap
 ·repeat'((try conv=>whnf);first|refine fF ?_|refine fB ?_|refine fA ?_)
  exact⟨p*2,⟨Yu,Yu⟩,Yu,(eF),Ent.refl⟩
 ·repeat'((try conv=>whnf);first|refine fG ?_|refine mkC (enc:=qv) p 0 rfl rfl rfl Yu fun g=>?_|(apply qe;first|refine ql (qj5 (b:=b0) (ib:=g) (P:=p) (cap:=cap) (ix:=List.replicate p 0) zO Yu Q) sbE ?_ ?_ fun _ v i=>?_;exact rfl;exact rfl;subst i)|refine fB ?_|refine fA ?_|refine fN ?_)
  exact⟨(b0,_,p),⟨rfl,LI.new (show 0<p by omega),(by show 2*cap<=(p:Int);omega),(by show p<=200;omega)⟩,Ent.refl⟩
theorem qjn{ix ad:je}{aa:j9}{ca:Nat}{a:Int}{D:Nat}(u:LI P ix ad)(N:Cl W0 own b 1 (.slice aa ad.length ca))(C:Cl W0 own b 3 (.slice (some ⟨ib,0,none⟩) P P))(G:RdE qv 1 W0 own aa ad)(H:RdE qv 1 W0 own (some ⟨ib,0,none⟩) ix)(hP:P<=1000000)(O:0<=a/\a<=9223372036854775807)
  (R:qdS P ix ad a D) (hd:∀e,e<D->∃v,ix[(hmP P a+e) % P]? =some v/\0<=v/\ad[v.toNat]? ≠some a):
  jo W0 296 [jp b,j5 a] own (j5 ((hmP P a+D) % P:Nat)):=by
 refine qg (sH (jq 15 3 (0::(jq 25 3 [0]))) ?_);have B:=u.p0;have hm1:=Yf a (show(P:Int)≠0 by omega);have hm2:=yR a (show(0:Int)<P by omega);have J:=qmz (P:=P) O.1;have K:hmP P a<P:=ye _ B
 repeat'((try conv=>whnf);first|refine q0m C ?_|refine q3Z ?_ ?_;omega|refine fB ?_)
 refine q1o (σ:=Nat) (fun d=> [(5,j5 ((hmP P a+d) % P:Nat))]) (fun d=>d<=D) (fun d=>D-d) 0 (zv _) ⟨vi (J.trans (by rw[ZV,Nat.mod_eq_of_lt K])),True.intro⟩ rfl ?_;rintro d junk hdD;have hkP:(hmP P a+d) % P<P:=ye _ B
 by_cases A:d<D
 ·obtain⟨v,i,g,L⟩:=hd d A
  rcases u.rng _ v i with e|⟨-,hvl⟩
  ·omega
  obtain⟨y,q⟩:∃y,ad[v.toNat]? =some y:=⟨_,z6 Yu⟩
  have hya:y≠a:=fun e=>L (by rw[q,e])
  have z:v>=0:=g;have M:=qfC (P:=P) (h:=hmP P a) (d:=d);have I:=u.len
  repeat'((try conv=>whnf);first|refine fH ?_|refine fF ?_|refine fJ ?_|refine q0m C ?_|refine q0m N ?_|refine q3Z ?_ ?_;omega|(apply gLd;first|refine q0l H i rfl ?_|refine q0l G q rfl ?_)|(apply qF;first|refine ixE G q ?_ ?_;(first|rfl|omega))|refine fB ?_|refine q94 ?_ ?_;omega)
  exact⟨d+1,A,Yu,⟨vi M,True.intro⟩,Ent.refl⟩
 ·obtain rfl:d=D:=Yu;obtain⟨v,i⟩:=u.at (hmP P a+d);have I:=u.len
  by_cases g:0<=v
  ·have q:ad[v.toNat]? =some a:=(R v i).resolve_left Yu;have z:v>=0:=g;have hna:¬(a≠a):=fun e=>e rfl
   repeat'((try conv=>whnf);first|refine fH ?_|refine fG ?_|refine fJ ?_|refine q0m C ?_|refine q0m N ?_|(apply gLd;first|refine q0l H i rfl ?_|refine q0l G q rfl ?_)|(apply qF;first|refine ixE G q ?_ ?_;(first|rfl|omega))|refine q94 ?_ ?_;omega)
   all_goals exact⟨rfl,(eC)⟩
  ·have z:¬v>=0:=g
   repeat'((try conv=>whnf);first|refine fI ?_|refine fD ?_|refine fK ?_|refine q0m C ?_|apply gLd;refine q0l H i rfl ?_|refine q94 ?_ ?_;omega)
   all_goals exact⟨rfl,(eC)⟩
variable{ix ad vl:je}{aa va:j9}{ca cv:Nat}{a:Int}
theorem qfc{n:Nat}(g:ad.idxOf? a=some n):ad[n]? =some a:=by
 obtain⟨d,hb, -⟩:=Z6.1 g;rw[z6 d]
 simpa using hb
theorem qpJ(g:ad.idxOf? a=none):a∉ad:=fun h=>by
 have d:=Zl.1 g a h;simp at d
theorem RdE.mem{l:je}{T:TypeId}{b:Nat} [m:qy b (j8 (l.map qv).flatten.toArray T) own]:RdE qv 1 W0 own (some ⟨b,0,none⟩) l:=q1V m.h (fun _ _=>rfl) (by rw[zU])
theorem q9B(d:LI P ix ad)(z:Cl W0 own b 1 (.slice aa ad.length ca))(A:Cl W0 own b 3 (.slice (some ⟨ib,0,none⟩) P P))(B:RdE qv 1 W0 own aa ad)(G:RdE qv 1 W0 own (some ⟨ib,0,none⟩) ix)(C:P<=1000000)(H:0<=a/\a<=9223372036854775807):
  ∃k v,k<P/\(∀own':Own,Ent W0 own' own->jo W0 296 [jp b,j5 a] own' (j5 (k:Nat)))/\ix[k]? =some v/\(match ad.idxOf? a with
   |some n=>v=n
   |none=>v= -1)/\(a∉ad->ad.length+1<P->LI P (ix.set k ad.length) (ad++ [a])):=by
 obtain⟨D,i,g⟩:=d.find a;obtain⟨v,u,hm⟩:=d.found i g;refine⟨_,v,ye _ d.p0,fun own' e=>qjn d (z.ent e) (A.ent e) (B.ent e) (G.ent e) C H i g,u,hm,fun q I=>?_⟩;refine d.put ?_ g q I;rw[u];cases y:ad.idxOf? a with
 |none=>rw[y] at hm;rw[hm]
 |some n=>exact absurd (zg (qfc y)) q
theorem qqs(B:LI P ix ad)(G:Cl W0 own b 1 (.slice aa ad.length ca))(H:Cl W0 own b 2 (.slice va vl.length cv))(u:Cl W0 own b 3 (.slice (some ⟨ib,0,none⟩) P P))(I:RdE qv 1 W0 own aa ad)(C:RdE q05 1 W0 own va vl)(d:RdE qv 1 W0 own (some ⟨ib,0,none⟩) ix)(J:P<=1000000)(K:0<=a/\a<=9223372036854775807)(hl:vl.length=ad.length):
  jo W0 229 [jp b,j5 a] own (.tuple #[uv ((q54 ad vl a).getD 0), .bool (q54 ad vl a).isSome]):=by
 refine qg (sH (jq 10 3 [0]) ?_);obtain⟨k,v,hk,i,q,hm, -⟩:=q9B B G u I d J K;have g:=B.len;unfold q54;cases z:ad.idxOf? a with
 |none=>
  rw[z] at hm;subst hm
  repeat'((try conv=>whnf);first|refine fH ?_|refine fE ?_|refine fG ?_|refine q0m u ?_|(with_reducible show IxS _ _ _ P _);rw[<-g];refine ixE d q ?_ ?_;rfl|apply gLd;refine q0l d q rfl ?_|apply qC;refine qj (fun ex=>i _ Ent.right) ?_)
  all_goals exact⟨rfl,(eC)⟩
 |some n=>
  rw[z] at hm;subst hm;have hnl:=(z7.1 (qfc z)).1;obtain⟨y,A⟩:∃y,vl[n]? =some y:=⟨_,z6 Yu⟩
  dsimp only;rw[A]
  repeat'((try conv=>whnf);first|refine fH ?_|refine fD ?_|refine fG ?_|refine q0m u ?_|refine q0m H ?_|(with_reducible show IxS _ _ _ P _);rw[<-g];refine ixE d q ?_ ?_;rfl|(apply gLd;first|refine q0l d q rfl ?_|refine q0l C A rfl ?_)|(apply qF;first|refine ixE C A ?_ ?_;(first|rfl|omega))|apply qC;refine qj (fun ex=>i _ Ent.right) ?_)
  all_goals exact⟨rfl,(eC)⟩
theorem qjd{n:Nat}(d:Cl W0 own b 1 (.slice aa n ca)):jo W0 169 [jp b] own (j5 n):=by
 refine qg (sH [] ?_)
 repeat'((try conv=>whnf);first|refine q0m d ?_|refine fD ?_)
 all_goals exact⟨rfl,(eC)⟩
theorem q4C(i:Cl W0 own b 1 (.slice aa ad.length ca))(q:RdE qv 1 W0 own aa ad)(hl:ad.length<=1000000):jn W0 217 [jp b] own fun v own'=>
  ∃s:j9×Nat×Own,(v= .slice s.1 ad.length s.2.1/\qo qv 3 1 s.1 s.2.1 ad s.2.2)/\Ent W0 own' (s.2.2++own):=by
 refine sH [] ?_;have g:=qL (cap:=ca) q Yu
 repeat'((try conv=>whnf);first|refine q0m i ?_|apply qe;refine qi g fun y v u=>?_|refine fD ?_)
 all_goals(obtain⟨rfl,d⟩:=u;exact⟨y,⟨rfl,d⟩,Ent.refl⟩)
theorem qgx(i:Cl W0 own b 2 (.slice va vl.length cv))(q:RdE q05 1 W0 own va vl)(hl:vl.length<=1000000):jn W0 283 [jp b] own fun v own'=>
  ∃s:j9×Nat×Own,(v= .slice s.1 vl.length s.2.1/\qo q05 72 1 s.1 s.2.1 vl s.2.2)/\Ent W0 own' (s.2.2++own):=by
 refine sH [] ?_;have g:=qN (cap:=cv) q Yu
 repeat'((try conv=>whnf);first|refine q0m i ?_|apply qe;refine qi g fun y v u=>?_|refine fD ?_)
 all_goals(obtain⟨rfl,d⟩:=u;exact⟨y,⟨rfl,d⟩,Ent.refl⟩)
structure LH where
 b:Nat
 aa:j9
 ca:Nat
 aD:Own
 va:j9
 cv:Nat
 vD:Own
 ib:Nat
 P:Nat
 ix:je
abbrev LH.O(g:LH)(cap:Int)(ad vl:je)(Q:Own):Own:=(g.b,lgP cap g.aa ad.length g.ca g.va vl.length g.cv g.ib g.P)::(q0U qv 3 g.ib g.ix::(g.aD++(g.vD++Q)))
structure LH.ok(g:LH)(cap:Int)(ad vl:je):Prop where
 hA:qo qv 3 1 g.aa g.ca ad g.aD
 hV:qo q05 72 1 g.va g.cv vl g.vD
 hI:LI g.P g.ix ad
 hP:2*cap<=g.P/\g.P<=200
 hc:1<=cap
 hl:vl.length=ad.length
 hm:(ad.length:Int)<=cap
theorem qqx{g:LH}{cap v:Int}(d:g.ok cap ad vl)(ha:0<=a/\a<=9223372036854775807)(Q:Own):
  jn W0 298 [jp g.b,j5 a,uv v] (g.O cap ad vl Q) fun r own'=>
   ∃g':LH,(r= .bool (q5Y cap ad vl a v).isSome/\g'.b=g.b/\g'.ok cap ((q5Y cap ad vl a v).getD (ad,vl)).1 ((q5Y cap ad vl a v).getD (ad,vl)).2)/\Ent W0 own' (g'.O cap ((q5Y cap ad vl a v).getD (ad,vl)).1 ((q5Y cap ad vl a v).getD (ad,vl)).2 Q):=by
 refine sH (jq 13 3 (30::0::(jq 11 3 (0::(jq 11 3 (26::0::(jq 7 3 [21,23,25,29,1,18,1,20,27,32,34,35,37,40,41,43,46,0,1,27,1,20,32,34,35,37,40,41,43,46,0,32,20,34,35,37,40,41,43,46,0,32,1,20,27,34,35,37,40,41,43,46,0,27,20,34,35,37,40,41,43,46,0,1,27,1,18,1,20,32,34,35,37,40,41,43,46,0,32,20,34,35,37,40,41,43,46,0,32,18,20,34,35,37,40,41,43,46,0,32,1,18,1,20,27,34,35,37,40,41,43,46,0,27,20,34,35,37,40,41,43,46,0,27,18,20,34,35,37,40,41,43,46,0]))))))) ?_;have B:(g.b,lgP cap g.aa ad.length g.ca g.va vl.length g.cv g.ib g.P)∈g.O cap ad vl Q:=zj;have I:RdE qv 1 W0 (g.O cap ad vl Q) g.aa ad:=(d.hA.rd (W0:=W0)).up;have Z:RdE qv 1 W0 (g.O cap ad vl Q) (some ⟨g.ib,0,none⟩) g.ix:=RdE.mem (T:=3);have u:=d.hI.len;have Y:=d.hP;have O:=d.hm;have G:=d.hl;have N:=d.hc;obtain⟨k,q,hk,z,A,hm,C⟩:=q9B d.hI (q0O (cs:= #[j5 cap, .slice g.aa ad.length g.ca, .slice g.va vl.length g.cv, .slice (some ⟨g.ib,0,none⟩) g.P g.P]) B rfl) (q0O (cs:= #[j5 cap, .slice g.aa ad.length g.ca, .slice g.va vl.length g.cv, .slice (some ⟨g.ib,0,none⟩) g.P g.P]) B rfl) I Z Yu ha;have hw:∀x∈g.ix,(qv x).length=1:=fun _ _=>rfl
 unfold q5Y;cases H:ad.idxOf? a with
 |some n=>
  rw[H] at hm;subst hm;have hnl:=(z7.1 (qfc H)).1;obtain⟨y,S⟩:∃y,vl[n]? =some y:=⟨_,z6 Yu⟩
  have K:RdE q05 1 W0 (g.O cap ad vl Q) g.va vl:=(d.hV.rd (W0:=W0)).up;dsimp only[Option.getD_some,Option.isSome_some]
  repeat'((try conv=>whnf);first|refine fH ?_|refine fE ?_|refine fG ?_|refine q4b (enc:=q05) (T:=72) (k:=0) v d.hV S ?_ ?_ ?_ ?_ fun R hb=>?_;exact rfl;omega;exact rfl;exact rfl|apply gLd;refine qd9 hw A rfl ?_|(apply qF;first|refine ixC A u.symm ?_ ?_;(first|rfl|omega)|refine ixE K S ?_ ?_;(first|rfl|omega))|apply qe;refine qd (z _ Ent.refl) ?_|refine fA ?_)
  all_goals exact⟨{g with vD:=R},⟨rfl,rfl,⟨d.hA,(by show qo q05 _ 1 g.va g.cv (vl.set n v) R;exact hb),d.hI,d.hP,d.hc,by rw[zn];exact G,O⟩⟩,by show Ent W0 _ ((g.b,lgP cap g.aa ad.length g.ca g.va (vl.set n v).length g.cv g.ib g.P)::_);rw[zn];exact sbE⟩
 |none=>
  rw[H] at hm;subst hm;dsimp only
  by_cases i:(ad.length:Int)=cap
  ·rw[if_pos i]
   repeat'((try conv=>whnf);first|refine fH ?_|refine fD ?_|refine fF ?_|refine fG ?_|apply gLd;refine qd9 hw A rfl ?_|(apply qF;first|refine ixC A u.symm ?_ ?_;(first|rfl|omega))|apply qe;refine qd (z _ Ent.refl) ?_|refine fA ?_)
   all_goals exact⟨g,⟨rfl,rfl,d⟩,Ent.refl⟩
  ·rw[if_neg i]
   repeat'((try conv=>whnf);first|refine fH ?_|refine fD ?_|refine fG ?_|refine qf fun bk hbk=>?_|apply q0z (enc:=qv) (T:=3) a d.hA;exact rfl;exact rfl;omega;exact rfl;exact rfl;omega;intro a3 W U L|apply q0z (enc:=q05) (T:=72) v d.hV;exact rfl;exact rfl;omega;exact rfl;exact rfl;omega;intro a4 X V M|apply gLd;refine qd9 hw A rfl ?_|(apply qF;first|refine ixC A u.symm ?_ ?_;(first|rfl|omega))|apply qe;refine qd (z _ Ent.refl) ?_|((with_reducible show StT _ _ _ _ _);first|refine stC (T:=3) (k:=0) ((ad.length:Int)) hw A ?_ ?_ ?_ ?_ ?_;exact rfl;omega;exact rfl;exact rfl)|refine fA ?_|refine fN ?_|refine q1a.mk ?_ ?_)
   all_goals
    have J:=C (qpJ H) Yu;refine⟨⟨g.b,a3,W,U,a4,X,V,g.ib,g.P,g.ix.set k ad.length⟩,⟨rfl,rfl,⟨L,M,J,Y,N,by simp[G],by simp;omega⟩⟩,?_⟩;dsimp only[Option.getD_some,LH.O];rw[z8,z8];exact sbE
end
open Go
def AP.no:AP->Int
 | .idle=>0
 | .loc _=>1
 | .ent _=>2
 | .rd .. =>3
 | .lk .. =>5
 | .tn _=>6
 | .ck _=>7
 | .dc=>8
 | .wr .. =>9
 | .rl .. =>10
 | .sp=>11
 | .ps=>12
 | .lv=>14
abbrev ptr(b:Nat):Value:= jp b
structure AH where
 b:Nat
 sb:Nat
 sa:j9
 sc:Nat
 sD:Own
 g:LH
 na:j9
 nc:Nat
 nD:Own
 oa:j9
 oc:Nat
 oD:Own
 eb:Nat
 rd:Value
 ld:Int
 lk:Value
 tn:Value
 ck:Value
 wr:Value
 rl:Value
 th:Value
 us:Value
abbrev atP(c:Cfg)(t:Nat)(h:AH)(x:AT)(k:Int):Obj->Prop:=fun z=>z=Obj.cells #[ptr h.sb,ptr h.g.b, .slice h.na x.seen.length h.nc,j7,j7,ptr h.eb,h.rd,j5 h.ld, .pointer none,h.lk,h.tn,h.ck,h.wr,h.rl, .pointer none,
 j5 c.words,j5 c.orecs,j5 c.base,j5 c.c0,j5 c.c1,j5 c.c2,j5 c.c3,j5 c.reads,j5 c.writes,j5 c.allocs,j5 c.frees,j5 c.clock, .bool c.strong,
 j5 t,j5 x.st,j5 x.code,j5 k,h.th,h.us,j5 x.addr,uv x.val, .slice h.oa x.oc.length h.oc,uv x.ck, .bool x.dn,j5 0] 211 (0,0)
abbrev AH.R(h:AH)(c:Cfg)(t:Nat)(x:AT)(e:Nat)(Q:Own):Own:=(h.sb,stP c.reads h.sa x.set.length h.sc)::((h.eb,enP t e x.rv)::(h.sD++(h.nD++(h.oD++h.g.O c.writes x.ad x.vl Q))))
abbrev AH.O(h:AH)(c:Cfg)(t:Nat)(x:AT)(k:Int)(e:Nat)(Q:Own):Own:=(h.b,atP c t h x k)::h.R c t x e Q
structure AH.ok(h:AH)(c:Cfg)(x:AT):Prop where
 hs:qo qv 3 1 h.sa h.sc x.set h.sD
 hn:qo qv 3 1 h.na h.nc x.seen h.nD
 ho:qo qv 3 1 h.oa h.oc x.oc h.oD
 hg:h.g.ok c.writes x.ad x.vl
 ls:x.set.length<=100000
 ln:x.seen.length<=100000
 lo:x.oc.length<=100000
 rv:0<=x.rv/\x.rv<=1099511627776
 wr:c.writes<=32
section
variable{W0:World}{own Q:Own}{c:Cfg}{t:Nat}{h:AH}{x:AT}{k:Int}{b e:Nat}
theorem qgc(d:Cl W0 own b 31 (j5 k)):jo W0 118 [ptr b] own (.bool (decide (k≠0))):=by
 refine qg (sH [] ?_)
 repeat'((try conv=>whnf);first|refine q0m d ?_)
 all_goals exact⟨rfl,(eC)⟩
theorem q8q(d:Cl W0 own b 30 (j5 k)):jo W0 90 [ptr b] own (j5 k):=by
 refine qg (sH [] ?_)
 repeat'((try conv=>whnf);first|refine q0m d ?_)
 all_goals exact⟨rfl,(eC)⟩
theorem q9o(d:Cl W0 own b 29 (j5 k)):jo W0 218 [ptr b] own (j5 k):=by
 refine qg (sH [] ?_)
 repeat'((try conv=>whnf);first|refine q0m d ?_)
 all_goals exact⟨rfl,(eC)⟩
theorem qgb(d:Cl W0 own b 35 (uv k)):jo W0 291 [ptr b] own (uv k):=by
 refine qg (sH [] ?_)
 repeat'((try conv=>whnf);first|refine q0m d ?_)
 all_goals exact⟨rfl,(eC)⟩
theorem q0P{d:Bool}(g:Cl W0 own b 38 (.bool d)):jo W0 85 [ptr b] own (.bool d):=by
 refine qg (sH [] ?_)
 repeat'((try conv=>whnf);first|refine q0m g ?_)
 all_goals exact⟨rfl,(eC)⟩
theorem q7p{w a:Int}(d:Cl W0 own b 15 (j5 w))(hw:0<=w/\w<=1099511627776):jo W0 226 [ptr b,uv a] own (.bool (decide (a>=w))):=by
 refine qg (sH [] ?_)
 repeat'((try conv=>whnf);first|refine q0m d ?_|refine fC ?_)
 all_goals exact⟨rfl,(eC)⟩
theorem q5m{s:Int}(d:Cl W0 own b 29 (j5 s))(g:Cl W0 own b 31 (j5 0)):jo W0 222 [ptr b,j5 s] own (j5 0):=by
 refine qg (sH [] ?_);have hb:=qgc g;rw[show decide ((0:Int)≠0)=false by simp] at hb
 repeat'((try conv=>whnf);first|refine fH ?_|refine fG ?_|refine q0m d ?_|apply qe;refine qd (hb) ?_)
 all_goals exact⟨rfl,(eC)⟩
theorem q4a{b2 n c2:Nat}{a2:j9}(d:Cl W0 own b 30 (j5 k))(q:Cl W0 own b 1 (ptr b2))(u:Cl W0 own b2 1 (.slice a2 n c2)):jo W0 123 [ptr b] own (.bool (decide (k=1/\n≠0))):=by
 refine qg (sH [] ?_);have g:=qjd u
 by_cases i:k=1
 ·repeat'((try conv=>whnf);first|refine fH ?_|refine fJ ?_|refine q0m d ?_|refine q0m q ?_|apply qe;refine qd (g) ?_)
  all_goals exact⟨q0a (vb (by by_cases y:n=0 <;>simp[i,y] <;>omega)),(eC)⟩
 ·repeat'((try conv=>whnf);first|refine fI ?_|refine fK ?_|refine q0m d ?_)
  all_goals exact⟨q0a (vb (by simp[i])),(eC)⟩
theorem qcn{b2:Nat}{n cc:Int}(g:Cl W0 own b 5 (ptr b2))(i:Cl W0 own b2 1 (j5 n))(q:Cl W0 own b2 2 (uv cc))(hb:0<=cc/\cc<=1099511627776)(hn2:1<n):jo W0 277 [ptr b] own (j5 cc):=by
 refine qg (sH [] ?_);have d:=q4E i q hb;rw[if_neg Yu] at d
 repeat'((try conv=>whnf);first|refine fD ?_|refine q0m g ?_|apply qe;refine qd (d) ?_)
 all_goals exact⟨rfl,(eC)⟩
theorem q9s(Q:Own):jn W0 214 [ptr h.b] ((h.b,atP c t h x k)::Q) fun v own'=>∃_:Unit,v= .tuple #[]/\Ent W0 own' ((h.b,atP c t h x 14)::Q):=by
 refine qE (sH (jq 18 3 (0::(jq 12 3 [0]))) ?_)
 repeat'((try conv=>whnf);first|refine fH ?_|refine fI ?_|refine fE ?_|refine fA ?_|refine fN ?_|apply q4J;exact rfl;exact rfl;all_goals intro hc)
 all_goals exact⟨rfl,sbE⟩
theorem q6r(d:Int)(Q:Own):jn W0 263 [ptr h.b,j5 d] ((h.b,atP c t h x k)::Q) fun v own'=>∃_:Unit,v= .tuple #[]/\Ent W0 own' ((h.b,atP c t h {x with code:=d} 14)::Q):=by
 refine qE (sH [] ?_)
 repeat'((try conv=>whnf);first|(apply qe;first|refine ql (q9s (h:=h) (c:=c) (t:=t) (x:={x with code:=d}) (k:=k) _) sbE ?_ ?_ fun _ v g=>?_;exact rfl;exact rfl;subst g)|refine fN ?_)
 all_goals exact⟨rfl,sbE⟩
theorem q3g(g:FuncId)(cs:jh)(Q:Own):jn W0 223 [ptr h.b, .func (.func g) #[] cs] ((h.b,atP c t h x k)::Q) fun v own'=>∃_:Unit,v= .tuple #[]/\Ent W0 own' ((h.b,atP c t {h with th:= .func (.func g) #[] cs} x 1)::Q):=by
 refine qE (sH [] ?_)
 repeat'((try conv=>whnf);first|refine fN ?_)
 all_goals exact⟨rfl,sbE⟩
end
open Go Go.Lib
theorem q8t(l:je):(q9I l).Pairwise (· < ·)/\(∀x,x∈q9I l↔x∈l)/\(q9I l).length<=l.length:=by
 have h:=q36 (d:=(srt l).toArray) (by rw[zU];exact q29 l) (srt l).length Yw;refine⟨h.1,fun x=>((h.2.1 x).trans ?_).trans qaT,Zc h.2.2 (Nat.le_of_eq (q1v l))⟩;constructor
 ·rintro⟨j,g,rfl⟩;rw[getElem!_pos _ j (by simpa using g),yH];exact ZO _
 ·intro i;obtain⟨j,g,e⟩:=ZZ i;exact⟨j,g,by rw[getElem!_pos _ j (by simpa using g),yH];exact e⟩
theorem qh2{l:je}(h:l.Pairwise (· < ·)):q9I l=l:=by
 have g:(l.mergeSort fun x y=>decide (x<=y))=l:=List.mergeSort_of_pairwise (h.imp fun h=>by simpa using Int.le_of_lt h);unfold q9I;rw[g];refine compact_all l fun j d=>?_
 cases j with
 |zero=>rfl
 |succ j=>
  refine keeps_pos ?_;rw[getElem!_pos _ (j+1) (by simpa using d),getElem!_pos _ (j+1-1) (by simp;omega),yH,yH];have:=Zr.1 h j (j+1) Yu d Yu;simp only[Nat.add_sub_cancel];omega
theorem q9J(l:je):q9I (q9I l)=q9I l:=qh2 (q8t l).1
open Go
abbrev q71(v:Value)(T:TypeId):Obj->Prop:=fun z=>z=Obj.cells #[v] T (0,0)
abbrev abP(b:Nat):Obj->Prop:=q71 (ptr b) 142
abbrev fnv(g:FuncId)(cs:jf):Value:= .func (.func g) #[] cs.toArray
structure LkO(t:Nat)(h:AH)(x:AT)(s:Int)(ld:Bool)(E:Own):Prop where
 h:∃(kb:Nat) (la:j9) (lc:Nat) (lD:Own) (oa:j9) (oc:Nat) (oD:Own),h.lk=ptr kb/\qo qv 3 1 la lc x.oc lD/\qo q05 72 1 oa oc x.old oD/\E=(kb,lkP t la x.oc.length lc oa x.old.length oc s ld)::(lD++oD)
def LkQ(t:Nat)(h:AH)(x:AT)(E:Own):Prop:=(x.oc= []/\E= [])\/(x.oc≠ []/\x.old.length=x.oc.length/\∃s,LkO t h x s false E)
structure TnO(h:AH)(b:Bool)(v:Int)(d:Bool)(E:Own):Prop where
 h:∃tb:Nat,h.tn=ptr tb/\E= [(tb,tnP b v d)]
def FnO(h:AH):Ko->Own->Prop
 | .en d,E=>(∃ab cb:Nat,h.th=fnv 224 [ptr ab,ptr cb]/\E= [(ab,abP h.b),(cb,q71 (j5 d) 3)])\/(d=7/\∃ab:Nat,h.th=fnv 227 [ptr ab]/\E= [(ab,abP h.b)])
 | .tk v,E=>∃fb vb ab:Nat,h.th=fnv 230 [ptr fb,ptr vb]/\E= [(fb,q71 (fnv 228 [ptr ab]) 209),(vb,q71 (uv v) 72),(ab,abP h.b)]
 | .wr a v,E=>∃ab xb vb:Nat,h.th=fnv 233 [ptr ab,ptr xb,ptr vb]/\E= [(ab,abP h.b),(xb,q71 (uv a) 72),(vb,q71 (uv v) 72)]
section
variable{P:Program}{W0:World}{own r:Own}{f f0:FuncId}{args args0:jf}{b:Nat}{p p':Obj->Prop}
theorem q1G{σ:Type}{R:σ->Value->Prop}{O:σ->Own}{K:Value->Own->Prop} [m:q1J b p own r](h:qq P W0 f0 args0 ((b,p')::r) fun v own'=>∃s,R s v/\Ent W0 own' (O s))(g:p=p')(d:f=f0)(ea:args=args0)(u:∀s v,R s v->K v (O s)):q0k P W0 own f args K:=by
 subst d;subst ea;subst g;exact⟨fun w hw=>(h w (Ent.of_perm m.h w hw)).mono fun _ _ ⟨_,_,he,y,s,q,i⟩=>⟨_,O s,he,i _ y,u s _ q⟩⟩
theorem qI{σ:Type}{R:σ->Value->Prop}{O:σ->Own}{K:Value->Own->Prop} [m:q1J b p own r](h:qq P W0 f0 args0 ((b,p')::r) fun v own'=>∃s,R s v/\Ent W0 own' (O s))(i:∀s v,R s v->K v (O s))(g:p=p':=by exact rfl)(d:f=f0:=by exact rfl)(ea:args=args0:=by exact rfl):q0k P W0 own f args K:=q1G h g d ea i
end
def PhO(W0:World)(c:Cfg)(t:Nat)(h:AH)(x:AT)(E:Own):Prop:=
 match x.ph with
 | .idle=>E= []
 | .loc k=>FnO h k E
 | .ent _=>E= []
 | .rd n bf vl=>h.ld=n/\∃r ab:Nat,h.rd=ptr r/\h.us=fnv 228 [ptr ab]/\E= [(r,rdP x.addr (qB c x.addr) x.rv n bf vl false),(ab,abP h.b)]
 | .lk s ld=>LkO t h x s ld E
 | .tn b=>∃E1 E2,TnO h b (if b then x.tk else 0) false E1/\LkQ t h x E2/\E=E1++E2
 | .ck l=>∃(E1 E2:Own) (cb:Nat) (ca:j9) (cc:Nat) (g:Own),TnO h true x.tk true E1/\LkQ t h x E2/\h.ck=ptr cb/\(RdE qv 1 W0 g ca l/\l.length<=cc)/\E=(cb,ckP ca l.length cc x.rv false)::(g++(E1++E2))
 | .dc=>∃E1 E2,TnO h true x.tk true E1/\LkQ t h x E2/\E=E1++E2
 | .wr a v=>∃(E1:Own) (d:Nat) (wa:j9) (wc:Nat) (wD:Own) (va:j9) (vc:Nat) (vD:Own),TnO h true x.tk true E1/\h.wr=ptr d/\(RdE qv 1 W0 wD wa a/\a.length<=wc)/\(RdE q05 1 W0 vD va v/\v.length<=vc)/\E=(d,wrP wa a.length wc va v.length vc)::(wD++(vD++E1))
 | .rl o w=>∃(E1:Own) (d:Nat) (wa:j9) (wc:Nat) (wD:Own) (va:j9) (vc:Nat) (vD:Own),TnO h true x.tk true E1/\h.rl=ptr d/\(RdE qv 1 W0 wD wa o/\o.length<=wc)/\(RdE q05 1 W0 vD va w/\w.length<=vc)/\E=(d,rlP wa o.length wc va w.length vc)::(wD++(vD++E1))
 | .sp=>TnO h true x.tk true E
 | .ps=>TnO h true x.tk true E
 | .lv=>E= []
section
variable{W0:World}{own Q:Own}{c:Cfg}{t:Nat}{h:AH}{x:AT}{k:Int}{b e:Nat}
theorem qaJ(d:h.ok c x)(ho:x.oc= [])(g:Int)(Q:Own):jn W0 225 [ptr h.b,j5 g] (h.O c t x k e Q) fun v own'=>
  ∃s:AH×Own,(v= .tuple #[]/\s.1.b=h.b/\s.1.ok c (x.endA c g)/\PhO W0 c t s.1 (x.endA c g) s.2)/\Ent W0 own' (s.1.O c t (x.endA c g) (x.endA c g).ph.no e (s.2++Q)):=by
 refine sH (jq 10 3 [24,25,27,30,31,33,35,38,0]) ?_;have q:=fun(own':Own) (m1:qy h.b (atP c t h {x with code:=g} k) own') (Y:qy h.g.b (lgP c.writes h.g.aa x.ad.length h.g.ca h.g.va x.vl.length h.g.cv h.g.ib h.g.P) own')=>q4a (W0:=W0) (qk m1 rfl) (qk m1 rfl) (qk Y rfl)
 unfold AT.endA
 by_cases J:g=1/\x.ad≠ []
 ·rw[if_pos J];have A:decide (g=1/\x.ad.length≠0)=true:=decide_eq_true ⟨J.1,fun h=>J.2 (zC.1 h)⟩;simp only[A] at q;have V:x.ad.length<=1000000:=by
   have h1:=d.hg.hm;have h2:=d.wr;omega
  have O:=fun(own':Own) (Y:qy h.g.b (lgP c.writes h.g.aa x.ad.length h.g.ca h.g.va x.vl.length h.g.cv h.g.ib h.g.P) own') (m3:qr own' h.g.aD)=>q4C (W0:=W0) (own:=own') (qk Y rfl) ((d.hg.hA.rd (W0:=W0)).up) V
  repeat'((try conv=>whnf);first|refine fD ?_|(apply qe;first|refine qd (q _ Yx Yx) ?_|refine qi (O _ Yx Yx) fun y v C=>?_;obtain⟨a1,c1,D1⟩:=y;obtain⟨rfl,G⟩:=C;dsimp only at G)|refine fA ?_|refine fN ?_)
  have Z:RdE qv 1 W0 D1 a1 x.ad:=G.rd (W0:=W0);refine qK (σ:=Nat×j9×Nat×Own) (fun s=> [(29,j5 s.1),(4, .slice s.2.1 ((x.ad.take s.1).map (qB c)).length s.2.2.1)]) (fun s=>s.2.2.2++(D1++h.O c t {x with code:=g} k e Q)) (fun s=>s.1<=x.ad.length/\qo qv 3 1 s.2.1 s.2.2.1 ((x.ad.take s.1).map (qB c)) s.2.2.2) (fun s=>x.ad.length-s.1) (0,none,0,[]) ⟨Yw,qo.nil⟩ (eF) sbE rfl ?_;rintro⟨i,qa,qc,Dq⟩ junk ⟨hi,N⟩;dsimp only at hi N ⊢;have B:((x.ad.take i).map (qB c)).length<=1000000:=by rw[zi,zQ];omega
  by_cases H:i<x.ad.length
  ·obtain⟨y,W⟩:∃y,x.ad[i]? =some y:=⟨_,z6 H⟩
   have I:(i:Int)<x.ad.length:=Yu;have K:(x.ad.take (i+1)).map (qB c)=(x.ad.take i).map (qB c)++ [qB c y]:=by rw[zZ,W,zB];rfl
   repeat'((try conv=>whnf);first|refine fF ?_|refine qf fun bk hbk=>?_|apply q0z (enc:=qv) (T:=3) (qB c y) N;exact rfl;exact rfl;omega;exact rfl;exact rfl;omega;intro a3 M L U|apply gLd;refine q0l Z W rfl ?_|(apply qF;first|refine ixE Z W ?_ ?_;(first|rfl|omega))|apply qe;refine qd (q4D W0 _ c y) ?_|refine fB ?_|refine fQ ?_)
   refine⟨(i+1,a3,M,L),⟨H,by dsimp only;rw[K];exact U⟩,by simp only;omega,?_,sbE⟩;dsimp only;rw[K,z8];exact(eF)
  ·obtain rfl:i=x.ad.length:=Yu;rw[Z4] at N B ⊢;have I:¬(x.ad.length:Int)<x.ad.length:=Yu;have S:=fun(own':Own) (m:qr own' Dq)=>q9F (W0:=W0) (own:=own') (c:=qc) ((N.rd (W0:=W0)).up) B
   have R:=fun(own' D:Own) (sa:j9) (sc:Nat) (hB:qo qv 3 1 sa sc (q9I (x.ad.map (qB c))) D) (m:qr own' D)=>qdw (W0:=W0) (own:=own') (c:=sc) ((hB.rd (W0:=W0)).up) (Zc (q8t _).2.2 B) t
   repeat'((try conv=>whnf);first|refine fG ?_|(apply qe;first|refine qi (S _ Yx) fun y v C=>?_;obtain⟨a2,c2,D2⟩:=y;obtain⟨rfl,u⟩:=C;dsimp only at u|refine qi (R _ _ _ _ u Yx) fun y v C=>?_;obtain⟨X,a3,M,L⟩:=y;obtain⟨rfl,z⟩:=C;dsimp only at z)|refine fA ?_|refine fN ?_)
   rw[q9J] at z;rw[q9J];exact⟨({h with oa:=a2,oc:=c2,oD:=D2,lk:=ptr X},(X,lkP t a3 (q9I (x.ad.map (qB c))).length M none 0 0 0 false)::(L++ [])),⟨rfl,rfl,⟨d.hs,d.hn,u,d.hg,d.ls,d.ln,Zc (q8t _).2.2 (by rw[zi];have:=d.hg.hm;have:=d.wr;omega),d.rv,d.wr⟩,⟨X,a3,M,L,none,0,[],rfl,z,qo.nil,rfl⟩⟩,by rw[zz,zp];exact sbE⟩
 ·rw[if_neg J];have A:decide (g=1/\x.ad.length≠0)=false:=decide_eq_false fun h=>J ⟨h.1,fun e=>h.2 (by rw[e];rfl)⟩
  simp only[A] at q
  repeat'((try conv=>whnf);first|refine fE ?_|(apply qe;first|refine qd (q _ Yx Yx) ?_|refine qi (q7o _) fun tb v C=>?_;subst C)|refine fN ?_)
  exact⟨({h with tn:=ptr tb},[(tb,tnP false 0 false)]),⟨rfl,rfl,⟨d.hs,d.hn,d.ho,d.hg,d.ls,d.ln,d.lo,d.rv,d.wr⟩,⟨_,[],⟨tb,rfl,rfl⟩, .inl ⟨ho,rfl⟩,rfl⟩⟩,sbE⟩
end
open Go
abbrev qrT(c:Cfg)(t sb lb:Nat):Obj->Prop:=fun z=>z=Obj.cells #[ptr sb,ptr lb,j7,j7,j7, .pointer none, .pointer none,j5 0, .pointer none, .pointer none, .pointer none, .pointer none, .pointer none, .pointer none, .pointer none,
 j5 c.words,j5 c.orecs,j5 c.base,j5 c.c0,j5 c.c1,j5 c.c2,j5 c.c3,j5 c.reads,j5 c.writes,j5 c.allocs,j5 c.frees,j5 c.clock, .bool c.strong,
 j5 t,j5 0,j5 0,j5 0, .nilFunc, .nilFunc,j5 0,uv 0,j7,uv 0, .bool false,j5 0] 211 (0,0)
section
variable{W0:World}{own Q:Own}{c:Cfg}{t:Nat}{h:AH}{x:AT}{k:Int}{b e:Nat}
theorem qni(c:Cfg)(z:0<=c.reads/\c.reads<=32)(hw:1<=c.writes/\c.writes<=32)(t:Nat)(Q:Own):jn W0 235 [c.v,j5 t] Q fun v own'=>
  ∃s:Nat×Nat×LH,(v=ptr s.1/\s.2.2.ok c.writes [] [])/\
   Ent W0 own' ((s.1,qrT c t s.2.1 s.2.2.b)::(s.2.1,stP c.reads none 0 0)::s.2.2.O c.writes [] [] Q):=by
 refine sH [3,5,9,19,1,8,11,1,14,15,17,21,24,25,0,17,14,15,21,24,25,0,1,11,1,8,1,14,15,17,21,24,25,0,17,14,15,21,24,25,0,17,8,14,15,21,24,25,0,17,1,8,11,14,15,21,24,25,0,11,8,14,15,21,24,25,0] ?_;have A:=fun(own':Own)=>qgC (W0:=W0) c.reads z own'
 have u:=fun(own':Own)=>qgB (W0:=W0) c.writes hw own'
 repeat'((try conv=>whnf);first|(apply qe;first|refine qi (A _) fun sb v i=>?_;subst i|refine qi (u _) fun y v i=>?_;obtain⟨lb,ib,P⟩:=y;obtain⟨rfl,q,d,g⟩:=i;dsimp only at q d g)|refine fA ?_|refine fL ?_|refine qf fun bk hbk=>?_|refine q1a.mk ?_ ?_)
 all_goals exact⟨(_,sb,⟨lb,none,0,[],none,0,[],ib,P,List.replicate P (-1)⟩),⟨rfl,⟨qo.nil,qo.nil,q,⟨d,g⟩,hw.1,rfl,(by show(0:Int)<=c.writes;omega)⟩⟩,sbE⟩
theorem qg7{g:LH}{sb:Nat}(q:g.ok c.writes [] [])(hw:c.writes<=32)(Q:Own):jn W0 236 [ptr b] ((b,qrT c t sb g.b)::(sb,stP c.reads none 0 0)::g.O c.writes [] [] Q) fun v own'=>
  ∃h:AH,(v= j5 0/\h.b=b/\h.ok c {AT.new with st:=1,ph:= .ent 0})/\Ent W0 own' (h.O c t {AT.new with st:=1,ph:= .ent 0} 2 0 Q):=by
 refine sH [] ?_;have d:=fun(own':Own) (i:qy b (qrT c t sb g.b) own')=>q5m (W0:=W0) (qk i rfl) (qk i rfl)
 repeat'((try conv=>whnf);first|refine fD ?_|(apply qe;first|refine qd (d _ Yx) ?_|refine qi (qaN t _) fun eb v u=>?_;subst u)|refine fA ?_|refine fN ?_)
 all_goals exact⟨⟨b,sb,none,0,[],g,none,0,[],none,0,[],eb, .pointer none,0, .pointer none, .pointer none, .pointer none, .pointer none, .pointer none, .nilFunc, .nilFunc⟩,⟨rfl,rfl,⟨qo.nil,qo.nil,qo.nil,q,Yv,Yv,Yv,Yv,hw⟩⟩,sbE⟩
theorem qdn(d:0<=x.rv/\x.rv<=1099511627776)(a:Int)(g:FuncId)(cs:jh)(Q:Own):jn W0 231 [ptr h.b,j5 a, .func (.func g) #[] cs] ((h.b,atP c t h x k)::([(h.eb,enP t 3 x.rv)]++Q)) fun v own'=>
  ∃r:Nat,v= .tuple #[]/\Ent W0 own' ((h.b,atP c t {h with us:= .func (.func g) #[] cs,ld:=0,rd:=ptr r} {x with addr:=a} 3)::((r,rdP a (qB c a) x.rv 0 0 0 false)::([(h.eb,enP t 3 x.rv)]++Q))):=by
 refine sH [] ?_;have i:=fun(own':Own) (y:qy h.b (atP c t {h with us:= .func (.func g) #[] cs,ld:=0} {x with addr:=a} 3) own') (q:qy h.eb (enP t 3 x.rv) own')=>qcn (W0:=W0) (qk y rfl) (qk q rfl) (qk q rfl) d Yv
 repeat'((try conv=>whnf);first|(apply qe;first|refine qd (q4D W0 _ c a) ?_|refine qd (i _ Yx Yx) ?_|refine qi (qdx a (qB c a) x.rv _) fun r v u=>?_;subst u)|refine fQ ?_|refine fN ?_)
 all_goals exact⟨r,rfl,sbE⟩
theorem qj2(d:h.ok c x)(I:x.st=1)(a:Int)(M:0<=a)(G:0<=c.words/\c.words<=1099511627776)(Q:Own):jn W0 161 [ptr h.b,uv a] (h.O c t x 0 3 Q) fun v own'=>
  ∃s:AH×Own,(v= j5 0/\s.1.b=h.b/\s.1.ok c (x.read c a)/\PhO W0 c t s.1 (x.read c a) s.2)/\Ent W0 own' (s.1.O c t (x.read c a) (x.read c a).ph.no 3 (s.2++Q)):=by
 refine sH [] ?_;have q:=fun(own':Own) (B:qy h.b (atP c t h x 0) own')=>q5m (W0:=W0) (s:=x.st) (qk B rfl) (qk B rfl)
 have g:=fun(own':Own) (B:qy h.b (atP c t h x 0) own')=>q7p (W0:=W0) (a:=a) (qk B rfl) G
 rw[I] at q;unfold AT.read
 by_cases A:c.words<=a
 ·rw[if_pos A];have hd:decide (a>=c.words)=true:=decide_eq_true A;simp only[hd] at g
  repeat'((try conv=>whnf);first|refine fE ?_|refine fD ?_|refine qf fun u y=>?_|(apply qe;first|refine qd (q _ Yx) ?_|refine qd (g _ Yx) ?_|refine q1G (q3g (h:=h) (c:=c) (t:=t) (x:=x) (k:=0) ?_ ?_ _) ?_ ?_ ?_ fun _ v z=>?_;rotate_left 2;exact rfl;exact rfl;exact rfl;subst z)|refine fA ?_)
  all_goals exact⟨({h with th:=fnv 227 [ptr u]},[(u,abP h.b)]),⟨rfl,rfl,⟨d.1,d.2,d.3,d.4,d.5,d.6,d.7,d.8,d.9⟩, .inr ⟨rfl,u,rfl,rfl⟩⟩,by show Ent W0 _ (AH.O _ c t _ 1 3 _);exact sbE⟩
 ·rw[if_neg A];have hd:decide (a>=c.words)=false:=decide_eq_false A;simp only[hd] at g;have i:=fun(own':Own) (J:qy h.g.b (lgP c.writes h.g.aa x.ad.length h.g.ca h.g.va x.vl.length h.g.cv h.g.ib h.g.P) own') (m3:qr own' h.g.aD) (m4:qr own' h.g.vD) (m5:qy h.g.ib (j8 (h.g.ix.map qv).flatten.toArray 3) own')=>
   qqs (W0:=W0) (a:=a) d.hg.hI (qk J rfl) (qk J rfl) (qk J rfl) ((d.hg.hA.rd (W0:=W0)).up) ((d.hg.hV.rd (W0:=W0)).up) (RdE.mem (T:=3)) (by have:=d.hg.hP;omega) ⟨M,Yu⟩ d.hg.hl
  cases L:q54 x.ad x.vl a with
  |some w=>
   simp only[L,Za,ZT] at i
   repeat'((try conv=>whnf);first|refine fE ?_|refine fD ?_|refine qf fun u y=>?_|(apply qe;first|refine qd (q _ Yx) ?_|refine qd (g _ Yx) ?_|refine qd (i _ Yx Yx Yx Yx) ?_|refine q1G (q3g (h:=h) (c:=c) (t:=t) (x:=x) (k:=0) ?_ ?_ _) ?_ ?_ ?_ fun _ v z=>?_;rotate_left 2;exact rfl;exact rfl;exact rfl;subst z)|refine fB ?_|refine fO ?_|refine fA ?_|refine fN ?_)
   rename_i ab C fb H _;dsimp only;exact⟨({h with th:=fnv 230 [ptr fb,ptr u]},[(fb,q71 (fnv 228 [ptr ab]) 209),(u,q71 (uv w) 72),(ab,abP h.b)]),⟨rfl,rfl,⟨d.1,d.2,d.3,d.4,d.5,d.6,d.7,d.8,d.9⟩,⟨fb,u,ab,rfl,rfl⟩⟩,by show Ent W0 _ (AH.O _ c t _ 1 3 _);exact sbE⟩
  |none=>
   simp only[L,yh,ZL] at i
   repeat'((try conv=>whnf);first|refine fD ?_|refine qf fun u y=>?_|(apply qe;first|refine qd (q _ Yx) ?_|refine qd (g _ Yx) ?_|refine qd (i _ Yx Yx Yx Yx) ?_|refine q7J (D:= [(h.eb,enP t 3 x.rv)]) (qdn (h:=h) (c:=c) (t:=t) (x:=x) (k:=0) d.rv a ?_ ?_ _) ?_ ?_ ?_ fun K v z=>?_;rotate_left 2;exact rfl;exact rfl;exact rfl;subst z)|refine fB ?_|refine fO ?_|refine fA ?_|refine fN ?_)
   rename_i ab C fb H;dsimp only;exact⟨({h with us:=fnv 228 [ptr ab],ld:=0,rd:=ptr K},[(K,rdP a (qB c a) x.rv 0 0 0 false),(ab,abP h.b)]),⟨rfl,rfl,⟨d.1,d.2,d.3,d.4,d.5,d.6,d.7,d.8,d.9⟩,⟨rfl,K,ab,rfl,rfl,rfl⟩⟩,by show Ent W0 _ (AH.O _ c t _ 3 3 _);exact sbE⟩
theorem qga(d:h.ok c x)(q:x.st=1)(a v:Int)(Q:Own):jn W0 163 [ptr h.b,uv a,uv v] (h.O c t x 0 3 Q) fun r own'=>
  ∃s:AH×Own,(r= j5 0/\s.1.b=h.b/\s.1.ok c {x with ph:= .loc (.wr a v)}/\PhO W0 c t s.1 {x with ph:= .loc (.wr a v)} s.2)/\Ent W0 own' (s.1.O c t {x with ph:= .loc (.wr a v)} 1 3 (s.2++Q)):=by
 refine sH [] ?_;have g:=fun(own':Own) (u:qy h.b (atP c t h x 0) own')=>q5m (W0:=W0) (s:=x.st) (qk u rfl) (qk u rfl)
 rw[q] at g
 repeat'((try conv=>whnf);first|refine fD ?_|refine qf fun i hbk=>?_|(apply qe;first|refine qd (g _ Yx) ?_|refine q1G (q3g (h:=h) (c:=c) (t:=t) (x:=x) (k:=0) ?_ ?_ _) ?_ ?_ ?_ fun _ v y=>?_;rotate_left 2;exact rfl;exact rfl;exact rfl;subst y)|refine fA ?_)
 rename_i ab hab xb hxb _;exact⟨({h with th:=fnv 233 [ptr ab,ptr xb,ptr i]},[(ab,abP h.b),(xb,q71 (uv a) 72),(i,q71 (uv v) 72)]),⟨rfl,rfl,⟨d.1,d.2,d.3,d.4,d.5,d.6,d.7,d.8,d.9⟩,⟨ab,xb,i,rfl,rfl⟩⟩,sbE⟩
theorem qg8(d:h.ok c x)(y:x.st=1)(i:Int)(hcd:i=1\/i=2)(Q:Own):jn W0 160 [ptr h.b,j5 i] (h.O c t x 0 3 Q) fun r own'=>
  ∃s:AH×Own,(r= j5 0/\s.1.b=h.b/\s.1.ok c {x with ph:= .loc (.en i)}/\PhO W0 c t s.1 {x with ph:= .loc (.en i)} s.2)/\Ent W0 own' (s.1.O c t {x with ph:= .loc (.en i)} 1 3 (s.2++Q)):=by
 refine sH [] ?_;have u:=fun(own':Own) (z:qy h.b (atP c t h x 0) own')=>q5m (W0:=W0) (s:=x.st) (qk z rfl) (qk z rfl)
 rw[y] at u
 repeat'((try conv=>whnf);first|refine fH ?_|refine fI ?_|refine fD ?_|refine fG ?_|refine qf fun g hbk=>?_|(apply qe;first|refine qd (u _ Yx) ?_|refine q1G (q3g (h:=h) (c:=c) (t:=t) (x:=x) (k:=0) ?_ ?_ _) ?_ ?_ ?_ fun _ v A=>?_;rotate_left 2;exact rfl;exact rfl;exact rfl;subst A)|refine fA ?_|apply q0p;exact rfl;exact rfl;all_goals intro hc)
 all_goals
  first
  |(exfalso;omega)
  |(rename_i ab q _ _ _;exact⟨({h with th:=fnv 224 [ptr ab,ptr g]},[(ab,abP h.b),(g,q71 (j5 i) 3)]),⟨rfl,rfl,⟨d.1,d.2,d.3,d.4,d.5,d.6,d.7,d.8,d.9⟩, .inl ⟨ab,g,rfl,rfl⟩⟩,sbE⟩)
  |(rename_i ab q _ _;exact⟨({h with th:=fnv 224 [ptr ab,ptr g]},[(ab,abP h.b),(g,q71 (j5 i) 3)]),⟨rfl,rfl,⟨d.1,d.2,d.3,d.4,d.5,d.6,d.7,d.8,d.9⟩, .inl ⟨ab,g,rfl,rfl⟩⟩,sbE⟩)
  |(rename_i ab q _;exact⟨({h with th:=fnv 224 [ptr ab,ptr g]},[(ab,abP h.b),(g,q71 (j5 i) 3)]),⟨rfl,rfl,⟨d.1,d.2,d.3,d.4,d.5,d.6,d.7,d.8,d.9⟩, .inl ⟨ab,g,rfl,rfl⟩⟩,sbE⟩)
end
open Go
def AtQ(W0:World)(c:Cfg)(t:Nat)(b:Nat)(x:AT)(e:Nat)(Q:Own)(r:Value)(v:Value)(own':Own):Prop:=
 ∃s:AH×Own,(v=r/\s.1.b=b/\s.1.ok c x/\PhO W0 c t s.1 x s.2)/\Ent W0 own' (s.1.O c t x x.ph.no e (s.2++Q))
section
variable{W0:World}{own Q:Own}{c:Cfg}{t:Nat}{h:AH}{x:AT}{k:Int}{b e:Nat}
theorem qoN{g':LH}(e:g'.b=h.g.b):atP c t h x k=atP c t {h with g:=g'} x k:=by
 unfold atP;dsimp only;rw[e]
theorem qnl(B:h.ok c x)(a v:Int)(A:0<=a/\a<=9223372036854775807)(Q:Own):jn W0 234 [ptr h.b,j5 a,uv v] (h.O c t x 0 e Q) fun r own'=>
  ∃g':LH,(r= .bool (q5Y c.writes x.ad x.vl a v).isSome/\g'.ok c.writes ((q5Y c.writes x.ad x.vl a v).getD (x.ad,x.vl)).1 ((q5Y c.writes x.ad x.vl a v).getD (x.ad,x.vl)).2)/\
   Ent W0 own' (AH.O {h with g:=g'} c t {x with code:=if(q5Y c.writes x.ad x.vl a v).isSome then x.code else 3,ad:=((q5Y c.writes x.ad x.vl a v).getD (x.ad,x.vl)).1,vl:=((q5Y c.writes x.ad x.vl a v).getD (x.ad,x.vl)).2} (if(q5Y c.writes x.ad x.vl a v).isSome then 0 else 14) e Q):=by
 refine sH [] ?_;have q:=fun(Q:Own)=>qqx (W0:=W0) (v:=v) B.hg A Q
 generalize q5Y c.writes x.ad x.vl a v=z at*;cases z with
 |none=>
  dsimp only[Option.isSome_none,Option.getD_none] at*
  repeat'((try conv=>whnf);first|refine fE ?_|(apply qe;first|refine ql (q ((h.b,atP c t h x 0)::((h.sb,stP c.reads h.sa x.set.length h.sc)::((h.eb,enP t e x.rv)::(h.sD++(h.nD++(h.oD++Q))))))) sbE ?_ ?_ fun g' v u=>?_;exact rfl;exact rfl;obtain⟨rfl,d,i⟩:=u|refine qI (q6r (h:=h) (c:=c) (t:=t) (x:=x) (k:=0) 3 _) fun _ v u=>?_;subst u)|refine fA ?_)
  refine⟨g',⟨rfl,i⟩,?_⟩;rw[if_neg Yv,if_neg Yv,qoN d];exact sbE
 |some y=>
  obtain⟨ad,vl⟩:=y;dsimp only[Option.isSome_some,Option.getD_some] at*
  repeat'((try conv=>whnf);first|refine fD ?_|(apply qe;first|refine ql (q ((h.b,atP c t h x 0)::((h.sb,stP c.reads h.sa x.set.length h.sc)::((h.eb,enP t e x.rv)::(h.sD++(h.nD++(h.oD++Q))))))) sbE ?_ ?_ fun g' v u=>?_;exact rfl;exact rfl;obtain⟨rfl,d,i⟩:=u)|refine fA ?_)
  refine⟨g',⟨rfl,i⟩,?_⟩;rw[if_pos rfl,if_pos rfl,qoN d];exact sbE
theorem qnp{ab cb:Nat}(g:h.ok c x)(i:x.oc= [])(d:Int)(Q:Own):jn W0 224 [ptr ab,ptr cb] (h.O c t x k e ([(ab,abP h.b),(cb,q71 (j5 d) 3)]++Q)) (AtQ W0 c t h.b (x.endA c d) e Q (.tuple #[])):=by
 unfold AtQ;refine sH [] ?_
 repeat'((try conv=>whnf);first|(apply qe;first|refine ql (qaJ (e:=e) (k:=k) g i d Q) sbE ?_ ?_ fun s v u=>?_;exact rfl;exact rfl;obtain⟨rfl,q⟩:=u)|refine fA ?_)
 exact⟨s,⟨rfl,q⟩,Ent.refl⟩
theorem qgF{ab:Nat}(d:h.ok c x)(g:x.oc= [])(Q:Own):jn W0 227 [ptr ab] (h.O c t x k e ([(ab,abP h.b)]++Q)) (AtQ W0 c t h.b (x.endA c 7) e Q (.tuple #[])):=by
 unfold AtQ;refine sH [] ?_
 repeat'((try conv=>whnf);first|(apply qe;first|refine ql (qaJ (e:=e) (k:=k) d g 7 Q) sbE ?_ ?_ fun s v q=>?_;exact rfl;exact rfl;obtain⟨rfl,i⟩:=q)|refine fA ?_)
 exact⟨s,⟨rfl,i⟩,Ent.refl⟩
theorem q6m{ab:Nat}(v:Int)(Q:Own):jn W0 228 [uv v,ptr ab] ((h.b,atP c t h x k)::([(ab,abP h.b)]++Q)) fun r own'=>∃_:Unit,r= .tuple #[]/\Ent W0 own' ((h.b,atP c t h {x with val:=v} k)::([(ab,abP h.b)]++Q)):=by
 refine qE (sH [] ?_)
 repeat'((try conv=>whnf);first|refine fA ?_|refine fN ?_)
 all_goals exact⟨rfl,sbE⟩
theorem qmW:okF Tryz.prog 228=true:=by kernel_rfl
theorem qgG{fb vb ab:Nat}(v:Int)(Q:Own):jn W0 230 [ptr fb,ptr vb] ((h.b,atP c t h x k)::([(fb,q71 (fnv 228 [ptr ab]) 209),(vb,q71 (uv v) 72),(ab,abP h.b)]++Q)) fun r own'=>∃_:Unit,r= .tuple #[]/\Ent W0 own' ((h.b,atP c t h {x with val:=v} k)::Q):=by
 refine qE (sH [] ?_)
 repeat'((try conv=>whnf);first|refine q2f.mk ⟨qmW,?_⟩|(apply qe;first|refine qD (D:= [(ab,abP h.b)]) (q6m (h:=h) (c:=c) (t:=t) (x:=x) (k:=k) v _) fun _ v d=>?_;subst d)|refine fA ?_)
 all_goals exact⟨rfl,sbE⟩
theorem qdN{ab xb vb:Nat}(d:h.ok c x)(I:x.oc= [])(B:0<=c.words/\c.words<=1099511627776)(a v:Int)(H:0<=a)(Q:Own):
  jn W0 233 [ptr ab,ptr xb,ptr vb] (h.O c t x 0 e ([(ab,abP h.b),(xb,q71 (uv a) 72),(vb,q71 (uv v) 72)]++Q)) (AtQ W0 c t h.b (({x with ph:= .idle}:AT).kont c (.wr a v)) e Q (.tuple #[])):=by
 unfold AtQ;refine sH [] ?_;have i:=fun(own':Own) (K:qy h.b (atP c t h x 0) own')=>q7p (W0:=W0) (a:=a) (qk K rfl) B
 unfold AT.kont;dsimp only
 by_cases A:c.words<=a
 ·rw[if_pos A];have hd:decide (a>=c.words)=true:=decide_eq_true A;simp only[hd] at i;have G:h.ok c {x with ph:= .idle}:=⟨d.1,d.2,d.3,d.4,d.5,d.6,d.7,d.8,d.9⟩
  repeat'((try conv=>whnf);first|refine fE ?_|(apply qe;first|refine qd (i _ Yx) ?_|refine ql (qaJ (e:=e) (k:=0) G I 7 Q) sbE ?_ ?_ fun s v u=>?_;exact rfl;exact rfl;obtain⟨rfl,J⟩:=u)|refine fA ?_)
  exact⟨s,⟨rfl,J⟩,Ent.refl⟩
 ·rw[if_neg A];have hd:decide (a>=c.words)=false:=decide_eq_false A;simp only[hd] at i;have q:=qnl (W0:=W0) (t:=t) (e:=e) d a v ⟨H,Yu⟩ Q;generalize q5Y c.writes x.ad x.vl a v=z at*;cases z with
  |none=>
   dsimp only[Option.isSome_none,Option.getD_none] at*;rw[if_neg Yv,if_neg Yv] at q
   repeat'((try conv=>whnf);first|refine fD ?_|(apply qe;first|refine qd (i _ Yx) ?_|refine ql q sbE ?_ ?_ fun g' v u=>?_;exact rfl;exact rfl;obtain⟨rfl,C⟩:=u)|refine fB ?_|refine fA ?_)
   all_goals exact⟨({h with g:=g'},[]),⟨rfl,rfl,⟨d.1,d.2,d.3,C,d.5,d.6,d.7,d.8,d.9⟩,rfl⟩,sbE⟩
  |some y=>
   obtain⟨ad,vl⟩:=y;dsimp only[Option.isSome_some,Option.getD_some] at*;rw[if_pos rfl,if_pos rfl] at q
   repeat'((try conv=>whnf);first|refine fD ?_|(apply qe;first|refine qd (i _ Yx) ?_|refine ql q sbE ?_ ?_ fun g' v u=>?_;exact rfl;exact rfl;obtain⟨rfl,C⟩:=u)|refine fB ?_|refine fA ?_)
   all_goals exact⟨({h with g:=g'},[]),⟨rfl,rfl,⟨d.1,d.2,d.3,C,d.5,d.6,d.7,d.8,d.9⟩,rfl⟩,sbE⟩
theorem qs0:okF Tryz.prog 224=true:=by kernel_rfl
theorem qs1:okF Tryz.prog 227=true:=by kernel_rfl
theorem qs2:okF Tryz.prog 230=true:=by kernel_rfl
theorem qs3:okF Tryz.prog 233=true:=by kernel_rfl
end
open Go
theorem AH.th_eq{h:AH}{v:Value}(e:h.th=v):∃d:AH,h={d with th:=v}:=⟨h,by cases h;cases e;rfl⟩
abbrev azP:Obj->Prop:=fun z=>z=Obj.cells #[j5 0,j5 0,j5 0,uv 0,uv 0, .bool false] 136 (0,0)
section
variable{W0:World}{own Q:Own}{c:Cfg}{t:Nat}{h:AH}{x:AT}{k:Int}{b e mb:Nat}
theorem qnA(d:h.ok c x)(I:x.oc= [])(G:0<=c.words/\c.words<=1099511627776){B:Ko}{E:Own}(C:FnO h B E)(H:∀a v,B= .wr a v->0<=a)(Q:Own):
  jn W0 157 [ptr h.b,ptr mb] (h.O c t x 1 3 (E++Q)) (AtQ W0 c t h.b (({x with ph:= .idle}:AT).kont c B) 3 Q (.tuple #[acz.v,j5 0])):=by
 unfold AtQ;refine sH [] ?_;have z:h.ok c {x with ph:= .idle}:=⟨d.1,d.2,d.3,d.4,d.5,d.6,d.7,d.8,d.9⟩
 cases B with
 |en J=>
  rcases C with ⟨ab,cb,g,rfl⟩|⟨rfl,ab,g,rfl⟩
  ·obtain⟨y,rfl⟩:=AH.th_eq g
   repeat'((try conv=>whnf);first|refine fE ?_|refine q2f.mk ⟨qs0,?_⟩|(apply qe;first|refine ql (qnp (ab:=ab) (cb:=cb) (e:=3) (k:=0) z I J ((u,azP)::Q)) sbE ?_ ?_ fun s v q=>?_;exact rfl;exact rfl;obtain⟨rfl,A⟩:=q)|refine fA ?_|refine fL ?_|refine fN ?_|refine fM ?_|refine qf fun u i=>?_)
   all_goals exact⟨s,⟨rfl,A⟩,sbE⟩
  ·obtain⟨y,rfl⟩:=AH.th_eq g
   repeat'((try conv=>whnf);first|refine fE ?_|refine q2f.mk ⟨qs1,?_⟩|(apply qe;first|refine ql (qgF (ab:=ab) (e:=3) (k:=0) z I ((u,azP)::Q)) sbE ?_ ?_ fun s v q=>?_;exact rfl;exact rfl;obtain⟨rfl,A⟩:=q)|refine fA ?_|refine fL ?_|refine fN ?_|refine fM ?_|refine qf fun u i=>?_)
   all_goals exact⟨s,⟨rfl,A⟩,sbE⟩
 |tk v=>
  obtain⟨fb,vb,ab,g,rfl⟩:=C;obtain⟨y,rfl⟩:=AH.th_eq g
  repeat'((try conv=>whnf);first|refine fE ?_|refine q2f.mk ⟨qs2,?_⟩|(apply qe;first|refine qD (D:= [(fb,q71 (fnv 228 [ptr ab]) 209),(vb,q71 (uv v) 72),(ab,abP y.b)]) (qgG (h:={y with th:=fnv 230 [ptr fb,ptr vb]}) (c:=c) (t:=t) (x:=x) (k:=0) v _) fun _ v q=>?_;subst q)|refine fA ?_|refine fL ?_|refine fN ?_|refine fM ?_|refine qf fun u i=>?_)
  all_goals exact⟨({y with th:=fnv 230 [ptr fb,ptr vb]},[]),⟨rfl,rfl,⟨d.1,d.2,d.3,d.4,d.5,d.6,d.7,d.8,d.9⟩,rfl⟩,sbE⟩
 |wr a v=>
  obtain⟨ab,xb,vb,g,rfl⟩:=C;obtain⟨y,rfl⟩:=AH.th_eq g
  repeat'((try conv=>whnf);first|refine fE ?_|refine q2f.mk ⟨qs3,?_⟩|(apply qe;first|refine ql (qdN (ab:=ab) (xb:=xb) (vb:=vb) (e:=3) d I G a v (H a v rfl) ((u,azP)::Q)) sbE ?_ ?_ fun s v q=>?_;exact rfl;exact rfl;obtain⟨rfl,A⟩:=q)|refine fA ?_|refine fL ?_|refine fN ?_|refine fM ?_|refine qf fun u i=>?_)
  all_goals exact⟨s,⟨rfl,A⟩,sbE⟩
end
open Go
theorem AH.tn_eq{h:AH}{v:Value}(e:h.tn=v):∃d:AH,h={d with tn:=v}:=⟨h,by cases h;cases e;rfl⟩
section
variable{W0:World}{own Q E:Own}{c:Cfg}{t:Nat}{h:AH}{x:AT}{k w:Int}{b e:Nat}{mh:MH}{m:MS}
theorem qqD(d:h.ok c x)(i:mh.ok m.L)(g:TnO h true x.tk true E)(Q:Own):jn W0 157 [ptr h.b,ptr mh.mb] (h.O c t x 11 3 (E++(mh.O m++Q)))
  (AtQ W0 c t h.b {x with ph:= .ps} 3 (mh.O {m with ck:=qQ (x.ck+1)}++Q) (.tuple #[(acS 3 0 m.ck (qQ (x.ck+1))).v,j5 19])):=by
 unfold AtQ;refine sH [] ?_
 repeat'((try conv=>whnf);first|refine fE ?_|refine fD ?_|refine arw (k:= .u64) ?_|(apply qe;first|refine q2N 2 0 (qQ (x.ck+1)) {m with ck:=qQ (x.ck+1)} i Yv rfl rfl ?_ ?_ ?_;exact rfl;exact rfl)|refine fO ?_|refine fA ?_|refine fL ?_|refine fN ?_|refine fM ?_|refine qf fun bk hbk=>?_)
 all_goals exact⟨(h,E),⟨rfl,rfl,⟨d.1,d.2,d.3,d.4,d.5,d.6,d.7,d.8,d.9⟩,g⟩,by show Ent W0 _ (AH.O _ c t _ 12 3 _);exact sbE⟩
theorem qqB(d:h.ok c x)(B:mh.ok m.L)(A:TnO h true x.tk true E)(g:0<=x.tk/\x.tk<=1099511627776)(Q:Own):jn W0 157 [ptr h.b,ptr mh.mb] (h.O c t x 12 3 (E++(mh.O m++Q)))
  (AtQ W0 c t h.b {x with ph:= .lv} 3 (mh.O {m with sv:=qQ (x.tk+1)}++Q) (.tuple #[(acS 5 0 m.sv (qQ (x.tk+1))).v,j5 20])):=by
 unfold AtQ;refine sH [] ?_;obtain⟨tb,q,rfl⟩:=A.h;obtain⟨y,rfl⟩:=AH.tn_eq q;have i:=fun(own':Own) (z:qy tb (tnP true x.tk true) own')=>qgV (W0:=W0) (c:=x.tk) (qk z rfl) (qk z rfl) g
 repeat'((try conv=>whnf);first|refine fE ?_|refine fD ?_|(apply qe;first|refine qd (i _ Yx) ?_|refine q5a (D:=mh.O m) (qnw B g _) fun _ v u=>?_;subst u|refine qI (q9s (h:={y with tn:=ptr tb}) (c:=c) (t:=t) (x:=x) (k:=12) _) fun _ v u=>?_;subst u)|refine fA ?_|refine fL ?_|refine fM ?_|refine qf fun bk hbk=>?_)
 all_goals exact⟨({y with tn:=ptr tb},[]),⟨rfl,rfl,⟨d.1,d.2,d.3,d.4,d.5,d.6,d.7,d.8,d.9⟩,rfl⟩,by show Ent W0 _ (AH.O _ c t _ 14 3 _);exact sbE⟩
theorem qqA(d:h.ok c x)(g:mh.ok m.L)(i:m.sl[t]? =some w)(Q:Own):jn W0 157 [ptr h.b,ptr mh.mb] (h.O c t x 14 3 (mh.O m++Q))
  (AtQ W0 c t h.b {x with ph:= .idle,st:=2} 3 (mh.O {m with sl:=m.sl.set t 0}++Q) (.tuple #[(acS 6 t w 0).v,j5 24])):=by
 unfold AtQ;refine sH [] ?_
 repeat'((try conv=>whnf);first|refine fE ?_|refine fD ?_|(apply qe;first|refine q5a (D:=mh.O m) (qjc g i _) fun _ v q=>?_;subst q)|refine fA ?_|refine fL ?_|refine fN ?_|refine fM ?_|refine qf fun bk hbk=>?_)
 all_goals exact⟨(h,[]),⟨rfl,rfl,⟨d.1,d.2,d.3,d.4,d.5,d.6,d.7,d.8,d.9⟩,rfl⟩,by show Ent W0 _ (AH.O _ c t _ 0 3 _);exact sbE⟩
end
open Go
theorem AH.lk_eq{h:AH}{v:Value}(e:h.lk=v):∃d:AH,h={d with lk:=v}:=⟨h,by cases h;cases e;rfl⟩
theorem LkQ.of{t:Nat}{h i:AH}{x x':AT}{E:Own}(d:x'.oc=x.oc)(g:x'.old=x.old)(q:i.lk=h.lk)(A:LkQ t h x E):LkQ t i x' E:=by
 unfold LkQ at*;rw[d,g]
 rcases A with h|⟨u,y,s,⟨z⟩⟩
 ·exact .inl h
 ·exact .inr ⟨u,y,s,⟨by rw[d,g,q];exact z⟩⟩
theorem TnO.of{h g:AH}{b d:Bool}{v:Int}{E:Own}(e:g.tn=h.tn)(i:TnO h b v d E):TnO g b v d E:=⟨by rw[e];exact i.h⟩
section
variable{W0:World}{own Q E:Own}{c:Cfg}{t:Nat}{h:AH}{x:AT}{k w:Int}{b e:Nat}{mh:MH}{m:MS}
theorem qnE{E1 E2:Own}(g:h.ok c x)(A:mh.ok m.L)(z:TnO h false 0 false E1)(i:LkQ t h x E2)(Q:Own):jn W0 206 [ptr h.b,ptr mh.mb] (h.O c t x 6 3 ((E1++E2)++(mh.O m++Q)))
  (AtQ W0 c t h.b {x with tk:=m.tk,ph:= .tn true} 3 (mh.O {m with tk:=qQ (m.tk+1)}++Q) (.tuple #[(acA 4 0 m.tk 1).v,j5 13])):=by
 unfold AtQ;refine sH [] ?_;obtain⟨tb,u,rfl⟩:=z.h;obtain⟨y,rfl⟩:=AH.tn_eq u;have q:=fun(own':Own) (C:qy tb (tnP true m.tk false) own')=>q6p (W0:=W0) (d:=false) (qk C rfl)
 repeat'((try conv=>whnf);first|refine fE ?_|refine fD ?_|(apply qe;first|refine qd (q _ Yx) ?_|refine qD (D:=mh.O m) (qjO (b:=tb) A _) fun _ v B=>?_;subst B)|refine fA ?_|refine fL ?_|refine fM ?_|refine qf fun bk hbk=>?_)
 all_goals exact⟨({y with tn:=ptr tb},[(tb,tnP true m.tk false)]++E2),⟨rfl,rfl,⟨g.1,g.2,g.3,g.4,g.5,g.6,g.7,g.8,g.9⟩,⟨_,E2,⟨tb,rfl,rfl⟩,by refine LkQ.of ?_ ?_ ?_ i <;>rfl,rfl⟩⟩,by show Ent W0 _ (AH.O _ c t _ 6 3 _);exact sbE⟩
theorem qny{o:Nat}(d:h.ok c x)(I:mh.ok m.L){s:Int}(H:LkO t h x s false E)(B:x.oc[x.old.length]? =some (o:Int))(J:m.o[o]? =some w)(hw:okU w)(Q:Own):jn W0 205 [ptr h.b,ptr mh.mb] (h.O c t x 5 3 (E++(mh.O m++Q)))
  (AtQ W0 c t h.b {x with ph:= .lk w (decide (q4R w<0))} 3 (mh.O m++Q) (.tuple #[(acL 2 o w).v,j5 11])):=by
 unfold AtQ;refine sH [] ?_;obtain⟨i,la,lc,z,oa,oc,oD,u,A,q,rfl⟩:=H.h;obtain⟨G,rfl⟩:=AH.lk_eq u;have hlt:=(z7.1 B).1;have g:=fun(own':Own) (C:qy i (lkP t la x.oc.length lc oa x.old.length oc w (decide (q4R w<0))) own')=>q49 (W0:=W0) (own:=own') (qk C rfl) (qk C rfl)
 rw[show decide (x.old.length=x.oc.length)=false from decide_eq_false Yu] at g;have y:=fun(Q:Own) (eq:qr Q z)=>qjh (W0:=W0) (b:=i) (t:=t) (c:=lc) (c2:=oc) (a2:=oa) (l2:=x.old) (s:=s) I (A.rd (W0:=W0)) B J hw Q
 repeat'((try conv=>whnf);first|refine fD ?_|(apply qe;first|refine qd (g _ Yx) ?_|refine qD (D:=mh.O m) (y _ Yx) fun _ v K=>?_;subst K)|refine fA ?_|refine fL ?_|refine fM ?_|refine qf fun bk hbk=>?_)
 all_goals exact⟨({G with lk:=ptr i},(i,lkP t la x.oc.length lc oa x.old.length oc w (decide (q4R w<0)))::(z++oD)),⟨rfl,rfl,⟨d.1,d.2,d.3,d.4,d.5,d.6,d.7,d.8,d.9⟩,⟨i,la,lc,z,oa,oc,oD,rfl,A,q,rfl⟩⟩,by show Ent W0 _ (AH.O _ c t _ 5 3 _);dsimp only;rw[zp,zd];exact sbE⟩
theorem qnz{o:Nat}(d:h.ok c x)(W:mh.ok m.L){s:Int}(V:LkO t h x s true E)(U:x.oc[x.old.length]? =some (o:Int))(X:m.o[o]? =some w)(Y:0<=s/\s+17<=18446744073709551615)(Z:t<16)(Q:Own):jn W0 205 [ptr h.b,ptr mh.mb] (h.O c t x 5 3 (E++(mh.O m++Q)))
  (AtQ W0 c t h.b (if w=s then{x with old:=x.old++ [s],ph:=if x.old.length+1=x.oc.length then .tn false else .lk s false} else{x with ph:= .lk s false}) 3 (mh.O {m with o:=if w=s then m.o.set o (s+t+1) else m.o}++Q) (.tuple #[(acW 2 o w (s+t+1) (decide (w=s))).v,j5 12])):=by
 unfold AtQ;refine sH [] ?_;obtain⟨q,la,lc,A,oa,oc,oD,S,O,R,rfl⟩:=V.h;obtain⟨J,rfl⟩:=AH.lk_eq S;have N:=(z7.1 U).1;have hlo:=d.lo;have T:x.oc≠ []:=fun h=>by rw[h] at N;exact Yh _ N
 have H:=fun(own':Own) (n2 c2:Nat) (a2:j9) (G:qy q (lkP t la x.oc.length lc a2 n2 c2 s false) own')=>q49 (W0:=W0) (own:=own') (qk G rfl) (qk G rfl)
 have z:=fun(Q:Own) (eq:qr Q A)=>qji (W0:=W0) (b:=q) (t:=t) (c:=lc) (c2:=oc) (a2:=oa) (l2:=x.old) (s:=s) W (O.rd (W0:=W0)) R U X Y Z Yu Q
 by_cases he:w=s
 ·simp only[if_pos he] at z ⊢
  by_cases M:x.old.length+1=x.oc.length
  ·simp only[if_pos M];have u:decide ((x.old++ [s]).length=x.oc.length)=true:=decide_eq_true (by rw[z8];exact M);have g:=fun(own':Own) (c2:Nat) (a2:j9) (G:qy q (lkP t la x.oc.length lc a2 (x.old++ [s]).length c2 s false) own')=>H own' _ c2 a2 G
   simp only[u] at g
   repeat'((try conv=>whnf);first|refine fE ?_|(apply qe;first|refine qd (g _ _ _ Yx) ?_|refine ql (z ((K,azP)::AH.O {J with lk:=ptr q} c t x 5 3 (A++Q)) Yx) sbE ?_ ?_ fun y v I=>?_;exact rfl;exact rfl;obtain⟨a3,C,B⟩:=y;obtain⟨rfl,i⟩:=I;dsimp only at i|refine qi (q7o _) fun tb v I=>?_;subst I)|refine fA ?_|refine fL ?_|refine fN ?_|refine fM ?_|refine qf fun K L=>?_)
   all_goals exact⟨({J with lk:=ptr q,tn:=ptr tb},[(tb,tnP false 0 false)]++((q,lkP t la x.oc.length lc a3 (x.old++ [s]).length C s false)::(A++B))),⟨rfl,rfl,⟨d.1,d.2,d.3,d.4,d.5,d.6,d.7,d.8,d.9⟩,⟨_,_,⟨tb,rfl,rfl⟩,(.inr ⟨T,by rw[z8];exact M,s,⟨q,la,lc,A,a3,C,B,rfl,O,i,rfl⟩⟩),rfl⟩⟩,by show Ent W0 _ (AH.O _ c t _ 6 3 _);simp only[zd,zp,zk];exact sbE⟩
  ·simp only[if_neg M];have u:decide ((x.old++ [s]).length=x.oc.length)=false:=decide_eq_false (by rw[z8];exact M);have g:=fun(own':Own) (c2:Nat) (a2:j9) (G:qy q (lkP t la x.oc.length lc a2 (x.old++ [s]).length c2 s false) own')=>H own' _ c2 a2 G
   simp only[u] at g
   repeat'((try conv=>whnf);first|refine fE ?_|refine fD ?_|(apply qe;first|refine qd (g _ _ _ Yx) ?_|refine ql (z ((K,azP)::AH.O {J with lk:=ptr q} c t x 5 3 (A++Q)) Yx) sbE ?_ ?_ fun y v I=>?_;exact rfl;exact rfl;obtain⟨a3,C,B⟩:=y;obtain⟨rfl,i⟩:=I;dsimp only at i)|refine fA ?_|refine fL ?_|refine fM ?_|refine qf fun K L=>?_)
   all_goals exact⟨({J with lk:=ptr q},((q,lkP t la x.oc.length lc a3 (x.old++ [s]).length C s false)::(A++B))),⟨rfl,rfl,⟨d.1,d.2,d.3,d.4,d.5,d.6,d.7,d.8,d.9⟩,⟨q,la,lc,A,a3,C,B,rfl,O,i,rfl⟩⟩,by show Ent W0 _ (AH.O _ c t _ 5 3 _);simp only[zd,zp];exact sbE⟩
 ·simp only[if_neg he] at z ⊢;have u:decide (x.old.length=x.oc.length)=false:=decide_eq_false Yu;have g:=fun(own':Own) (c2:Nat) (a2:j9) (G:qy q (lkP t la x.oc.length lc a2 x.old.length c2 s false) own')=>H own' _ c2 a2 G
  simp only[u] at g
  repeat'((try conv=>whnf);first|refine fE ?_|refine fD ?_|(apply qe;first|refine qd (g _ _ _ Yx) ?_|refine ql (z ((K,azP)::AH.O {J with lk:=ptr q} c t x 5 3 (A++Q)) Yx) sbE ?_ ?_ fun y v I=>?_;exact rfl;exact rfl;obtain⟨a3,C,B⟩:=y;obtain⟨rfl,i⟩:=I;dsimp only at i)|refine fA ?_|refine fL ?_|refine fM ?_|refine qf fun K L=>?_)
  all_goals exact⟨({J with lk:=ptr q},((q,lkP t la x.oc.length lc a3 x.old.length C s false)::(A++B))),⟨rfl,rfl,⟨d.1,d.2,d.3,d.4,d.5,d.6,d.7,d.8,d.9⟩,⟨q,la,lc,A,a3,C,B,rfl,O,i,rfl⟩⟩,by show Ent W0 _ (AH.O _ c t _ 5 3 _);simp only[zd,zp];exact sbE⟩
end
open Go
section
variable{W0:World}{own Q E:Own}{c:Cfg}{t:Nat}{h:AH}{x:AT}{k w:Int}{b e:Nat}{mh:MH}{m:MS}
theorem qnF{E1 E2:Own}(g:h.ok c x)(W:mh.ok m.L)(V:TnO h true x.tk false E1)(H:LkQ t h x E2)(Q:Own):jn W0 206 [ptr h.b,ptr mh.mb] (h.O c t x 6 3 ((E1++E2)++(mh.O m++Q)))
  (AtQ W0 c t h.b (if m.sv=x.tk then(if x.set= [] then{x with ph:= .dc} else{x with ph:= .ck x.set}) else{x with ph:= .tn true}) 3 (mh.O m++Q) (.tuple #[(acL 5 0 m.sv).v,j5 14])):=by
 unfold AtQ;refine sH [] ?_;obtain⟨tb,R,rfl⟩:=V.h;obtain⟨B,rfl⟩:=AH.tn_eq R;have z:=fun Q=>qjP (W0:=W0) (b:=tb) (c:=x.tk) W Q
 by_cases he:m.sv=x.tk
 ·simp only[if_pos he,decide_eq_true he] at z ⊢;have G:=fun(own':Own) (A:qy tb (tnP true x.tk true) own')=>q6p (W0:=W0) (d:=true) (qk A rfl)
  have hls:=g.ls;have K:=fun(own':Own) (A:qy B.sb (stP c.reads B.sa x.set.length B.sc) own') (m3:qr own' B.sD)=>qdE (W0:=W0) (own:=own') (qk A rfl) ((g.hs.rd (W0:=W0)).up) Yu
  have M:=fun(own':Own) (X:qy B.b (atP c t {B with tn:=ptr tb} x 6) own') (A:qy B.eb (enP t 3 x.rv) own')=>qcn (W0:=W0) (qk X rfl) (qk A rfl) (qk A rfl) g.rv Yv
  have L:=fun(own' D:Own) (sa:j9) (sc:Nat) (U:qo qv 3 1 sa sc x.set D) (m:qr own' D)=>qaM (W0:=W0) (own:=own') (c:=sc) ((U.rd (W0:=W0)).up) Yu x.rv
  have C:=fun(cb cc:Nat) (ca:j9) (own':Own) (A:qy cb (ckP ca x.set.length cc x.rv false) own')=>q6e (W0:=W0) (own:=own') (qk A rfl) (qk A rfl)
  by_cases N:x.set= []
  ·simp only[if_pos N];have S:(false||decide (x.set.length=0))=true:=by rw[N];rfl
   simp only[S] at C
   repeat'((try conv=>whnf);first|refine fE ?_|refine fD ?_|(apply qe;first|refine qd (G _ Yx) ?_|refine qd (M _ Yx Yx) ?_|refine qd (I _ Yx) ?_|refine qD (D:=mh.O m) (z _) fun _ v i=>?_;subst i|refine qi (K _ Yx Yx) fun y v i=>?_;obtain⟨a1,c1,D1⟩:=y;obtain⟨rfl,q⟩:=i;dsimp only at q|refine qi (L _ _ _ _ q Yx) fun y v i=>?_;(obtain⟨cb,a2,c2,O⟩:=y;obtain⟨rfl,u⟩:=i;dsimp only at u;have I:=C cb c2 a2))|refine fA ?_|refine fL ?_|refine fN ?_|refine fM ?_|refine qf fun T J=>?_)
   all_goals exact⟨({B with tn:=ptr tb,ck:=ptr cb},[(tb,tnP true x.tk true)]++E2),⟨rfl,rfl,⟨g.1,g.2,g.3,g.4,g.5,g.6,g.7,g.8,g.9⟩,⟨_,E2,⟨tb,rfl,rfl⟩,by refine LkQ.of ?_ ?_ ?_ H <;>rfl,rfl⟩⟩,by show Ent W0 _ (AH.O _ c t _ 8 3 _);exact sbE⟩
  ·simp only[if_neg N];have S:(false||decide (x.set.length=0))=false:=by rw[yP];exact decide_eq_false fun e=>N (zC.1 e)
   simp only[S] at C
   repeat'((try conv=>whnf);first|refine fE ?_|refine fD ?_|(apply qe;first|refine qd (G _ Yx) ?_|refine qd (M _ Yx Yx) ?_|refine qd (I _ Yx) ?_|refine qD (D:=mh.O m) (z _) fun _ v i=>?_;subst i|refine qi (K _ Yx Yx) fun y v i=>?_;obtain⟨a1,c1,D1⟩:=y;obtain⟨rfl,q⟩:=i;dsimp only at q|refine qi (L _ _ _ _ q Yx) fun y v i=>?_;(obtain⟨cb,a2,c2,O⟩:=y;obtain⟨rfl,u⟩:=i;dsimp only at u;have I:=C cb c2 a2))|refine fA ?_|refine fL ?_|refine fN ?_|refine fM ?_|refine qf fun T J=>?_)
   all_goals exact⟨({B with tn:=ptr tb,ck:=ptr cb},(cb,ckP a2 x.set.length c2 x.rv false)::(O++([(tb,tnP true x.tk true)]++E2))),⟨rfl,rfl,⟨g.1,g.2,g.3,g.4,g.5,g.6,g.7,g.8,g.9⟩,⟨_,E2,cb,a2,c2,O,⟨tb,rfl,rfl⟩,by refine LkQ.of ?_ ?_ ?_ H <;>rfl,rfl,⟨u.rd,u.le⟩,rfl⟩⟩,by show Ent W0 _ (AH.O _ c t _ 7 3 _);simp only[zd,zp,zk];exact sbE⟩
 ·simp only[if_neg he,decide_eq_false he] at z ⊢;have G:=fun(own':Own) (A:qy tb (tnP true x.tk false) own')=>q6p (W0:=W0) (d:=false) (qk A rfl)
  repeat'((try conv=>whnf);first|refine fD ?_|(apply qe;first|refine qd (G _ Yx) ?_|refine qD (D:=mh.O m) (z _) fun _ v i=>?_;subst i)|refine fA ?_|refine fL ?_|refine fM ?_|refine qf fun T J=>?_)
  all_goals exact⟨({B with tn:=ptr tb},[(tb,tnP true x.tk false)]++E2),⟨rfl,rfl,⟨g.1,g.2,g.3,g.4,g.5,g.6,g.7,g.8,g.9⟩,⟨_,E2,⟨tb,rfl,rfl⟩,by refine LkQ.of ?_ ?_ ?_ H <;>rfl,rfl⟩⟩,by show Ent W0 _ (AH.O _ c t _ 6 3 _);exact sbE⟩
end
open Go
class q2y(D own:Own)(r:outParam Own):Prop where
 h:own.Perm (D++r)
instance q2y.nil{own:Own}:q2y [] own own:=⟨List.Perm.refl _⟩
instance q2y.cons{D own r r1:Own}{b:Nat}{p:Obj->Prop} [m:q1J b p own r1] [k:q2y D r1 r]:q2y ((b,p)::D) own r:=⟨m.h.trans (k.h.cons _)⟩
instance q2y.app{A D own r r1:Own} [m:q03 A own r1] [k:q2y D r1 r]:q2y (A++D) own r:=⟨m.h.trans (by rw[zd];exact k.h.append_left A)⟩
section
variable{P:Program}{W0:World}{own D r r1:Own}{f f0:FuncId}{args args0:jf}{b:Nat}{p p':Obj->Prop}
theorem qlG{σ:Type}{R:σ->Value->Prop}{O:σ->Own->Own}{d:Own->Own}{K:Value->Own->Prop} [B:q1J b p own r1] [C:q2y D r1 r](h:∀Q,qq P W0 f0 args0 (d Q) fun v own'=>∃s,R s v/\Ent W0 own' (O s Q))(q:∀Q,Ent W0 ((b,p')::(D++Q)) (d Q))
  (i:p=p') (g:f=f0) (ea:args=args0) (z:∀s v,R s v->K v (O s r)):q0k P W0 own f args K:=by
 subst g;subst ea;subst i;exact⟨fun w hw=>(h r w (q r w (Ent.of_perm (B.h.trans (C.h.cons _)) w hw))).mono fun _ _ ⟨_,_,he,A,s,y,u⟩=>⟨_,O s r,he,u _ A,z s _ y⟩⟩
theorem qx{σ:Type}{R:σ->Value->Prop}{O:σ->Own->Own}{d:Own->Own}{K:Value->Own->Prop} [m1:q1J b p own r1] [m2:q2y D r1 r](h:∀Q,qq P W0 f0 args0 (d Q) fun v own'=>∃s,R s v/\Ent W0 own' (O s Q))(q:∀Q,Ent W0 ((b,p')::(D++Q)) (d Q))(u:∀s v,R s v->K v (O s r))(i:p=p':=by exact rfl)(g:f=f0:=by exact rfl)(ea:args=args0:=by exact rfl):q0k P W0 own f args K:=qlG h q i g ea u
end
theorem AH.ck_eq{h:AH}{v u:Value}(e:h.ck=v)(d:h.tn=u):∃g:AH,h={g with ck:=v,tn:=u}:=⟨h,by cases h;cases e;cases d;rfl⟩
section
variable{W0:World}{own Q E:Own}{c:Cfg}{t:Nat}{h:AH}{x:AT}{k w:Int}{b e:Nat}{mh:MH}{m:MS}
theorem qcm{E1 E2:Own}(d:h.ok c x)(R:TnO h true x.tk true E1)(B:LkQ t h x E2)(Q:Own):jn W0 281 [ptr h.b] (h.O c t x k 3 ((E1++E2)++Q))
  (AtQ W0 c t h.b x.rest 3 Q (.tuple #[])):=by
 unfold AtQ AT.rest;refine sH [3,5,7,9,11,15,17,19,21,23,1,13,26,28,29,31,34,35,37,39,42,0,26,13,28,29,31,34,35,37,39,42,0] ?_
 rcases B with ⟨u,rfl⟩|⟨u,V,s,⟨S,la,lc,lD,oa,oc,oD,C,hB,A,rfl⟩⟩
 ·simp only[if_pos u];have W:x.oc.length=0:=by rw[u];rfl
  have hz2:(x.oc.length:Int)=0:=Yu
  repeat'((try conv=>whnf);first|refine fF ?_|refine fA ?_|refine fN ?_)
  all_goals exact⟨(h,E1),⟨rfl,rfl,⟨d.1,d.2,d.3,d.4,d.5,d.6,d.7,d.8,d.9⟩,R⟩,by show Ent W0 _ (AH.O _ c t _ 12 3 _);exact sbE⟩
 ·simp only[if_neg u];obtain⟨z,rfl⟩:=AH.lk_eq C;have hz0:x.oc.length≠0:=fun e=>u (zC.1 e)
  have W:¬(x.oc.length:Int)=0:=Yu;have hlo:=d.lo;have I:=fun(own':Own) (X:qy S (lkP t la x.oc.length lc oa x.old.length oc s false) own') (Y:qr own' oD)=>qjf (W0:=W0) (own:=own') (qk X rfl) ((A.rd (W0:=W0)).up) Yu
  have G:=fun(D:Own) (a:j9) (cc:Nat) (g:qo q05 72 1 a cc x.old D) (own':Own) (m:qr own' z.oD) (Y:qr own' D)=>q9x (W0:=W0) (own:=own') (c:=z.oc) (c2:=cc) ((d.ho.rd (W0:=W0)).up) ((g.rd (W0:=W0)).up) Yu V d.ho.le g.le
  repeat'((try conv=>whnf);first|refine fG ?_|(apply qe;first|refine qi (I _ Yx Yx) fun y v J=>?_;(obtain⟨a3,U,T⟩:=y;obtain⟨rfl,g⟩:=J;dsimp only at g;have H:=G T a3 U g)|refine qi (H _ Yx Yx) fun y v J=>?_;obtain⟨K,⟨a4,N,L⟩,⟨a5,O,M⟩⟩:=y;obtain⟨rfl,i,q⟩:=J;dsimp only at i q)|refine fA ?_|refine fN ?_|refine q1a.mk ?_ ?_)
  all_goals exact⟨({z with lk:=ptr S,rl:=ptr K},(K,rlP a4 x.oc.length N a5 x.old.length O)::(L++(M++E1))),⟨rfl,rfl,⟨d.1,d.2,d.3,d.4,d.5,d.6,d.7,d.8,d.9⟩,⟨E1,K,a4,N,L,a5,O,M,by refine TnO.of ?_ R;rfl,rfl,⟨i.rd,i.le⟩,⟨q.rd,q.le⟩,rfl⟩⟩,by show Ent W0 _ (AH.O _ c t _ 10 3 _);simp only[zd,zp];exact sbE⟩
theorem qqy{E1 E2:Own}{cb cc o:Nat}{ca:j9}{z:Own}{l:je}(d:h.ok c x)(R:mh.ok m.L)(O:TnO h true x.tk true E1)(u:LkQ t h x E2)(I:h.ck=ptr cb)(N:RdE qv 1 W0 z ca ((o:Int)::l))(H:l.length+1<=cc)(S:m.o[o]? =some w)(hw:okU w)(Q:Own):
  jn W0 207 [ptr h.b,ptr mh.mb] (h.O c t x 7 3 ((cb,ckP ca (l.length+1) cc x.rv false)::(z++((E1++E2)++(mh.O m++Q)))))
  (AtQ W0 c t h.b (if q7B w>x.rv then{x with code:=9}.rest else if l= [] then{x with ph:= .dc} else{x with ph:= .ck l}) 3 (mh.O m++Q) (.tuple #[(acL 2 o w).v,j5 15])):=by
 unfold AtQ;refine sH [] ?_;obtain⟨tb,K,rfl⟩:=O.h;obtain⟨A,rfl⟩:=AH.ck_eq I K;have i:=fun(Q:Own) (eq:qr Q z)=>qge (W0:=W0) (b:=cb) (c:=cc) (rv:=x.rv) R N S hw Q
 have y:=fun(own':Own) (f:Bool) (G:qy cb (ckP (slA ca cc 1 1) l.length (cc-1) x.rv f) own')=>qgd (W0:=W0) (own:=own') (qk G rfl)
 have q:=fun(own':Own) (G:qy cb (ckP (slA ca cc 1 1) l.length (cc-1) x.rv false) own')=>q6e (W0:=W0) (own:=own') (qk G rfl) (qk G rfl)
 by_cases g:q7B w>x.rv
 ·simp only[if_pos g,decide_eq_true g] at i ⊢;have J:=fun Q=>qcm (W0:=W0) (t:=t) (k:=7) (c:=c) (x:={x with code:=9}) (h:={A with ck:=ptr cb,tn:=ptr tb}) (E1:= [(tb,tnP true x.tk true)]) (E2:=E2) ⟨d.1,d.2,d.3,d.4,d.5,d.6,d.7,d.8,d.9⟩ ⟨tb,rfl,rfl⟩ (by refine LkQ.of ?_ ?_ ?_ u <;>rfl) Q
  repeat'((try conv=>whnf);first|refine fE ?_|(apply qe;first|refine qd (y _ _ Yx) ?_|refine qD (D:=mh.O m) (i _ Yx) fun _ v g=>?_;subst g|refine qx (b:=A.b) (D:=AH.R {A with ck:=ptr cb,tn:=ptr tb} c t x 3 ([(tb,tnP true x.tk true)]++(E2++ []))) J (fun Q=>by simp only[zd];exact sbE) fun s v g=>?_;obtain⟨rfl,T⟩:=g)|refine fA ?_|refine fL ?_|refine fN ?_|refine fM ?_|refine qf fun M B=>?_)
  all_goals exact⟨s,⟨rfl,T⟩,sbE⟩
 ·simp only[if_neg g,decide_eq_false g] at i ⊢
  by_cases C:l= []
  ·simp only[if_pos C];have L:(false||decide (l.length=0))=true:=by rw[C];rfl
   simp only[L] at q
   repeat'((try conv=>whnf);first|refine fE ?_|refine fD ?_|(apply qe;first|refine qd (y _ _ Yx) ?_|refine qd (q _ Yx) ?_|refine qD (D:=mh.O m) (i _ Yx) fun _ v g=>?_;subst g)|refine fA ?_|refine fL ?_|refine fN ?_|refine fM ?_|refine qf fun M B=>?_)
   all_goals exact⟨({A with ck:=ptr cb,tn:=ptr tb},[(tb,tnP true x.tk true)]++E2),⟨rfl,rfl,⟨d.1,d.2,d.3,d.4,d.5,d.6,d.7,d.8,d.9⟩,⟨_,E2,⟨tb,rfl,rfl⟩,by refine LkQ.of ?_ ?_ ?_ u <;>rfl,rfl⟩⟩,by show Ent W0 _ (AH.O _ c t _ 8 3 _);exact sbE⟩
  ·simp only[if_neg C];have L:(false||decide (l.length=0))=false:=by rw[yP];exact decide_eq_false fun e=>C (zC.1 e)
   simp only[L] at q
   repeat'((try conv=>whnf);first|refine fD ?_|(apply qe;first|refine qd (y _ _ Yx) ?_|refine qd (q _ Yx) ?_|refine qD (D:=mh.O m) (i _ Yx) fun _ v g=>?_;subst g)|refine fA ?_|refine fL ?_|refine fM ?_|refine qf fun M B=>?_)
   all_goals exact⟨({A with ck:=ptr cb,tn:=ptr tb},(cb,ckP (slA ca cc 1 1) l.length (cc-1) x.rv false)::(z++([(tb,tnP true x.tk true)]++E2))),⟨rfl,rfl,⟨d.1,d.2,d.3,d.4,d.5,d.6,d.7,d.8,d.9⟩,⟨_,E2,cb,_,_,z,⟨tb,rfl,rfl⟩,by refine LkQ.of ?_ ?_ ?_ u <;>rfl,rfl,⟨RdE.tl N H,Yu⟩,rfl⟩⟩,by show Ent W0 _ (AH.O _ c t _ 7 3 _);simp only[zd,zp,zk];exact sbE⟩
end
open Go
theorem AH.rl_eq{h:AH}{v u:Value}(e:h.rl=v)(d:h.tn=u):∃g:AH,h={g with rl:=v,tn:=u}:=⟨h,by cases h;cases e;cases d;rfl⟩
section
variable{W0:World}{own Q E:Own}{c:Cfg}{t:Nat}{h:AH}{x:AT}{k w:Int}{b e:Nat}{mh:MH}{m:MS}
theorem q3D{d:Bool}{ck:Int}{b2 n c2:Nat}{a2:j9}(g:Cl W0 own b 38 (.bool d))(y:Cl W0 own b 37 (uv ck))(hck:0<=ck/\ck<=1099511627776)(u:Cl W0 own b 30 (j5 k))(z:Cl W0 own b 1 (ptr b2))(A:Cl W0 own b2 1 (.slice a2 n c2)):
  jo W0 91 [ptr b] own (j5 (if d=true/\k=1/\n≠0 then ck+1 else-1)):=by
 refine qg (sH [] ?_);have q:=q4a u z A;cases d with
 |false=>
  rw[if_neg Yw]
  repeat'((try conv=>whnf);first|refine fI ?_|refine fE ?_|refine q0m g ?_)
  all_goals exact⟨rfl,(eC)⟩
 |true=>
  by_cases i:k=1/\n≠0
  ·rw[decide_eq_true i] at q;rw[if_pos ⟨rfl,i⟩]
   repeat'((try conv=>whnf);first|refine fH ?_|refine fD ?_|refine q0m g ?_|refine q0m y ?_|apply qe;refine qd (q) ?_|refine fB ?_)
   all_goals exact⟨rfl,(eC)⟩
  ·rw[decide_eq_false i] at q;rw[if_neg (fun e=>i e.2)]
   repeat'((try conv=>whnf);first|refine fH ?_|refine fE ?_|refine q0m g ?_|apply qe;refine qd (q) ?_)
   all_goals exact⟨rfl,(eC)⟩
theorem qaY:(x.dn=true/\x.sto=true)↔(x.dn=true/\x.code=1/\x.ad.length≠0):=by
 unfold AT.sto;rw[decide_eq_true_iff];exact⟨fun h=>⟨h.1,h.2.1,fun e=>h.2.2 (zC.1 e)⟩,fun h=>⟨h.1,h.2.1,fun e=>h.2.2 (by rw[e];rfl)⟩⟩
theorem qqC{E1:Own}{q wc vc o:Nat}{wa va:j9}{wD vD:Own}{l l2:je}{v:Int}(d:h.ok c x)(U:mh.ok m.L)(T:TnO h true x.tk true E1)(L:h.rl=ptr q)(S:RdE qv 1 W0 wD wa ((o:Int)::l))(z:RdE q05 1 W0 vD va (v::l2))(I:l.length+1<=wc)(J:l2.length+1<=vc)
  (V:m.o[o]? =some w) (K:0<=x.ck/\x.ck<=1099511627776) (Q:Own):jn W0 210 [ptr h.b,ptr mh.mb] (h.O c t x 10 3 ((q,rlP wa (l.length+1) wc va (l2.length+1) vc)::(wD++(vD++(E1++(mh.O m++Q))))))
  (AtQ W0 c t h.b (if l= [] then{x with ph:=if x.dn=true/\x.sto=true then .sp else .ps} else{x with ph:= .rl l l2}) 3 (mh.O {m with o:=m.o.set o v}++Q) (.tuple #[(acS 2 o w v).v,j5 18])):=by
 unfold AtQ;refine sH [] ?_;obtain⟨tb,M,rfl⟩:=T.h;obtain⟨g,rfl⟩:=AH.rl_eq L M;have y:=fun(Q:Own) (e1:qr Q wD) (e2:qr Q vD)=>qgH (W0:=W0) (F:=Q) (b:=q) (c:=wc) (c2:=vc) U (S.up) (z.up) V Q
 have i:=fun(own':Own) (O:qy q (rlP (slA wa wc 1 1) l.length (wc-1) (slA va vc 1 1) l2.length (vc-1)) own')=>q9D (W0:=W0) (own:=own') (qk O rfl)
 have u:=fun(own':Own) (H:qy g.b (atP c t {g with rl:=ptr q,tn:=ptr tb} x 12) own') (O:qy g.g.b (lgP c.writes g.g.aa x.ad.length g.g.ca g.g.va x.vl.length g.g.cv g.g.ib g.g.P) own')=>q3D (W0:=W0) (qk H rfl) (qk H rfl) K (qk H rfl) (qk H rfl) (qk O rfl)
 by_cases C:l= []
 ·have N:decide (l.length=0)=true:=by rw[C];rfl
  simp only[if_pos C,N] at i ⊢
  by_cases G:x.dn=true/\x.sto=true
  ·simp only[if_pos G,if_pos (qaY.1 G)] at u ⊢;have hp:x.ck+1>=0:=Yu
   repeat'((try conv=>whnf);first|refine fE ?_|refine fF ?_|(apply qe;first|refine qd (i _ Yx) ?_|refine qd (u _ Yx Yx) ?_|refine qD (D:=mh.O m) (y _ Yx Yx) fun _ v B=>?_;subst B)|refine fA ?_|refine fL ?_|refine fN ?_|refine fM ?_|refine qf fun R A=>?_)
   all_goals exact⟨({g with rl:=ptr q,tn:=ptr tb},[(tb,tnP true x.tk true)]),⟨rfl,rfl,⟨d.1,d.2,d.3,d.4,d.5,d.6,d.7,d.8,d.9⟩,(⟨tb,rfl,rfl⟩:TnO _ _ _ _ _)⟩,by show Ent W0 _ (AH.O _ c t _ 11 3 _);exact sbE⟩
  ·simp only[if_neg G,if_neg (fun e=>G (qaY.2 e))] at u ⊢
   repeat'((try conv=>whnf);first|refine fE ?_|refine fD ?_|(apply qe;first|refine qd (i _ Yx) ?_|refine qd (u _ Yx Yx) ?_|refine qD (D:=mh.O m) (y _ Yx Yx) fun _ v B=>?_;subst B)|refine fA ?_|refine fL ?_|refine fN ?_|refine fM ?_|refine qf fun R A=>?_)
   all_goals exact⟨({g with rl:=ptr q,tn:=ptr tb},[(tb,tnP true x.tk true)]),⟨rfl,rfl,⟨d.1,d.2,d.3,d.4,d.5,d.6,d.7,d.8,d.9⟩,(⟨tb,rfl,rfl⟩:TnO _ _ _ _ _)⟩,by show Ent W0 _ (AH.O _ c t _ 12 3 _);exact sbE⟩
 ·have N:decide (l.length=0)=false:=decide_eq_false fun e=>C (zC.1 e)
  simp only[if_neg C,N] at i ⊢
  repeat'((try conv=>whnf);first|refine fD ?_|(apply qe;first|refine qd (i _ Yx) ?_|refine qD (D:=mh.O m) (y _ Yx Yx) fun _ v B=>?_;subst B)|refine fA ?_|refine fL ?_|refine fM ?_|refine qf fun R A=>?_)
  all_goals exact⟨({g with rl:=ptr q,tn:=ptr tb},(q,rlP (slA wa wc 1 1) l.length (wc-1) (slA va vc 1 1) l2.length (vc-1))::(wD++(vD++ [(tb,tnP true x.tk true)]))),⟨rfl,rfl,⟨d.1,d.2,d.3,d.4,d.5,d.6,d.7,d.8,d.9⟩,⟨_,q,_,_,wD,_,_,vD,⟨tb,rfl,rfl⟩,rfl,⟨RdE.tl S I,Yu⟩,⟨RdE.tl z J,Yu⟩,rfl⟩⟩,by show Ent W0 _ (AH.O _ c t _ 10 3 _);simp only[zd,zp,zk];exact sbE⟩
end
open Go
section
variable{W0:World}{own Q E:Own}{c:Cfg}{t:Nat}{h:AH}{x:AT}{k w:Int}{b e:Nat}{mh:MH}{m:MS}
theorem q8x:x.sto=true↔(x.code=1/\x.ad.length≠0):=by
 unfold AT.sto;rw[decide_eq_true_iff];exact⟨fun h=>⟨h.1,fun e=>h.2 (zC.1 e)⟩,fun h=>⟨h.1,fun e=>h.2 (by rw[e];rfl)⟩⟩
theorem qqz{E1 E2:Own}(d:h.ok c x)(U:mh.ok m.L)(hE:TnO h true x.tk true E1)(T:LkQ t h x E2)(hcl:0<=c.clock/\c.clock<=1099511627776)(Q:Own):jn W0 208 [ptr h.b,ptr mh.mb] (h.O c t x 8 3 ((E1++E2)++(mh.O m++Q)))
  (AtQ W0 c t h.b (if x.sto=true/\m.ck>=c.clock then{x with ck:=m.ck,code:=6}.rest else if x.sto=true then{x with ck:=m.ck,dn:=true,ph:= .wr x.ad x.vl} else{x with ck:=m.ck,dn:=true}.rest) 3 (mh.O m++Q) (.tuple #[(acL 3 0 m.ck).v,j5 16])):=by
 unfold AtQ;refine sH (jq 15 3 (0::(jq 7 3 [19,21,23,25,1,18,27,30,32,33,35,38,39,41,43,46,0,27,18,30,32,33,35,38,39,41,43,46,0]))) ?_;have i:=fun(own':Own) (N:qy h.b (atP c t h {x with ck:=m.ck} 8) own') (G:qy h.g.b (lgP c.writes h.g.aa x.ad.length h.g.ca h.g.va x.vl.length h.g.cv h.g.ib h.g.P) own')=>q4a (W0:=W0) (qk N rfl) (qk N rfl) (qk G rfl)
 have u:=fun(own':Own) (N:qy h.b (atP c t h {x with ck:=m.ck,dn:=true} 8) own') (G:qy h.g.b (lgP c.writes h.g.aa x.ad.length h.g.ca h.g.va x.vl.length h.g.cv h.g.ib h.g.P) own')=>q4a (W0:=W0) (qk N rfl) (qk N rfl) (qk G rfl)
 have M:=fun(cd:Int) (dn:Bool) Q=>qcm (W0:=W0) (t:=t) (k:=8) (c:=c) (x:={x with ck:=m.ck,code:=cd,dn:=dn}) (h:=h) (E1:=E1) (E2:=E2) ⟨d.1,d.2,d.3,d.4,d.5,d.6,d.7,d.8,d.9⟩ hE (by refine LkQ.of ?_ ?_ ?_ T <;>rfl) Q
 by_cases q:x.sto=true
 ·have hd:decide (x.code=1/\x.ad.length≠0)=true:=decide_eq_true (q8x.1 q);simp only[hd] at i u
  by_cases O:m.ck>=c.clock
  ·simp only[if_pos (And.intro q O)];have W:(acL (((2:Nat):Int)+1) ((0:Nat):Int) m.ck).got>=c.clock:=O
   repeat'((try conv=>whnf);first|refine fH ?_|refine fF ?_|(apply qe;first|refine q0Z 2 0 U Yv rfl ?_ ?_ ?_;exact rfl;exact rfl|refine qx (b:=h.b) (D:=AH.R h c t x 3 (E1++(E2++ []))) (M 6 x.dn) (fun Q=>by simp only[zd];exact sbE) fun s v z=>?_;obtain⟨rfl,q⟩:=z)|apply qC;refine qj (fun ex=>i _ Yx Yx) ?_|refine fC ?_|refine fO ?_|refine fA ?_|refine fL ?_|refine fN ?_|refine fM ?_|refine qf fun bk I=>?_)
   all_goals exact⟨s,⟨rfl,q⟩,sbE⟩
  ·simp only[if_neg (fun e:x.sto=true/\m.ck>=c.clock=>O e.2),if_pos q];have W:¬(acL (((2:Nat):Int)+1) ((0:Nat):Int) m.ck).got>=c.clock:=O;have J:x.ad.length<=1000000:=by
    have h1:=d.hg.hm;have h2:=d.wr;omega
   have X:=d.hg.hl;have S:=fun(own':Own) (G:qy h.g.b (lgP c.writes h.g.aa x.ad.length h.g.ca h.g.va x.vl.length h.g.cv h.g.ib h.g.P) own') (m3:qr own' h.g.aD)=>q4C (W0:=W0) (own:=own') (qk G rfl) ((d.hg.hA.rd (W0:=W0)).up) J
   have V:=fun(own':Own) (G:qy h.g.b (lgP c.writes h.g.aa x.ad.length h.g.ca h.g.va x.vl.length h.g.cv h.g.ib h.g.P) own') (m3:qr own' h.g.vD)=>qgx (W0:=W0) (own:=own') (qk G rfl) ((d.hg.hV.rd (W0:=W0)).up) Yu
   have K:=fun(a a2:j9) (cc H:Nat) (D R:Own) (hB:qo qv 3 1 a cc x.ad D) (g:qo q05 72 1 a2 H x.vl R) (own':Own) (m:qr own' D) (m3:qr own' R)=>qaP (W0:=W0) (own:=own') (c:=cc) (c2:=H) ((hB.rd (W0:=W0)).up) ((g.rd (W0:=W0)).up) J X hB.le g.le
   repeat'((try conv=>whnf);first|refine fH ?_|refine fE ?_|refine fG ?_|(apply qe;first|refine qd (u _ Yx Yx) ?_|refine q0Z 2 0 U Yv rfl ?_ ?_ ?_;exact rfl;exact rfl|refine qi (S _ Yx Yx) fun y v z=>?_;(obtain⟨a1,c1,D1⟩:=y;obtain⟨rfl,A⟩:=z;dsimp only at A;try have L:=K _ _ _ _ _ _ A g)|refine qi (V _ Yx Yx) fun y v z=>?_;(obtain⟨a2,c2,R⟩:=y;obtain⟨rfl,g⟩:=z;dsimp only at g;try have L:=K _ _ _ _ _ _ A g)|refine qi (L _ Yx Yx) fun y v z=>?_;obtain⟨Y,⟨a4,c4,Z⟩,⟨a5,c5,D5⟩⟩:=y;obtain⟨rfl,B,C⟩:=z;dsimp only at B C)|apply qC;refine qj (fun ex=>i _ Yx Yx) ?_|refine fC ?_|refine fO ?_|refine fA ?_|refine fL ?_|refine fN ?_|refine fM ?_|refine qf fun bk I=>?_|refine q1a.mk ?_ ?_)
   all_goals exact⟨({h with wr:=ptr Y},(Y,wrP a4 x.ad.length c4 a5 x.vl.length c5)::(Z++(D5++E1))),⟨rfl,rfl,⟨d.1,d.2,d.3,d.4,d.5,d.6,d.7,d.8,d.9⟩,⟨E1,Y,a4,c4,Z,a5,c5,D5,by refine TnO.of ?_ hE;rfl,rfl,⟨B.rd,B.le⟩,⟨C.rd,C.le⟩,rfl⟩⟩,by show Ent W0 _ (AH.O _ c t _ 9 3 _);simp only[zd,zp];exact sbE⟩
 ·simp only[if_neg (fun e:x.sto=true/\m.ck>=c.clock=>q e.1),if_neg q];have hd:decide (x.code=1/\x.ad.length≠0)=false:=decide_eq_false fun e=>q (q8x.2 e)
  simp only[hd] at i u
  repeat'((try conv=>whnf);first|refine fI ?_|refine fD ?_|(apply qe;first|refine qd (u _ Yx Yx) ?_|refine q0Z 2 0 U Yv rfl ?_ ?_ ?_;exact rfl;exact rfl|refine qx (b:=h.b) (D:=AH.R h c t x 3 (E1++(E2++ []))) (M x.code true) (fun Q=>by simp only[zd];exact sbE) fun s v z=>?_;obtain⟨rfl,q⟩:=z)|apply qC;refine qj (fun ex=>i _ Yx Yx) ?_|refine fO ?_|refine fA ?_|refine fL ?_|refine fN ?_|refine fM ?_|refine qf fun bk I=>?_)
  all_goals exact⟨s,⟨rfl,q⟩,sbE⟩
end
open Go
theorem AH.wr_eq{h:AH}{v u:Value}(e:h.wr=v)(d:h.tn=u):∃g:AH,h={g with wr:=v,tn:=u}:=⟨h,by cases h;cases e;cases d;rfl⟩
section
variable{W0:World}{own Q E:Own}{c:Cfg}{t:Nat}{h:AH}{x:AT}{k w:Int}{b e:Nat}{mh:MH}{m:MS}
theorem qnG{E1:Own}{i wc vc o:Nat}{wa va:j9}{wD vD:Own}{l l2:je}{v:Int}(g:h.ok c x)(J:mh.ok m.L)(I:TnO h true x.tk true E1)(C:h.wr=ptr i)(G:RdE qv 1 W0 wD wa ((o:Int)::l))(q:RdE q05 1 W0 vD va (v::l2))(y:l.length+1<=wc)(z:l2.length+1<=vc)
  (K:m.d[o]? =some w) (L:l≠ []) (Q:Own):jn W0 209 [ptr h.b,ptr mh.mb] (h.O c t x 9 3 ((i,wrP wa (l.length+1) wc va (l2.length+1) vc)::(wD++(vD++(E1++(mh.O m++Q))))))
  (AtQ W0 c t h.b {x with ph:= .wr l l2} 3 (mh.O {m with d:=m.d.set o v}++Q) (.tuple #[(acS 1 o w v).v,j5 17])):=by
 unfold AtQ;refine sH [] ?_;obtain⟨tb,B,rfl⟩:=I.h;obtain⟨H,rfl⟩:=AH.wr_eq C B;have A:=fun(Q:Own) (e1:qr Q wD) (e2:qr Q vD)=>q9H (W0:=W0) (F:=Q) (b:=i) (c:=wc) (c2:=vc) J (G.up) (q.up) K Q
 have u:=fun(own':Own) (O:qy i (wrP (slA wa wc 1 1) l.length (wc-1) (slA va vc 1 1) l2.length (vc-1)) own')=>q6s (W0:=W0) (own:=own') (qk O rfl)
 have N:decide (l.length=0)=false:=decide_eq_false fun e=>L (zC.1 e)
 simp only[N] at u
 repeat'((try conv=>whnf);first|refine fD ?_|(apply qe;first|refine qd (u _ Yx) ?_|refine qD (D:=mh.O m) (A _ Yx Yx) fun _ v M=>?_;subst M)|refine fA ?_|refine fL ?_|refine fM ?_|refine qf fun bk hbk=>?_)
 all_goals exact⟨({H with wr:=ptr i,tn:=ptr tb},(i,wrP (slA wa wc 1 1) l.length (wc-1) (slA va vc 1 1) l2.length (vc-1))::(wD++(vD++ [(tb,tnP true x.tk true)]))),⟨rfl,rfl,⟨g.1,g.2,g.3,g.4,g.5,g.6,g.7,g.8,g.9⟩,⟨_,i,_,_,wD,_,_,vD,⟨tb,rfl,rfl⟩,rfl,⟨RdE.tl G y,Yu⟩,⟨RdE.tl q z,Yu⟩,rfl⟩⟩,by show Ent W0 _ (AH.O _ c t _ 9 3 _);simp only[zd,zp,zk];exact sbE⟩
end
open Go
section
variable{W0:World}{c:Cfg}{t:Nat}{h:AH}{x x':AT}{e e':Nat}{mh:MH}{m m':MS}{r:AcM}{ph:Int}{E:Own}
theorem qnX(g:∀Q,jn W0 202 [ptr h.b,ptr mh.mb] (h.O c t x 2 e (E++(mh.O m++Q))) (AtQ W0 c t h.b x' e' (mh.O m'++Q) (.tuple #[r.v,j5 ph])))(Q:Own):jn W0 157 [ptr h.b,ptr mh.mb] (h.O c t x 2 e (E++(mh.O m++Q))) (AtQ W0 c t h.b x' e' (mh.O m'++Q) (.tuple #[r.v,j5 ph])):=by
 unfold AtQ at*;refine sH [] ?_
 repeat'((try conv=>whnf);first|refine fE ?_|refine fD ?_|(apply qe;first|refine ql (g ((d,azP)::Q)) sbE ?_ ?_ fun s v q=>?_;exact rfl;exact rfl;obtain⟨rfl,i⟩:=q)|refine fO ?_|refine fA ?_|refine fL ?_|refine fM ?_|refine qf fun d hbk=>?_)
 all_goals exact⟨s,⟨rfl,i⟩,sbE⟩
theorem qnY(g:∀Q,jn W0 203 [ptr h.b,ptr mh.mb] (h.O c t x 3 e (E++(mh.O m++Q))) (AtQ W0 c t h.b x' e' (mh.O m'++Q) (.tuple #[r.v,j5 ph])))(Q:Own):jn W0 157 [ptr h.b,ptr mh.mb] (h.O c t x 3 e (E++(mh.O m++Q))) (AtQ W0 c t h.b x' e' (mh.O m'++Q) (.tuple #[r.v,j5 ph])):=by
 unfold AtQ at*;refine sH [] ?_
 repeat'((try conv=>whnf);first|refine fE ?_|refine fD ?_|(apply qe;first|refine ql (g ((d,azP)::Q)) sbE ?_ ?_ fun s v q=>?_;exact rfl;exact rfl;obtain⟨rfl,i⟩:=q)|refine fO ?_|refine fA ?_|refine fL ?_|refine fM ?_|refine qf fun d hbk=>?_)
 all_goals exact⟨s,⟨rfl,i⟩,sbE⟩
theorem qqF(g:∀Q,jn W0 205 [ptr h.b,ptr mh.mb] (h.O c t x 5 e (E++(mh.O m++Q))) (AtQ W0 c t h.b x' e' (mh.O m'++Q) (.tuple #[r.v,j5 ph])))(Q:Own):jn W0 157 [ptr h.b,ptr mh.mb] (h.O c t x 5 e (E++(mh.O m++Q))) (AtQ W0 c t h.b x' e' (mh.O m'++Q) (.tuple #[r.v,j5 ph])):=by
 unfold AtQ at*;refine sH [] ?_
 repeat'((try conv=>whnf);first|refine fE ?_|refine fD ?_|(apply qe;first|refine ql (g ((d,azP)::Q)) sbE ?_ ?_ fun s v q=>?_;exact rfl;exact rfl;obtain⟨rfl,i⟩:=q)|refine fO ?_|refine fA ?_|refine fL ?_|refine fM ?_|refine qf fun d hbk=>?_)
 all_goals exact⟨s,⟨rfl,i⟩,sbE⟩
theorem qqG(g:∀Q,jn W0 206 [ptr h.b,ptr mh.mb] (h.O c t x 6 e (E++(mh.O m++Q))) (AtQ W0 c t h.b x' e' (mh.O m'++Q) (.tuple #[r.v,j5 ph])))(Q:Own):jn W0 157 [ptr h.b,ptr mh.mb] (h.O c t x 6 e (E++(mh.O m++Q))) (AtQ W0 c t h.b x' e' (mh.O m'++Q) (.tuple #[r.v,j5 ph])):=by
 unfold AtQ at*;refine sH [] ?_
 repeat'((try conv=>whnf);first|refine fE ?_|refine fD ?_|(apply qe;first|refine ql (g ((d,azP)::Q)) sbE ?_ ?_ fun s v q=>?_;exact rfl;exact rfl;obtain⟨rfl,i⟩:=q)|refine fO ?_|refine fA ?_|refine fL ?_|refine fM ?_|refine qf fun d hbk=>?_)
 all_goals exact⟨s,⟨rfl,i⟩,sbE⟩
theorem qsj(g:∀Q,jn W0 207 [ptr h.b,ptr mh.mb] (h.O c t x 7 e (E++(mh.O m++Q))) (AtQ W0 c t h.b x' e' (mh.O m'++Q) (.tuple #[r.v,j5 ph])))(Q:Own):jn W0 157 [ptr h.b,ptr mh.mb] (h.O c t x 7 e (E++(mh.O m++Q))) (AtQ W0 c t h.b x' e' (mh.O m'++Q) (.tuple #[r.v,j5 ph])):=by
 unfold AtQ at*;refine sH [] ?_
 repeat'((try conv=>whnf);first|refine fE ?_|refine fD ?_|(apply qe;first|refine ql (g ((d,azP)::Q)) sbE ?_ ?_ fun s v q=>?_;exact rfl;exact rfl;obtain⟨rfl,i⟩:=q)|refine fO ?_|refine fA ?_|refine fL ?_|refine fM ?_|refine qf fun d hbk=>?_)
 all_goals exact⟨s,⟨rfl,i⟩,sbE⟩
theorem qsk(g:∀Q,jn W0 208 [ptr h.b,ptr mh.mb] (h.O c t x 8 e (E++(mh.O m++Q))) (AtQ W0 c t h.b x' e' (mh.O m'++Q) (.tuple #[r.v,j5 ph])))(Q:Own):jn W0 157 [ptr h.b,ptr mh.mb] (h.O c t x 8 e (E++(mh.O m++Q))) (AtQ W0 c t h.b x' e' (mh.O m'++Q) (.tuple #[r.v,j5 ph])):=by
 unfold AtQ at*;refine sH [] ?_
 repeat'((try conv=>whnf);first|refine fE ?_|refine fD ?_|(apply qe;first|refine ql (g ((d,azP)::Q)) sbE ?_ ?_ fun s v q=>?_;exact rfl;exact rfl;obtain⟨rfl,i⟩:=q)|refine fO ?_|refine fA ?_|refine fL ?_|refine fM ?_|refine qf fun d hbk=>?_)
 all_goals exact⟨s,⟨rfl,i⟩,sbE⟩
theorem qqH(g:∀Q,jn W0 209 [ptr h.b,ptr mh.mb] (h.O c t x 9 e (E++(mh.O m++Q))) (AtQ W0 c t h.b x' e' (mh.O m'++Q) (.tuple #[r.v,j5 ph])))(Q:Own):jn W0 157 [ptr h.b,ptr mh.mb] (h.O c t x 9 e (E++(mh.O m++Q))) (AtQ W0 c t h.b x' e' (mh.O m'++Q) (.tuple #[r.v,j5 ph])):=by
 unfold AtQ at*;refine sH [] ?_
 repeat'((try conv=>whnf);first|refine fE ?_|refine fD ?_|(apply qe;first|refine ql (g ((d,azP)::Q)) sbE ?_ ?_ fun s v q=>?_;exact rfl;exact rfl;obtain⟨rfl,i⟩:=q)|refine fO ?_|refine fA ?_|refine fL ?_|refine fM ?_|refine qf fun d hbk=>?_)
 all_goals exact⟨s,⟨rfl,i⟩,sbE⟩
theorem qqE(g:∀Q,jn W0 210 [ptr h.b,ptr mh.mb] (h.O c t x 10 e (E++(mh.O m++Q))) (AtQ W0 c t h.b x' e' (mh.O m'++Q) (.tuple #[r.v,j5 ph])))(Q:Own):jn W0 157 [ptr h.b,ptr mh.mb] (h.O c t x 10 e (E++(mh.O m++Q))) (AtQ W0 c t h.b x' e' (mh.O m'++Q) (.tuple #[r.v,j5 ph])):=by
 unfold AtQ at*;refine sH [] ?_
 repeat'((try conv=>whnf);first|refine fE ?_|refine fD ?_|(apply qe;first|refine ql (g ((d,azP)::Q)) sbE ?_ ?_ fun s v q=>?_;exact rfl;exact rfl;obtain⟨rfl,i⟩:=q)|refine fO ?_|refine fA ?_|refine fL ?_|refine fM ?_|refine qf fun d hbk=>?_)
 all_goals exact⟨s,⟨rfl,i⟩,sbE⟩
end
open Go
theorem qn8(n i:Nat)(v:Int)(hi:i<n):(List.replicate i v++List.replicate (n-i) 0).set i v=List.replicate (i+1) v++List.replicate (n-(i+1)) 0:=by
 rw[ZS _ _ Yw,zO,yd,show n-i=(n-(i+1))+1 by omega,ZY,Yq,Y7,zd];rfl
abbrev axP(a:AcM):Obj->Prop:=fun z=>z=Obj.cells #[j5 a.k,j5 a.c,j5 a.i,j6 a.got,j6 a.put, .bool a.dn] 136 (0,0)
theorem RdE.memU{W0:World}{own:Own}{l:je}{T:TypeId}{b:Nat} [m:qy b (j8 (l.map q05).flatten.toArray T) own]:RdE q05 1 W0 own (some ⟨b,0,none⟩) l:=q1V m.h (fun _ _=>rfl) (by rw[zU])
section
variable{W0:World}{own Q E:Own}{c:Cfg}{t:Nat}{h:AH}{x:AT}{k w:Int}{b e:Nat}{mh:MH}{m:MS}
theorem qnH{E1:Own}{B wc vc o:Nat}{wa va:j9}{wD vD:Own}{l2:je}{v:Int}(q:h.ok c x)(hM:mh.ok m.L)(hE:TnO h true x.tk true E1)(Y:h.wr=ptr B)(hL:RdE qv 1 W0 wD wa [(o:Int)])(O:RdE q05 1 W0 vD va (v::l2))
  (hj:m.d[o]? =some w) (hs:x.dn=true/\x.sto=true) (hck:0<=x.ck/\x.ck<1099511627776) (Q:Own):jn W0 209 [ptr h.b,ptr mh.mb] (h.O c t x 9 3 ((B,wrP wa 1 wc va (l2.length+1) vc)::(wD++(vD++(E1++(mh.O m++Q))))))
  (AtQ W0 c t h.b {x with ph:= .rl x.oc (x.oc.map fun _=>(x.ck+1)*64)} 3 (mh.O {m with d:=m.d.set o v}++Q) (.tuple #[(acS 1 o w v).v,j5 17])):=by
 unfold AtQ;rw[show(x.oc.map fun _=>(x.ck+1)*64)=List.replicate x.oc.length ((x.ck+1)*64) from List.map_const'];refine sH [] ?_;obtain⟨tb,W,rfl⟩:=hE.h;obtain⟨g,rfl⟩:=AH.wr_eq Y W;have hlo:=q.lo;have V:=fun(Q:Own) (e1:qr Q wD) (e2:qr Q vD)=>q9H (W0:=W0) (F:=Q) (b:=B) (c:=wc) (c2:=vc) (l:= []) hM (hL.up) (O.up) hj Q
 have R:=fun(own':Own) (Z:qy B (wrP (slA wa wc 1 1) 0 (wc-1) (slA va vc 1 1) l2.length (vc-1)) own')=>q6s (W0:=W0) (own:=own') (qk Z rfl)
 repeat'((try conv=>whnf);first|refine fE ?_|refine mkC (enc:=q05) x.oc.length 0 rfl rfl rfl Yu fun N=>?_|(apply qe;first|refine qd (R _ Yx) ?_|refine qD (D:=mh.O m) (V _ Yx Yx) fun _ v X=>?_;subst X)|refine fA ?_|refine fM ?_|refine qf fun bk hbk=>?_)
 rename_i M _ _;have A:=fun(own':Own) (L:qy g.b (atP c t {g with wr:=ptr B,tn:=ptr tb} x 9) own') (Z:qy g.g.b (lgP c.writes g.g.aa x.ad.length g.g.ca g.g.va x.vl.length g.g.cv g.g.ib g.g.P) own')=>q3D (W0:=W0) (own:=own') (b:=g.b) (qk L rfl) (qk L rfl) Yu (qk L rfl) (qk L rfl) (qk Z rfl)
 rw[if_pos ⟨hs.1,q8x.1 hs.2⟩] at A;have S:=fun(own':Own)=>qjR (W0:=W0) (own:=own') (x.ck+1) Yu
 refine qK (σ:=Nat) (fun i=> [(30,j5 i)]) (fun i=>q0U q05 72 N (List.replicate i ((x.ck+1)*64)++List.replicate (x.oc.length-i) 0)::((bk,axP (acS 1 o w v))::(M,azP)::AH.O {g with wr:=ptr B,tn:=ptr tb} c t x 9 3 ((B,wrP (slA wa wc 1 1) 0 (wc-1) (slA va vc 1 1) l2.length (vc-1))::(wD++(vD++([(tb,tnP true x.tk true)]++(mh.O {m with d:=m.d.set o v}++Q))))))) (fun i=>i<=x.oc.length) (fun i=>x.oc.length-i) 0 (zv _) (eF) (by rw[yM,zk,Nat.sub_zero];exact sbE) rfl ?_;rintro i junk hi;have hw:∀z∈(List.replicate i ((x.ck+1)*64)++List.replicate (x.oc.length-i) 0:je),(q05 z).length=1:=fun _ _=>rfl
 by_cases I:i<x.oc.length
 ·have hx:(List.replicate i ((x.ck+1)*64)++List.replicate (x.oc.length-i) 0:je)[i]? =some 0:=by
   rw[zT Yw,zO,yd,Zy,if_pos Yu]
  have J:(i:Int)<x.oc.length:=Yu;have U:x.oc.length=(List.replicate i ((x.ck+1)*64)++List.replicate (x.oc.length-i) 0:je).length:=by simp;omega
  repeat'((try conv=>whnf);first|refine fF ?_|(apply qF;first|refine ixC hx U ?_ ?_;(first|rfl|omega))|(apply qe;first|refine qd (A _ Yx Yx) ?_|refine qd (S _) ?_)|((with_reducible show StT _ _ _ _ _);first|refine stC (T:=72) (k:=0) (((x.ck+1)*64)) hw hx ?_ ?_ ?_ ?_ ?_;exact rfl;omega;exact rfl;exact rfl)|refine fB ?_|refine fO ?_)
  refine⟨i+1,I,Yu,(eF),?_⟩;rw[<-qn8 _ _ _ I];exact sbE
 ·have J:¬(i:Int)<x.oc.length:=Yu;obtain rfl:i=x.oc.length:=Yu;rw[yd,yM,zz];have K:=fun(own':Own) (m:qr own' g.oD) (m3:qy N (fun z=>z=Obj.cells ((List.replicate x.oc.length ((x.ck+1)*64)).map q05).flatten.toArray 72) own')=>q9x (W0:=W0) (own:=own') (c:=g.oc) (c2:=x.oc.length) ((q.ho.rd (W0:=W0)).up) (RdE.memU (T:=72) (l:=List.replicate x.oc.length ((x.ck+1)*64)) (b:=N)) Yu zO q.ho.le (by rw[zO];exact zq _)
  rw[zO] at K
  repeat'((try conv=>whnf);first|refine fG ?_|(apply qe;first|refine qi (K _ Yx Yx) fun y v X=>?_;obtain⟨rb,⟨a4,c4,D4⟩,⟨a5,c5,D5⟩⟩:=y;obtain⟨rfl,C,u⟩:=X;dsimp only at C u)|refine fA ?_|refine fL ?_|refine fN ?_|refine fM ?_)
  have H:(List.replicate x.oc.length ((x.ck+1)*64)).length=x.oc.length:=zO;have G:=u.le;rw[H] at G;exact⟨({g with wr:=ptr B,tn:=ptr tb,rl:=ptr rb},(rb,rlP a4 x.oc.length c4 a5 x.oc.length c5)::(D4++(D5++ [(tb,tnP true x.tk true)]))),⟨rfl,rfl,⟨q.1,q.2,q.3,q.4,q.5,q.6,q.7,q.8,q.9⟩,⟨_,rb,a4,c4,D4,a5,c5,D5,⟨tb,rfl,rfl⟩,rfl,⟨C.rd,C.le⟩,⟨u.rd,u.le⟩,by rw[H]⟩⟩,by show Ent W0 _ (AH.O _ c t _ 10 3 _);simp only[zd,zp,zk];exact sbE⟩
end
open Go
section
variable{W0:World}{own Q:Own}{c:Cfg}{t:Nat}{h:AH}{x:AT}{k w:Int}{b e:Nat}{mh:MH}{m:MS}
theorem qjt(d:h.ok c x)(u:mh.ok m.L)(y:m.sl[t]? =some w)(Q:Own):jn W0 202 [ptr h.b,ptr mh.mb] (h.O c t x 2 0 (mh.O m++Q))
  (AtQ W0 c t h.b {x with ph:= .ent 1} 1 (mh.O {m with sl:=m.sl.set t 1}++Q) (.tuple #[(acS 6 t w 1).v,j5 2])):=by
 unfold AtQ;refine sH [] ?_;have i:=fun(own':Own) (g:qy h.eb (enP t 0 x.rv) own')=>q4E (W0:=W0) (n:=0) (qk g rfl) (qk g rfl) d.rv
 have q:=fun(own':Own) (g:qy h.eb (enP t 1 x.rv) own')=>q4E (W0:=W0) (n:=1) (qk g rfl) (qk g rfl) d.rv
 have hd:=fun(own':Own) (g:qy h.eb (enP t 1 x.rv) own')=>q6f (W0:=W0) (n:=1) (qk g rfl)
 simp only[show decide ((1:Int)=3)=false from rfl,if_pos (show(0:Int)<=1 by decide),if_pos (show(1:Int)<=1 by decide)] at i q hd
 repeat'((try conv=>whnf);first|refine fD ?_|(apply qe;first|refine qd (i _ Yx) ?_|refine qd (q _ Yx) ?_|refine qd (hd _ Yx) ?_|refine qD (D:=mh.O m) (qgj (b:=h.eb) (c:=x.rv) u y _) fun _ v z=>?_;subst z)|refine fA ?_|refine fL ?_|refine fM ?_|refine qf fun bk hbk=>?_)
 all_goals exact⟨(h,[]),⟨rfl,rfl,⟨d.1,d.2,d.3,d.4,d.5,d.6,d.7,d.8,d.9⟩,rfl⟩,sbE⟩
theorem qju(d:h.ok c x)(y:mh.ok m.L)(i:0<=m.ck/\m.ck<=1099511627776)(Q:Own):jn W0 202 [ptr h.b,ptr mh.mb] (h.O c t x 2 1 (mh.O m++Q))
  (AtQ W0 c t h.b {x with rv:=m.ck,ph:= .ent 2} 2 (mh.O m++Q) (.tuple #[(acL 3 0 m.ck).v,j5 3])):=by
 unfold AtQ;refine sH [] ?_;have q:=fun(own':Own) (g:qy h.eb (enP t 1 x.rv) own')=>q4E (W0:=W0) (n:=1) (qk g rfl) (qk g rfl) d.rv
 have u:=fun(own':Own) (g:qy h.eb (enP t 2 m.ck) own')=>q4E (W0:=W0) (n:=2) (qk g rfl) (qk g rfl) i
 have hd:=fun(own':Own) (g:qy h.eb (enP t 2 m.ck) own')=>q6f (W0:=W0) (n:=2) (qk g rfl)
 simp only[show decide ((2:Int)=3)=false from rfl,if_neg (show ¬(2:Int)<=1 by decide),if_pos (show(1:Int)<=1 by decide)] at q u hd;have hne:(-1:Int)≠m.ck:=Yu
 repeat'((try conv=>whnf);first|refine fD ?_|refine fF ?_|(apply qe;first|refine qd (q _ Yx) ?_|refine qd (u _ Yx) ?_|refine qd (hd _ Yx) ?_|refine qD (D:=mh.O m) (qgk (b:=h.eb) (t:=t) (c:=x.rv) y _) fun _ v z=>?_;subst z)|refine fA ?_|refine fL ?_|refine fM ?_|refine qf fun bk hbk=>?_)
 all_goals exact⟨(h,[]),⟨rfl,rfl,⟨d.1,d.2,d.3,d.4,d.5,d.6,d.7,i,d.9⟩,rfl⟩,sbE⟩
theorem qjv(d:h.ok c x)(q:mh.ok m.L)(u:m.sl[t]? =some w)(Q:Own):jn W0 202 [ptr h.b,ptr mh.mb] (h.O c t x 2 2 (mh.O m++Q))
  (AtQ W0 c t h.b {x with ph:= .idle} 3 (mh.O {m with sl:=m.sl.set t (qQ (x.rv+2))}++Q) (.tuple #[(acS 6 t w (qQ (x.rv+2))).v,j5 4])):=by
 unfold AtQ;refine sH [] ?_;have g:=fun(own':Own) (i:qy h.eb (enP t 2 x.rv) own')=>q4E (W0:=W0) (n:=2) (qk i rfl) (qk i rfl) d.rv
 have hd:=fun(own':Own) (i:qy h.eb (enP t 3 x.rv) own')=>q6f (W0:=W0) (n:=3) (qk i rfl)
 simp only[if_neg (show ¬(2:Int)<=1 by decide)] at g
 repeat'((try conv=>whnf);first|refine fE ?_|(apply qe;first|refine qd (g _ Yx) ?_|refine qd (hd _ Yx) ?_|refine qD (D:=mh.O m) (qgl (b:=h.eb) (c:=x.rv) q u _) fun _ v y=>?_;subst y)|refine fA ?_|refine fL ?_|refine fN ?_|refine fM ?_|refine qf fun bk hbk=>?_)
 all_goals exact⟨(h,[]),⟨rfl,rfl,⟨d.1,d.2,d.3,d.4,d.5,d.6,d.7,d.8,d.9⟩,rfl⟩,sbE⟩
end
open Go
theorem AH.rd_eq{h:AH}{v u:Value}{l:Int}(e:h.rd=v)(d:h.ld=l)(g:h.us=u):∃i:AH,h={i with rd:=v,ld:=l,us:=u}:=⟨h,by cases h;cases e;cases d;cases g;rfl⟩
section
variable{W0:World}{own Q:Own}{c:Cfg}{t:Nat}{h:AH}{x:AT}{k w bf vl:Int}{b e r ab o:Nat}{mh:MH}{m:MS}
theorem qnB(g:h.ok c x)(K:mh.ok m.L)(G:h.rd=ptr r)(C:h.ld=0)(H:h.us=fnv 228 [ptr ab])(M:qB c x.addr=(o:Int))(L:m.o[o]? =some w)(hw:okU w)(Q:Own):
  jn W0 203 [ptr h.b,ptr mh.mb] (h.O c t x 3 3 ([(r,rdP x.addr o x.rv 0 0 0 false),(ab,abP h.b)]++(mh.O m++Q)))
  (AtQ W0 c t h.b (if q4R w>=0\/q7B w>x.rv then x.undo 9 else{x with ph:= .rd 1 w 0}) 3 (mh.O m++Q) (.tuple #[(acL 2 o w).v,j5 5])):=by
 unfold AtQ;refine sH (jq 6 3 (17::19::21::23::1::16::1::25::27::30::32::33::0::30::1::25::27::32::33::0::32::25::27::33::0::1::25::27::1::16::30::32::33::0::30::16::32::33::0::30::1::16::1::25::27::32::33::0::32::25::27::33::0::25::27::16::32::33::0::(jq 23 3 (0::(jq 10 3 (24::26::27::29::31::34::0::(jq 14 3 (32::33::0::(jq 10 3 [24,0]))))))))) ?_;obtain⟨z,rfl⟩:=AH.rd_eq G C H;have q:=fun Q=>qjq (W0:=W0) (b:=r) (a:=x.addr) (o:=o) (rv:=x.rv) K L hw Q
 by_cases I:q4R w>=0\/q7B w>x.rv
 ·simp only[if_pos I] at q ⊢;have i:=fun(own':Own) (y:qy r (rdP x.addr o x.rv 3 w 0 true) own')=>q30 (W0:=W0) (n:=3) (qk y rfl)
  have B:=fun(own':Own) (y:qy r (rdP x.addr o x.rv 3 w 0 true) own')=>q6l (W0:=W0) (d:=true) (qk y rfl)
  repeat'((try conv=>whnf);first|refine fE ?_|refine fD ?_|(apply qe;first|refine qd (i _ Yx) ?_|refine qd (B _ Yx) ?_|refine qD (D:=mh.O m) (q _) fun _ v u=>?_;subst u|refine qI (q6r (h:={z with rd:=ptr r,ld:=1,us:=fnv 228 [ptr ab]}) (c:=c) (t:=t) (x:=x) (k:=3) 9 _) fun _ v u=>?_;subst u)|refine fB ?_|refine fA ?_|refine fL ?_|refine fN ?_|refine fM ?_|refine qf fun J A=>?_|refine q1a.mk ?_ ?_)
  all_goals exact⟨({z with rd:=ptr r,ld:=1,us:=fnv 228 [ptr ab]},[]),⟨rfl,rfl,⟨g.1,g.2,g.3,g.4,g.5,g.6,g.7,g.8,g.9⟩,rfl⟩,sbE⟩
 ·simp only[if_neg I] at q ⊢;have i:=fun(own':Own) (y:qy r (rdP x.addr o x.rv 1 w 0 false) own')=>q30 (W0:=W0) (n:=1) (qk y rfl)
  simp only[show decide ((1:Int)=3)=false from rfl] at i
  repeat'((try conv=>whnf);first|refine fE ?_|(apply qe;first|refine qd (i _ Yx) ?_|refine qD (D:=mh.O m) (q _) fun _ v u=>?_;subst u)|refine fB ?_|refine fA ?_|refine fL ?_|refine fN ?_|refine fM ?_|refine qf fun J A=>?_|refine q1a.mk ?_ ?_)
  all_goals exact⟨({z with rd:=ptr r,ld:=1,us:=fnv 228 [ptr ab]},[(r,rdP x.addr o x.rv 1 w 0 false),(ab,abP z.b)]),⟨rfl,rfl,⟨g.1,g.2,g.3,g.4,g.5,g.6,g.7,g.8,g.9⟩,⟨rfl,r,ab,rfl,rfl,by dsimp only;rw[M]⟩⟩,sbE⟩
theorem qnC{j:Nat}(d:h.ok c x)(z:mh.ok m.L)(q:h.rd=ptr r)(i:h.ld=1)(u:h.us=fnv 228 [ptr ab])(C:qB c x.addr=(o:Int))(A:x.addr=(j:Int))(B:m.d[j]? =some w)(Q:Own):
  jn W0 203 [ptr h.b,ptr mh.mb] (h.O c t x 3 3 ([(r,rdP j o x.rv 1 bf 0 false),(ab,abP h.b)]++(mh.O m++Q)))
  (AtQ W0 c t h.b {x with ph:= .rd 2 bf w} 3 (mh.O m++Q) (.tuple #[(acL 1 j w).v,j5 6])):=by
 unfold AtQ;refine sH (jq 6 3 (17::19::21::23::1::16::1::25::27::30::32::33::0::30::1::25::27::32::33::0::32::25::27::33::0::1::25::27::1::16::30::32::33::0::30::16::32::33::0::30::1::16::1::25::27::32::33::0::32::25::27::33::0::25::27::16::32::33::0::(jq 23 3 (0::(jq 10 3 (24::26::27::29::31::34::0::(jq 14 3 (32::33::0::(jq 10 3 [24,0]))))))))) ?_;obtain⟨y,rfl⟩:=AH.rd_eq q i u;have g:=fun(own':Own) (H:qy r (rdP j o x.rv 2 bf w false) own')=>q30 (W0:=W0) (n:=2) (qk H rfl)
 simp only[show decide ((2:Int)=3)=false from rfl] at g
 repeat'((try conv=>whnf);first|refine fE ?_|(apply qe;first|refine qd (g _ Yx) ?_|refine qD (D:=mh.O m) (qjr (b:=r) (o:=o) (rv:=x.rv) (bf:=bf) z B _) fun _ v G=>?_;subst G)|refine fB ?_|refine fA ?_|refine fL ?_|refine fN ?_|refine fM ?_|refine qf fun bk hbk=>?_|refine q1a.mk ?_ ?_)
 all_goals exact⟨({y with rd:=ptr r,ld:=2,us:=fnv 228 [ptr ab]},[(r,rdP j o x.rv 2 bf w false),(ab,abP y.b)]),⟨rfl,rfl,⟨d.1,d.2,d.3,d.4,d.5,d.6,d.7,d.8,d.9⟩,⟨rfl,r,ab,rfl,rfl,by dsimp only;rw[C,A]⟩⟩,sbE⟩
end
open Go
theorem qbb{cap:Int}{l s:je}{o:Int}(h:q6D cap l o=some s):s.length<=l.length+1:=by
 unfold q6D at h
 split at h
 ·cases h;omega
 ·split at h
  ·cases h
  ·cases h;rw[z8];exact zq _
theorem qhG{l:je}{a:Int}:(q1Y l a).length<=l.length+1:=by
 unfold q1Y
 split
 ·omega
 ·rw[z8];exact zq _
section
variable{W0:World}{own Q:Own}{c:Cfg}{t:Nat}{h:AH}{x:AT}{k w bf vl:Int}{b e r ab o:Nat}{mh:MH}{m:MS}
theorem qnD(g:h.ok c x)(hM:mh.ok m.L)(Z:h.rd=ptr r)(Y:h.ld=2)(af:h.us=fnv 228 [ptr ab])(hj:m.o[o]? =some w)(haw:x.addr<c.words)(hl1:x.set.length<100000)(hl2:x.seen.length<100000)(Q:Own):
  jn W0 203 [ptr h.b,ptr mh.mb] (h.O c t x 3 3 ([(r,rdP x.addr o x.rv 2 bf vl false),(ab,abP h.b)]++(mh.O m++Q)))
  (AtQ W0 c t h.b (if w≠bf then x.undo 9 else match q6D c.reads x.set (qB c x.addr) with
    |none=>{x with seen:=q1Y x.seen x.addr}.undo 3
    |some s=>{x with seen:=q1Y x.seen x.addr,set:=s,val:=vl,ph:= .idle}) 3 (mh.O m++Q) (.tuple #[(acL 2 o w).v,j5 7])):=by
 unfold AtQ;refine sH (jq 6 3 (17::19::21::23::1::16::1::25::27::30::32::33::0::30::1::25::27::32::33::0::32::25::27::33::0::1::25::27::1::16::30::32::33::0::30::16::32::33::0::30::1::16::1::25::27::32::33::0::32::25::27::33::0::25::27::16::32::33::0::(jq 23 3 (0::(jq 10 3 (24::26::27::29::31::34::0::(jq 14 3 (32::33::0::(jq 10 3 [24,0]))))))))) ?_;obtain⟨u,rfl⟩:=AH.rd_eq Z Y af;have A:=fun Q=>qjs (W0:=W0) (b:=r) (a:=x.addr) (o:=o) (rv:=x.rv) (bf:=bf) (vl:=vl) hM hj Q
 have G:=fun(d:Bool) (own':Own) (I:qy r (rdP x.addr o x.rv 3 bf vl d) own')=>q30 (W0:=W0) (n:=3) (qk I rfl)
 by_cases V:w≠bf
 ·simp only[if_pos V,decide_eq_true V] at A ⊢;have B:=fun(own':Own) (I:qy r (rdP x.addr o x.rv 3 bf vl true) own')=>q6l (W0:=W0) (d:=true) (qk I rfl)
  repeat'((try conv=>whnf);first|refine q3k ?_ ?_;exact rfl|refine fD ?_|(apply qe;first|refine qd (G _ _ Yx) ?_|refine qd (B _ Yx) ?_|refine qD (D:=mh.O m) (A _) fun _ v i=>?_;subst i|refine qI (q6r (h:={u with rd:=ptr r,ld:=3,us:=fnv 228 [ptr ab]}) (c:=c) (t:=t) (x:=x) (k:=3) 9 _) fun _ v i=>?_;subst i)|refine ari ?_ ?_;omega|refine fA ?_|refine fL ?_|refine fN ?_|refine fM ?_|refine qf fun U H=>?_|refine q1a.mk ?_ ?_)
  all_goals exact⟨({u with rd:=ptr r,ld:=3,us:=fnv 228 [ptr ab]},[]),⟨rfl,rfl,⟨g.1,g.2,g.3,g.4,g.5,g.6,g.7,g.8,g.9⟩,rfl⟩,sbE⟩
 ·simp only[if_neg V,decide_eq_false V] at A ⊢;have B:=fun(own':Own) (I:qy r (rdP x.addr o x.rv 3 bf vl false) own')=>q6l (W0:=W0) (d:=false) (qk I rfl)
  have S:=fun(own':Own) (I:qy r (rdP x.addr o x.rv 3 bf vl false) own')=>qjp (W0:=W0) (qk I rfl) (qk I rfl) (qk I rfl)
  have hq:=g.hn;have C:=fun(own':Own) (m3:qr own' u.nD)=>q0B (W0:=W0) (own:=own') (cap:=u.nc) ((g.hn.rd (W0:=W0)).up) Yu x.addr
  have z:=fun Q=>qgK (W0:=W0) (b:=u.sb) (cap:=c.reads) g.hs Yu (qB c x.addr) Q
  by_cases W:x.addr∈x.seen
  ·have M:q1Y x.seen x.addr=x.seen:=if_pos W;simp only[decide_eq_true W] at C;rw[M];cases L:q6D c.reads x.set (qB c x.addr) with
   |none=>
    simp only[L,ZL,yh] at z ⊢
    repeat'((try conv=>whnf);first|refine q0i ?_ ?_;exact rfl|refine q3k ?_ ?_;exact rfl|refine fD ?_|apply q1l;exact rfl;omega|(apply qe;first|refine qd (G _ _ Yx) ?_|refine qd (B _ Yx) ?_|refine qD (D:=mh.O m) (A _) fun _ v i=>?_;subst i|refine qD (D:=u.sD) (z _) fun y v i=>?_;obtain⟨a3,K,J⟩:=y;obtain⟨rfl,q⟩:=i;dsimp only at q|refine q1G (q6r (h:={u with rd:=ptr r,ld:=3,us:=fnv 228 [ptr ab]}) (c:=c) (t:=t) (x:=x) (k:=3) 3 _) ?_ ?_ ?_ fun _ v i=>?_;(solve|exact rfl|(unfold atP;simp only[z8];rfl));exact rfl;exact rfl;subst i)|(apply qC;first|refine qj (fun ex=>C _ Yx) ?_|refine qj (fun ex=>q4D W0 _ c x.addr) ?_)|refine ari ?_ ?_;omega|refine fA ?_|refine fL ?_|refine fQ ?_|refine fN ?_|refine fM ?_|refine qf fun U H=>?_|refine q1a.mk ?_ ?_)
    all_goals exact⟨({u with rd:=ptr r,ld:=3,us:=fnv 228 [ptr ab],sa:=a3,sc:=K,sD:=J},[]),⟨rfl,rfl,⟨q,g.2,g.3,g.4,g.5,g.6,g.7,g.8,g.9⟩,rfl⟩,sbE⟩
   |some s=>
    have ae:=qbb L;simp only[L,ZT,Za] at z ⊢
    repeat'((try conv=>whnf);first|refine q0i ?_ ?_;exact rfl|refine fD ?_|apply q1l;exact rfl;omega|refine q2f.mk ⟨qmW,?_⟩|(apply qe;first|refine qd (G _ _ Yx) ?_|refine qd (B _ Yx) ?_|refine qD (D:=mh.O m) (A _) fun _ v i=>?_;subst i|refine qD (D:=u.sD) (z _) fun y v i=>?_;obtain⟨a3,K,J⟩:=y;obtain⟨rfl,q⟩:=i;dsimp only at q|refine q7J (b:=u.b) (D:= [(ab,abP u.b)]) (q6m (h:={u with rd:=ptr r,ld:=3,us:=fnv 228 [ptr ab]}) (c:=c) (t:=t) (x:=x) (k:=0) vl _) ?_ ?_ ?_ fun _ v i=>?_;(solve|exact rfl|(unfold atP;simp only[z8];rfl));exact rfl;exact rfl;subst i)|(apply qC;first|refine qj (fun ex=>C _ Yx) ?_|refine qj (fun ex=>q4D W0 _ c x.addr) ?_|refine qj (fun ex=>S _ Yx) ?_)|refine ari ?_ ?_;omega|refine fA ?_|refine fL ?_|refine fQ ?_|refine fN ?_|refine fM ?_|refine qf fun U H=>?_|refine q1a.mk ?_ ?_)
    all_goals exact⟨({u with rd:=ptr r,ld:=3,us:=fnv 228 [ptr ab],sa:=a3,sc:=K,sD:=J},[]),⟨rfl,rfl,⟨q,g.2,g.3,g.4,by dsimp only;omega,g.6,g.7,g.8,g.9⟩,rfl⟩,sbE⟩
  ·have M:q1Y x.seen x.addr=x.seen++ [x.addr]:=if_neg W;have X:=qhG (l:=x.seen) (a:=x.addr);simp only[decide_eq_false W] at C;rw[M] at X ⊢;cases L:q6D c.reads x.set (qB c x.addr) with
   |none=>
    simp only[L,ZL,yh] at z ⊢
    repeat'((try conv=>whnf);first|refine q0i ?_ ?_;exact rfl|refine q3k ?_ ?_;exact rfl|refine fD ?_|apply q1l;exact rfl;omega|apply q0z (enc:=qv) (T:=3) x.addr hq;exact rfl;exact rfl;omega;exact rfl;exact rfl;omega;intro a5 R O N|(apply qe;first|refine qd (G _ _ Yx) ?_|refine qd (B _ Yx) ?_|refine qD (D:=mh.O m) (A _) fun _ v i=>?_;subst i|refine qD (D:=u.sD) (z _) fun y v i=>?_;obtain⟨a3,K,J⟩:=y;obtain⟨rfl,q⟩:=i;dsimp only at q|refine q1G (q6r (h:={u with rd:=ptr r,ld:=3,us:=fnv 228 [ptr ab],na:=a5,nc:=R,nD:=O}) (c:=c) (t:=t) (x:={x with seen:=x.seen++ [x.addr]}) (k:=3) 3 _) ?_ ?_ ?_ fun _ v i=>?_;(solve|exact rfl|(unfold atP;simp only[z8];rfl));exact rfl;exact rfl;subst i)|(apply qC;first|refine qj (fun ex=>C _ Yx) ?_|refine qj (fun ex=>q4D W0 _ c x.addr) ?_)|refine ari ?_ ?_;omega|refine fA ?_|refine fL ?_|refine fQ ?_|refine fN ?_|refine fM ?_|refine qf fun U H=>?_|refine q1a.mk ?_ ?_)
    all_goals exact⟨({u with rd:=ptr r,ld:=3,us:=fnv 228 [ptr ab],na:=a5,nc:=R,nD:=O,sa:=a3,sc:=K,sD:=J},[]),⟨rfl,rfl,⟨q,N,g.3,g.4,g.5,by show(x.seen++ [x.addr]).length<=100000;omega,g.7,g.8,g.9⟩,rfl⟩,sbE⟩
   |some s=>
    have ae:=qbb L;simp only[L,ZT,Za] at z ⊢
    repeat'((try conv=>whnf);first|refine q0i ?_ ?_;exact rfl|refine q3k ?_ ?_;exact rfl|refine fD ?_|apply q1l;exact rfl;omega|apply q0z (enc:=qv) (T:=3) x.addr hq;exact rfl;exact rfl;omega;exact rfl;exact rfl;omega;intro a5 R O N|refine q2f.mk ⟨qmW,?_⟩|(apply qe;first|refine qd (G _ _ Yx) ?_|refine qd (B _ Yx) ?_|refine qD (D:=mh.O m) (A _) fun _ v i=>?_;subst i|refine qD (D:=u.sD) (z _) fun y v i=>?_;obtain⟨a3,K,J⟩:=y;obtain⟨rfl,q⟩:=i;dsimp only at q|refine q7J (b:=u.b) (D:= [(ab,abP u.b)]) (q6m (h:={u with rd:=ptr r,ld:=3,us:=fnv 228 [ptr ab],na:=a5,nc:=R,nD:=O}) (c:=c) (t:=t) (x:={x with seen:=x.seen++ [x.addr]}) (k:=0) vl _) ?_ ?_ ?_ fun _ v i=>?_;(solve|exact rfl|(unfold atP;simp only[z8];rfl));exact rfl;exact rfl;subst i)|(apply qC;first|refine qj (fun ex=>C _ Yx) ?_|refine qj (fun ex=>q4D W0 _ c x.addr) ?_|refine qj (fun ex=>S _ Yx) ?_)|refine ari ?_ ?_;omega|refine fA ?_|refine fL ?_|refine fQ ?_|refine fN ?_|refine fM ?_|refine qf fun U H=>?_|refine q1a.mk ?_ ?_)
    all_goals exact⟨({u with rd:=ptr r,ld:=3,us:=fnv 228 [ptr ab],na:=a5,nc:=R,nD:=O,sa:=a3,sc:=K,sD:=J},[]),⟨rfl,rfl,⟨q,N,g.3,g.4,by dsimp only;omega,by dsimp only;omega,g.7,g.8,g.9⟩,rfl⟩,sbE⟩
end
open Go
def AP.en:AP->Nat
 | .ent n=>n
 |_=>3
def okO(m:MS)(i:Int):Prop:=∃o:Nat,i=o/\o<m.o.length/\okU (m.o.getD o 0)
def okD(m:MS)(i:Int):Prop:=∃o:Nat,i=o/\o<m.d.length
def okA(c:Cfg)(t:Nat)(m:MS)(x:AT):Prop:=
 match x.ph with
 | .idle=>False
 | .loc k=>x.oc= []/\(0<=c.words/\c.words<=1099511627776)/\∀a v,k= .wr a v->0<=a
 | .ent n=>(n=0\/n=1\/n=2)/\t<m.sl.length/\(0<=m.ck/\m.ck<=1099511627776)
 | .rd n b v=>okO m (qB c x.addr)/\okD m x.addr/\x.addr<c.words/\((n=0/\b=0/\v=0)\/(n=1/\v=0)\/n=2)/\x.set.length<100000/\x.seen.length<100000
 | .lk s ld=>x.old.length<x.oc.length/\okO m (x.oc.getD x.old.length 0)/\(ld=true->0<=s/\s+17<=18446744073709551615)/\t<16
 | .tn _=>True
 | .ck l=>l≠ []/\okO m (l.headD 0)
 | .dc=>0<=c.clock/\c.clock<=1099511627776
 | .wr a v=>a≠ []/\v≠ []/\okD m (a.headD 0)/\(x.dn=true/\x.sto=true)/\(0<=x.ck/\x.ck<1099511627776)
 | .rl o w=>o≠ []/\w≠ []/\okO m (o.headD 0)/\(0<=x.ck/\x.ck<1099511627776)
 | .sp=>True
 | .ps=>0<=x.tk/\x.tk<=1099511627776
 | .lv=>t<m.sl.length
theorem q0N{l:je}{i:Nat}(h:i<l.length):l[i]? =some (l.getD i 0):=by
 rw[zh,z6 h];rfl
theorem qqI{c:Cfg}{t:Int}{m:MS}{x:AT}{a v:je}(h:x.ph= .wr a v)(g:a.tail≠ []):qh c t m x=({m with d:=m.d.set (a.headD 0).toNat (v.headD 0)},{x with ph:= .wr a.tail v.tail},acS 1 (a.headD 0) (m.d.getD (a.headD 0).toNat 0) (v.headD 0),17):=by unfold qh;simp only[h,g,if_false]
theorem qaD(x:AT):x.rest.ph.en=3:=by unfold AT.rest;split <;>rfl
theorem qeE(c:Cfg)(x:AT)(k:Int):(x.endA c k).ph.en=3:=by unfold AT.endA;split <;>rfl
theorem qmF(c:Cfg)(x:AT)(k:Ko)(h:x.ph.en=3):(x.kont c k).ph.en=3:=by
 cases k with
 |en d=>exact qeE c x d
 |tk v=>exact h
 |wr a v=>
  unfold AT.kont;dsimp only
  split
  ·exact qeE c x 7
  ·split
   ·exact h
   ·rfl
section
variable{W0:World}{own Q E:Own}{c:Cfg}{t:Nat}{h:AH}{x:AT}{k w:Int}{b e:Nat}{mh:MH}{m:MS}
theorem qcq{P:Program}{f:FuncId}{args:jf}{d g:Own}{K:Value->Own->Prop}(h:qq P W0 f args d K)(e:d=g):qq P W0 f args g K:=e ▸ h
abbrev StQ(W0:World)(c:Cfg)(t:Nat)(h:AH)(mh:MH)(m:MS)(x:AT)(Q:Own):Value->Own->Prop:=
 AtQ W0 c t h.b (qh c t m x).2.1 (qh c t m x).2.1.ph.en (mh.O (qh c t m x).1++Q) (.tuple #[(qh c t m x).2.2.1.v,j5 (qh c t m x).2.2.2])
theorem q2t{e':Nat}{x':AT}{m':MS}{r:AcM}{ph:Int}{f:FuncId}{args:jf}{d:Own}(g:jn W0 f args d (AtQ W0 c t h.b x' e' (mh.O m'++Q) (.tuple #[r.v,j5 ph])))(i:qh c t m x=(m',x',r,ph))(he:x'.ph.en=e'):jn W0 f args d (StQ W0 c t h mh m x Q):=by
 unfold StQ;rw[i];dsimp only;rw[he];exact g
theorem q3f(g:h.ok c x)(u:mh.ok m.L)(B:PhO W0 c t h x E)(G:okA c t m x)(Q:Own):
  jn W0 157 [ptr h.b,ptr mh.mb] (h.O c t x x.ph.no x.ph.en (E++(mh.O m++Q))) (StQ W0 c t h mh m x Q):=by
 obtain⟨st,code,rv,set,ad,vl,seen,addr,val,oc,old,ck,dn,tk,ph⟩:=x;cases ph with
 |idle=>exact G.elim
 |loc kk=>
  obtain⟨i,q,z⟩:=G;exact q2t (qnA (mb:=mh.mb) g i q B z (mh.O m++Q)) rfl (qmF c _ _ rfl)
 |ent n=>
  obtain⟨i,q,z⟩:=G;obtain rfl:E= []:=B
  rcases i with rfl|rfl|rfl
  ·exact q2t (qnX (E:= []) (fun Q=>qjt g u (q0N q) Q) Q) rfl rfl
  ·exact q2t (qnX (E:= []) (fun Q=>qju g u z Q) Q) rfl rfl
  ·exact q2t (qnX (E:= []) (fun Q=>qjv g u (q0N q) Q) Q) rfl rfl
 |rd n bf vl=>
  obtain⟨⟨o,i,q,z⟩,⟨j,C,M⟩,I,U,Z,h9⟩:=G;obtain⟨K,r,ab,Y,R,rfl⟩:=B;dsimp only at i C I U Z h9 K;subst C;show qq _ _ _ _ (h.O c t _ 3 3 ([(r,rdP j (qB c j) rv n bf vl false),(ab,abP h.b)]++(mh.O m++Q))) _;rw[i]
  rcases U with ⟨rfl,rfl,rfl⟩|⟨rfl,rfl⟩|rfl
  ·refine q2t (qnY (fun Q=>qnB g u Y K R i (q0N q) z Q) Q) (by rw[qo3 rfl];dsimp only;rw[i];rfl) ?_
   split <;>rfl
  ·exact q2t (qnY (fun Q=>qnC g u Y K R i rfl (q0N M) Q) Q) rfl rfl
  ·refine q2t (qnY (fun Q=>qnD g u Y K R (q0N q) I Z h9 Q) Q) (by rw[qo4 rfl];dsimp only;rw[i];rfl) ?_
   split
   ·rfl
   ·split <;>rfl
 |lk s ld=>
  obtain⟨i,⟨o,q,z,C⟩,M,I⟩:=G;have T:=q0N i;dsimp only at q T;rw[q] at T;cases ld with
  |false=>exact q2t (qqF (fun Q=>qny g u B T (q0N z) C Q) Q) (by rw[q7w rfl,if_pos rfl];dsimp only;rw[q];rfl) rfl
  |true=>
   refine q2t (qqF (fun Q=>qnz g u B T (q0N z) (M rfl) I Q) Q) ?_ ?_
   ·have U:=M rfl;rw[q7w rfl,if_neg Yv];dsimp only;rw[q,show qQ (s+(t:Int)+1)=s+t+1 from q5q Yu Yu,zD]
    by_cases hw:m.o.getD o 0=s
    ·simp only[if_pos hw,decide_eq_true hw]
    ·simp only[if_neg hw,decide_eq_false hw]
   ·split
    ·dsimp only;split <;>rfl
    ·rfl
 |tn b=>
  obtain⟨E1,E2,H,A,rfl⟩:=B;cases b with
  |false=>exact q2t (qqG (fun Q=>qnE g u H A Q) Q) rfl rfl
  |true=>
   refine q2t (qqG (fun Q=>qnF g u H A Q) Q) (by rw[q8u rfl]) ?_
   split
   ·split <;>rfl
   ·rfl
 |ck l=>
  obtain⟨i,⟨o,q,z,C⟩⟩:=G;obtain⟨E1,E2,cb,ca,cc,cD,H,A,W,⟨S,V⟩,rfl⟩:=B;cases l with
  |nil=>exact absurd rfl i
  |cons y l=>
   obtain rfl:y=(o:Int):=q;refine q2t (e':=3) (qsj (fun Q=>?_) Q) (by rw[qh3 rfl]) ?_
   ·exact qcq (qqy g u H A W S V (q0N z) C Q) (by simp only[zd,zp,zm];rfl)
   ·split
    ·exact qaD _
    ·split <;>rfl
 |dc=>
  obtain⟨E1,E2,H,A,rfl⟩:=B;refine q2t (qsk (fun Q=>qqz g u H A G Q) Q) (by rw[q3u rfl]) ?_
  split
  ·exact qaD _
  ·split
   ·rfl
   ·exact qaD _
 |wr a v=>
  obtain⟨i,q,⟨o,z,C⟩,M,I⟩:=G;obtain⟨E1,wb,wa,wc,wD,va,vc,vD,H,L,⟨S,N⟩,⟨J,O⟩,rfl⟩:=B;cases a with
  |nil=>exact absurd rfl i
  |cons y l=>
   obtain rfl:y=(o:Int):=z;cases v with
   |nil=>exact absurd rfl q
   |cons v0 l2=>
    by_cases X:l= []
    ·subst X;refine q2t (qqH (fun Q=>?_) Q) rfl rfl;exact qcq (qnH (wc:=wc) (vc:=vc) g u H L S J (q0N C) M I Q) (by simp only[zd,zp,zm,zE];rfl)
    ·refine q2t (qqH (fun Q=>?_) Q) (m':={m with d:=m.d.set o v0}) (x':=⟨st,code,rv,set,ad,vl,seen,addr,val,oc,old,ck,dn,tk, .wr l l2⟩) (r:=acS 1 o (m.d.getD o 0) v0) (ph:=17) (by rw[qqI (a:=(o:Int)::l) (v:=v0::l2) rfl X];rfl) rfl;exact qcq (qnG g u H L S J N O (q0N C) X Q) (by simp only[zd,zp,zm];rfl)
 |rl a v=>
  obtain⟨i,q,⟨o,z,C,M⟩,I⟩:=G;obtain⟨E1,wb,wa,wc,wD,va,vc,vD,H,L,⟨S,N⟩,⟨J,O⟩,rfl⟩:=B;cases a with
  |nil=>exact absurd rfl i
  |cons y l=>
   obtain rfl:y=(o:Int):=z;cases v with
   |nil=>exact absurd rfl q
   |cons v0 l2=>
    refine q2t (e':=3) (qqE (fun Q=>?_) Q) rfl ?_
    ·exact qcq (qqC g u H L S J N O (q0N C) ⟨I.1,Int.le_of_lt I.2⟩ Q) (by simp only[zd,zp,zm];rfl)
    ·split
     ·dsimp only;split <;>rfl
     ·rfl
 |sp=>exact q2t (qqD g u B Q) rfl rfl
 |ps=>exact q2t (qqB g u B G Q) rfl rfl
 |lv=>
  obtain rfl:E= []:=B;exact q2t (qqA g u (q0N G) Q) rfl rfl
end
open Go
structure LB where
 l:Nat
 fp:Value
structure TH where
 b:Nat
 ap:Value
 lb:LB
 ca:j9
 cc:Nat
 sa:j9
 sc:Nat
 sD:Own
 oa:j9
 oc:Nat
 oD:Own
abbrev thP(c:Cfg)(t n:Nat)(p:jg)(h:TH)(x:GT):Obj->Prop:=fun z=>z=Obj.cells #[h.ap,j5 x.bg,uv x.sv.r0,uv x.sv.r1,uv x.sv.r2,uv x.sv.r3,uv x.sv.r4,uv x.sv.r5,uv x.sv.r6,uv x.sv.r7,j5 x.tr, .slice h.sa x.seen.length h.sc, .bool false,j5 0,h.lb.fp, .pointer none,
 j5 c.words,j5 c.orecs,j5 c.base,j5 c.c0,j5 c.c1,j5 c.c2,j5 c.c3,j5 c.reads,j5 c.writes,j5 c.allocs,j5 c.frees,j5 c.clock, .bool c.strong,
 j5 t,j5 n, .slice h.ca p.length h.cc,j5 x.th.pc,uv x.th.rg.r0,uv x.th.rg.r1,uv x.th.rg.r2,uv x.th.rg.r3,uv x.th.rg.r4,uv x.th.rg.r5,uv x.th.rg.r6,uv x.th.rg.r7,j5 x.th.oc, .bool x.th.dn,ptr h.lb.l, .slice h.oa x.obs.length h.oc,j5 x.ct] 193 (0,0)
structure TH.ok(h:TH)(x:GT):Prop where
 hs:qo ObM.enc 94 3 h.sa h.sc x.seen h.sD
 ho:qo ObM.enc 94 3 h.oa h.oc x.obs h.oD
structure qdX(i:Ins):Prop where
 op:0<=i.op/\i.op<18
 a:qhB i.op=true->0<=i.a/\i.a<8
 b:qlc i.op=true->0<=i.b/\i.b<8
 c:qld i.op=true->0<=i.c/\i.c<8
 im:i.op=4\/i.op=5\/i.op=6->0<=i.imm/\i.imm<=64
theorem qpI{i:Ins}(h:qJ i=0):qdX i:=by
 obtain⟨d,g,q,u,y,_⟩:=q20 h;exact⟨d,g,q,u,y⟩
section
variable{W0:World}{own Q:Own}{c:Cfg}{t n:Nat}{p:jg}{h:TH}{x:GT}{k:Int}{b e:Nat}
theorem qqY{i:Nat}(d:i<8):(#[h.ap,j5 x.bg,uv x.sv.r0,uv x.sv.r1,uv x.sv.r2,uv x.sv.r3,uv x.sv.r4,uv x.sv.r5,uv x.sv.r6,uv x.sv.r7,j5 x.tr, .slice h.sa x.seen.length h.sc, .bool false,j5 0,h.lb.fp, .pointer none,
 j5 c.words,j5 c.orecs,j5 c.base,j5 c.c0,j5 c.c1,j5 c.c2,j5 c.c3,j5 c.reads,j5 c.writes,j5 c.allocs,j5 c.frees,j5 c.clock, .bool c.strong,
 j5 t,j5 n, .slice h.ca p.length h.cc,j5 x.th.pc,uv x.th.rg.r0,uv x.th.rg.r1,uv x.th.rg.r2,uv x.th.rg.r3,uv x.th.rg.r4,uv x.th.rg.r5,uv x.th.rg.r6,uv x.th.rg.r7,j5 x.th.oc, .bool x.th.dn,ptr h.lb.l, .slice h.oa x.obs.length h.oc,j5 x.ct]:jh).toList[33+i]? =some (uv (x.th.rg.get i)):=by
 rcases lt8 d with rfl|rfl|rfl|rfl|rfl|rfl|rfl|rfl <;>rfl
theorem qas{off i:Nat}{K:Value->Prop} [m:qy b (thP c t n p h x) own](d:i<8)(q:off=33+i)(g:K (uv (x.th.rg.get i))):Ld W0 own ⟨b,off,none⟩ K:=by
 subst q;exact qS _ m.h (qqY d) g
theorem qaV{off i:Nat}{v:Int}{K:Own->Prop}{C:(Obj->Prop)->Own} [m:UpC b (thP c t n p h x) own C](d:i<8)(q:off=33+i)(g:K (C (thP c t n p h {x with th:={x.th with rg:=x.th.rg.set i v}}))):StT W0 own ⟨b,off,none⟩ (uv v) K:=by
 subst q;refine qou (by rcases lt8 d with rfl|rfl|rfl|rfl|rfl|rfl|rfl|rfl <;>rfl) rfl ?_
 rcases lt8 d with rfl|rfl|rfl|rfl|rfl|rfl|rfl|rfl <;>exact g
theorem q6o{j:Int}(i:Nat)(d:j=i)(Q:Own):jn W0 116 [ptr h.b,j5 j] ((h.b,thP c t n p h x)::Q) fun v own'=>∃_:Unit,v= .tuple #[]/\Ent W0 own' ((h.b,thP c t n p h (x.to p.length i))::Q):=by
 subst d;refine qE (sH [] ?_);unfold GT.to;rw[show decide (i=p.length)=decide ((i:Int)=(p.length:Int)) from decide_eq_decide.2 Yu]
 repeat'((try conv=>whnf);first|refine fA ?_|refine fN ?_)
 all_goals exact⟨rfl,sbE⟩
theorem q2s(hp:x.th.pc<=1000000)(Q:Own):jn W0 156 [ptr h.b] ((h.b,thP c t n p h x)::Q) fun v own'=>∃_:Unit,v= .tuple #[]/\Ent W0 own' ((h.b,thP c t n p h (x.to p.length (x.th.pc+1)))::Q):=by
 refine qE (sH [] ?_)
 repeat'((try conv=>whnf);first|(apply qe;first|refine qI (q6o (c:=c) (t:=t) (n:=n) (p:=p) (h:=h) (x:=x) (x.th.pc+1) rfl _) fun _ v d=>?_;subst d)|refine fB ?_|refine fA ?_)
 all_goals exact⟨rfl,sbE⟩
theorem qcu{r imm:Int} [m:qy b (thP c t n p h x) own](hr:0<=r/\r<8):jo W0 232 [ptr b,j5 r,j5 imm] own (uv (adr x.th.rg r imm)):=by
 refine qg (sH [] ?_);have d:r.toNat<8:=Yu
 repeat'((try conv=>whnf);first|refine qas (c:=c) (t:=t) (n:=n) (p:=p) (h:=h) (x:=x) d ?_ ?_;omega|refine arw (k:= .u64) ?_|refine fP ?_)
 all_goals exact⟨rfl,(eC)⟩
theorem q9G{i:Ins}(hx:qdX i)(Z:x.th.rg.ok)(hp:x.th.pc<=1000)(Q:Own):jn W0 168 [ptr h.b,i.v] ((h.b,thP c t n p h x)::Q) fun v own'=>
  ∃_:Unit,v= .tuple #[]/\Ent W0 own' ((h.b,thP c t n p h {x with th:={q1h x.th i with dn:=decide ((q1h x.th i).pc=p.length)}})::Q):=by
 refine qE (sH (jq 8 3 (20::0::(jq 11 3 (26::0::(jq 23 3 (50::0::(jq 11 3 (26::0::(jq 7 3 (0::(jq 7 3 [0]))))))))))) ?_);have g:=fun(j:Int) (L:j=(q1L x.th i:Nat)) Q=>q6o (W0:=W0) (c:=c) (t:=t) (n:=n) (p:=p) (h:=h) (x:={x with th:={x.th with rg:=q5h x.th i}}) (q1L x.th i) L Q
 obtain⟨h0,y,z,C,A⟩:=hx;obtain⟨op,a,B,cc,imm⟩:=i;dsimp only[Ins.v] at*
 by_cases S:op=1
 ·subst S;have N:=y rfl;have d:a.toNat<8:=Yu;clear y z C A
  repeat'((try conv=>whnf);first|refine fE ?_|refine arw (k:= .u64) ?_|refine qaV (c:=c) (t:=t) (n:=n) (p:=p) (h:=h) (x:=x) d ?_ ?_;omega|(apply qe;first|refine qI (g _ rfl _) fun _ v u=>?_;subst u)|refine fB ?_|refine fP ?_|refine fA ?_|refine qf fun J q=>?_)
  all_goals exact⟨rfl,sbE⟩
 by_cases T:op=2
 ·subst T;have N:=y rfl;have d:a.toNat<8:=Yu;have hb:=z rfl;have I:B.toNat<8:=Yu;clear y z C A
  repeat'((try conv=>whnf);first|refine fE ?_|refine fD ?_|refine qas (c:=c) (t:=t) (n:=n) (p:=p) (h:=h) (x:=x) I ?_ ?_;omega|refine qaV (c:=c) (t:=t) (n:=n) (p:=p) (h:=h) (x:=x) d ?_ ?_;omega|(apply qe;first|refine qI (g _ rfl _) fun _ v u=>?_;subst u)|refine fB ?_|refine fP ?_|refine fA ?_|refine qf fun J q=>?_)
  all_goals exact⟨rfl,sbE⟩
 by_cases U:op=3
 ·subst U;have N:=y rfl;have d:a.toNat<8:=Yu;have hb:=z rfl;have I:B.toNat<8:=Yu;have h3c:=C rfl;have R:cc.toNat<8:=Yu;clear y z C A;have O:=fun own=>Alu.sp_apply W0 own imm (x.th.rg.get B.toNat) (x.th.rg.get cc.toNat) (Z _)
  repeat'((try conv=>whnf);first|refine fE ?_|refine fD ?_|refine qas (c:=c) (t:=t) (n:=n) (p:=p) (h:=h) (x:=x) I ?_ ?_;omega|refine qas (c:=c) (t:=t) (n:=n) (p:=p) (h:=h) (x:=x) R ?_ ?_;omega|refine qaV (c:=c) (t:=t) (n:=n) (p:=p) (h:=h) (x:=x) d ?_ ?_;omega|(apply qe;first|refine qI (g _ rfl _) fun _ v u=>?_;subst u)|apply qC;refine q35 (fun _=>O _) ?_|refine fB ?_|refine fO ?_|refine fP ?_|refine fA ?_|refine qf fun J q=>?_)
  all_goals exact⟨rfl,sbE⟩
 by_cases K:op=17
 ·subst K;have N:=y rfl;have d:a.toNat<8:=Yu;clear y z C A
  repeat'((try conv=>whnf);first|refine fE ?_|refine fD ?_|refine arw (k:= .u64) ?_|refine qaV (c:=c) (t:=t) (n:=n) (p:=p) (h:=h) (x:=x) d ?_ ?_;omega|(apply qe;first|refine qI (g _ rfl _) fun _ v u=>?_;subst u)|refine fB ?_|refine fP ?_|refine fA ?_|refine qf fun J q=>?_)
  all_goals exact⟨rfl,sbE⟩
 have X:q5h x.th ⟨op,a,B,cc,imm⟩=x.th.rg:=by unfold q5h;rw[if_neg S,if_neg T,if_neg U,if_neg K]
 unfold q1h;rw[X] at g ⊢
 by_cases V:op=4
 ·subst V;have Y:=A (.inl rfl);clear y z C A;have L:(x.th.pc:Int)+1+imm=(q1L x.th ⟨4,a,B,cc,imm⟩:Nat):=by simp only[q1L];simp;omega
  repeat'((try conv=>whnf);first|refine fE ?_|refine fD ?_|(apply qe;first|refine qI (g _ L _) fun _ v u=>?_;subst u)|refine fB ?_|refine fA ?_|refine qf fun J q=>?_)
  all_goals exact⟨rfl,sbE⟩
 by_cases H:op=5\/op=6
 ·have Y:=A (.inr H);have N:0<=a/\a<8:=y (by rcases H with rfl|rfl <;>rfl);have d:a.toNat<8:=Yu;clear y z C A;have M:q1L x.th ⟨op,a,B,cc,imm⟩=if(op=5/\x.th.rg.get a.toNat=0)\/(op=6/\x.th.rg.get a.toNat≠0) then x.th.pc+1+imm.toNat else x.th.pc+1:=by unfold q1L;simp[V]
  by_cases W:x.th.rg.get a.toNat=0
  all_goals
   rcases H with rfl|rfl
   all_goals
    first
    |have G:=g ((x.th.pc:Int)+1+imm) (by rw[M];simp[W];omega)
    |have G:=g ((x.th.pc:Int)+1) (by rw[M];simp[W])
    repeat'((try conv=>whnf);first|refine fE ?_|refine fD ?_|refine fF ?_|refine fG ?_|refine qas (c:=c) (t:=t) (n:=n) (p:=p) (h:=h) (x:=x) d ?_ ?_;omega|(apply qe;first|refine qI (G _) fun _ v u=>?_;subst u)|refine fB ?_|refine fP ?_|refine fA ?_|refine qf fun J q=>?_)
    all_goals exact⟨rfl,sbE⟩
 ·clear y z C A;have M:q1L x.th ⟨op,a,B,cc,imm⟩=x.th.pc+1:=by unfold q1L;rw[if_neg (by simp only;omega)]
  have L:(x.th.pc:Int)+1=(q1L x.th ⟨op,a,B,cc,imm⟩:Nat):=by rw[M];rfl
  repeat'((try conv=>whnf);first|refine fG ?_|(apply qe;first|refine qI (g _ L _) fun _ v u=>?_;subst u)|refine fB ?_|refine fA ?_|refine qf fun J q=>?_)
  all_goals exact⟨rfl,sbE⟩
end
open Go
section
variable{W0:World}{own Q:Own}{t:Nat}{k w:Int}{b gb e:Nat}
theorem q9n{na aa:j9}{nc ca:Nat}{seen ad:je}(X:Cl W0 own b 1 (ptr gb))(J:Cl W0 own b 15 (j5 w))(Y:Cl W0 own b 2 (.slice na seen.length nc))(g1:Cl W0 own gb 1 (.slice aa ad.length ca))(Z:RdE qv 1 W0 own aa ad)(hN:RdE qv 1 W0 own na seen)(hl:ad.length<=1000000)(hl2:seen.length<=1000000):
  jn W0 158 [ptr b] own fun v own'=>∃s:(j9×Nat×Own)×(j9×Nat×Own),(v= .tuple #[.slice s.1.1 seen.length s.1.2.1, .slice s.2.1 (ad.filter fun x=>decide (x<w)).length s.2.2.1]/\
   qo qv 3 1 s.1.1 s.1.2.1 seen s.1.2.2/\qo qv 3 1 s.2.1 s.2.2.1 (ad.filter fun x=>decide (x<w)) s.2.2.2)/\Ent W0 own' (s.1.2.2++(s.2.2.2++own)):=by
 refine sH [] ?_;have L:=q4C g1 Z hl
 repeat'((try conv=>whnf);first|refine q0m X ?_|(apply qe;first|refine qi L fun y v O=>?_;obtain⟨a1,c1,D1⟩:=y;obtain⟨rfl,A⟩:=O;dsimp only at A))
 have I:RdE qv 1 W0 D1 a1 ad:=A.rd (W0:=W0);refine qK (σ:=Nat×j9×Nat×Own) (fun s=> [(13,j5 s.1),(3, .slice s.2.1 ((ad.take s.1).filter fun x=>decide (x<w)).length s.2.2.1)]) (fun s=>s.2.2.2++(D1++own)) (fun s=>s.1<=ad.length/\qo qv 3 1 s.2.1 s.2.2.1 ((ad.take s.1).filter fun x=>decide (x<w)) s.2.2.2) (fun s=>ad.length-s.1) (0,none,0,[]) ⟨Yw,qo.nil⟩ (eF) sbE rfl ?_;rintro⟨i,R,S,z⟩ junk ⟨hi,G⟩;dsimp only at hi G ⊢;have htl:((ad.take i).filter fun x=>decide (x<w)).length<=1000000:=by have:=Y3 (fun x=>decide (x<w)) (ad.take i);rw[zQ] at this;omega
 have q:∀D:Own,Cl W0 (D++(D1++own)) b 15 (j5 w):=fun D=>J.ent (Ent.right.trans Ent.right)
 by_cases u:i<ad.length
 ·obtain⟨y,H⟩:∃y,ad[i]? =some y:=⟨_,z6 u⟩
  have C:(i:Int)<ad.length:=Yu;have g:(ad.take (i+1)).filter (fun x=>decide (x<w))=((ad.take i).filter fun x=>decide (x<w))++if y<w then [y] else []:=by
   rw[zZ,H,yn]
   by_cases d:y<w
   ·rw[if_pos d];simp[d]
   ·rw[if_neg d];simp[d]
  by_cases d:y<w
  ·rw[if_pos d] at g
   repeat'((try conv=>whnf);first|refine fF ?_|refine q0m (q z) ?_|refine qf fun bk hbk=>?_|apply q0z (enc:=qv) (T:=3) y G;exact rfl;exact rfl;omega;exact rfl;exact rfl;omega;intro a3 W V M|apply gLd;refine q0l I H rfl ?_|(apply qF;first|refine ixE I H ?_ ?_;(first|rfl|omega))|refine fB ?_)
   refine⟨(i+1,a3,W,V),⟨u,by dsimp only;rw[g];exact M⟩,by simp only;omega,?_,sbE⟩;dsimp only;rw[g,z8];exact(eF)
  ·rw[if_neg d,zz] at g
   repeat'((try conv=>whnf);first|refine fF ?_|refine fG ?_|refine q0m (q z) ?_|apply gLd;refine q0l I H rfl ?_|(apply qF;first|refine ixE I H ?_ ?_;(first|rfl|omega))|refine fB ?_)
   refine⟨(i+1,R,S,z),⟨u,by dsimp only;rw[g];exact G⟩,by simp only;omega,?_,sbE⟩;dsimp only;rw[g];exact(eF)
 ·obtain rfl:i=ad.length:=Yu;rw[Z4] at G ⊢;have C:¬(ad.length:Int)<ad.length:=Yu;have K:∀D:Own,Cl W0 (D++(D1++own)) b 2 (.slice na seen.length nc):=fun D=>Y.ent (Ent.right.trans Ent.right)
  have N:=fun(own':Own) (m:qr own' own)=>qL (W0:=W0) (own:=own') (cap:=nc) (hN.up) Yu
  repeat'((try conv=>whnf);first|refine fG ?_|refine q0m (K z) ?_|(apply qe;first|refine qi (N _ Yx) fun y v O=>?_;obtain⟨a2,c2,U⟩:=y;obtain⟨rfl,B⟩:=O;dsimp only at B))
  exact⟨((a2,c2,U),(R,S,z)),⟨rfl,B,G⟩,sbE⟩
theorem qg9(i:Cl W0 own b 4 (j7)):jn W0 292 [ptr b] own fun v own'=>∃s:j9×Nat,v= .slice s.1 0 s.2/\Ent W0 own' own:=by
 refine sH [] ?_;have g:=qL (W0:=W0) (own:=own) (a:=none) (l:= []) (cap:=0) RdE.nil Yv
 repeat'((try conv=>whnf);first|refine q0m i ?_|(apply qe;first|refine qi g fun y v q=>?_;obtain⟨a2,c2,D2⟩:=y;obtain⟨rfl,d⟩:=q;dsimp only at d))
 exact⟨(a2,c2),rfl,sbE⟩
end
open Go
abbrev a0T:AT:={AT.new with st:=1,ph:= .ent 0}
section
variable{W0:World}{own Q:Own}{c:Cfg}{t n:Nat}{p:jg}{h:TH}{x:GT}{k:Int}{b e:Nat}
theorem qgS(A:0<=c.reads/\c.reads<=32)(hw:1<=c.writes/\c.writes<=32)(hct:x.ct<=1000000)(Q:Own):jn W0 164 [ptr h.b] ((h.b,thP c t n p h x)::Q) fun v own'=>
  ∃ah:AH,(v= .tuple #[]/\ah.ok c a0T)/\Ent W0 own' ((h.b,thP c t n p {h with ap:=ptr ah.b,sa:=none,sc:=0,sD:= []} {x with seen:= [],ct:=x.ct+1})::ah.O c t a0T 2 0 Q):=by
 refine sH (jq 10 3 [24,25,27,29,32,33,35,37,40,0]) ?_;have z:=fun Q=>qni (W0:=W0) c A hw t Q
 have hb:=fun(b sb:Nat) (g:LH) (d:g.ok c.writes [] []) (Q:Own)=>qg7 (W0:=W0) (t:=t) (b:=b) (sb:=sb) d hw.2 Q
 repeat'((try conv=>whnf);first|(apply qe;first|refine qi (z _) fun y v q=>?_;obtain⟨ab,sb,g⟩:=y;obtain⟨rfl,d⟩:=q;dsimp only at d|refine qx (b:=ab) (D:=(sb,stP c.reads none 0 0)::g.O c.writes [] [] []) (hb ab sb g d) (fun Q=>by simp only[zp,zd,zk];exact sbE) fun y v q=>?_;obtain⟨rfl,u,i⟩:=q;subst u)|refine fB ?_|refine fA ?_|refine fQ ?_|refine fN ?_)
 all_goals exact⟨y,⟨rfl,i⟩,sbE⟩
theorem qnN{a:AT}{ah:AH}{kd r:Int}(hr:0<=r/\r<8)(A:h.ok x)(hl:x.seen.length<=100000)(d:h.ap=ptr ah.b)(Q:Own):jn W0 221 [ptr h.b,j5 r,j5 1] ((h.b,thP c t n p h x)::(ah.b,atP c t ah a kd)::(h.sD++Q)) fun v own'=>
  ∃y:j9×Nat×Own,(v= .tuple #[]/\qo ObM.enc 94 3 y.1 y.2.1 (x.seen++ [⟨x.th.pc,1,a.val⟩]) y.2.2)/\
   Ent W0 own' ((h.b,thP c t n p {h with sa:=y.1,sc:=y.2.1,sD:=y.2.2} {x with th:={x.th with rg:=x.th.rg.set r.toNat a.val},seen:=x.seen++ [⟨x.th.pc,1,a.val⟩]})::(ah.b,atP c t ah a kd)::(y.2.2++Q)):=by
 refine sH (jq 14 3 [32,34,35,37,39,42,0]) ?_;obtain⟨hb,ap,lb,ca,cc,sa,sc,sD,oa,oc,oD⟩:=h;dsimp only at d ⊢;subst d;have q:=A.hs;dsimp only at q;have B:=fun(own':Own) (C:qy ah.b (atP c t ah a kd) own')=>qgb (W0:=W0) (qk C rfl)
 have i:r.toNat<8:=Yu
 repeat'((try conv=>whnf);first|refine qaV (c:=c) (t:=t) (n:=n) (p:=p) (h:=⟨hb,ptr ah.b,lb,ca,cc,sa,sc,sD,oa,oc,oD⟩) (x:=x) i ?_ ?_;omega|refine qf fun bk hbk=>?_|apply q0z (enc:=ObM.enc) (T:=94) (⟨x.th.pc,1,a.val⟩:ObM) q;exact rfl;exact rfl;omega;exact rfl;exact rfl;omega;intro a5 z u g|apply qe;refine qd (B _ Yx) ?_|refine fP ?_|refine fA ?_|refine fN ?_)
 all_goals exact⟨(a5,z,u),⟨rfl,g⟩,by unfold thP;simp only[z8];exact sbE⟩
end
end Go.Proofs.YtikpjajangpdjaaGreatDoor
