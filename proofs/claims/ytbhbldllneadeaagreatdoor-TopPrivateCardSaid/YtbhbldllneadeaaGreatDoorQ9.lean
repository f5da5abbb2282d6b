/- What the laws share, part 9. No condition. -/
import Derived.Lib.SlicesCompact
import Derived.Test.YtbhbldllneadeaaGreatDoorRows
import Derived.ProofKit
import Derived.OpenShut
import Derived.ChangeOld
import Derived.Below
import Derived.Test.YtbhbldllneadeaaGreatDoorQ8
set_option maxRecDepth 10000
namespace Go.Proofs.YtbhbldllneadeaaGreatDoor
namespace Ord
open Go
def srt(l:List Int):List Int:=l.mergeSort fun x y=>decide (x≤y)
theorem q1a(l:List Int):(srt l).length=l.length:=List.length_mergeSort l
theorem q8Q{l:List Int}{x:Int}:x∈srt l↔x∈l:=List.mem_mergeSort
theorem q1R(l:List Int):(srt l).Pairwise (· ≤ ·):=by
 have:=List.pairwise_mergeSort (le:=fun(x y:Int)=>decide (x≤y)) (fun a b c h1 h2=>by simp only[decide_eq_true_eq] at*;omega) (fun a b=>by simp only[ZB,decide_eq_true_eq];omega) l;exact this.imp (fun h=>by simpa using h)
def cmp(l:List Int):List Int:=Go.Lib.compact l
theorem q2q{d:Array Int}(hs:d.toList.Pairwise (· ≤ ·)):∀m,m≤d.size→(Go.Lib.compactUpTo d m).Pairwise (· < ·)∧(∀x,x∈Go.Lib.compactUpTo d m↔ ∃j,j<m∧d[j]! =x)∧(Go.Lib.compactUpTo d m).length≤m
 |0,_=>by simp[Go.Lib.compactUpTo]
 |m+1,hm=>by
  obtain⟨h1,h2,h3⟩:=q2q hs m Y6;have hle:∀i j,i≤j→j<d.size→d[i]! ≤d[j]! :=fun i j hij hj=>by
   by_cases he:i=j
   ·subst he;exact zW _
   ·rw[getElem!_pos d i Y6,getElem!_pos d j hj];have:=Zr.1 hs i j (by simpa using (by omega:i<d.size)) (by simpa using hj) Y6
    simpa using this
  rw[Go.Lib.compactUpTo_succ]
  by_cases hk:Go.Lib.keeps d m=true
  ·rw[if_pos hk];have hne:m=0∨d[m]! ≠d[m-1]! :=by
    by_cases h0:m=0
    ·exact .inl h0
    ·right;intro he;rw[Go.Lib.keeps_neg Y6 he] at hk;cases hk
   refine⟨?_,?_,by simp;omega⟩
   ·rw[List.pairwise_append];refine⟨h1,yA _ _,fun a ha b hb=> ?_⟩;rw[zf] at hb;subst hb;obtain⟨j,hj,rfl⟩:=(h2 a).1 ha
    rcases hne with h0|hne
    ·omega
    ·have e1:=hle j (m-1) Y6 Y6;have e2:=hle (m-1) m Y6 Y6;omega
   ·intro x;rw[zz,h2,zf];constructor
    ·rintro(⟨j,hj,rfl⟩|rfl)
     ·exact⟨j,Y6,rfl⟩
     ·exact⟨m,Y6,rfl⟩
    ·rintro⟨j,hj,rfl⟩
     by_cases hjm:j=m
     ·subst hjm;exact .inr rfl
     ·exact .inl ⟨j,Y6,rfl⟩
  ·rw[if_neg hk,zC];refine⟨h1,fun x=> ?_,Y6⟩;rw[h2];have he:0<m∧d[m]! =d[m-1]! :=by
    by_cases h0:m=0
    ·subst h0;exact absurd (Go.Lib.keeps_lt_one d 0 Y6) hk
    ·refine⟨Y6,?_⟩
     by_cases h:d[m]! =d[m-1]!
     ·exact h
     ·exact absurd (Go.Lib.keeps_pos h) hk
   constructor
   ·rintro⟨j,hj,rfl⟩;exact⟨j,Y6,rfl⟩
   ·rintro⟨j,hj,rfl⟩
    by_cases hjm:j=m
    ·subst hjm;exact⟨j-1,Y6,he.2.symm⟩
    ·exact⟨j,Y6,rfl⟩
theorem q46{l:List Int}(hs:l.Pairwise (· ≤ ·)):(cmp l).Pairwise (· < ·)∧(∀x,x∈cmp l↔x∈l)∧(cmp l).length≤l.length:=by
 obtain⟨h1,h2,h3⟩:=q2q (d:=l.toArray) (by simpa using hs) l.length Y8;refine⟨h1,fun x=>(h2 x).trans ?_,h3⟩;rw[List.mem_iff_getElem];constructor
 ·rintro⟨j,hj,rfl⟩;exact⟨j,hj,by rw[getElem!_pos _ j (by simpa using hj)];simp⟩
 ·rintro⟨j,hj,rfl⟩;exact⟨j,hj,by rw[getElem!_pos _ j (by simpa using hj)];simp⟩
def q5T(e:EH):List Int:=if e.k=1∨e.k=2 then [e.w] else cmp (srt (e.rl++e.wl))
theorem q1S(e:EH):(q5T e).Pairwise (· < ·)∧(∀x,x∈q5T e↔if e.k=1∨e.k=2 then x=e.w else x∈e.rl∨x∈e.wl)∧(q5T e).length≤1+(e.rl.length+e.wl.length):=by
 unfold q5T
 by_cases h:e.k=1∨e.k=2
 ·simp only[if_pos h];exact⟨yA _ _,fun x=>by simp,Y8⟩
 ·simp only[if_neg h];obtain⟨h1,h2,h3⟩:=q46 (q1R (e.rl++e.wl));refine⟨h1,fun x=> ?_,?_⟩
  ·rw[h2,q8Q,zz]
  ·rw[q1a,z8] at h3;omega
theorem q6J{l:List EH}{n y:Nat}(hw:Wf l n)(hy:y<l.length):∀x∈q5T (at' l y),0≤x∧x<64:=by
 intro x hx;have hk:=hw.kd y hy;have hm:=((q1S (at' l y)).2.1 x).1 hx;have h3:∀z,inW z=true→0≤z∧z<64:=fun z h=>of_decide_eq_true h
 split at hm
 ·subst hm;exact h3 _ hk.2.2.2.2.1
 ·rcases hm with hm|hm
  ·exact h3 x (Z7.1 hk.2.2.2.2.2.1 x hm)
  ·exact h3 x (Z7.1 hk.2.2.2.2.2.2 x hm)
theorem q8z{l:List EH}{n y:Nat}{w:Int}(hw:Wf l n)(hy:y<l.length)(h3:knd l y≠3)(hn:w∉q5T (at' l y)):∀m,rcL l y w m= []
 |0=>rfl
 |m+1=>by
  rw[q6u,q8z hw hy h3 hn m];have:rcB l y w m=false:=by
   have hm:=fun h=>hn (((q1S (at' l y)).2.1 w).2 h)
   have hk:=hw.kd y hy;unfold rcB q71 cfP;unfold knd at hk h3;generalize at' l y=e at*
   by_cases h4:e.k=4
   ·rw[if_neg Y6] at hm;have h1:e.rl.contains w=false:=by rw[←y6,ZU];exact fun h=>hm (.inl h)
    have h2:e.wl.contains w=false:=by rw[←y6,ZU];exact fun h=>hm (.inr h)
    simp only[h4,h1,h2]
    split <;>simp
   ·rw[if_pos Y6] at hm;have h1:¬e.w=w:=fun h=>hm h.symm
    simp only[h4,if_false,decide_eq_false h1]
    split <;>simp
  rw[this];rfl
theorem qiz{l:List EH}{n y:Nat}(hw:Wf l n)(hy:y<l.length)(h3:knd l y≠3):rcW l y 64=(q5T (at' l y)).flatMap fun w=>rcL l y w y:=by
 unfold rcW;rw[List.range_eq_range'];exact q2s (f:=fun w=>rcL l y w y) 64 0 (q5T (at' l y)) (q1S _).1 (fun x hx=>by have:=q6J hw hy x hx;omega) (fun w _ hn=>q8z hw hy h3 hn y)
theorem q5A{β:Type}{g:Nat→Option β}{r:β}:∀(n k:Nat),k<n→g k=some r→(∀j,j<k→g j=none)→(List.range n).findSome? g=some r
 |0,k,h,_,_=>by omega
 |n+1,k,h,hg,hn=>by
  rw[ZX,yf]
  by_cases hk:k=n
  ·subst hk;have:(List.range k).findSome? g=none:=by
    rw[yk];intro x hx;exact hn x (Zd.1 hx)
   rw[this];simp[hg]
  ·rw[q5A n k Y6 hg hn];rfl
theorem q3c{l:List EH}{m:Nat}:prs l (m+1)=prs l m++(if knd l m=3 then [] else(List.range 64).map fun(w:Nat)=>(m,(w:Int))):=by
 unfold prs;rw[ZX (n:=m),yV];simp
theorem q2i{l:List EH}(h:rcA l l.length= []):q1K l=(-1, -1, -1):=by
 rw[←qec,h];rfl
theorem qhW{l:List EH}{y:Nat}{w:Int}{r:q0a}(hy:y<l.length)(h3:knd l y≠3)(hb:rcA l y= [])(hw:0≤w∧w<64)(hr:(rcL l y w y).getLast? =some r)(hn:∀w':Int,0≤w'→w'<w→rcL l y w' y= []):q1K l=r:=by
 unfold q1K;have e:prs l l.length=prs l y++(prs l (y+1)).drop (prs l y).length++(prs l l.length).drop (prs l (y+1)).length:=by
  have hp:∀m d,∃z,prs l (m+d)=prs l m++z:=fun m d=>by
   induction d with
   |zero=>exact⟨[],Y8⟩
   |succ d ih=>
    obtain⟨z,hz⟩:=ih;refine⟨z++(if knd l (m+d)=3 then [] else(List.range 64).map fun(w:Nat)=>(m+d,(w:Int))),?_⟩;rw[←zd,←hz];exact q3c
  obtain⟨z1,h1⟩:=hp y 1;obtain⟨z2,h2⟩:=hp (y+1) (l.length-(y+1));rw[show y+1+(l.length-(y+1))=l.length by omega] at h2;rw[h2,h1];simp
 rw[e,yf,yf];have e1:(prs l y).findSome? (fun p=>(rcL l p.1 p.2 p.1).getLast?)=none:=by
  rw[yk];intro p hp;rw[qcw] at hb;have:=List.flatMap_eq_nil_iff.1 hb p hp;rw[this];rfl
 have e2:(prs l (y+1)).drop (prs l y).length=(List.range 64).map fun(w:Nat)=>(y,(w:Int)):=by
  rw[q3c,if_neg h3];simp
 have e3:((List.range 64).map fun(w:Nat)=>(y,(w:Int))).findSome? (fun p=>(rcL l p.1 p.2 p.1).getLast?)=some r:=by
  rw[List.findSome?_map];refine q5A 64 w.toNat Y6 ?_ ?_
  ·simp only[Function.comp_apply];rw[Z6 hw.1];exact hr
  ·intro j hj;simp only[Function.comp_apply];rw[hn j Y6 Y6];rfl
 rw[e1,e2,e3];rfl
def HBc(l:List EH)(i j:Nat):Prop:=i<j∧
 (thr l i=thr l j∨(q1Q l j∧∃e f,i≤e∧e<f∧f<j∧knd l e=4∧knd l f=4∧thr l e=thr l i∧thr l f=thr l j)∨(¬q1Q l j∧∃e,i≤e∧e<j∧knd l e=4∧thr l e=thr l i))
theorem qnd{l:List EH}{i j:Nat}:HB l i j↔HBc l i j∧q84 l i∧q84 l j:=by
 unfold HB HBc;constructor
 ·rintro⟨a,b,c,d⟩;exact⟨⟨a,d⟩,b,c⟩
 ·rintro⟨⟨a,d⟩,b,c⟩;exact⟨a,b,c,d⟩
theorem qhf{l r:List EH}{i j:Nat}(hj:j<l.length):HBc (l++r) i j↔HBc l i j:=by
 unfold HBc q1Q;constructor
 ·rintro⟨h,g⟩;have hi:i<l.length:=Y6;rw[q08 hi,q08 hj,qU hj] at g;refine⟨h,?_⟩
  rcases g with g|⟨g1,e,f,a1,a2,a3,a4,a5,a6,a7⟩|⟨g1,e,a1,a2,a3,a4⟩
  ·exact .inl g
  ·rw[qU Y6] at a4 a5;rw[q08 Y6] at a6 a7;exact .inr (.inl ⟨g1,e,f,a1,a2,a3,a4,a5,a6,a7⟩)
  ·rw[qU Y6] at a3;rw[q08 Y6] at a4;exact .inr (.inr ⟨g1,e,a1,a2,a3,a4⟩)
 ·rintro⟨h,g⟩;have hi:i<l.length:=Y6;rw[q08 hi,q08 hj,qU hj];refine⟨h,?_⟩
  rcases g with g|⟨g1,e,f,a1,a2,a3,a4,a5,a6,a7⟩|⟨g1,e,a1,a2,a3,a4⟩
  ·exact .inl g
  ·exact .inr (.inl ⟨g1,e,f,a1,a2,a3,by rw[qU Y6];exact a4,by rw[qU Y6];exact a5,by rw[q08 Y6];exact a6,by rw[q08 Y6];exact a7⟩)
  ·exact .inr (.inr ⟨g1,e,a1,a2,by rw[qU Y6];exact a3,by rw[q08 Y6];exact a4⟩)
theorem q63{l r:List EH}{t:Int}:∀i,i≤l.length→bgL (l++r) t i=bgL l t i
 |0,_=>rfl
 |i+1,h=>by
  unfold bgL;rw[q08 Y6,q63 i Y6]
theorem qjB{l r:List EH}{y:Nat}(hy:y<l.length):toP (l++r) y=toP l y:=by
 unfold toP;rw[qU hy,q08 hy,q63 y Y6]
theorem qdQ{l:List EH}{n y:Nat}(hw:Wf l n)(hy:y<l.length)(h3:knd l y≠3):q84 l (toP l y)∧toP l y≤y:=by
 unfold toP
 by_cases h4:knd l y=4
 ·obtain⟨p,hp,hpy,hp3,hpt⟩:=qgz hw hy h4;rw[if_pos h4,hp,zB];exact⟨⟨Y6, .inr ⟨y,hy,qf3.2 hp,h4⟩⟩,Y6⟩
 ·rw[if_neg h4];exact⟨⟨hy, .inl h3⟩,zu y⟩
theorem q3w{l r:List EH}{i:Nat}(h:q84 l i):q84 (l++r) i:=by
 obtain⟨h1,h2⟩:=h;refine⟨by simp;omega,?_⟩;rw[qU h1]
 rcases h2 with h2|⟨e,he,hp,hk⟩
 ·exact .inl h2
 ·refine .inr ⟨e,by simp;omega,?_,by rw[qU he];exact hk⟩;obtain⟨p1,p2,p3⟩:=hp;exact⟨p1,by rw[q08 h1,q08 he];exact p2,fun q a b=>by rw[q08 Y6,q08 he];exact p3 q a b⟩
theorem qix{l r:List EH}{n x y:Nat}{w:Int}(hw:Wf l n)(hy:y<l.length)(h3:knd l y≠3)(hx:x<y):rcB (l++r) y w x=rcB l y w x:=by
 unfold rcB;rw[qU Y6,q1v Y6,q1v hy,qjB hy]
 by_cases hk:knd l x=3
 ·rw[decide_eq_true hk];rfl
 ·obtain⟨hc,hle⟩:=qdQ hw hy h3;have hx':q84 l x:=⟨Y6, .inl hk⟩
  have:hbB (l++r) x (toP l y)=hbB l x (toP l y):=by
   rw[Bool.eq_iff_iff,q6h,q6h,qnd,qnd,qhf Y6];constructor
   ·rintro⟨h,_⟩;exact⟨h,hx',hc⟩
   ·rintro⟨h,_⟩;exact⟨h,q3w hx',q3w hc⟩
  rw[this]
theorem q8y{l r:List EH}{n y:Nat}{w:Int}(hw:Wf l n)(hy:y<l.length)(h3:knd l y≠3):∀m,m≤y→rcL (l++r) y w m=rcL l y w m
 |0,_=>rfl
 |m+1,h=>by rw[q6u,q6u,q8y hw hy h3 m Y6,qix hw hy h3 Y6]
theorem qcy{l r:List EH}{n y:Nat}(hw:Wf l n)(hy:y<l.length)(h3:knd l y≠3):∀m,rcW (l++r) y m=rcW l y m
 |0=>rfl
 |m+1=>by rw[q9S,q9S,qcy hw hy h3 m,q8y hw hy h3 y (zu y)]
theorem q8x{l r:List EH}{n:Nat}(hw:Wf l n):∀m,m≤l.length→rcA (l++r) m=rcA l m
 |0,_=>rfl
 |m+1,h=>by
  rw[q6t,q6t,q8x hw m Y6,qU Y6]
  by_cases h3:knd l m=3
  ·rw[if_pos h3,if_pos h3]
  ·rw[if_neg h3,if_neg h3,qcy hw Y6 h3]
end Ord
end Go.Proofs.YtbhbldllneadeaaGreatDoor
