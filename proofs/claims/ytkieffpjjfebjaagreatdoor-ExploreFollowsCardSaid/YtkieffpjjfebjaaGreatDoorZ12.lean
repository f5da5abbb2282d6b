/- What the laws share, part 12. No condition. -/
import Derived.Lib.SlicesCompact
import Derived.Test.YtkieffpjjfebjaaGreatDoorRows
import Derived.ProofKit
import Derived.OpenShut
import Derived.ChangeOld
import Derived.Below
import Derived.Test.YtkieffpjjfebjaaGreatDoorZ11
set_option maxRecDepth 100000
namespace Go.Proofs.YtkieffpjjfebjaaGreatDoor
namespace Ord
open Go
def srt(l:List Int):List Int:=l.mergeSort fun x y=>decide (x≤y)
theorem q7g(l:List Int):(srt l).length=l.length:=List.length_mergeSort l
theorem qim{l:List Int}{x:Int}:x∈srt l↔x∈l:=List.mem_mergeSort
theorem q8h(l:List Int):(srt l).Pairwise (· ≤ ·):=by
 have:=List.pairwise_mergeSort (le:=fun(x y:Int)=>decide (x≤y)) (fun a b c h1 h2=>by simp only[decide_eq_true_eq] at*;omega) (fun a b=>by simp only[Bool.or_eq_true,decide_eq_true_eq];omega) l
 exact this.imp (fun h=>by simpa using h)
def cmp(l:List Int):List Int:=Go.Lib.compact l
theorem qaX{d:Array Int}(hs:d.toList.Pairwise (· ≤ ·)):∀m,m≤d.size→(Go.Lib.compactUpTo d m).Pairwise (· < ·)∧(∀x,x∈Go.Lib.compactUpTo d m↔ ∃j,j<m∧d[j]! =x)∧(Go.Lib.compactUpTo d m).length≤m
 |0,_=>by simp[Go.Lib.compactUpTo]
 |m+1,hm=>by
  obtain⟨h1,h2,h3⟩:=qaX hs m (by omega)
  have hle:∀i j,i≤j→j<d.size→d[i]! ≤d[j]! :=fun i j hij hj=>by
   by_cases he:i=j
   ·subst he;exact Int.le_refl _
   ·rw[getElem!_pos d i (by omega),getElem!_pos d j hj]
    have:=List.pairwise_iff_getElem.1 hs i j (by simpa using (by omega:i<d.size)) (by simpa using hj) (by omega)
    simpa using this
  rw[Go.Lib.compactUpTo_succ]
  by_cases hk:Go.Lib.keeps d m=true
  ·rw[if_pos hk]
   have hne:m=0∨d[m]! ≠d[m-1]! :=by
    by_cases h0:m=0
    ·exact .inl h0
    ·right
     intro he
     rw[Go.Lib.keeps_neg (by omega) he] at hk
     cases hk
   refine⟨?_,?_,by simp;omega⟩
   ·rw[List.pairwise_append]
    refine⟨h1,List.pairwise_singleton _ _,fun a ha b hb=> ?_⟩
    rw[List.mem_singleton] at hb
    subst hb
    obtain⟨j,hj,rfl⟩:=(h2 a).1 ha
    rcases hne with h0|hne
    ·omega
    ·have e1:=hle j (m-1) (by omega) (by omega)
     have e2:=hle (m-1) m (by omega) (by omega)
     omega
   ·intro x
    rw[List.mem_append,h2,List.mem_singleton]
    constructor
    ·rintro(⟨j,hj,rfl⟩|rfl)
     ·exact⟨j,by omega,rfl⟩
     ·exact⟨m,by omega,rfl⟩
    ·rintro⟨j,hj,rfl⟩
     by_cases hjm:j=m
     ·subst hjm;exact .inr rfl
     ·exact .inl ⟨j,by omega,rfl⟩
  ·rw[if_neg hk,List.append_nil]
   refine⟨h1,fun x=> ?_,by omega⟩
   rw[h2]
   have he:0<m∧d[m]! =d[m-1]! :=by
    by_cases h0:m=0
    ·subst h0;exact absurd (Go.Lib.keeps_lt_one d 0 (by omega)) hk
    ·refine⟨by omega,?_⟩
     by_cases h:d[m]! =d[m-1]!
     ·exact h
     ·exact absurd (Go.Lib.keeps_pos h) hk
   constructor
   ·rintro⟨j,hj,rfl⟩;exact⟨j,by omega,rfl⟩
   ·rintro⟨j,hj,rfl⟩
    by_cases hjm:j=m
    ·subst hjm;exact⟨j-1,by omega,he.2.symm⟩
    ·exact⟨j,by omega,rfl⟩
theorem qaW{l:List Int}(hs:l.Pairwise (· ≤ ·)):(cmp l).Pairwise (· < ·)∧(∀x,x∈cmp l↔x∈l)∧(cmp l).length≤l.length:=by
 obtain⟨h1,h2,h3⟩:=qaX (d:=l.toArray) (by simpa using hs) l.length (by simp)
 refine⟨h1,fun x=>(h2 x).trans ?_,h3⟩
 rw[List.mem_iff_getElem]
 constructor
 ·rintro⟨j,hj,rfl⟩;exact⟨j,hj,by rw[getElem!_pos _ j (by simpa using hj)];simp⟩
 ·rintro⟨j,hj,rfl⟩;exact⟨j,hj,by rw[getElem!_pos _ j (by simpa using hj)];simp⟩
def q8j(e:EH):List Int:=if e.k=1∨e.k=2 then [e.w] else cmp (srt (e.rl++e.wl))
theorem q3m(e:EH):(q8j e).Pairwise (· < ·)∧(∀x,x∈q8j e↔if e.k=1∨e.k=2 then x=e.w else x∈e.rl∨x∈e.wl)∧(q8j e).length≤1+(e.rl.length+e.wl.length):=by
 unfold q8j
 by_cases h:e.k=1∨e.k=2
 ·simp only[if_pos h]
  exact⟨List.pairwise_singleton _ _,fun x=>by simp,by simp⟩
 ·simp only[if_neg h]
  obtain⟨h1,h2,h3⟩:=qaW (q8h (e.rl++e.wl))
  refine⟨h1,fun x=> ?_,?_⟩
  ·rw[h2,qim,List.mem_append]
  ·rw[q7g,List.length_append] at h3;omega
theorem q9b{l:List EH}{n y:Nat}(hw:Wf l n)(hy:y<l.length):∀x∈q8j (at' l y),0≤x∧x<64:=by
 intro x hx
 have hk:=hw.kd y hy
 have hm:=((q3m (at' l y)).2.1 x).1 hx
 have h3:∀z,inW z=true→0≤z∧z<64:=fun z h=>of_decide_eq_true h
 split at hm
 ·subst hm;exact h3 _ hk.2.2.2.2.1
 ·rcases hm with hm|hm
  ·exact h3 x (List.all_eq_true.1 hk.2.2.2.2.2.1 x hm)
  ·exact h3 x (List.all_eq_true.1 hk.2.2.2.2.2.2 x hm)
theorem qax{l:List EH}{n y:Nat}{w:Int}(hw:Wf l n)(hy:y<l.length)(h3:knd l y≠3)(hn:w∉q8j (at' l y)):∀m,rcL l y w m= []
 |0=>rfl
 |m+1=>by
  rw[q93,qax hw hy h3 hn m]
  have:rcB l y w m=false:=by
   have hm:=fun h=>hn (((q3m (at' l y)).2.1 w).2 h)
   have hk:=hw.kd y hy
   unfold rcB confB cfP
   unfold knd at hk h3
   generalize at' l y=e at*
   by_cases h4:e.k=4
   ·rw[if_neg (by omega)] at hm
    have h1:e.rl.contains w=false:=by rw[←Bool.not_eq_true,List.contains_iff_mem];exact fun h=>hm (.inl h)
    have h2:e.wl.contains w=false:=by rw[←Bool.not_eq_true,List.contains_iff_mem];exact fun h=>hm (.inr h)
    simp only[h4,h1,h2]
    split <;>simp
   ·rw[if_pos (by omega)] at hm
    have h1:¬e.w=w:=fun h=>hm h.symm
    simp only[h4,if_false,decide_eq_false h1]
    split <;>simp
  rw[this]
  rfl
theorem qhW{l:List EH}{n y:Nat}(hw:Wf l n)(hy:y<l.length)(h3:knd l y≠3):rcW l y 64=(q8j (at' l y)).flatMap fun w=>rcL l y w y:=by
 unfold rcW
 rw[List.range_eq_range']
 exact q4o (f:=fun w=>rcL l y w y) 64 0 (q8j (at' l y)) (q3m _).1 (fun x hx=>by have:=q9b hw hy x hx;omega) (fun w _ hn=>qax hw hy h3 hn y)
theorem q83{β:Type}{g:Nat→Option β}{r:β}:∀(n k:Nat),k<n→g k=some r→(∀j,j<k→g j=none)→(List.range n).findSome? g=some r
 |0,k,h,_,_=>by omega
 |n+1,k,h,hg,hn=>by
  rw[List.range_succ,List.findSome?_append]
  by_cases hk:k=n
  ·subst hk
   have:(List.range k).findSome? g=none:=by
    rw[List.findSome?_eq_none_iff]
    intro x hx
    exact hn x (List.mem_range.1 hx)
   rw[this]
   simp[hg]
  ·rw[q83 n k (by omega) hg hn]
   rfl
theorem q5d{l:List EH}{m:Nat}:prs l (m+1)=prs l m++(if knd l m=3 then [] else(List.range 64).map fun(w:Nat)=>(m,(w:Int))):=by
 unfold prs
 rw[List.range_succ (n:=m),List.flatMap_append]
 simp
theorem q54{l:List EH}(h:rcA l l.length= []):frst l=(-1, -1, -1):=by
 rw[←qeP,h];rfl
theorem qhu{l:List EH}{y:Nat}{w:Int}{r:q0G}(hy:y<l.length)(h3:knd l y≠3)(hb:rcA l y= [])(hw:0≤w∧w<64)(hr:(rcL l y w y).getLast? =some r)(hn:∀w':Int,0≤w'→w'<w→rcL l y w' y= []):frst l=r:=by
 unfold frst
 have e:prs l l.length=prs l y++(prs l (y+1)).drop (prs l y).length++(prs l l.length).drop (prs l (y+1)).length:=by
  have hp:∀m d,∃z,prs l (m+d)=prs l m++z:=fun m d=>by
   induction d with
   |zero=>exact⟨[],by simp⟩
   |succ d ih=>
    obtain⟨z,hz⟩:=ih
    refine⟨z++(if knd l (m+d)=3 then [] else(List.range 64).map fun(w:Nat)=>(m+d,(w:Int))),?_⟩
    rw[←List.append_assoc,←hz]
    exact q5d
  obtain⟨z1,h1⟩:=hp y 1
  obtain⟨z2,h2⟩:=hp (y+1) (l.length-(y+1))
  rw[show y+1+(l.length-(y+1))=l.length by omega] at h2
  rw[h2,h1]
  simp
 rw[e,List.findSome?_append,List.findSome?_append]
 have e1:(prs l y).findSome? (fun p=>(rcL l p.1 p.2 p.1).getLast?)=none:=by
  rw[List.findSome?_eq_none_iff]
  intro p hp
  rw[qdI] at hb
  have:=List.flatMap_eq_nil_iff.1 hb p hp
  rw[this];rfl
 have e2:(prs l (y+1)).drop (prs l y).length=(List.range 64).map fun(w:Nat)=>(y,(w:Int)):=by
  rw[q5d,if_neg h3]
  simp
 have e3:((List.range 64).map fun(w:Nat)=>(y,(w:Int))).findSome? (fun p=>(rcL l p.1 p.2 p.1).getLast?)=some r:=by
  rw[List.findSome?_map]
  refine q83 64 w.toNat (by omega) ?_ ?_
  ·simp only[Function.comp_apply]
   rw[Int.toNat_of_nonneg hw.1];exact hr
  ·intro j hj
   simp only[Function.comp_apply]
   rw[hn j (by omega) (by omega)];rfl
 rw[e1,e2,e3]
 rfl
def qkN(l:List EH)(y:Nat)(w:Int)(x:Nat):Bool:= !decide (knd l x=3)&&(confB (at' l x) (at' l y) w&& !qaf (qkc l) l.length x (toP l y))
def frstC(l:List EH):q0G:=((prs l l.length).findSome? fun p=>(((List.range p.1).filter (qkN l p.1 p.2)).map fun(x:Nat)=>((x:Int),(p.1:Int),p.2)).getLast?).getD (-1, -1, -1)
theorem frst_C{l:List EH}{n:Nat}(hw:Wf l n):frst l=frstC l:=by
 have:rcB l=qkN l:=by funext y w x;unfold rcB qkN;rw[qiW hw]
 unfold frst frstC rcL
 rw[this]
def HBc(l:List EH)(i j:Nat):Prop:=i<j∧
 (thr l i=thr l j∨(q2i l j∧∃e f,i≤e∧e<f∧f<j∧knd l e=4∧knd l f=4∧thr l e=thr l i∧thr l f=thr l j)∨(¬q2i l j∧∃e,i≤e∧e<j∧knd l e=4∧thr l e=thr l i))
theorem qlc{l:List EH}{i j:Nat}:HB l i j↔HBc l i j∧q8v l i∧q8v l j:=by
 unfold HB HBc
 constructor
 ·rintro⟨a,b,c,d⟩;exact⟨⟨a,d⟩,b,c⟩
 ·rintro⟨⟨a,d⟩,b,c⟩;exact⟨a,b,c,d⟩
theorem qgN{l r:List EH}{i j:Nat}(hj:j<l.length):HBc (l++r) i j↔HBc l i j:=by
 unfold HBc q2i
 constructor
 ·rintro⟨h,g⟩
  have hi:i<l.length:=by omega
  rw[q0O hi,q0O hj,q02 hj] at g
  refine⟨h,?_⟩
  rcases g with g|⟨g1,e,f,a1,a2,a3,a4,a5,a6,a7⟩|⟨g1,e,a1,a2,a3,a4⟩
  ·exact .inl g
  ·rw[q02 (by omega)] at a4 a5
   rw[q0O (by omega)] at a6 a7
   exact .inr (.inl ⟨g1,e,f,a1,a2,a3,a4,a5,a6,a7⟩)
  ·rw[q02 (by omega)] at a3
   rw[q0O (by omega)] at a4
   exact .inr (.inr ⟨g1,e,a1,a2,a3,a4⟩)
 ·rintro⟨h,g⟩
  have hi:i<l.length:=by omega
  rw[q0O hi,q0O hj,q02 hj]
  refine⟨h,?_⟩
  rcases g with g|⟨g1,e,f,a1,a2,a3,a4,a5,a6,a7⟩|⟨g1,e,a1,a2,a3,a4⟩
  ·exact .inl g
  ·exact .inr (.inl ⟨g1,e,f,a1,a2,a3,by rw[q02 (by omega)];exact a4,by rw[q02 (by omega)];exact a5,by rw[q0O (by omega)];exact a6,by rw[q0O (by omega)];exact a7⟩)
  ·exact .inr (.inr ⟨g1,e,a1,a2,by rw[q02 (by omega)];exact a3,by rw[q0O (by omega)];exact a4⟩)
theorem q8p{l r:List EH}{t:Int}:∀i,i≤l.length→bgL (l++r) t i=bgL l t i
 |0,_=>rfl
 |i+1,h=>by
  unfold bgL
  rw[q0O (by omega),q8p i (by omega)]
theorem qis{l r:List EH}{y:Nat}(hy:y<l.length):toP (l++r) y=toP l y:=by
 unfold toP
 rw[q02 hy,q0O hy,q8p y (by omega)]
theorem qeq{l:List EH}{n y:Nat}(hw:Wf l n)(hy:y<l.length)(h3:knd l y≠3):q8v l (toP l y)∧toP l y≤y:=by
 unfold toP
 by_cases h4:knd l y=4
 ·obtain⟨p,hp,hpy,hp3,hpt⟩:=qcQ hw hy h4
  rw[if_pos h4,hp,Int.toNat_natCast]
  exact⟨⟨by omega, .inr ⟨y,hy,q91.2 hp,h4⟩⟩,by omega⟩
 ·rw[if_neg h4]
  exact⟨⟨hy, .inl h3⟩,Nat.le_refl y⟩
theorem q2k{l r:List EH}{i:Nat}(h:q8v l i):q8v (l++r) i:=by
 obtain⟨h1,h2⟩:=h
 refine⟨by simp;omega,?_⟩
 rw[q02 h1]
 rcases h2 with h2|⟨e,he,hp,hk⟩
 ·exact .inl h2
 ·refine .inr ⟨e,by simp;omega,?_,by rw[q02 he];exact hk⟩
  obtain⟨p1,p2,p3⟩:=hp
  exact⟨p1,by rw[q0O h1,q0O he];exact p2,fun q a b=>by rw[q0O (by omega),q0O he];exact p3 q a b⟩
theorem qhT{l r:List EH}{n x y:Nat}{w:Int}(hw:Wf l n)(hy:y<l.length)(h3:knd l y≠3)(hx:x<y):rcB (l++r) y w x=rcB l y w x:=by
 unfold rcB
 rw[q02 (by omega),q2U (by omega),q2U hy,qis hy]
 by_cases hk:knd l x=3
 ·rw[decide_eq_true hk];rfl
 ·obtain⟨hc,hle⟩:=qeq hw hy h3
  have hx':q8v l x:=⟨by omega, .inl hk⟩
  have:hbB (l++r) x (toP l y)=hbB l x (toP l y):=by
   rw[Bool.eq_iff_iff,hbB_iff,hbB_iff,qlc,qlc,qgN (by omega)]
   constructor
   ·rintro⟨h,_⟩;exact⟨h,hx',hc⟩
   ·rintro⟨h,_⟩;exact⟨h,q2k hx',q2k hc⟩
  rw[this]
theorem qaw{l r:List EH}{n y:Nat}{w:Int}(hw:Wf l n)(hy:y<l.length)(h3:knd l y≠3):∀m,m≤y→rcL (l++r) y w m=rcL l y w m
 |0,_=>rfl
 |m+1,h=>by rw[q93,q93,qaw hw hy h3 m (by omega),qhT hw hy h3 (by omega)]
theorem qdJ{l r:List EH}{n y:Nat}(hw:Wf l n)(hy:y<l.length)(h3:knd l y≠3):∀m,rcW (l++r) y m=rcW l y m
 |0=>rfl
 |m+1=>by rw[qbx,qbx,qdJ hw hy h3 m,qaw hw hy h3 y (Nat.le_refl y)]
theorem qav{l r:List EH}{n:Nat}(hw:Wf l n):∀m,m≤l.length→rcA (l++r) m=rcA l m
 |0,_=>rfl
 |m+1,h=>by
  rw[q92,q92,qav hw m (by omega),q02 (by omega)]
  by_cases h3:knd l m=3
  ·rw[if_pos h3,if_pos h3]
  ·rw[if_neg h3,if_neg h3,qdJ hw (by omega) h3]
end Ord
end Go.Proofs.YtkieffpjjfebjaaGreatDoor
