/- What the laws share, part 7. No condition. -/
import Derived.Lib.SlicesCompact
import Derived.Test.YtfnghamklcdgnaaGreatDoorQ6
set_option maxRecDepth 10000
namespace Go.Proofs.YtfnghamklcdgnaaGreatDoor
namespace Ord
open Go
def srt(l:jd):jd:=l.mergeSort fun x y=>decide (x<=y)
theorem q1p(l:jd):(srt l).length=l.length:=List.length_mergeSort l
theorem q9t{l:jd}{x:Int}:x∈srt l↔x∈l:=List.mem_mergeSort
theorem q1z(l:jd):(srt l).Pairwise (· <= ·):=by
 have:=List.pairwise_mergeSort (le:=fun(x y:Int)=>decide (x<=y)) (fun a b c h1 h2=>by simp only[decide_eq_true_eq] at*;omega) (fun a b=>by simp only[yd,decide_eq_true_eq];omega) l;exact this.imp (fun h=>by simpa using h)
def cmp(l:jd):jd:=Go.Lib.compact l
theorem q2D{d:Array Int}(o:d.toList.Pairwise (· <= ·)):∀m,m<=d.size->(Go.Lib.compactUpTo d m).Pairwise (· < ·)/\(∀x,x∈Go.Lib.compactUpTo d m↔ ∃j,j<m/\d[j]! =x)/\(Go.Lib.compactUpTo d m).length<=m
 |0,_=>by simp[Go.Lib.compactUpTo]
 |m+1,hm=>by
  obtain⟨n,l,h3⟩:=q2D o m Yb;have hle:∀i j,i<=j->j<d.size->d[i]! <=d[j]! :=fun i j hij c=>by
   by_cases he:i=j
   ·subst he;exact zK _
   ·rw[getElem!_pos d i Yb,getElem!_pos d j c];have:=ZF.1 o i j (by simpa using (by omega:i<d.size)) (by simpa using c) Yb
    simpa using this
  rw[Go.Lib.compactUpTo_succ]
  by_cases f:Go.Lib.keeps d m=true
  ·rw[if_pos f];have g:m=0\/d[m]! ≠d[m-1]! :=by
    by_cases k:m=0
    ·exact .inl k
    ·right;intro he;rw[Go.Lib.keeps_neg Yb he] at f;cases f
   refine⟨?_,?_,by simp;omega⟩
   ·rw[Y0];refine⟨n,yO _ _,fun a p b hb=>?_⟩;rw[zf] at hb;subst hb;obtain⟨j,c,rfl⟩:=(l a).1 p
    rcases g with k|g
    ·omega
    ·have e1:=hle j (m-1) Yb Yb;have e2:=hle (m-1) m Yb Yb;omega
   ·intro x;rw[zw,l,zf];constructor
    ·rintro(⟨j,c,rfl⟩|rfl)
     ·exact⟨j,Yb,rfl⟩
     ·exact⟨m,Yb,rfl⟩
    ·rintro⟨j,c,rfl⟩
     by_cases e:j=m
     ·subst e;exact .inr rfl
     ·exact .inl ⟨j,Yb,rfl⟩
  ·rw[if_neg f,zC];refine⟨n,fun x=>?_,Yb⟩;rw[l];have he:0<m/\d[m]! =d[m-1]! :=by
    by_cases k:m=0
    ·subst k;exact absurd (Go.Lib.keeps_lt_one d 0 Yb) f
    ·refine⟨Yb,?_⟩
     by_cases h:d[m]! =d[m-1]!
     ·exact h
     ·exact absurd (Go.Lib.keeps_pos h) f
   constructor
   ·rintro⟨j,c,rfl⟩;exact⟨j,Yb,rfl⟩
   ·rintro⟨j,c,rfl⟩
    by_cases e:j=m
    ·subst e;exact⟨j-1,Yb,he.2.symm⟩
    ·exact⟨j,Yb,rfl⟩
theorem q3s{l:jd}(f:l.Pairwise (· <= ·)):(cmp l).Pairwise (· < ·)/\(∀x,x∈cmp l↔x∈l)/\(cmp l).length<=l.length:=by
 obtain⟨b,c,e⟩:=q2D (d:=l.toArray) (by simpa using f) l.length Yd;refine⟨b,fun x=>(c x).trans ?_,e⟩;rw[List.mem_iff_getElem];constructor
 ·rintro⟨j,a,rfl⟩;exact⟨j,a,by rw[getElem!_pos _ j (by simpa using a)];simp⟩
 ·rintro⟨j,a,rfl⟩;exact⟨j,a,by rw[getElem!_pos _ j (by simpa using a)];simp⟩
end Ord
end Go.Proofs.YtfnghamklcdgnaaGreatDoor
