/- What the laws share, part 7. No condition. -/
import Derived.Lib.SlicesCompact
import Derived.Test.YtikpjajangpdjaaGreatDoorQ6
set_option maxRecDepth 100000
namespace Go.Proofs.YtikpjajangpdjaaGreatDoor
namespace Ord
open Go
def srt(l:je):je:=l.mergeSort fun x y=>decide (x<=y)
theorem q1v(l:je):(srt l).length=l.length:=List.length_mergeSort l
theorem qaT{l:je}{x:Int}:x∈srt l↔x∈l:=List.mem_mergeSort
theorem q29(l:je):(srt l).Pairwise (· <= ·):=by
 have:=List.pairwise_mergeSort (le:=fun(x y:Int)=>decide (x<=y)) (fun a b c h1 h2=>by simp only[decide_eq_true_eq] at*;omega) (fun a b=>by simp only[Zd,decide_eq_true_eq];omega) l;exact this.imp (fun h=>by simpa using h)
def cmp(l:je):je:=Go.Lib.compact l
theorem q36{d:Array Int}(o:d.toList.Pairwise (· <= ·)):∀m,m<=d.size->(Go.Lib.compactUpTo d m).Pairwise (· < ·)/\(∀x,x∈Go.Lib.compactUpTo d m↔ ∃j,j<m/\d[j]! =x)/\(Go.Lib.compactUpTo d m).length<=m
 |0,_=>by simp[Go.Lib.compactUpTo]
 |m+1,hm=>by
  obtain⟨n,l,h3⟩:=q36 o m Yu;have hle:∀i j,i<=j->j<d.size->d[i]! <=d[j]! :=fun i j hij c=>by
   by_cases he:i=j
   ·subst he;exact zW _
   ·rw[getElem!_pos d i Yu,getElem!_pos d j c];have:=Zr.1 o i j (by simpa using (by omega:i<d.size)) (by simpa using c) Yu
    simpa using this
  rw[Go.Lib.compactUpTo_succ]
  by_cases f:Go.Lib.keeps d m=true
  ·rw[if_pos f];have g:m=0\/d[m]! ≠d[m-1]! :=by
    by_cases k:m=0
    ·exact .inl k
    ·right;intro he;rw[Go.Lib.keeps_neg Yu he] at f;cases f
   refine⟨?_,?_,by simp;omega⟩
   ·rw[yE];refine⟨n,yl _ _,fun a p b hb=>?_⟩;rw[zf] at hb;subst hb;obtain⟨j,c,rfl⟩:=(l a).1 p
    rcases g with k|g
    ·omega
    ·have e1:=hle j (m-1) Yu Yu;have e2:=hle (m-1) m Yu Yu;omega
   ·intro x;rw[zy,l,zf];constructor
    ·rintro(⟨j,c,rfl⟩|rfl)
     ·exact⟨j,Yu,rfl⟩
     ·exact⟨m,Yu,rfl⟩
    ·rintro⟨j,c,rfl⟩
     by_cases e:j=m
     ·subst e;exact .inr rfl
     ·exact .inl ⟨j,Yu,rfl⟩
  ·rw[if_neg f,zz];refine⟨n,fun x=>?_,Yu⟩;rw[l];have he:0<m/\d[m]! =d[m-1]! :=by
    by_cases k:m=0
    ·subst k;exact absurd (Go.Lib.keeps_lt_one d 0 Yu) f
    ·refine⟨Yu,?_⟩
     by_cases h:d[m]! =d[m-1]!
     ·exact h
     ·exact absurd (Go.Lib.keeps_pos h) f
   constructor
   ·rintro⟨j,c,rfl⟩;exact⟨j,Yu,rfl⟩
   ·rintro⟨j,c,rfl⟩
    by_cases e:j=m
    ·subst e;exact⟨j-1,Yu,he.2.symm⟩
    ·exact⟨j,Yu,rfl⟩
theorem q5c{l:je}(f:l.Pairwise (· <= ·)):(cmp l).Pairwise (· < ·)/\(∀x,x∈cmp l↔x∈l)/\(cmp l).length<=l.length:=by
 obtain⟨b,c,e⟩:=q36 (d:=l.toArray) (by simpa using f) l.length Yw;refine⟨b,fun x=>(c x).trans ?_,e⟩;rw[Ya];constructor
 ·rintro⟨j,a,rfl⟩;exact⟨j,a,by rw[getElem!_pos _ j (by simpa using a)];simp⟩
 ·rintro⟨j,a,rfl⟩;exact⟨j,a,by rw[getElem!_pos _ j (by simpa using a)];simp⟩
def q7z(e:EH):je:=if e.k=1\/e.k=2 then [e.w] else cmp (srt (e.rl++e.wl))
theorem q2a(e:EH):(q7z e).Pairwise (· < ·)/\(∀x,x∈q7z e↔if e.k=1\/e.k=2 then x=e.w else x∈e.rl\/x∈e.wl)/\(q7z e).length<=1+(e.rl.length+e.wl.length):=by
 unfold q7z
 by_cases h:e.k=1\/e.k=2
 ·simp only[if_pos h];exact⟨yl _ _,fun x=>by simp,Yw⟩
 ·simp only[if_neg h];obtain⟨a,b,c⟩:=q5c (q29 (e.rl++e.wl));refine⟨a,fun x=>?_,?_⟩
  ·rw[b,qaT,zy]
  ·rw[q1v,z8] at c;omega
theorem q8z{l:ji}{n y:Nat}(hw:Wf l n)(d:y<l.length):∀x∈q7z (at' l y),0<=x/\x<64:=by
 intro x c;have b:=hw.kd y d;have hm:=((q2a (at' l y)).2.1 x).1 c;have a:∀z,inW z=true->0<=z/\z<64:=fun z h=>of_decide_eq_true h
 split at hm
 ·subst hm;exact a _ b.2.2.2.2.1
 ·rcases hm with hm|hm
  ·exact a x (zX.1 b.2.2.2.2.2.1 x hm)
  ·exact a x (zX.1 b.2.2.2.2.2.2 x hm)
theorem qaC{l:ji}{n y:Nat}{w:Int}(hw:Wf l n)(f:y<l.length)(b:knd l y≠3)(d:w∉q7z (at' l y)):∀m,rcL l y w m= []
 |0=>rfl
 |m+1=>by
  rw[q8j,qaC hw f b d m];have:rcB l y w m=false:=by
   have hm:=fun h=>d (((q2a (at' l y)).2.1 w).2 h)
   have i:=hw.kd y f;unfold rcB confB cfP;unfold knd at i b;generalize at' l y=e at*
   by_cases c:e.k=4
   ·rw[if_neg Yu] at hm;have a:e.rl.contains w=false:=by rw[<-yi,Zw];exact fun h=>hm (.inl h)
    have g:e.wl.contains w=false:=by rw[<-yi,Zw];exact fun h=>hm (.inr h)
    simp only[c,a,g]
    split <;>simp
   ·rw[if_pos Yu] at hm;have a:¬e.w=w:=fun h=>hm h.symm
    simp only[c,if_false,decide_eq_false a]
    split <;>simp
  rw[this];rfl
theorem qn4{l:ji}{n y:Nat}(hw:Wf l n)(a:y<l.length)(b:knd l y≠3):rcW l y 64=(q7z (at' l y)).flatMap fun w=>rcL l y w y:=by
 unfold rcW;rw[List.range_eq_range'];exact q37 (f:=fun w=>rcL l y w y) 64 0 (q7z (at' l y)) (q2a _).1 (fun x d=>by have:=q8z hw a x d;omega) (fun w _ c=>qaC hw a b c y)
theorem q7a{β:Type}{g:Nat->Option β}{r:β}:∀(n k:Nat),k<n->g k=some r->(∀j,j<k->g j=none)->(List.range n).findSome? g=some r
 |0,k,h,_,_=>by omega
 |n+1,k,h,a,b=>by
  rw[ZQ,yv]
  by_cases c:k=n
  ·subst c;have:(List.range k).findSome? g=none:=by
    rw[yF];intro x d;exact b x (Z9.1 d)
   rw[this];simp[a]
  ·rw[q7a n k Yu a b];rfl
theorem q3Y{l:ji}{m:Nat}:prs l (m+1)=prs l m++(if knd l m=3 then [] else(List.range 64).map fun(w:Nat)=>(m,(w:Int))):=by
 unfold prs;rw[ZQ (n:=m),yg];simp
theorem q2O{l:ji}(h:rcA l l.length= []):frst l=(-1, -1, -1):=by
 rw[<-qhP,h];rfl
theorem qmr{l:ji}{y:Nat}{w:Int}{r:q0f}(hy:y<l.length)(k:knd l y≠3)(hb:rcA l y= [])(hw:0<=w/\w<64)(o:(rcL l y w y).getLast? =some r)(n:∀b:Int,0<=b->b<w->rcL l y b y= []):frst l=r:=by
 unfold frst;have e:prs l l.length=prs l y++(prs l (y+1)).drop (prs l y).length++(prs l l.length).drop (prs l (y+1)).length:=by
  have a:∀m d,∃z,prs l (m+d)=prs l m++z:=fun m d=>by
   induction d with
   |zero=>exact⟨[],Yw⟩
   |succ d s=>
    obtain⟨z,q⟩:=s;refine⟨z++(if knd l (m+d)=3 then [] else(List.range 64).map fun(w:Nat)=>(m+d,(w:Int))),?_⟩;rw[<-zd,<-q];exact q3Y
  obtain⟨z1,i⟩:=a y 1;obtain⟨z2,c⟩:=a (y+1) (l.length-(y+1));rw[show y+1+(l.length-(y+1))=l.length by omega] at c;rw[c,i];simp
 rw[e,yv,yv];have f:(prs l y).findSome? (fun p=>(rcL l p.1 p.2 p.1).getLast?)=none:=by
  rw[yF];intro p a;rw[qfP] at hb;have:=List.flatMap_eq_nil_iff.1 hb p a;rw[this];rfl
 have g:(prs l (y+1)).drop (prs l y).length=(List.range 64).map fun(w:Nat)=>(y,(w:Int)):=by
  rw[q3Y,if_neg k];simp
 have h:((List.range 64).map fun(w:Nat)=>(y,(w:Int))).findSome? (fun p=>(rcL l p.1 p.2 p.1).getLast?)=some r:=by
  rw[List.findSome?_map];refine q7a 64 w.toNat Yu ?_ ?_
  ·simp only[Function.comp_apply];rw[Z2 hw.1];exact o
  ·intro j hj;simp only[Function.comp_apply];rw[n j Yu Yu];rfl
 rw[f,g,h];rfl
def HBc(l:ji)(i j:Nat):Prop:=i<j/\
 (thr l i=thr l j\/(q0T l j/\∃e f,i<=e/\e<f/\f<j/\knd l e=4/\knd l f=4/\thr l e=thr l i/\thr l f=thr l j)\/(¬q0T l j/\∃e,i<=e/\e<j/\knd l e=4/\thr l e=thr l i))
theorem qsr{l:ji}{i j:Nat}:HB l i j↔HBc l i j/\q7Q l i/\q7Q l j:=by
 unfold HB HBc;constructor
 ·rintro⟨a,b,c,d⟩;exact⟨⟨a,d⟩,b,c⟩
 ·rintro⟨⟨a,d⟩,b,c⟩;exact⟨a,b,c,d⟩
theorem qlg{l r:ji}{i j:Nat}(c:j<l.length):HBc (l++r) i j↔HBc l i j:=by
 unfold HBc q0T;constructor
 ·rintro⟨h,g⟩;have d:i<l.length:=Yu;rw[q0h d,q0h c,qX c] at g;refine⟨h,?_⟩
  rcases g with g|⟨g1,e,f,a1,a2,a3,a4,a5,a,b⟩|⟨g1,e,a1,a2,a3,a4⟩
  ·exact .inl g
  ·rw[qX Yu] at a4 a5;rw[q0h Yu] at a b;exact .inr (.inl ⟨g1,e,f,a1,a2,a3,a4,a5,a,b⟩)
  ·rw[qX Yu] at a3;rw[q0h Yu] at a4;exact .inr (.inr ⟨g1,e,a1,a2,a3,a4⟩)
 ·rintro⟨h,g⟩;have d:i<l.length:=Yu;rw[q0h d,q0h c,qX c];refine⟨h,?_⟩
  rcases g with g|⟨g1,e,f,a1,a2,a3,a4,a5,a,b⟩|⟨g1,e,a1,a2,a3,a4⟩
  ·exact .inl g
  ·exact .inr (.inl ⟨g1,e,f,a1,a2,a3,by rw[qX Yu];exact a4,by rw[qX Yu];exact a5,by rw[q0h Yu];exact a,by rw[q0h Yu];exact b⟩)
  ·exact .inr (.inr ⟨g1,e,a1,a2,by rw[qX Yu];exact a3,by rw[q0h Yu];exact a4⟩)
theorem q7I{l r:ji}{t:Int}:∀i,i<=l.length->bgL (l++r) t i=bgL l t i
 |0,_=>rfl
 |i+1,h=>by
  unfold bgL;rw[q0h Yu,q7I i Yu]
theorem qof{l r:ji}{y:Nat}(a:y<l.length):toP (l++r) y=toP l y:=by
 unfold toP;rw[qX a,q0h a,q7I y Yu]
theorem qhg{l:ji}{n y:Nat}(hw:Wf l n)(b:y<l.length)(d:knd l y≠3):q7Q l (toP l y)/\toP l y<=y:=by
 unfold toP
 by_cases a:knd l y=4
 ·obtain⟨p,c,hpy,hp3,hpt⟩:=q8L hw b a;rw[if_pos a,c,zD];exact⟨⟨Yu, .inr ⟨y,b,q5i.2 c,a⟩⟩,Yu⟩
 ·rw[if_neg a];exact⟨⟨b, .inl d⟩,zq y⟩
theorem q1s{l r:ji}{i:Nat}(h:q7Q l i):q7Q (l++r) i:=by
 obtain⟨d,c⟩:=h;refine⟨by simp;omega,?_⟩;rw[qX d]
 rcases c with c|⟨e,he,g,f⟩
 ·exact .inl c
 ·refine .inr ⟨e,by simp;omega,?_,by rw[qX he];exact f⟩;obtain⟨j,k,m⟩:=g;exact⟨j,by rw[q0h d,q0h he];exact k,fun q a b=>by rw[q0h Yu,q0h he];exact m q a b⟩
theorem qn2{l r:ji}{n x y:Nat}{w:Int}(hw:Wf l n)(b:y<l.length)(e:knd l y≠3)(hx:x<y):rcB (l++r) y w x=rcB l y w x:=by
 unfold rcB;rw[qX Yu,q1O Yu,q1O b,qof b]
 by_cases d:knd l x=3
 ·rw[decide_eq_true d];rfl
 ·obtain⟨c,hle⟩:=qhg hw b e;have a:q7Q l x:=⟨Yu, .inl d⟩
  have:hbB (l++r) x (toP l y)=hbB l x (toP l y):=by
   rw[yQ,hbB_iff,hbB_iff,qsr,qsr,qlg Yu];constructor
   ·rintro⟨h,_⟩;exact⟨h,a,c⟩
   ·rintro⟨h,_⟩;exact⟨h,q1s a,q1s c⟩
  rw[this]
theorem qaB{l r:ji}{n y:Nat}{w:Int}(hw:Wf l n)(b:y<l.length)(a:knd l y≠3):∀m,m<=y->rcL (l++r) y w m=rcL l y w m
 |0,_=>rfl
 |m+1,h=>by rw[q8j,q8j,qaB hw b a m Yu,qn2 hw b a Yu]
theorem qfR{l r:ji}{n y:Nat}(hw:Wf l n)(b:y<l.length)(a:knd l y≠3):∀m,rcW (l++r) y m=rcW l y m
 |0=>rfl
 |m+1=>by rw[qcc,qcc,qfR hw b a m,qaB hw b a y (zq y)]
theorem qaz{l r:ji}{n:Nat}(hw:Wf l n):∀m,m<=l.length->rcA (l++r) m=rcA l m
 |0,_=>rfl
 |m+1,h=>by
  rw[q8i,q8i,qaz hw m Yu,qX Yu]
  by_cases a:knd l m=3
  ·rw[if_pos a,if_pos a]
  ·rw[if_neg a,if_neg a,qfR hw Yu a]
def qs5(l:ji)(y:Nat)(w:Int)(x:Nat):Bool:= !decide (knd l x=3)&&(confB (at' l x) (at' l y) w&& !qa9 (qrd l) l.length x (toP l y))
def frstC(l:ji):q0f:=((prs l l.length).findSome? fun p=>(((List.range p.1).filter (qs5 l p.1 p.2)).map fun(x:Nat)=>((x:Int),(p.1:Int),p.2)).getLast?).getD (-1, -1, -1)
theorem frst_C{l:ji}{n:Nat}(hw:Wf l n):frst l=frstC l:=by
 have:rcB l=qs5 l:=by funext y w x;unfold rcB qs5;rw[qoU hw]
 unfold frst frstC rcL;rw[this]
end Ord
end Go.Proofs.YtikpjajangpdjaaGreatDoor
