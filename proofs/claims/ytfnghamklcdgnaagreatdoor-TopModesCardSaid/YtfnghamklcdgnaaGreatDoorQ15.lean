/- What the laws share, part 15. No condition. -/
import Derived.Test.YtfnghamklcdgnaaGreatDoorQ14
set_option maxHeartbeats 8000000
set_option maxRecDepth 10000
namespace Go.Proofs.YtfnghamklcdgnaaGreatDoor
open Go
def AP.en:AP->Nat
 | .ent n=>n
 |_=>3
def okO(m:MS)(i:Int):Prop:=∃o:Nat,i=o/\o<m.o.length/\okU (m.o.getD o 0)
def okD(m:MS)(i:Int):Prop:=∃o:Nat,i=o/\o<m.d.length
def qnk(m:MS)(i:Int):Prop:=∃o:Nat,i=o/\o<4/\o<m.hd.length/\okU (m.hd.getD o 0)
def okA(c:Cfg)(t:Nat)(m:MS)(x:AT):Prop:=
 match x.ph with
 | .idle=>False
 | .loc k=>x.oc= []/\(0<=c.words/\c.words<=64)/\(∀a v,k= .wr a v->0<=a)/\∀b v,k= .fd b v->0<=b/\b<qh c
 | .ent n=>(n=0\/n=1\/n=2)/\t<m.sl.length/\(0<=m.ck/\m.ck<=1099511627776)
 | .rd n b v=>okO m (qC c x.addr)/\okD m x.addr/\((n=0/\b=0/\v=0)\/(n=1/\v=0)\/n=2)/\x.set.length<100000/\x.seen.length<100000/\(0<=c.words/\c.words<=64)/\x.us<qh c/\x.oc= []
 | .pp n k hd nx=>(0<=c.words/\c.words<=64)/\qnk m k/\okU hd/\(n=0\/(n=1/\∃j:Nat,q02 hd=j/\j<m.nx.length)\/(n=2/\(0<=nx/\nx<=64)/\0<=q02 hd/\q02 hd<qh c))
 | .lk s ld=>x.old.length<x.oc.length/\okO m (x.oc.getD x.old.length 0)/\(ld=true->0<=s/\s+17<=18446744073709551615)/\t<16
 | .tn _=>True
 | .ck l=>l≠ []/\okO m (l.headD 0)
 | .dc=>0<=c.clock/\c.clock<=1099511627776
 | .wr a v=>a≠ []/\v≠ []/\okD m (a.headD 0)/\(x.dn=true/\x.sto=true)/\(0<=x.ck/\x.ck<1099511627776)
 | .rl o w=>o≠ []/\w≠ []/\okO m (o.headD 0)/\(0<=x.ck/\x.ck<1099511627776)
 | .sp=>True
 | .ps=>0<=x.tk/\x.tk<=1099511627776
 | .ph n b hd=>x.pu<x.al.length/\qnk m (ql c b)/\(n=0\/(okU hd/\∃j:Nat,b=j/\j<64/\((n=1/\j<m.nx.length)\/n=2)))
 | .lv=>t<m.sl.length
theorem q08{l:jd}{i:Nat}(h:i<l.length):l[i]? =some (l.getD i 0):=by
 rw[zg,z6 h];rfl
theorem qmM{c:Cfg}{t:Int}{m:MS}{x:AT}{a v:jd}(h:x.ph= .wr a v)(g:a.tail≠ []):qf c t m x=({m with d:=m.d.set (a.headD 0).toNat (v.headD 0)},{x with ph:= .wr a.tail v.tail},acS 1 (a.headD 0) (m.d.getD (a.headD 0).toNat 0) (v.headD 0),17):=by unfold qf;simp only[h,g,if_false]
theorem q99(x:AT):x.rest.ph.en=3:=by unfold AT.rest;split <;>rfl
theorem q8R(c:Cfg)(x:AT)(k:Int):(x.endA c k).ph.en=3:=by unfold AT.endA;split <;>rfl
theorem q3t(x:AT):x.fin.ph.en=3:=by unfold AT.fin;split <;>rfl
theorem qhI(c:Cfg)(x:AT)(b v:Int)(h:x.ph.en=3):(x.frd c b v).ph.en=3:=by
 unfold AT.frd
 (repeat' split) <;>first|exact q8R c x 8|exact q3t _|exact h
theorem qcj(c:Cfg)(x:AT)(k b:Int)(h:x.ph.en=3):(x.allo c k b).ph.en=3:=by
 unfold AT.allo
 (repeat' split) <;>first|exact q3t _|exact h
theorem qje(c:Cfg)(x:AT)(k:Ko)(h:x.ph.en=3):(x.kont c k).ph.en=3:=by
 cases k with
 |en g=>exact q8R c x g
 |tk v=>exact h
 |wr a v=>
  unfold AT.kont;dsimp only
  (repeat' split) <;>first|exact q8R c x 7|exact q3t _|exact h
 |ud g=>exact q3t _
 |fd b v=>exact qhI c x b v h
theorem qlX(c:Cfg)(x:AT)(v:Int)(h:x.ph.en=3):(x.got c v).ph.en=3:=by
 unfold AT.got
 split
 ·exact h
 ·exact qhI c x _ v h
section
variable{W0:World}{own Q E:Own}{c:Cfg}{t:Nat}{h:AH}{x:AT}{k w:Int}{b e:Nat}{mh:MH}{m:MS}
theorem q87{P:Program}{f:FuncId}{args:je}{g j:Own}{K:Value->Own->Prop}(h:qu P W0 f args g K)(e:g=j):qu P W0 f args j K:=e ▸ h
abbrev StQ(W0:World)(c:Cfg)(t:Nat)(h:AH)(mh:MH)(m:MS)(x:AT)(Q:Own):Value->Own->Prop:=
 AtQ W0 c t h.b (qf c t m x).2.1 (qf c t m x).2.1.ph.en (mh.O (qf c t m x).1++Q) (.tuple #[(qf c t m x).2.2.1.v,j4 (qf c t m x).2.2.2])
theorem q1o{e':Nat}{x':AT}{m':MS}{r:AcM}{ph:Int}{f:FuncId}{args:je}{g:Own}(j:jk W0 f args g (AtQ W0 c t h.b x' e' (mh.O m'++Q) (.tuple #[r.v,j4 ph])))(o:qf c t m x=(m',x',r,ph))(he:x'.ph.en=e'):jk W0 f args g (StQ W0 c t h mh m x Q):=by
 unfold StQ;rw[o];dsimp only;rw[he];exact j
theorem q2K(q:h.ok c x)(u:mh.ok m.L)(H:PhO W0 c t h x E)(I:okA c t m x)(Q:Own):
  jk W0 117 [ptr h.b,ptr mh.mb] (h.O c t x x.ph.no x.ph.en (E++(mh.O m++Q))) (StQ W0 c t h mh m x Q):=by
 obtain⟨st,code,rv,set,ad,vl,seen,addr,val,oc,old,ck,dn,tk,ph,al,fr,pu,us⟩:=x;cases ph with
 |idle=>exact I.elim
 |loc kk=>
  obtain⟨z,g,B,C⟩:=I;exact q1o (qk5 (mb:=mh.mb) q z g H B C (mh.O m++Q)) rfl (qje c _ _ rfl)
 |ent n=>
  obtain⟨z,g,B⟩:=I;obtain rfl:E= []:=H
  rcases z with rfl|rfl|rfl
  ·exact q1o (q1V (E:= []) (.inl ⟨rfl,rfl⟩) (fun Q=>qgG q u (q08 g) Q) Q) rfl rfl
  ·exact q1o (q1V (E:= []) (.inl ⟨rfl,rfl⟩) (fun Q=>qgH q u B Q) Q) rfl rfl
  ·exact q1o (q1V (E:= []) (.inl ⟨rfl,rfl⟩) (fun Q=>qgI q u (q08 g) Q) Q) rfl rfl
 |rd n bf vl=>
  obtain⟨⟨o,z,g,B⟩,⟨j,C,K⟩,T,h8,h9,g1,g2,g3⟩:=I;obtain⟨O,r,E2,hr,Z,rfl⟩:=H;dsimp only at z C T h8 h9 O g2 g3;subst C;show qu _ _ _ _ (h.O c t _ 3 3 (((r,rdP j (qC c j) rv n bf vl false)::E2)++(mh.O m++Q))) _;rw[z]
  rcases T with ⟨rfl,rfl,rfl⟩|⟨rfl,rfl⟩|rfl
  ·refine q1o (q1V (.inr (.inl ⟨rfl,rfl⟩)) (fun Q=>qk9 q u hr O Z z (q08 g) B Q) Q) (by rw[q9u rfl];dsimp only;rw[z];rfl) ?_
   split
   ·exact q3t _
   ·rfl
  ·exact q1o (q1V (.inr (.inl ⟨rfl,rfl⟩)) (fun Q=>qka q u hr O Z z rfl (q08 K) Q) Q) rfl rfl
  ·refine q1o (q1V (.inr (.inl ⟨rfl,rfl⟩)) (fun Q=>qkb q u hr O Z g1 g2 g3 (q08 g) h8 h9 Q) Q) (by rw[qkw rfl];dsimp only;rw[z];rfl) ?_
   split
   ·exact q3t _
   ·split
    ·exact q3t _
    ·exact qlX c _ _ rfl
 |pp n k hd nx=>
  obtain⟨g1,⟨o,rfl,g,B,C⟩,K,G⟩:=I;obtain⟨⟨a1,a2,a3⟩,qb,ab,cb,W,Y,rfl⟩:=H
  rcases G with rfl|⟨rfl,j,G,T⟩|⟨rfl,G,T⟩
  ·refine q1o (q1V (.inr (.inr (.inl ⟨rfl,rfl⟩))) (fun Q=>qk6 q u W Y g1 g a1 (q08 B) C Q) Q) rfl ?_
   split
   ·exact qcj c _ _ _ rfl
   ·rfl
  ·refine q1o (q1V (.inr (.inr (.inl ⟨rfl,rfl⟩))) (fun Q=>qk7 q u W Y g a1 K G (q08 T) Q) Q) ?_ rfl;unfold qf;dsimp only;rw[if_neg Yc,if_pos rfl,G];rfl
  ·refine q1o (q1V (.inr (.inr (.inl ⟨rfl,rfl⟩))) (fun Q=>qk8 q u W Y g1 g a1 K G T (q08 B) Q) Q) ?_ ?_
   ·unfold qf;dsimp only;rw[if_neg Yc,if_neg Yc,zF]
    by_cases hw:m.hd.getD o 0=hd
    ·simp only[if_pos hw,decide_eq_true hw]
    ·simp only[if_neg hw,decide_eq_false hw]
   ·split
    ·exact qcj c _ _ _ rfl
    ·rfl
 |lk s ld=>
  obtain⟨z,⟨o,g,B,C⟩,K,G⟩:=I;have ho:=q08 z;dsimp only at g ho;rw[g] at ho;cases ld with
  |false=>exact q1o (q1V (.inr (.inr (.inr (.inl ⟨rfl,rfl⟩)))) (fun Q=>qk3 q u H ho (q08 B) C Q) Q) (by rw[q34 rfl,if_pos rfl];dsimp only;rw[g];rfl) rfl
  |true=>
   refine q1o (q1V (.inr (.inr (.inr (.inl ⟨rfl,rfl⟩)))) (fun Q=>qk4 q u H ho (q08 B) (K rfl) G Q) Q) ?_ ?_
   ·have T:=K rfl;rw[q34 rfl,if_neg Yc];dsimp only;rw[g,show qV (s+(t:Int)+1)=s+t+1 from q4M Yb Yb,zF]
    by_cases hw:m.o.getD o 0=s
    ·simp only[if_pos hw,decide_eq_true hw]
    ·simp only[if_neg hw,decide_eq_false hw]
   ·split
    ·dsimp only;split <;>rfl
    ·rfl
 |tn b=>
  obtain⟨E1,E2,L,J,rfl⟩:=H;cases b with
  |false=>exact q1o (q1V (.inr (.inr (.inr (.inr (.inl ⟨rfl,rfl⟩))))) (fun Q=>qkc q u L J Q) Q) rfl rfl
  |true=>
   refine q1o (q1V (.inr (.inr (.inr (.inr (.inl ⟨rfl,rfl⟩))))) (fun Q=>qkd q u L J Q) Q) (by rw[q3i rfl]) ?_
   split
   ·split <;>rfl
   ·rfl
 |ck l=>
  obtain⟨z,⟨o,g,B,C⟩⟩:=I;obtain⟨E1,E2,cb,ca,cc,cD,L,J,af,⟨hL,ae⟩,rfl⟩:=H;cases l with
  |nil=>exact absurd rfl z
  |cons y l=>
   obtain rfl:y=(o:Int):=g;refine q1o (e':=3) (q1V (.inr (.inr (.inr (.inr (.inr (.inl ⟨rfl,rfl⟩)))))) (fun Q=>?_) Q) (by rw[q6t rfl]) ?_
   ·exact q87 (qmG q u L J af hL ae (q08 B) C Q) (by simp only[zd,zk,zu];rfl)
   ·split
    ·exact q99 _
    ·split <;>rfl
 |dc=>
  obtain⟨E1,E2,L,J,rfl⟩:=H;refine q1o (q1V (.inr (.inr (.inr (.inr (.inr (.inr (.inl ⟨rfl,rfl⟩))))))) (fun Q=>qmH q u L J I Q) Q) (by rw[q33 rfl]) ?_
  split
  ·exact q99 _
  ·split
   ·rfl
   ·exact q99 _
 |wr a v=>
  obtain⟨z,g,⟨o,B,C⟩,K,G⟩:=I;obtain⟨E1,wb,wa,wc,wD,va,vc,vD,L,R,⟨hL,U⟩,⟨N,V⟩,rfl⟩:=H;cases a with
  |nil=>exact absurd rfl z
  |cons y l=>
   obtain rfl:y=(o:Int):=B;cases v with
   |nil=>exact absurd rfl g
   |cons v0 l2=>
    by_cases hl:l= []
    ·subst hl;refine q1o (q1V (.inr (.inr (.inr (.inr (.inr (.inr (.inr (.inl ⟨rfl,rfl⟩)))))))) (fun Q=>?_) Q) rfl rfl;exact q87 (qkf (wc:=wc) (vc:=vc) q u L R hL N (q08 C) K G Q) (by simp only[zd,zk,zu,zE];rfl)
    ·refine q1o (q1V (.inr (.inr (.inr (.inr (.inr (.inr (.inr (.inl ⟨rfl,rfl⟩)))))))) (fun Q=>?_) Q) (m':={m with d:=m.d.set o v0}) (x':=⟨st,code,rv,set,ad,vl,seen,addr,val,oc,old,ck,dn,tk, .wr l l2,al,fr,pu,us⟩) (r:=acS 1 o (m.d.getD o 0) v0) (ph:=17) (by rw[qmM (a:=(o:Int)::l) (v:=v0::l2) rfl hl];rfl) rfl;exact q87 (qke q u L R hL N U V (q08 C) hl Q) (by simp only[zd,zk,zu];rfl)
 |rl a v=>
  obtain⟨z,g,⟨o,B,C,K⟩,G⟩:=I;obtain⟨E1,wb,wa,wc,wD,va,vc,vD,L,R,⟨hL,U⟩,⟨N,V⟩,rfl⟩:=H;cases a with
  |nil=>exact absurd rfl z
  |cons y l=>
   obtain rfl:y=(o:Int):=B;cases v with
   |nil=>exact absurd rfl g
   |cons v0 l2=>
    refine q1o (e':=3) (q1V (.inr (.inr (.inr (.inr (.inr (.inr (.inr (.inr (.inl ⟨rfl,rfl⟩))))))))) (fun Q=>?_) Q) rfl ?_
    ·exact q87 (qmK q u L R hL N U V (q08 C) ⟨G.1,Int.le_of_lt G.2⟩ Q) (by simp only[zd,zk,zu];rfl)
    ·split
     ·dsimp only;split <;>rfl
     ·rfl
 |sp=>exact q1o (qmL q u H Q) rfl rfl
 |ps=>exact q1o (qmJ q u H I Q) rfl (q3t _)
 |ph n b hd=>
  obtain⟨z,⟨o,g,B,C,K⟩,G⟩:=I;obtain⟨pb,X,rfl⟩:=H;have hk:puP (ql c b) b n hd=puP (o:Int) b n hd:=by rw[g]
  rcases G with rfl|⟨G,j,rfl,T,⟨rfl,h8⟩|rfl⟩
  ·refine q1o (q1V (.inr (.inr (.inr (.inr (.inr (.inr (.inr (.inr (.inr ⟨rfl,rfl⟩))))))))) (fun Q=>qeu (n2:=1) (hd2:=m.hd.getD o 0) (m':=m) (ac:=acL 7 (o:Int) (m.hd.getD o 0)) q X z (fun Q=>by rw[g];exact qaP u (q08 C) Q) rfl Q) Q) ?_ rfl;unfold qf q0p;dsimp only;rw[if_pos rfl,g];rfl
  ·refine q1o (q1V (.inr (.inr (.inr (.inr (.inr (.inr (.inr (.inr (.inr ⟨rfl,rfl⟩))))))))) (fun Q=>qeu (n2:=2) (hd2:=hd) (m':={m with nx:=m.nx.set j (q02 hd+1)}) (ac:=acS 8 (j:Int) (m.nx.getD j 0) (q02 hd+1)) q X z (fun Q=>by rw[g];exact qaQ u G (q08 h8) Q) rfl Q) Q) ?_ rfl;unfold qf q0p;dsimp only;rw[if_neg Yc,if_pos rfl];rfl
  ·refine q1o (q1V (.inr (.inr (.inr (.inr (.inr (.inr (.inr (.inr (.inr ⟨rfl,rfl⟩))))))))) (fun Q=>qeu (n2:=if m.hd.getD o 0=hd then 3 else 0) (hd2:=hd) (m':={m with hd:=if m.hd.getD o 0=hd then m.hd.set o (q05 hd j) else m.hd}) (ac:=acW 7 (o:Int) (m.hd.getD o 0) (q05 hd j) (decide (m.hd.getD o 0=hd))) q X z (fun Q=>by rw[g];have:=qaR (W0:=W0) (b:=pb) (bl:=j) u G ⟨Yb,Yb⟩ (q08 C) Q;rw[show(((if m.hd.getD o 0=hd then 3 else 0:Nat):Int))=if m.hd.getD o 0=hd then 3 else 0 by split <;>rfl];exact this) rfl Q) Q) ?_ ?_
   ·unfold qf q0p;dsimp only;rw[if_neg Yc,if_neg Yc,g,zF]
    by_cases hw:m.hd.getD o 0=hd
    ·simp only[if_pos hw,decide_eq_true hw];rw[hw];rfl
    ·simp only[if_neg hw,decide_eq_false hw];rfl
   ·by_cases hw:m.hd.getD o 0=hd
    ·simp only[if_pos hw];exact q3t _
    ·simp only[if_neg hw];rfl
 |lv=>
  obtain rfl:E= []:=H;exact q1o (qmI q u (q08 I) Q) rfl rfl
end
open Go
abbrev feP(t n:Nat)(f:FT):Obj->Prop:=fun o=>o=Obj.cells #[j4 t,j4 n, .bool f.ld,uv f.lim,j4 f.nx] 271 (0,0)
abbrev lmE(q:Int×Int):je:= [j4 q.1,j4 q.2]
abbrev qf9(b:Nat):je:= [ptr b]
abbrev lmP(c:Cfg)(a:j8)(n k:Nat):Obj->Prop:=fun o=>o=Obj.cells #[j4 c.words,j4 c.orecs,j4 c.base,j4 c.c0,j4 c.c1,j4 c.c2,j4 c.c3,j4 c.reads,j4 c.writes,j4 c.allocs,j4 c.frees,j4 c.clock, .bool c.strong, .slice a n k] 234 (0,0)
abbrev drP(a:j8)(n k:Nat):Obj->Prop:=fun o=>o=Obj.cells #[.slice a n k] 277 (0,0)
def puL(c:Cfg)(ps:jh)(l:jd):Own:=(ps.zip l).map fun q=>(q.1,puP (ql c q.2) q.2 0 0)
theorem qjy{c:Cfg}{ps:jh}{l:jd}{p:Nat}{b:Int}(h:ps.length=l.length):puL c (ps++ [p]) (l++ [b])=puL c ps l++ [(p,puP (ql c b) b 0 0)]:=by
 unfold puL;rw[List.zip_append h,zv];rfl
theorem qah{lim:Int}{l:List (Int×Int)}{q:Int×Int}:lmL lim (l++ [q])=lmL lim l++if q.2<=lim then [q.1] else []:=by
 unfold lmL;rw[yq,zv]
 by_cases h:q.2<=lim
 ·rw[if_pos h];simp[h]
 ·rw[if_neg h];simp[h]
theorem qai{lim:Int}{l:List (Int×Int)}{q:Int×Int}:lmR lim (l++ [q])=lmR lim l++if lim<q.2 then [q] else []:=by
 unfold lmR;rw[yq]
 by_cases h:lim<q.2
 ·rw[if_pos h];simp[h]
 ·rw[if_neg h];simp[h]
section
variable{W0:World}{own Q:Own}{c:Cfg}{t n:Nat}{b:Nat}{f:FT}{mh:MH}{m:MS}
theorem q9o(t n:Nat)(Q:Own):jk W0 127 [j4 t,j4 n] Q fun v own'=>∃b:Nat,v=ptr b/\Ent W0 own' ((b,feP t n ⟨false,0,0,none⟩)::Q):=by
 refine sH [] ?_
 repeat'((try conv=>whnf);first|refine qg fun bk hbk=>?_)
 all_goals exact⟨_,rfl,Ent.refl⟩
theorem q80(hn:f.nx<=1000)(Q:Own):jk W0 159 [ptr b] ((b,feP t n f)::Q) fun v own'=>∃_:Unit,v= .tuple #[]/\Ent W0 own' ((b,feP t n {f with nx:=q9g t f.nx})::Q):=by
 refine qG (sH (jo 9 3 [0]) ?_);unfold q9g
 by_cases h:(f.nx:Int)=t
 ·rw[if_pos h]
  repeat'((try conv=>whnf);first|refine fF ?_|refine fB ?_|refine fA ?_|refine fN ?_)
  all_goals exact⟨rfl,sbE⟩
 ·rw[if_neg h]
  repeat'((try conv=>whnf);first|refine fG ?_|refine fA ?_)
  all_goals exact⟨rfl,sbE⟩
theorem qeI(s:Int):jl W0 224 [uv s] own (j4 (if s=0 then 0 else if s=1 then 1 else 2)):=by
 refine qi (sH [] ?_)
 by_cases g:s=0
 ·rw[if_pos g]
  repeat'((try conv=>whnf);first|refine fF ?_)
  all_goals exact⟨rfl,(eC)⟩
 ·rw[if_neg g]
  by_cases j:s=1
  ·rw[if_pos j]
   repeat'((try conv=>whnf);first|refine fF ?_|refine fG ?_)
   all_goals exact⟨rfl,(eC)⟩
  ·rw[if_neg j]
   repeat'((try conv=>whnf);first|refine fG ?_)
   all_goals exact⟨rfl,(eC)⟩
theorem qe1{lim:Int}(s:Int)(o:Cl W0 own b 3 (uv lim)):jl W0 160 [ptr b,uv s] own (.bool (qdv lim s)):=by
 refine qi (sH [] ?_);have hw:=fun own=>qeI (W0:=W0) (own:=own) s
 unfold qdv
 by_cases g:s=0
 ·simp only[if_pos g] at hw ⊢
  repeat'((try conv=>whnf);first|refine fE ?_|apply qe;refine qd (hw _) ?_)
  all_goals exact⟨rfl,(eC)⟩
 ·simp only[if_neg g] at hw ⊢
  by_cases j:s=1
  ·simp only[if_pos j] at hw ⊢
   repeat'((try conv=>whnf);first|refine fE ?_|refine fD ?_|apply qe;refine qd (hw _) ?_)
   all_goals exact⟨rfl,(eC)⟩
  ·simp only[if_neg j] at hw ⊢
   repeat'((try conv=>whnf);first|refine fD ?_|refine q0k o ?_|refine arw (k:= .u64) ?_|apply qe;refine qd (hw _) ?_)
   all_goals exact⟨rfl,(eC)⟩
theorem q5q{ld:Bool}{nx:Nat}(j:Cl W0 own b 1 (j4 n))(g:Cl W0 own b 2 (.bool ld))(o:Cl W0 own b 4 (j4 nx)):jl W0 109 [ptr b] own (.bool (ld&&decide (n<=nx))):=by
 refine qi (sH (jo 16 3 [0]) ?_);rw[show decide (n<=nx)=decide ((nx:Int)>=n) from decide_eq_decide.2 Yb];cases ld with
 |false=>
  repeat'((try conv=>whnf);first|refine fI ?_|refine q0k g ?_)
  all_goals exact⟨rfl,(eC)⟩
 |true=>
  repeat'((try conv=>whnf);first|refine fH ?_|refine q0k g ?_|refine q0k o ?_|refine q0k j ?_)
  all_goals exact⟨rfl,(eC)⟩
theorem qbx{lim:Int}(g:Cl W0 own b 2 (.bool true))(j:Cl W0 own b 3 (uv lim))(hl:0<=lim/\lim<=1099511627776):jl W0 111 [ptr b] own (j4 lim):=by
 refine qi (sH [] ?_)
 repeat'((try conv=>whnf);first|refine fD ?_|refine q0k g ?_|refine q0k j ?_|refine fB ?_)
 all_goals exact⟨rfl,(eC)⟩
theorem qby(o:mh.ok m.L)(Q:Own):jk W0 108 [ptr b,ptr mh.mb] ((b,feP t n ⟨false,0,0,none⟩)::(mh.O m++Q)) fun v own'=>
  ∃_:Unit,v=(q1c t m ⟨false,0,0,none⟩).2.1.v/\Ent W0 own' ((b,feP t n (q1c t m ⟨false,0,0,none⟩).1)::(mh.O m++Q)):=by
 refine qG (sH [3,5,7,11,13,1,9,16,17,19,22,0,16,9,17,19,22,0] ?_);have hd:=fun(own':Own) (g:qy b (feP t n ⟨false,0,0,none⟩) own')=>q5q (W0:=W0) (own:=own') (b:=b) (n:=n) (ld:=false) (nx:=0) (qj g rfl) (qj g rfl) (qj g rfl)
 have j:=fun Q=>q80 (W0:=W0) (b:=b) (t:=t) (n:=n) (f:=⟨true,m.ck,0,none⟩) (zl _) Q
 rw[show(q1c t m ⟨false,0,0,none⟩)=(⟨true,m.ck,q9g t 0,none⟩,acL 3 0 m.ck,25) from rfl];dsimp only at j ⊢
 repeat'((try conv=>whnf);first|refine fE ?_|refine fD ?_|(apply qe;first|refine qd (hd _ Ye) ?_|refine q0x 2 0 o Yc rfl ?_ ?_ ?_;exact rfl;exact rfl|refine qO (j _) fun _ v q=>?_;subst q)|refine fO ?_|refine fA ?_|refine fL ?_|refine fN ?_|refine fM ?_|refine qg fun bk hbk=>?_|refine q1k.mk ?_ ?_)
 all_goals exact⟨rfl,sbE⟩
theorem qbz(C:mh.ok m.L)(j:f.ld=true)(u:f.nx<n)(hn2:n<=16)(hsl:m.sl.length=n)(Q:Own):jk W0 108 [ptr b,ptr mh.mb] ((b,feP t n f)::(mh.O m++Q)) fun v own'=>
  ∃_:Unit,v=(q1c t m f).2.1.v/\Ent W0 own' ((b,feP t n (q1c t m f).1)::(mh.O m++Q)):=by
 refine qG (sH [3,5,7,11,13,1,9,16,17,19,22,0,16,9,17,19,22,0] ?_);obtain⟨ld,lim,nx,dr⟩:=f;have hn0:=u;dsimp only at j u ⊢;subst j;have hd:=fun(own':Own) (o:qy b (feP t n ⟨true,lim,nx,dr⟩) own')=>q5q (W0:=W0) (own:=own') (b:=b) (n:=n) (ld:=true) (nx:=nx) (qj o rfl) (qj o rfl) (qj o rfl)
 rw[show(true&&decide (n<=nx))=false by simpa using u] at hd;have H:=fun Q=>q80 (W0:=W0) (b:=b) (t:=t) (n:=n) (f:=⟨true,lim,nx+1,dr⟩) (by dsimp only;omega) Q
 have G:=q08 (l:=m.sl) (i:=nx) Yb;have q:=fun(own':Own) (o:qy b (feP t n ⟨true,lim,nx,dr⟩) own')=>qe1 (W0:=W0) (own:=own') (b:=b) (lim:=lim) (m.sl.getD nx 0) (qj o rfl)
 unfold q1c;dsimp only at H ⊢;rw[if_neg Yc];generalize m.sl.getD nx 0=z at*;dsimp only
 by_cases g:qdv lim z=true
 ·rw[if_pos g];rw[g] at q
  repeat'((try conv=>whnf);first|refine fE ?_|refine fD ?_|(apply qe;first|refine qd (hd _ Ye) ?_|refine qd (q _ Ye) ?_|refine q0x 5 nx C Yc G ?_ ?_ ?_;exact rfl;exact rfl|refine qO (H _) fun _ v J=>?_;subst J)|refine fB ?_|refine fO ?_|refine fA ?_|refine fL ?_|refine fN ?_|refine fM ?_|refine qg fun I s=>?_)
  all_goals exact⟨rfl,sbE⟩
 ·have B:qdv lim z=false:=by simpa using g
  rw[B] at q;rw[if_neg g]
  repeat'((try conv=>whnf);first|refine fD ?_|(apply qe;first|refine qd (hd _ Ye) ?_|refine qd (q _ Ye) ?_|refine q0x 5 nx C Yc G ?_ ?_ ?_;exact rfl;exact rfl)|refine fO ?_|refine fA ?_|refine fL ?_|refine fM ?_|refine qg fun I s=>?_)
  all_goals exact⟨rfl,sbE⟩
theorem q9l(own:Own):jk W0 75 [c.v] own fun v own'=>∃b:Nat,v=ptr b/\Ent W0 own' ((b,lmP c none 0 0)::own):=by
 refine sH [] ?_;dsimp only[Cfg.v,Cfg.cs]
 repeat'((try conv=>whnf);first|refine fL ?_|refine qg fun bk hbk=>?_)
 all_goals exact⟨_,rfl,sbE⟩
variable{F D:Own}{a ba:j8}{k bc:Nat}{lm:List (Int×Int)}{l:jd}
theorem q9k(N:qq lmE 279 2 a k lm D)(I:RdE qw 1 W0 F ba l)(C:∀b∈l,0<=b/\b<qh c)(hlen:lm.length+l.length<=100000)(v:Int)(Q:Own) [eq:qx Q F]:
  jk W0 264 [ptr b,j4 v, .slice ba l.length bc] ((b,lmP c a lm.length k)::(D++Q)) fun r own'=>
   ∃y:j8×Nat×Own,(r= .tuple #[]/\qq lmE 279 2 y.1 y.2.1 (lm++l.map fun b=>(b,v)) y.2.2)/\Ent W0 own' ((b,lmP c y.1 (lm++l.map fun b=>(b,v)).length y.2.1)::(y.2.2++Q)):=by
 refine sH [] ?_;have hbl:=qP c
 repeat'((try conv=>whnf);first|refine fD ?_)
 refine qQ (σ:=Nat×j8×Nat×Own) (fun s=> [(12,j4 s.1)]) (fun s=>(b,lmP c s.2.1 (lm++(l.take s.1).map fun b=>(b,v)).length s.2.2.1)::(s.2.2.2++Q)) (fun s=>s.1<=l.length/\qq lmE 279 2 s.2.1 s.2.2.1 (lm++(l.take s.1).map fun b=>(b,v)) s.2.2.2) (fun s=>l.length-s.1) (0,a,k,D) ⟨Yd,by simpa using N⟩ (eF) (by simp only[yT,Zx,zC];exact Ent.refl) rfl ?_;rintro⟨i,O,R,K⟩ junk ⟨hi,u⟩;dsimp only at hi u ⊢;have htl:(lm++(l.take i).map fun b=>(b,v)).length<=100000:=by rw[z8,zi,zM];omega
 by_cases g:i<l.length
 ·obtain⟨y,z⟩:∃y,l[i]? =some y:=⟨_,z6 g⟩
  have j:(i:Int)<l.length:=Yb;have q:=C y (zh z);have G:=fun own=>q3G W0 own c y Yb
  have H:=(q0J q.1 q.2).1;have o:(lm++(l.take (i+1)).map fun b=>(b,v))=(lm++(l.take i).map fun b=>(b,v))++ [(y,v)]:=by rw[zY,z,zv,<-zd];rfl
  have hge':ql c y>=0:=H
  repeat'((try conv=>whnf);first|refine fF ?_|refine qg fun bk hbk=>?_|apply q0f (enc:=lmE) (T:=279) (y,v) u;exact rfl;exact rfl;omega;exact rfl;exact rfl;omega;intro a3 L J B|apply gLd;refine q0n I z rfl ?_|(apply qL;first|refine ixE I z ?_ ?_;(first|rfl|omega))|apply qe;refine qd (G _) ?_|refine fB ?_|refine fA ?_|refine fQ ?_|refine fN ?_)
  refine⟨(i+1,a3,L,J),⟨g,by dsimp only;rw[o];exact B⟩,by simp only;omega,(eF),?_⟩;dsimp only;rw[show(lm++(l.take (i+1)).map fun b=>(b,v)).length=(lm++(l.take i).map fun b=>(b,v)).length+1 by rw[o,z8,zA]];exact sbE
 ·obtain rfl:i=l.length:=Yb;rw[Z3] at u ⊢;have j:¬(l.length:Int)<l.length:=Yb
  repeat'((try conv=>whnf);first|refine fG ?_)
  all_goals exact⟨(O,R,K),⟨rfl,u⟩,sbE⟩
theorem q3H{n:Nat}(g:Cl W0 own b 0 (.slice a n k)):jl W0 114 [ptr b] own (.bool (decide (n=0))):=by
 refine qi (sH [] ?_)
 repeat'((try conv=>whnf);first|refine q0k g ?_)
 all_goals exact⟨q0s (vb Yd),(eC)⟩
structure DH where
 d:Nat
 da:j8
 dc:Nat
 dD:Own
 ps:jh
 ra:j8
 rc:Nat
 rD:Own
theorem qgl(Z:qq lmE 279 2 a k lm D)(U:∀q∈lm,0<=q.1/\q.1<qh c)(hlen:lm.length<=100000)(lim:Int)(Q:Own):
  jk W0 110 [ptr b,j4 lim] ((b,lmP c a lm.length k)::(D++Q)) fun v own'=>
   ∃y:DH,(v=ptr y.d/\qq lmE 279 2 y.ra y.rc (lmR lim lm) y.rD/\qq qf9 180 1 y.da y.dc y.ps y.dD/\y.ps.length=(lmL lim lm).length)/\
    Ent W0 own' ((y.d,drP y.da y.ps.length y.dc)::(y.dD++(puL c y.ps (lmL lim lm)++((b,lmP c y.ra (lmR lim lm).length y.rc)::(y.rD++Q))))):=by
 refine sH (3::5::7::9::(jo 9 13 [1,11,32,34,36,37,39,42,0,32,11,34,36,37,39,42,0])) ?_;have hbl:=qP c;have J:=Z.rd (W0:=W0)
 repeat'((try conv=>whnf);first|refine fD ?_|refine qg fun Y hbk=>?_|refine fA ?_)
 refine qQ (σ:=Nat×(j8×Nat×Own)×(j8×Nat×Own)×jh) (fun s=> [(19,j4 s.1),(6, .slice s.2.1.1 (lmR lim (lm.take s.1)).length s.2.1.2.1)]) (fun s=>(Y,drP s.2.2.1.1 s.2.2.2.length s.2.2.1.2.1)::(s.2.2.1.2.2++(puL c s.2.2.2 (lmL lim (lm.take s.1))++(s.2.1.2.2++((b,lmP c a lm.length k)::(D++Q))))))
  (fun s=>s.1<=lm.length/\qq lmE 279 2 s.2.1.1 s.2.1.2.1 (lmR lim (lm.take s.1)) s.2.1.2.2/\qq qf9 180 1 s.2.2.1.1 s.2.2.1.2.1 s.2.2.2 s.2.2.1.2.2/\s.2.2.2.length=(lmL lim (lm.take s.1)).length) (fun s=>lm.length-s.1) (0,(none,0,[]),(none,0,[]),[]) ⟨Yd,qq.nil,qq.nil,rfl⟩ (eF) sbE rfl ?_
 rintro⟨i,⟨ra,rc,rD⟩,⟨da,dc,dD⟩,ps⟩ junk ⟨hi,H,hd,o⟩;dsimp only at hi H hd o ⊢;have hlr:(lmR lim (lm.take i)).length<=100000:=Zq (ya _ _) (by rw[zM];omega);have hll:ps.length<=100000:=by rw[o];unfold lmL;rw[zi];exact Zq (ya _ _) (by rw[zM];omega)
 by_cases j:i<lm.length
 ·obtain⟨⟨y,ver⟩,u⟩:∃y,lm[i]? =some y:=⟨_,z6 j⟩
  have G:(i:Int)<lm.length:=Yb;have W:=U _ (zh u);dsimp only at W;have V:=fun own=>q3G W0 own c y Yb
  have L:lm.take (i+1)=lm.take i++ [(y,ver)]:=by rw[zY,u];rfl
  by_cases K:ver>lim
  ·have z:lmR lim (lm.take (i+1))=lmR lim (lm.take i)++ [(y,ver)]:=by rw[L,qai,if_pos K]
   have B:lmL lim (lm.take (i+1))=lmL lim (lm.take i):=by rw[L,qah,if_neg Yb,zC]
   repeat'((try conv=>whnf);first|refine fF ?_|refine qg fun O C=>?_|apply q0f (enc:=lmE) (T:=279) (y,ver) H;exact rfl;exact rfl;omega;exact rfl;exact rfl;omega;intro a3 R N g|(apply qL;first|refine ixE J u ?_ ?_;(first|rfl|omega))|apply q27;refine q0O J u rfl ?_|refine fB ?_|refine fA ?_|refine fL ?_|refine fM ?_)
   have I:(lmR lim (lm.take (i+1))).length=(lmR lim (lm.take i)).length+1:=by rw[z,z8,zA]
   all_goals exact⟨(i+1,(a3,R,N),(da,dc,dD),ps),⟨j,by dsimp only;rw[z];exact g,hd,by dsimp only;rw[B];exact o⟩,by simp only;omega,by dsimp only;rw[I];exact(eF),by dsimp only;rw[B];exact sbE⟩
  ·have z:lmR lim (lm.take (i+1))=lmR lim (lm.take i):=by rw[L,qai,if_neg K,zC]
   have B:lmL lim (lm.take (i+1))=lmL lim (lm.take i)++ [y]:=by rw[L,qah,if_pos Yb]
   repeat'((try conv=>whnf);first|refine fF ?_|refine fG ?_|refine qg fun O C=>?_|apply q0f (enc:=qf9) (T:=180) X hd;exact rfl;exact rfl;omega;exact rfl;exact rfl;omega;intro a3 R N g|(apply qL;first|refine ixE J u ?_ ?_;(first|rfl|omega))|apply q27;refine q0O J u rfl ?_|(apply qe;first|refine qk (q6i (ql c y) y _) fun X v K=>?_;subst K)|apply qz;refine qm (fun ex=>V _) ?_|refine fB ?_|refine fA ?_|refine fQ ?_|refine fN ?_|refine fM ?_|refine q1k.mk ?_ ?_)
   all_goals
    have I:(ps++ [X]).length=ps.length+1:=by rw[z8,zA]
    exact⟨(i+1,(ra,rc,rD),(a3,R,N),ps++ [X]),⟨j,by dsimp only;rw[z];exact H,g,by dsimp only;rw[B,I,z8,zA,o]⟩,by simp only;omega,by dsimp only;rw[z];exact(eF),by dsimp only;rw[B,I,qjy o];simp only[zd,zk,zj];exact sbE⟩
 ·obtain rfl:i=lm.length:=Yb;rw[Z3] at H o ⊢;have G:¬(lm.length:Int)<lm.length:=Yb
  repeat'((try conv=>whnf);first|refine fG ?_|refine fN ?_)
  all_goals exact⟨⟨Y,da,dc,dD,ps,ra,rc,rD⟩,⟨rfl,H,hd,o⟩,sbE⟩
end
open Go
structure LB where
 l:Nat
 fp:Value
 dp:Value
structure TH where
 b:Nat
 ap:Value
 lb:LB
 ca:j8
 cc:Nat
 sa:j8
 sc:Nat
 sD:Own
 oa:j8
 oc:Nat
 oD:Own
 la:j8
 lc:Nat
 lD:Own
abbrev thP(c:Cfg)(t n:Nat)(p:jf)(h:TH)(x:GT):Obj->Prop:=fun z=>z=Obj.cells #[h.ap,j4 x.bg,uv x.sv.r0,uv x.sv.r1,uv x.sv.r2,uv x.sv.r3,uv x.sv.r4,uv x.sv.r5,uv x.sv.r6,uv x.sv.r7,j4 x.tr, .slice h.sa x.seen.length h.sc, .bool x.stg,j4 x.ask,h.lb.fp,h.lb.dp,
 j4 c.words,j4 c.orecs,j4 c.base,j4 c.c0,j4 c.c1,j4 c.c2,j4 c.c3,j4 c.reads,j4 c.writes,j4 c.allocs,j4 c.frees,j4 c.clock, .bool c.strong,
 j4 t,j4 n, .slice h.ca p.length h.cc,j4 x.th.pc,uv x.th.rg.r0,uv x.th.rg.r1,uv x.th.rg.r2,uv x.th.rg.r3,uv x.th.rg.r4,uv x.th.rg.r5,uv x.th.rg.r6,uv x.th.rg.r7,j4 x.th.oc, .bool x.th.dn,ptr h.lb.l, .slice h.oa x.obs.length h.oc,j4 x.ct] 167 (0,0)
structure TH.ok(h:TH)(x:GT):Prop where
 hs:qq ObM.enc 77 3 h.sa h.sc x.seen h.sD
 ho:qq ObM.enc 77 3 h.oa h.oc x.obs h.oD
 hl:qq lmE 279 2 h.la h.lc x.lm h.lD
abbrev TH.R(h:TH)(c:Cfg)(x:GT)(Q:Own):Own:=h.sD++(h.oD++((h.lb.l,lmP c h.la x.lm.length h.lc)::(h.lD++Q)))
structure qc8(i:Ins):Prop where
 op:0<=i.op/\i.op<18
 a:qfg i.op=true->0<=i.a/\i.a<8
 b:qih i.op=true->0<=i.b/\i.b<8
 c:qii i.op=true->0<=i.c/\i.c<8
 im:i.op=4\/i.op=5\/i.op=6->0<=i.imm/\i.imm<=64
 al:i.op=14->0<=i.imm/\i.imm<4
theorem qlZ{i:Ins}(h:qH i=0):qc8 i:=by
 obtain⟨g,j,o,q,s,u⟩:=q15 h;exact⟨g,j,o,q,s,u⟩
section
variable{W0:World}{own Q:Own}{c:Cfg}{t n:Nat}{p:jf}{h:TH}{x:GT}{k:Int}{b e:Nat}
theorem qmZ{i:Nat}(hi:i<8):(#[h.ap,j4 x.bg,uv x.sv.r0,uv x.sv.r1,uv x.sv.r2,uv x.sv.r3,uv x.sv.r4,uv x.sv.r5,uv x.sv.r6,uv x.sv.r7,j4 x.tr, .slice h.sa x.seen.length h.sc, .bool x.stg,j4 x.ask,h.lb.fp,h.lb.dp,
 j4 c.words,j4 c.orecs,j4 c.base,j4 c.c0,j4 c.c1,j4 c.c2,j4 c.c3,j4 c.reads,j4 c.writes,j4 c.allocs,j4 c.frees,j4 c.clock, .bool c.strong,
 j4 t,j4 n, .slice h.ca p.length h.cc,j4 x.th.pc,uv x.th.rg.r0,uv x.th.rg.r1,uv x.th.rg.r2,uv x.th.rg.r3,uv x.th.rg.r4,uv x.th.rg.r5,uv x.th.rg.r6,uv x.th.rg.r7,j4 x.th.oc, .bool x.th.dn,ptr h.lb.l, .slice h.oa x.obs.length h.oc,j4 x.ct]:jg).toList[33+i]? =some (uv (x.th.rg.get i)):=by
 rcases lt8 hi with rfl|rfl|rfl|rfl|rfl|rfl|rfl|rfl <;>rfl
theorem q6Q{off i:Nat}{K:Value->Prop} [m:qy b (thP c t n p h x) own](hi:i<8)(j:off=33+i)(g:K (uv (x.th.rg.get i))):Ld W0 own ⟨b,off,none⟩ K:=by
 subst j;exact qU _ m.h (qmZ hi) g
theorem q9x{off i:Nat}{v:Int}{K:Own->Prop}{C:(Obj->Prop)->Own} [m:UpC b (thP c t n p h x) own C](hi:i<8)(j:off=33+i)(g:K (C (thP c t n p h {x with th:={x.th with rg:=x.th.rg.set i v}}))):StT W0 own ⟨b,off,none⟩ (uv v) K:=by
 subst j;refine qkV (by rcases lt8 hi with rfl|rfl|rfl|rfl|rfl|rfl|rfl|rfl <;>rfl) rfl ?_
 rcases lt8 hi with rfl|rfl|rfl|rfl|rfl|rfl|rfl|rfl <;>exact g
theorem q4o{j:Int}(i:Nat)(g:j=i)(Q:Own):jk W0 76 [ptr h.b,j4 j] ((h.b,thP c t n p h x)::Q) fun v own'=>∃_:Unit,v= .tuple #[]/\Ent W0 own' ((h.b,thP c t n p h (x.to p.length i))::Q):=by
 subst g;refine qG (sH [] ?_);unfold GT.to;rw[show decide (i=p.length)=decide ((i:Int)=(p.length:Int)) from decide_eq_decide.2 Yb]
 repeat'((try conv=>whnf);first|refine fA ?_|refine fN ?_)
 all_goals exact⟨rfl,sbE⟩
theorem q1f(hp:x.th.pc<=1000000)(Q:Own):jk W0 116 [ptr h.b] ((h.b,thP c t n p h x)::Q) fun v own'=>∃_:Unit,v= .tuple #[]/\Ent W0 own' ((h.b,thP c t n p h (x.to p.length (x.th.pc+1)))::Q):=by
 refine qG (sH [] ?_)
 repeat'((try conv=>whnf);first|(apply qe;first|refine qO (q4o (c:=c) (t:=t) (n:=n) (p:=p) (h:=h) (x:=x) (x.th.pc+1) rfl _) fun _ v g=>?_;subst g)|refine fB ?_|refine fA ?_)
 all_goals exact⟨rfl,sbE⟩
theorem qaT{r imm:Int} [m:qy b (thP c t n p h x) own](hr:0<=r/\r<8):jl W0 195 [ptr b,j4 r,j4 imm] own (uv (adr x.th.rg r imm)):=by
 refine qi (sH [] ?_);have g:r.toNat<8:=Yb
 repeat'((try conv=>whnf);first|refine q6Q (c:=c) (t:=t) (n:=n) (p:=p) (h:=h) (x:=x) g ?_ ?_;omega|refine arw (k:= .u64) ?_|refine fP ?_)
 all_goals exact⟨rfl,(eC)⟩
theorem q8g{i:Ins}(hx:qc8 i)(hr:x.th.rg.ok)(hp:x.th.pc<=1000)(Q:Own):jk W0 128 [ptr h.b,i.v] ((h.b,thP c t n p h x)::Q) fun v own'=>
  ∃_:Unit,v= .tuple #[]/\Ent W0 own' ((h.b,thP c t n p h {x with th:={q1r x.th i with dn:=decide ((q1r x.th i).pc=p.length)}})::Q):=by
 refine qG (sH (jo 8 3 (20::0::(jo 11 3 (26::0::(jo 23 3 (50::0::(jo 11 3 (26::0::(jo 7 3 (0::(jo 7 3 [0]))))))))))) ?_);have o:=fun(j:Int) (N:j=(q1B x.th i:Nat)) Q=>q4o (W0:=W0) (c:=c) (t:=t) (n:=n) (p:=p) (h:=h) (x:={x with th:={x.th with rg:=q4C x.th i}}) (q1B x.th i) N Q
 obtain⟨h0,u,z,G,B,_⟩:=hx;obtain⟨op,a,C,cc,imm⟩:=i;dsimp only[Ins.v] at*
 by_cases V:op=1
 ·subst V;have R:=u rfl;have g:a.toNat<8:=Yb;clear u z G B
  repeat'((try conv=>whnf);first|refine fE ?_|refine arw (k:= .u64) ?_|refine q9x (c:=c) (t:=t) (n:=n) (p:=p) (h:=h) (x:=x) g ?_ ?_;omega|(apply qe;first|refine qO (o _ rfl _) fun _ v s=>?_;subst s)|refine fB ?_|refine fP ?_|refine fA ?_|refine qg fun K q=>?_)
  all_goals exact⟨rfl,sbE⟩
 by_cases W:op=2
 ·subst W;have R:=u rfl;have g:a.toNat<8:=Yb;have hb:=z rfl;have J:C.toNat<8:=Yb;clear u z G B
  repeat'((try conv=>whnf);first|refine fE ?_|refine fD ?_|refine q6Q (c:=c) (t:=t) (n:=n) (p:=p) (h:=h) (x:=x) J ?_ ?_;omega|refine q9x (c:=c) (t:=t) (n:=n) (p:=p) (h:=h) (x:=x) g ?_ ?_;omega|(apply qe;first|refine qO (o _ rfl _) fun _ v s=>?_;subst s)|refine fB ?_|refine fP ?_|refine fA ?_|refine qg fun K q=>?_)
  all_goals exact⟨rfl,sbE⟩
 by_cases X:op=3
 ·subst X;have R:=u rfl;have g:a.toNat<8:=Yb;have hb:=z rfl;have J:C.toNat<8:=Yb;have h3c:=G rfl;have U:cc.toNat<8:=Yb;clear u z G B;have T:=fun own=>Alu.sp_apply W0 own imm (x.th.rg.get C.toNat) (x.th.rg.get cc.toNat) (hr _)
  repeat'((try conv=>whnf);first|refine fE ?_|refine fD ?_|refine q6Q (c:=c) (t:=t) (n:=n) (p:=p) (h:=h) (x:=x) J ?_ ?_;omega|refine q6Q (c:=c) (t:=t) (n:=n) (p:=p) (h:=h) (x:=x) U ?_ ?_;omega|refine q9x (c:=c) (t:=t) (n:=n) (p:=p) (h:=h) (x:=x) g ?_ ?_;omega|(apply qe;first|refine qO (o _ rfl _) fun _ v s=>?_;subst s)|apply qz;refine qT (fun _=>T _) ?_|refine fB ?_|refine fO ?_|refine fP ?_|refine fA ?_|refine qg fun K q=>?_)
  all_goals exact⟨rfl,sbE⟩
 by_cases L:op=17
 ·subst L;have R:=u rfl;have g:a.toNat<8:=Yb;clear u z G B
  repeat'((try conv=>whnf);first|refine fE ?_|refine fD ?_|refine arw (k:= .u64) ?_|refine q9x (c:=c) (t:=t) (n:=n) (p:=p) (h:=h) (x:=x) g ?_ ?_;omega|(apply qe;first|refine qO (o _ rfl _) fun _ v s=>?_;subst s)|refine fB ?_|refine fP ?_|refine fA ?_|refine qg fun K q=>?_)
  all_goals exact⟨rfl,sbE⟩
 have hR:q4C x.th ⟨op,a,C,cc,imm⟩=x.th.rg:=by unfold q4C;rw[if_neg V,if_neg W,if_neg X,if_neg L]
 unfold q1r;rw[hR] at o ⊢
 by_cases Y:op=4
 ·subst Y;have hi:=B (.inl rfl);clear u z G B;have N:(x.th.pc:Int)+1+imm=(q1B x.th ⟨4,a,C,cc,imm⟩:Nat):=by simp only[q1B];simp;omega
  repeat'((try conv=>whnf);first|refine fE ?_|refine fD ?_|(apply qe;first|refine qO (o _ N _) fun _ v s=>?_;subst s)|refine fB ?_|refine fA ?_|refine qg fun K q=>?_)
  all_goals exact⟨rfl,sbE⟩
 by_cases I:op=5\/op=6
 ·have hi:=B (.inr I);have R:0<=a/\a<8:=u (by rcases I with rfl|rfl <;>rfl);have g:a.toNat<8:=Yb;clear u z G B;have O:q1B x.th ⟨op,a,C,cc,imm⟩=if(op=5/\x.th.rg.get a.toNat=0)\/(op=6/\x.th.rg.get a.toNat≠0) then x.th.pc+1+imm.toNat else x.th.pc+1:=by unfold q1B;simp[Y]
  by_cases Z:x.th.rg.get a.toNat=0
  all_goals
   rcases I with rfl|rfl
   all_goals
    first
    |have H:=o ((x.th.pc:Int)+1+imm) (by rw[O];simp[Z];omega)
    |have H:=o ((x.th.pc:Int)+1) (by rw[O];simp[Z])
    repeat'((try conv=>whnf);first|refine fE ?_|refine fD ?_|refine fF ?_|refine fG ?_|refine q6Q (c:=c) (t:=t) (n:=n) (p:=p) (h:=h) (x:=x) g ?_ ?_;omega|(apply qe;first|refine qO (H _) fun _ v s=>?_;subst s)|refine fB ?_|refine fP ?_|refine fA ?_|refine qg fun K q=>?_)
    all_goals exact⟨rfl,sbE⟩
 ·clear u z G B;have O:q1B x.th ⟨op,a,C,cc,imm⟩=x.th.pc+1:=by unfold q1B;rw[if_neg (by simp only;omega)]
  have N:(x.th.pc:Int)+1=(q1B x.th ⟨op,a,C,cc,imm⟩:Nat):=by rw[O];rfl
  repeat'((try conv=>whnf);first|refine fG ?_|(apply qe;first|refine qO (o _ N _) fun _ v s=>?_;subst s)|refine fB ?_|refine fA ?_|refine qg fun K q=>?_)
  all_goals exact⟨rfl,sbE⟩
end
open Go
section
variable{W0:World}{own Q:Own}{t:Nat}{k w:Int}{b gb e:Nat}
theorem q7T{na aa:j8}{nc ca:Nat}{seen ad:jd}(Z:Cl W0 own b 1 (ptr gb))(J:Cl W0 own b 15 (j4 w))(h2:Cl W0 own b 2 (.slice na seen.length nc))(g1:Cl W0 own gb 1 (.slice aa ad.length ca))(hA:RdE qw 1 W0 own aa ad)(hN:RdE qw 1 W0 own na seen)(hl:ad.length<=1000000)(hl2:seen.length<=1000000):
  jk W0 118 [ptr b] own fun v own'=>∃s:(j8×Nat×Own)×(j8×Nat×Own),(v= .tuple #[.slice s.1.1 seen.length s.1.2.1, .slice s.2.1 (ad.filter fun x=>decide (x<w)).length s.2.2.1]/\
   qq qw 3 1 s.1.1 s.1.2.1 seen s.1.2.2/\qq qw 3 1 s.2.1 s.2.2.1 (ad.filter fun x=>decide (x<w)) s.2.2.2)/\Ent W0 own' (s.1.2.2++(s.2.2.2++own)):=by
 refine sH [] ?_;have L:=q49 g1 hA hl
 repeat'((try conv=>whnf);first|refine q0k Z ?_|(apply qe;first|refine qk L fun y v R=>?_;obtain⟨a1,c1,D1⟩:=y;obtain⟨rfl,z⟩:=R;dsimp only at z))
 have I:RdE qw 1 W0 D1 a1 ad:=z.rd (W0:=W0);refine qQ (σ:=Nat×j8×Nat×Own) (fun s=> [(13,j4 s.1),(3, .slice s.2.1 ((ad.take s.1).filter fun x=>decide (x<w)).length s.2.2.1)]) (fun s=>s.2.2.2++(D1++own)) (fun s=>s.1<=ad.length/\qq qw 3 1 s.2.1 s.2.2.1 ((ad.take s.1).filter fun x=>decide (x<w)) s.2.2.2) (fun s=>ad.length-s.1) (0,none,0,[]) ⟨Yd,qq.nil⟩ (eF) sbE rfl ?_;rintro⟨i,U,V,u⟩ junk ⟨hi,G⟩;dsimp only at hi G ⊢;have htl:((ad.take i).filter fun x=>decide (x<w)).length<=1000000:=by have:=ya (fun x=>decide (x<w)) (ad.take i);rw[zM] at this;omega
 have o:∀D:Own,Cl W0 (D++(D1++own)) b 15 (j4 w):=fun D=>J.ent (Ent.right.trans Ent.right)
 by_cases q:i<ad.length
 ·obtain⟨y,H⟩:∃y,ad[i]? =some y:=⟨_,z6 q⟩
  have C:(i:Int)<ad.length:=Yb;have j:(ad.take (i+1)).filter (fun x=>decide (x<w))=((ad.take i).filter fun x=>decide (x<w))++if y<w then [y] else []:=by
   rw[zY,H,yq]
   by_cases g:y<w
   ·rw[if_pos g];simp[g]
   ·rw[if_neg g];simp[g]
  by_cases g:y<w
  ·rw[if_pos g] at j
   repeat'((try conv=>whnf);first|refine fF ?_|refine q0k (o u) ?_|refine qg fun bk hbk=>?_|apply q0f (enc:=qw) (T:=3) y G;exact rfl;exact rfl;omega;exact rfl;exact rfl;omega;intro a3 Y X N|apply gLd;refine q0n I H rfl ?_|(apply qL;first|refine ixE I H ?_ ?_;(first|rfl|omega))|refine fB ?_)
   refine⟨(i+1,a3,Y,X),⟨q,by dsimp only;rw[j];exact N⟩,by simp only;omega,?_,sbE⟩;dsimp only;rw[j,z8];exact(eF)
  ·rw[if_neg g,zC] at j
   repeat'((try conv=>whnf);first|refine fF ?_|refine fG ?_|refine q0k (o u) ?_|apply gLd;refine q0n I H rfl ?_|(apply qL;first|refine ixE I H ?_ ?_;(first|rfl|omega))|refine fB ?_)
   refine⟨(i+1,U,V,u),⟨q,by dsimp only;rw[j];exact G⟩,by simp only;omega,?_,sbE⟩;dsimp only;rw[j];exact(eF)
 ·obtain rfl:i=ad.length:=Yb;rw[Z3] at G ⊢;have C:¬(ad.length:Int)<ad.length:=Yb;have K:∀D:Own,Cl W0 (D++(D1++own)) b 2 (.slice na seen.length nc):=fun D=>h2.ent (Ent.right.trans Ent.right)
  have O:=fun(own':Own) (m:qx own' own)=>qR (W0:=W0) (own:=own') (cap:=nc) (hN.up) Yb
  repeat'((try conv=>whnf);first|refine fG ?_|refine q0k (K u) ?_|(apply qe;first|refine qk (O _ Ye) fun y v R=>?_;obtain⟨a2,c2,W⟩:=y;obtain⟨rfl,B⟩:=R;dsimp only at B))
  exact⟨((a2,c2,W),(U,V,u)),⟨rfl,B,G⟩,sbE⟩
theorem qdP{fa:j8}{fc:Nat}{fr:jd}(o:Cl W0 own b 4 (.slice fa fr.length fc))(q:RdE qw 1 W0 own fa fr)(hl:fr.length<=1000000):jk W0 263 [ptr b] own fun v own'=>∃s:j8×Nat×Own,(v= .slice s.1 fr.length s.2.1/\qq qw 3 1 s.1 s.2.1 fr s.2.2)/\Ent W0 own' (s.2.2++own):=by
 refine sH [] ?_;have j:=qR (W0:=W0) (own:=own) (cap:=fc) q Yb
 repeat'((try conv=>whnf);first|refine q0k o ?_|(apply qe;first|refine qk j fun y v u=>?_;obtain⟨rfl,g⟩:=u))
 exact⟨y,⟨rfl,g⟩,sbE⟩
theorem qbs{fa:j8}{fc:Nat}{fr:jd}(o:Cl W0 own b 3 (.slice fa fr.length fc))(q:RdE qw 1 W0 own fa fr)(hl:fr.length<=1000000):jk W0 53 [ptr b] own fun v own'=>∃s:j8×Nat×Own,(v= .slice s.1 fr.length s.2.1/\qq qw 3 1 s.1 s.2.1 fr s.2.2)/\Ent W0 own' (s.2.2++own):=by
 refine sH [] ?_;have j:=qR (W0:=W0) (own:=own) (cap:=fc) q Yb
 repeat'((try conv=>whnf);first|refine q0k o ?_|(apply qe;first|refine qk j fun y v u=>?_;obtain⟨rfl,g⟩:=u))
 exact⟨y,⟨rfl,g⟩,sbE⟩
end
open Go
abbrev a0T:AT:={AT.new with st:=1,ph:= .ent 0}
section
variable{W0:World}{own Q:Own}{c:Cfg}{t n:Nat}{p:jf}{h:TH}{x:GT}{k:Int}{b e:Nat}
theorem q8h(z:0<=c.reads/\c.reads<=32)(hw:1<=c.writes/\c.writes<=32)(B:c.allocs<=1000/\c.frees<=1000)(hct:x.ct<=1000000)(Q:Own):jk W0 124 [ptr h.b] ((h.b,thP c t n p h x)::Q) fun v own'=>
  ∃ah:AH,(v= .tuple #[]/\ah.ok c a0T)/\Ent W0 own' ((h.b,thP c t n p {h with ap:=ptr ah.b,sa:=none,sc:=0,sD:= []} {x with seen:= [],ct:=x.ct+1})::ah.O c t a0T 2 0 Q):=by
 refine sH (jo 10 3 [24,25,27,29,32,33,35,37,40,0]) ?_;have u:=fun Q=>qjN (W0:=W0) c z hw t Q
 have hb:=fun(b sb:Nat) (g:LH) (j:g.ok c.writes [] []) (Q:Own)=>qdO (W0:=W0) (t:=t) (b:=b) (sb:=sb) j hw.2 B Q
 repeat'((try conv=>whnf);first|(apply qe;first|refine qk (u _) fun y v q=>?_;obtain⟨ab,sb,g⟩:=y;obtain⟨rfl,j⟩:=q;dsimp only at j|refine qn (b:=ab) (D:=(sb,stP c.reads none 0 0)::g.O c.writes [] [] []) (hb ab sb g j) (fun Q=>by simp only[zk,zd,zj];exact sbE) fun y v q=>?_;obtain⟨rfl,s,o⟩:=q;subst s)|refine fB ?_|refine fA ?_|refine fQ ?_|refine fN ?_)
 all_goals exact⟨y,⟨rfl,o⟩,sbE⟩
theorem qkm{a:AT}{ah:AH}{kd r kk:Int}(hr:0<=r/\r<8)(s:h.ok x)(hl:x.seen.length<=100000)(g:h.ap=ptr ah.b)(Q:Own):jk W0 184 [ptr h.b,j4 r,j4 kk] ((h.b,thP c t n p h x)::(ah.b,atP c t ah a kd)::(h.sD++Q)) fun v own'=>
  ∃y:j8×Nat×Own,(v= .tuple #[]/\qq ObM.enc 77 3 y.1 y.2.1 (x.seen++ [⟨x.th.pc,kk,a.val⟩]) y.2.2)/\
   Ent W0 own' ((h.b,thP c t n p {h with sa:=y.1,sc:=y.2.1,sD:=y.2.2} {x with th:={x.th with rg:=x.th.rg.set r.toNat a.val},seen:=x.seen++ [⟨x.th.pc,kk,a.val⟩]})::(ah.b,atP c t ah a kd)::(y.2.2++Q)):=by
 refine sH (jo 14 3 [32,34,35,37,39,42,0]) ?_;obtain⟨hb,ap,lb,ca,cc,sa,sc,sD,oa,oc,oD,la,lc,lD⟩:=h;dsimp only at g ⊢;subst g;have q:=s.hs;dsimp only at q;have u:=fun(own':Own) (z:qy ah.b (atP c t ah a kd) own')=>q7X (W0:=W0) (qj z rfl)
 have o:r.toNat<8:=Yb
 repeat'((try conv=>whnf);first|refine q9x (c:=c) (t:=t) (n:=n) (p:=p) (h:=⟨hb,ptr ah.b,lb,ca,cc,sa,sc,sD,oa,oc,oD,la,lc,lD⟩) (x:=x) o ?_ ?_;omega|refine qg fun bk hbk=>?_|apply q0f (enc:=ObM.enc) (T:=77) (⟨x.th.pc,kk,a.val⟩:ObM) q;exact rfl;exact rfl;omega;exact rfl;exact rfl;omega;intro a5 c5 D5 j|apply qe;refine qd (u _ Ye) ?_|refine fP ?_|refine fA ?_|refine fN ?_)
 all_goals exact⟨(a5,c5,D5),⟨rfl,j⟩,by unfold thP;simp only[z8];exact sbE⟩
end
open Go
theorem qn3(a:AT):(if a.dn=true/\a.code=1/\a.ad.length≠0 then a.ck+1 else-1)=a.ver:=by
 unfold AT.ver
 by_cases g:a.dn=true/\a.sto=true
 ·rw[if_pos g,if_pos (q5B.1 g)]
 ·rw[if_neg g,if_neg (fun e=>g (q5B.2 e))]
theorem q9M{α:Type}{W0:World}{own:Own}{enc:α->je}{sz:Nat}{a:j8}{l:List α}{T T2:TypeId}{bytes cap s k:Nat}{zs:je}{D:Own}{C:Own->Own}{ys:jg}{fz:Nat×Nat}{K:Value->Own->Prop}(x:α)(v:qq enc T sz a cap l D)(B:k=l.length) [m:AtC D own C] [m2:qy s (j7 ys T2 fz) own](H:ys.toList=enc x)
  (I:zs.length=sz) (G:0<sz) (hw:(enc x).length=sz) (u:(enc x).all q2r=true) (hb:(k+1)*bytes<=140737488355328)
  (z:∀q g j,qq enc T sz q g (l++ [x]) j->K (.slice q (k+1) g) (C j)):qc6 W0 own T sz bytes zs a k cap (some ⟨s,0,none⟩) 1 K:=by
 subst B;exact q0f x v H I G hw u hb z
section
variable{P:Program}{W0:World}{own D r r1 F:Own}{f f0:FuncId}{args args0:je}{b:Nat}{p p':Obj->Prop}
theorem qiJ{σ:Type}{R:σ->Value->Prop}{O:σ->Own->Own}{g:Own->Own}{K:Value->Own->Prop} [G:q1H b p own r1] [H:q2g D r1 r] [I:qx r F](h:∀Q,qx Q F->qu P W0 f0 args0 (g Q) fun v own'=>∃s,R s v/\Ent W0 own' (O s Q))(q:∀Q,Ent W0 ((b,p')::(D++Q)) (g Q))
  (o:p=p') (j:f=f0) (ea:args=args0) (B:∀s v,R s v->K v (O s r)):q0g P W0 own f args K:=by
 subst j;subst ea;subst o;exact⟨fun w hw=>(h r I w (q r w (Ent.of_perm (G.h.trans (H.h.cons _)) w hw))).mono fun _ _ ⟨_,_,he,C,s,z,u⟩=>⟨_,O s r,he,u _ C,B s _ z⟩⟩
theorem q0e{σ:Type}{R:σ->Value->Prop}{O:σ->Own->Own}{g:Own->Own}{K:Value->Own->Prop} [m1:q1H b p own r1] [m2:q2g D r1 r] [m3:qx r F](h:∀Q,qx Q F->qu P W0 f0 args0 (g Q) fun v own'=>∃s,R s v/\Ent W0 own' (O s Q))(q:∀Q,Ent W0 ((b,p')::(D++Q)) (g Q))(u:∀s v,R s v->K v (O s r))(o:p=p':=by exact rfl)(j:f=f0:=by exact rfl)(ea:args=args0:=by exact rfl):q0g P W0 own f args K:=qiJ h q o j ea u
end
section
variable{W0:World}{own Q:Own}{c:Cfg}{t n:Nat}{p:jf}{h:TH}{x:GT}{k:Int}{b e:Nat}
theorem qkl{a:AT}{ah:AH}{kd:Int}{bi:Ins}{cD:Own}(hF:qE W0)(hh:h.ok x)(U:ah.ok c a)(av:∀b∈a.fr,0<=b/\b<qh c)(hlm:x.lm.length<=1000)(R:0<=a.ck/\a.ck<=1099511627776)(hl:x.seen.length<=100000)(hl2:x.obs.length<=100000)(V:h.ap=ptr ah.b)(N:RdE Ins.enc 5 W0 cD h.ca p)(hp:p.length<=100000)(u:p[x.bg]? =some bi)(az:bi.op=7)(au:(qB p).2=0)(hend:q0B p x.bg<=100000)(hcode:0<=a.code/\a.code<=100)(Q:Own) [eq:qx Q cD]:
  jk W0 183 [ptr h.b] ((h.b,thP c t n p h x)::ah.O c t a kd e (h.R c x Q)) fun v own'=>
  ∃G:TH,(v= .tuple #[]/\G.b=h.b/\G.ap= .pointer none/\G.ca=h.ca/\G.lb=h.lb/\G.ok (x.endG p a))/\Ent W0 own' ((G.b,thP c t n p G (x.endG p a))::(ah.b,atP c t ah a kd)::G.R c (x.endG p a) Q):=by
 refine sH (jo 13 3 (0::(jo 10 3 (24::25::27::30::0::(jo 7 3 (18::0::(jo 18 3 (0::(jo 13 3 (30::32::33::35::38::0::(jo 12 3 [28,0]))))))))))) ?_;obtain⟨hb,ap,lb,ca,cc,sa,sc,sD,oa,oc,oD,la,lc,lD⟩:=h;obtain⟨q,B,z⟩:=hh;dsimp only at V N q B z ⊢;subst V;have o:=fun(own':Own) (I:qy ah.b (atP c t ah a kd) own')=>q3E (W0:=W0) (k:=a.code) (qj I rfl)
 have hlf:=U.lf;have X:=fun(own':Own) (I:qy ah.b (atP c t ah a kd) own') (m2:qx own' ah.fD)=>qdP (W0:=W0) (own:=own') (b:=ah.b) (qj I rfl) ((U.hf.rd (W0:=W0)).up) Yb
 have aj:=fun(own':Own) (I:qy ah.b (atP c t ah a kd) own') (m2:qy ah.g.b (lgP c.writes ah.g.aa a.ad.length ah.g.ca ah.g.va a.vl.length ah.g.cv ah.g.ib ah.g.P) own')=>q2a (W0:=W0) (qj I rfl) (qj I rfl) R (qj I rfl) (qj I rfl) (qj m2 rfl)
 rw[qn3] at aj;have C:=fun(own':Own) (m:qx own' cD)=>q7Y (W0:=W0) (own:=own') (cap:=cc) hF (N.up) Yb (x.bg:Int)
 rw[q3Y u,if_pos ⟨au,az⟩] at C;have af:=q.rd (W0:=W0);have hlen:(x.obs++x.seen).length=x.obs.length+x.seen.length:=z8;have aq:a.code=1\/a.code=9\/(a.code≠1/\a.code≠9):=Yb
 rcases aq with W|L|⟨aw,ay⟩
 ·rw[qiQ W];rw[W] at o
  by_cases hz:a.fr= []
  ·rw[show x.lm++a.fr.map (fun b=>(b,a.ver))=x.lm by rw[hz,Zx,zC]];have aA:¬(a.fr.length:Int)>0:=by rw[hz];decide
   repeat'((try conv=>whnf);first|refine fE ?_|refine fD ?_|refine fG ?_|refine qfl B af rfl rfl Yb (fun _ _=>rfl) (fun _=>by omega) fun a2 c2 D2 J=>?_|refine qg fun bk K=>?_|apply q9M (enc:=ObM.enc) (T:=77) (⟨x.bg,3,1⟩:ObM) J hlen.symm;exact rfl;exact rfl;omega;exact rfl;exact rfl;omega;intro a5 c5 D5 j|(apply qe;first|refine qk (X _ Ye Ye) fun y v s=>?_;(obtain⟨fa,fc,x9⟩:=y;obtain⟨rfl,g⟩:=s;dsimp only at g;try have H:=Z fa fc x9 g)|refine q12 (q4o (c:=c) (t:=t) (n:=n) (p:=p) (h:=⟨hb, .pointer none,lb,ca,cc,sa,sc,sD,a5,c5,D5,la,lc,lD⟩) (x:={x with at':=none,obs:=x.obs++x.seen++ [⟨x.bg,3,1⟩],tr:=0,th:={x.th with oc:=1},lm:=x.lm}) (q0B p x.bg+1) rfl _) ?_ ?_ ?_ fun _ v s=>?_;(solve|exact rfl|(unfold thP;simp only[z8];rfl));exact rfl;exact rfl;subst s)|(apply qz;first|refine qm (fun ex=>o _ Ye) ?_|refine qm (fun ex=>C _ Ye) ?_)|refine fB ?_|refine fC ?_|refine fA ?_|refine fN ?_)
   all_goals exact⟨⟨hb, .pointer none,lb,ca,cc,sa,sc,sD,a5,c5,D5,la,lc,lD⟩,⟨rfl,rfl,rfl,rfl,rfl,⟨q,j,z⟩⟩,sbE⟩
  ·have aA:(a.fr.length:Int)>0:=by have:a.fr.length≠0:=fun e=>hz (zL.1 e);omega
   have Z:=fun(fa:j8) (fc:Nat) (x9:Own) (g:qq qw 3 1 fa fc a.fr x9) (Q:Own) (eq:qx Q x9)=>q9k (W0:=W0) (c:=c) (b:=lb.l) (bc:=fc) z (g.rd (W0:=W0)) av Yb a.ver Q
   repeat'((try conv=>whnf);first|refine fE ?_|refine fD ?_|refine fF ?_|refine qfl B af rfl rfl Yb (fun _ _=>rfl) (fun _=>by omega) fun a2 c2 D2 J=>?_|refine qg fun bk K=>?_|apply q9M (enc:=ObM.enc) (T:=77) (⟨x.bg,3,1⟩:ObM) J hlen.symm;exact rfl;exact rfl;omega;exact rfl;exact rfl;omega;intro a5 c5 D5 j|(apply qe;first|refine qk (X _ Ye Ye) fun y v s=>?_;(obtain⟨fa,fc,x9⟩:=y;obtain⟨rfl,g⟩:=s;dsimp only at g;try have H:=Z fa fc x9 g)|refine q0e (F:=x9) (b:=lb.l) (D:=lD++ []) H (fun Q=>sbE) fun y v s=>?_;obtain⟨a6,c6,D6⟩:=y;obtain⟨rfl,O⟩:=s;dsimp only at O|refine q12 (q4o (c:=c) (t:=t) (n:=n) (p:=p) (h:=⟨hb, .pointer none,lb,ca,cc,sa,sc,sD,a5,c5,D5,a6,c6,D6⟩) (x:={x with at':=none,obs:=x.obs++x.seen++ [⟨x.bg,3,1⟩],tr:=0,th:={x.th with oc:=1},lm:=x.lm++a.fr.map fun b=>(b,a.ver)}) (q0B p x.bg+1) rfl _) ?_ ?_ ?_ fun _ v s=>?_;(solve|exact rfl|(unfold thP;simp only[z8];rfl));exact rfl;exact rfl;subst s)|(apply qz;first|refine qm (fun ex=>o _ Ye) ?_|refine qm (fun ex=>C _ Ye) ?_|refine qm (fun ex=>aj _ Ye Ye) ?_)|refine fB ?_|refine fC ?_|refine fA ?_|refine fN ?_)
   all_goals exact⟨⟨hb, .pointer none,lb,ca,cc,sa,sc,sD,a5,c5,D5,a6,c6,D6⟩,⟨rfl,rfl,rfl,rfl,rfl,⟨q,j,O⟩⟩,sbE⟩
 ·rw[L] at o;have Y:((p[x.bg]?).map (·.imm)).getD 0=bi.imm:=by rw[u];rfl
  by_cases ae:(x.tr:Int)<bi.imm
  ·rw[qiR L (by rw[Y];exact ae)]
   repeat'((try conv=>whnf);first|refine fE ?_|refine fD ?_|refine fF ?_|apply gLd;refine qm6 N u rfl ?_|(apply qL;first|refine ixE N u ?_ ?_;(first|rfl|omega))|(apply qe;first|refine q12 (q4o (c:=c) (t:=t) (n:=n) (p:=p) (h:=⟨hb, .pointer none,lb,ca,cc,sa,sc,sD,oa,oc,oD,la,lc,lD⟩) (x:={x with at':=none,th:={x.th with rg:=x.sv}}) x.bg rfl _) ?_ ?_ ?_ fun _ v s=>?_;(solve|exact rfl|(unfold thP;simp only[z8];rfl));exact rfl;exact rfl;subst s)|apply qz;refine qm (fun ex=>o _ Ye) ?_|refine fA ?_|refine fQ ?_|refine fN ?_|refine fM ?_)
   all_goals exact⟨⟨hb, .pointer none,lb,ca,cc,sa,sc,sD,oa,oc,oD,la,lc,lD⟩,⟨rfl,rfl,rfl,rfl,rfl,⟨q,B,z⟩⟩,sbE⟩
  ·rw[qlr L (by rw[Y];exact ae)]
   repeat'((try conv=>whnf);first|refine fE ?_|refine fD ?_|refine fG ?_|refine qg fun bk K=>?_|apply q9M (enc:=ObM.enc) (T:=77) (⟨x.bg,3,5⟩:ObM) B rfl;exact rfl;exact rfl;omega;exact rfl;exact rfl;omega;intro a5 c5 D5 j|apply gLd;refine qm6 N u rfl ?_|(apply qL;first|refine ixE N u ?_ ?_;(first|rfl|omega))|(apply qe;first|refine q12 (q4o (c:=c) (t:=t) (n:=n) (p:=p) (h:=⟨hb, .pointer none,lb,ca,cc,sa,sc,sD,a5,c5,D5,la,lc,lD⟩) (x:={x with at':=none,th:={x.th with rg:=x.sv,oc:=5},tr:=0,obs:=x.obs++ [⟨x.bg,3,5⟩]}) (q0B p x.bg+1) rfl _) ?_ ?_ ?_ fun _ v s=>?_;(solve|exact rfl|(unfold thP;simp only[z8];rfl));exact rfl;exact rfl;subst s)|(apply qz;first|refine qm (fun ex=>o _ Ye) ?_|refine qm (fun ex=>C _ Ye) ?_)|refine fB ?_|refine fC ?_|refine fA ?_|refine fQ ?_|refine fN ?_|refine fM ?_)
   all_goals exact⟨⟨hb, .pointer none,lb,ca,cc,sa,sc,sD,a5,c5,D5,la,lc,lD⟩,⟨rfl,rfl,rfl,rfl,rfl,⟨q,j,z⟩⟩,sbE⟩
 ·rw[qhE aw ay];generalize a.code=kc at*
  repeat'((try conv=>whnf);first|refine fG ?_|refine qg fun bk K=>?_|apply q9M (enc:=ObM.enc) (T:=77) (⟨x.bg,3,kc⟩:ObM) B rfl;exact rfl;exact rfl;omega;exact rfl;exact rfl;omega;intro a5 c5 D5 j|(apply qe;first|refine q12 (q4o (c:=c) (t:=t) (n:=n) (p:=p) (h:=⟨hb, .pointer none,lb,ca,cc,sa,sc,sD,a5,c5,D5,la,lc,lD⟩) (x:={x with at':=none,th:={x.th with rg:=x.sv,oc:=kc},tr:=0,obs:=x.obs++ [⟨x.bg,3,kc⟩]}) (q0B p x.bg+1) rfl _) ?_ ?_ ?_ fun _ v s=>?_;(solve|exact rfl|(unfold thP;simp only[z8];rfl));exact rfl;exact rfl;subst s)|(apply qz;first|refine qm (fun ex=>o _ Ye) ?_|refine qm (fun ex=>C _ Ye) ?_)|refine fB ?_|refine fC ?_|refine fA ?_|refine fQ ?_|refine fN ?_|refine fM ?_)
  all_goals exact⟨⟨hb, .pointer none,lb,ca,cc,sa,sc,sD,a5,c5,D5,la,lc,lD⟩,⟨rfl,rfl,rfl,rfl,rfl,⟨q,j,z⟩⟩,sbE⟩
end
open Go
section
variable{W0:World}{own Q E:Own}{c:Cfg}{t n:Nat}{p:jf}{h:TH}{x:GT}{k:Int}{b e:Nat}{a:AT}{ah:AH}{mh:MH}{m:MS}{i:Ins}
theorem q1E(kd v:Int)(j:qq ObM.enc 77 3 h.oa h.oc x.obs h.oD)(hl:x.obs.length<=100000)(Q:Own):jk W0 115 [ptr h.b,j4 kd,uv v] ((h.b,thP c t n p h x)::(h.oD++Q)) fun r own'=>
  ∃y:j8×Nat×Own,(r= .tuple #[]/\qq ObM.enc 77 3 y.1 y.2.1 (x.obs++ [⟨x.th.pc,kd,v⟩]) y.2.2)/\Ent W0 own' ((h.b,thP c t n p {h with oa:=y.1,oc:=y.2.1,oD:=y.2.2} {x with obs:=x.obs++ [⟨x.th.pc,kd,v⟩]})::(y.2.2++Q)):=by
 refine sH (jo 13 3 [30,32,33,35,38,0]) ?_;obtain⟨hb,ap,lb,ca,cc,sa,sc,sD,oa,oc,oD,la,lc,lD⟩:=h;dsimp only at j ⊢
 repeat'((try conv=>whnf);first|refine qg fun bk hbk=>?_|apply q0f (enc:=ObM.enc) (T:=77) (⟨x.th.pc,kd,v⟩:ObM) j;exact rfl;exact rfl;omega;exact rfl;exact rfl;omega;intro a5 c5 D5 g|refine fA ?_|refine fN ?_)
 all_goals exact⟨(a5,c5,D5),⟨rfl,g⟩,by unfold thP;simp only[z8];exact sbE⟩
theorem q6p [mm:qy b (thP c t n p h x) own](hi:i.op=12\/i.op=13)(z:qc8 i):jl W0 122 [ptr b,i.v] own (uv (q1D x i)):=by
 refine qi (sH [] ?_);have j:=fun(r imm:Int) (v:0<=r/\r<8) (own':Own) (m1:qy b (thP c t n p h x) own')=>qaT (W0:=W0) (own:=own') (b:=b) (x:=x) (imm:=imm) v
 obtain⟨_,q,s,_,_⟩:=z;obtain⟨op,ia,ib,ic,imm⟩:=i;dsimp only[Ins.v] at hi q s ⊢
 rcases hi with rfl|rfl
 ·have g:=j ib imm (s rfl)
  repeat'((try conv=>whnf);first|refine fE ?_|apply qe;refine qd (g _ Ye) ?_|refine fA ?_|refine qg fun u o=>?_)
  all_goals exact⟨rfl,(eC)⟩
 ·have g:=j ia imm (q rfl)
  repeat'((try conv=>whnf);first|refine fD ?_|apply qe;refine qd (g _ Ye) ?_|refine fA ?_|refine qg fun u o=>?_)
  all_goals exact⟨rfl,(eC)⟩
theorem qkj(v:Int)(hi:i.op=12\/i.op=13)(I:qc8 i)(hpc:x.th.pc<=100000)(C:qq ObM.enc 77 3 h.oa h.oc x.obs h.oD)(H:x.obs.length<=100000)(Q:Own):jk W0 202 [ptr h.b,i.v,uv v] ((h.b,thP c t n p h x)::(h.oD++Q)) fun r own'=>
  ∃y:j8×Nat×Own,(r= .tuple #[]/\qq ObM.enc 77 3 y.1 y.2.1 (x.accG p i v).obs y.2.2)/\Ent W0 own' ((h.b,thP c t n p {h with oa:=y.1,oc:=y.2.1,oD:=y.2.2} (x.accG p i v))::(y.2.2++Q)):=by
 refine sH (jo 8 3 [20,0]) ?_;have o:=fun(X:GT) (B:X.obs=x.obs) (kd:Int) Q=>q1E (W0:=W0) (c:=c) (t:=t) (n:=n) (p:=p) (h:=h) (x:=X) kd v (by rw[B];exact C) (by rw[B];exact H) Q
 obtain⟨hb,ap,lb,ca,cc,sa,sc,sD,oa,oc,oD,la,lc,lD⟩:=h;obtain⟨_,z,_,_,_⟩:=I;obtain⟨op,ia,ib,ic,imm⟩:=i;unfold GT.accG;dsimp only[Ins.v] at hi z o C ⊢
 rcases hi with rfl|rfl
 ·have ha7:=z rfl;have s:ia.toNat<8:=Yb;rw[if_pos rfl];have j:=o {x with th:={x.th with rg:=x.th.rg.set ia.toNat v}} rfl 4
  repeat'((try conv=>whnf);first|refine fE ?_|refine q9x (c:=c) (t:=t) (n:=n) (p:=p) (h:=⟨hb,ap,lb,ca,cc,sa,sc,sD,oa,oc,oD,la,lc,lD⟩) (x:=x) s ?_ ?_;omega|(apply qe;first|refine qn (b:=hb) (D:=oD++ []) j (fun Q=>sbE) fun y v q=>?_;obtain⟨a5,c5,D5⟩:=y;obtain⟨rfl,g⟩:=q;dsimp only at g|refine qO (q1f (c:=c) (t:=t) (n:=n) (p:=p) (h:=⟨hb,ap,lb,ca,cc,sa,sc,sD,a5,c5,D5,la,lc,lD⟩) (x:={x with th:={x.th with rg:=x.th.rg.set ia.toNat v},obs:=x.obs++ [⟨x.th.pc,4,v⟩]}) (by dsimp only;omega) _) fun _ v q=>?_;subst q)|refine fP ?_|refine fA ?_|refine qg fun G u=>?_)
  all_goals exact⟨(a5,c5,D5),⟨rfl,g⟩,sbE⟩
 ·rw[if_neg Yc];have j:=o x rfl 5
  repeat'((try conv=>whnf);first|refine fD ?_|(apply qe;first|refine qn (b:=hb) (D:=oD++ []) j (fun Q=>sbE) fun y v q=>?_;obtain⟨a5,c5,D5⟩:=y;obtain⟨rfl,g⟩:=q;dsimp only at g|refine qO (q1f (c:=c) (t:=t) (n:=n) (p:=p) (h:=⟨hb,ap,lb,ca,cc,sa,sc,sD,a5,c5,D5,la,lc,lD⟩) (x:={x with obs:=x.obs++ [⟨x.th.pc,5,v⟩]}) (by dsimp only;omega) _) fun _ v q=>?_;subst q)|refine fA ?_|refine qg fun G u=>?_)
  all_goals exact⟨(a5,c5,D5),⟨rfl,g⟩,sbE⟩
theorem qgT{kd:Int}(hi:i.op=12\/i.op=13)(X:qc8 i)(U:x.th.pc<=100000)(G:h.ap=ptr ah.b)(K:qq ObM.enc 77 3 h.oa h.oc x.obs h.oD)(W:x.obs.length<=100000)(Q:Own):jk W0 182 [ptr h.b,i.v] ((h.b,thP c t n p h x)::(ah.b,atP c t ah a kd)::(h.oD++Q)) fun r own'=>
  ∃y:j8×Nat×Own,(r= .tuple #[]/\qq ObM.enc 77 3 y.1 y.2.1 (x.endS p a i).obs y.2.2)/\Ent W0 own' ((h.b,thP c t n p {h with ap:= .pointer none,oa:=y.1,oc:=y.2.1,oD:=y.2.2} (x.endS p a i))::(ah.b,atP c t ah a kd)::(y.2.2++Q)):=by
 refine sH (jo 14 3 (0::(jo 9 3 [0]))) ?_;have j:=fun(own':Own) (V:qy ah.b (atP c t ah a kd) own')=>q3E (W0:=W0) (k:=a.code) (qj V rfl)
 have s:=fun(own':Own) (V:qy ah.b (atP c t ah a kd) own')=>q7X (W0:=W0) (qj V rfl)
 have u:=fun v Q=>qkj (W0:=W0) (c:=c) (t:=t) (n:=n) (p:=p) (h:={h with ap:= .pointer none}) (x:={x with at':=none,stg:=false}) v hi X U K W Q
 have J:=fun Q=>q1E (W0:=W0) (c:=c) (t:=t) (n:=n) (p:=p) (h:={h with ap:= .pointer none}) (x:={x with at':=none,stg:=false}) 7 6 K W Q
 have I:=fun(y:j8×Nat×Own) Q=>q1f (W0:=W0) (c:=c) (t:=t) (n:=n) (p:=p) (h:={h with ap:= .pointer none,oa:=y.1,oc:=y.2.1,oD:=y.2.2}) (x:={x with at':=none,stg:=false,obs:=x.obs++ [⟨x.th.pc,7,6⟩]}) (by dsimp only;omega) Q
 obtain⟨_,hA,Y,_,_⟩:=X;obtain⟨hb,ap,lb,ca,cc,sa,sc,sD,oa,oc,oD,la,lc,lD⟩:=h;dsimp only at G K u J I ⊢;subst G;unfold GT.endS
 by_cases N:a.code=1
 ·rw[if_pos N];rw[N] at j
  rcases hi with C|q
  ·rw[if_neg Yb];have g:=u a.val;obtain⟨op,ia,ib,ic,imm⟩:=i;dsimp only at C;subst C;dsimp only[Ins.v] at g ⊢
   repeat'((try conv=>whnf);first|refine fE ?_|refine fD ?_|(apply qe;first|refine qn (b:=hb) (D:=oD++ []) g (fun Q=>sbE) fun y v B=>?_;obtain⟨rfl,o⟩:=B)|(apply qz;first|refine qm (fun ex=>j _ Ye) ?_|refine qm (fun ex=>s _ Ye) ?_)|refine fA ?_|refine fL ?_|refine fN ?_|refine qg fun L z=>?_)
   all_goals exact⟨y,⟨rfl,o⟩,sbE⟩
  ·rw[if_pos q];have R:=Y (by rw[q];rfl);have H:i.b.toNat<8:=Yb;have g:=u (x.th.rg.get i.b.toNat);obtain⟨op,ia,ib,ic,imm⟩:=i;dsimp only at q;subst q;dsimp only[Ins.v] at g R H ⊢
   repeat'((try conv=>whnf);first|refine fE ?_|refine q6Q (c:=c) (t:=t) (n:=n) (p:=p) (h:=⟨hb, .pointer none,lb,ca,cc,sa,sc,sD,oa,oc,oD,la,lc,lD⟩) (x:={x with at':=none,stg:=false}) H ?_ ?_;omega|(apply qe;first|refine qn (b:=hb) (D:=oD++ []) g (fun Q=>sbE) fun y v B=>?_;obtain⟨rfl,o⟩:=B)|(apply qz;first|refine qm (fun ex=>j _ Ye) ?_|refine qm (fun ex=>s _ Ye) ?_)|refine fP ?_|refine fA ?_|refine fL ?_|refine fN ?_|refine qg fun L z=>?_)
   all_goals exact⟨y,⟨rfl,o⟩,sbE⟩
 ·rw[if_neg N];obtain⟨op,ia,ib,ic,imm⟩:=i;dsimp only[Ins.v]
  by_cases O:a.code=6
  ·rw[if_pos O];rw[O] at j
   repeat'((try conv=>whnf);first|refine fE ?_|refine fD ?_|(apply qe;first|refine qn (b:=hb) (D:=oD++ []) J (fun Q=>sbE) fun y v B=>?_;(obtain⟨rfl,o⟩:=B;have T:=I y)|refine qO (T _) fun _ v B=>?_;subst B)|(apply qz;first|refine qm (fun ex=>j _ Ye) ?_|refine qm (fun ex=>s _ Ye) ?_)|refine fA ?_|refine fN ?_|refine qg fun L z=>?_)
   all_goals exact⟨y,⟨rfl,o⟩,sbE⟩
  ·rw[if_neg O];generalize a.code=kc at*
   repeat'((try conv=>whnf);first|refine fG ?_|(apply qz;first|refine qm (fun ex=>j _ Ye) ?_|refine qm (fun ex=>s _ Ye) ?_)|refine fA ?_|refine fN ?_|refine qg fun L z=>?_)
   all_goals exact⟨(oa,oc,oD),⟨rfl,K⟩,sbE⟩
end
open Go
def AtO(W0:World)(c:Cfg)(t:Nat)(h:TH)(x:GT)(A:Own):Prop:=
 match x.at' with
 |none=>h.ap= .pointer none
 |some a=>∃(ah:AH) (E:Own),h.ap=ptr ah.b/\ah.ok c a/\PhO W0 c t ah a E/\A=ah.O c t a a.ph.no a.ph.en E
structure EvO(W0:World)(ea:j8)(ec:Nat)(el:List EH)(eD:Own):Prop where
 r:RdE EH.enc 6 W0 eD ea el
 c:el.length<=ec
 n:el.length<=1
 v:∀e∈el,(RdE qw 1 W0 eD e.ra e.rl/\RdE qw 1 W0 eD e.wa e.wl)/\e.rl.length<=100000/\e.wl.length<=100000
theorem EvO.nil{W0:World}:EvO W0 none 0 [] []:=⟨RdE.nil,zN _,zl _,fun _ h=>(by cases h)⟩
structure TR where
 h:TH
 A:Own
 ea:j8
 ec:Nat
 el:List EH
 eD:Own
abbrev stV(s:StM):Value:= .agg #[j4 s.t,j4 s.ph,j4 s.at',j4 s.ac.k,j4 s.ac.c,j4 s.ac.i,j5 s.ac.got,j5 s.ac.put, .bool s.ac.dn]
abbrev TR.O(s:TR)(c:Cfg)(t n:Nat)(p:jf)(x:GT)(Q:Own):Own:=(s.h.b,thP c t n p s.h x)::(s.A++s.h.R c x (s.eD++Q))
structure TR.ok(W0:World)(s:TR)(c:Cfg)(t:Nat)(h:TH)(x:GT)(es:jj)(cd:Int):Prop where
 b:s.h.b=h.b
 ca:s.h.ca=h.ca
 ok:s.h.ok x
 at':AtO W0 c t s.h x s.A
 ev:EvO W0 s.ea s.ec s.el s.eD
 em:s.el.map EH.m=es
 lb:s.h.lb=h.lb
 ap:h.ap≠ .pointer none->x.at'≠none->s.h.ap=h.ap
 lv:∀b0:Nat,h.ap=ptr b0->x.at'=none->∃(ah:AH) (a:AT) (k:Int),(b0,atP c t ah a k)∈s.A/\a.code=cd
section
variable{W0:World}{own Q E:Own}{c:Cfg}{t n:Nat}{p:jf}{h:TH}{x:GT}{k:Int}{b e:Nat}{a:AT}{ah:AH}{mh:MH}{m:MS}
theorem q29(hb:Cl W0 own ah.b 31 (j4 a.ph.no)):jl W0 78 [ptr ah.b] own (.bool a.busy):=by
 have:=qdQ hb;rw[show decide (a.ph.no≠0)=a.busy by unfold AT.busy;cases a.ph <;>rfl] at this;exact this
theorem qgM{m':MS}{g:AT}{ac:AcM}{ph:Int}(hh:h.ok x)(H:h.ap=ptr ah.b)(U:ah.ok c a)(Z:mh.ok m.L)(hP:PhO W0 c t ah a E)(Y:okA c t m a)(hz:qf c t m a=(m',g,ac,ph))(h3:ph≠3)(O:ph≠16\/g.dn=false)(hb:g.busy=true)(Q:Own):
  jk W0 79 [ptr h.b,ptr mh.mb] ((h.b,thP c t n p h x)::ah.O c t a a.ph.no a.ph.en (E++(mh.O m++h.R c x Q))) fun v own'=>
  ∃s:TR,(v= .tuple #[stV ⟨0,ph,x.ct,ac⟩, .slice s.ea s.el.length s.ec]/\s.ok W0 c t h {x with at':=some g} [] g.code)/\Ent W0 own' (s.O c t n p {x with at':=some g} (mh.O m'++Q)):=by
 refine sH (jo 12 3 [28,0]) ?_;have L:=fun Q=>q2K U Z hP Y Q
 unfold StQ AtQ at L;rw[hz] at L;dsimp only at L;obtain⟨I,ap,lb,ca,cc,sa,sc,sD,oa,oc,oD,la,lc,lD⟩:=h;obtain⟨B,z,u⟩:=hh;dsimp only at H B z u ⊢;subst H;have q:=fun(y:AH) (own':Own) (W:qy y.b (atP c t y g g.ph.no) own')=>q29 (W0:=W0) (own:=own') (a:=g) (ah:=y) (qj W rfl)
 have J:=fun(y:AH) (own':Own) (W:qy y.b (atP c t y g g.ph.no) own')=>q16 (W0:=W0) (own:=own') (b:=y.b) (d:=g.dn) (qj W rfl)
 rw[hb] at q
 by_cases K:ph=16
 ·subst K;rw[O.resolve_left (fun h=>h rfl)] at J
  repeat'((try conv=>whnf);first|refine fH ?_|refine fD ?_|(apply qe;first|refine qd (T _ Ye) ?_|refine qd (o _ Ye) ?_|refine qn (b:=ah.b) (D:=AH.R ah c t a a.ph.en (E++(mh.O m++ []))) L (fun Q=>sbE) fun y v V=>?_;(obtain⟨N,E1⟩:=y;obtain⟨rfl,C,G,hyp⟩:=V;obtain⟨j,rfl⟩:=AH.b_eq C;have o:=q {j with b:=ah.b};have T:=J {j with b:=ah.b}))|refine fO ?_|refine fA ?_|refine fL ?_|refine fN ?_|refine fM ?_|refine qg fun X R=>?_)
  all_goals exact⟨⟨⟨I,ptr ah.b,lb,ca,cc,sa,sc,sD,oa,oc,oD,la,lc,lD⟩,AH.O {j with b:=ah.b} c t g g.ph.no g.ph.en E1,none,0,[],[]⟩,⟨rfl,⟨rfl,rfl,⟨B,z,u⟩,⟨{j with b:=ah.b},E1,rfl,G,hyp,rfl⟩,EvO.nil,rfl,rfl,fun _ _=>rfl,fun _ _ h=>nomatch h⟩⟩,by unfold TR.O;dsimp only;simp only[zd,zk,zj];exact sbE⟩
 ·repeat'((try conv=>whnf);first|refine fI ?_|refine fD ?_|refine fG ?_|refine fK ?_|(apply qe;first|refine qd (o _ Ye) ?_|refine qn (b:=ah.b) (D:=AH.R ah c t a a.ph.en (E++(mh.O m++ []))) L (fun Q=>sbE) fun y v V=>?_;(obtain⟨N,E1⟩:=y;obtain⟨rfl,C,G,hyp⟩:=V;obtain⟨j,rfl⟩:=AH.b_eq C;have o:=q {j with b:=ah.b}))|refine fO ?_|refine fA ?_|refine fL ?_|refine fN ?_|refine fM ?_|refine qg fun X R=>?_)
  all_goals exact⟨⟨⟨I,ptr ah.b,lb,ca,cc,sa,sc,sD,oa,oc,oD,la,lc,lD⟩,AH.O {j with b:=ah.b} c t g g.ph.no g.ph.en E1,none,0,[],[]⟩,⟨rfl,⟨rfl,rfl,⟨B,z,u⟩,⟨{j with b:=ah.b},E1,rfl,G,hyp,rfl⟩,EvO.nil,rfl,rfl,fun _ _=>rfl,fun _ _ h=>nomatch h⟩⟩,by unfold TR.O;dsimp only;simp only[zd,zk,zj];exact sbE⟩
end
open Go
theorem GT.stg_eq{x:GT}{s:Bool}(e:x.stg=s):∃x':GT,x={x' with stg:=s}:=⟨x,by cases x;cases e;rfl⟩
theorem q7x{p:jf}{x:GT}{a:AT}{i:Ins}:(x.endS p a i).seen=x.seen/\(x.endS p a i).lm=x.lm/\(x.endS p a i).at'=none:=by
 unfold GT.endS GT.accG
 (repeat' split) <;>exact⟨rfl,rfl,rfl⟩
section
variable{W0:World}{own Q E:Own}{c:Cfg}{t n:Nat}{p:jf}{h:TH}{x:GT}{k:Int}{b e:Nat}{a:AT}{ah:AH}
structure AnK(c:Cfg)(p:jf)(x:GT)(i:Ins):Prop where
 lm:x.lm.length<=1000
 hl:x.seen.length<=100000
 hl2:x.obs.length<=100000
 hp:p.length<=100000
 pc:x.th.pc<=100000
 ck:(qB p).2=0
 ic:qc8 i
 sg:x.stg=true->i.op=12\/i.op=13
 ns:x.stg=false->∃bi,p[x.bg]? =some bi/\bi.op=7/\q0B p x.bg<=100000
theorem qgQ{kd:Int}{i:Ins}{L:Own}(hF:qE W0)(j:AnK c p x i)(U:h.ok x)(N:ah.ok c a)(T:∀b∈a.fr,0<=b/\b<qh c)(G:0<=a.ck/\a.ck<=1099511627776)(g:h.ap=ptr ah.b)(hC:RdE Ins.enc 5 W0 L h.ca p)(q:0<=a.code/\a.code<=100)(u:a.st=2)(Q:Own) [eq:qx Q L]:
  jk W0 119 [ptr h.b,i.v] ((h.b,thP c t n p h x)::ah.O c t a kd e (h.R c x Q)) fun v own'=>
  ∃o:TH,(v= .tuple #[]/\o.b=h.b/\o.ap= .pointer none/\o.ca=h.ca/\o.lb=h.lb/\o.ok (x.ans p a i))/\Ent W0 own' ((o.b,thP c t n p o (x.ans p a i))::(ah.b,atP c t ah a kd)::o.R c (x.ans p a i) Q):=by
 refine sH [] ?_;have s:=fun(own':Own) (m1:qy ah.b (atP c t ah a kd) own')=>q7W (W0:=W0) (own:=own') (b:=ah.b) (k:=a.st) (qj m1 rfl)
 rw[u] at s;cases B:x.stg with
 |false=>
  rw[qnv u B];obtain⟨bi,O,W,H⟩:=j.ns B;have he:=fun(Q:Own) (eq:qx Q L)=>qkl (c:=c) (t:=t) (n:=n) (kd:=kd) (e:=e) hF U N T j.lm G j.hl j.hl2 g hC j.hp O W j.ck H q Q
  obtain⟨hb,ap,lb,ca,cc,sa,sc,sD,oa,oc,oD,la,lc,lD⟩:=h;dsimp only at g ⊢ he;subst g;obtain⟨x',rfl⟩:=GT.stg_eq B;obtain⟨op,ia,ib,ic,imm⟩:=i;dsimp only[Ins.v]
  repeat'((try conv=>whnf);first|refine fH ?_|refine fE ?_|refine fD ?_|(apply qe;first|refine qd (s _ Ye) ?_|refine qr (he Q Ye) sbE ?_ ?_ fun y v K=>?_;exact rfl;exact rfl;obtain⟨rfl,K⟩:=K)|refine fA ?_|refine qg fun Y R=>?_)
  all_goals exact⟨y,⟨rfl,K⟩,Ent.refl⟩
 |true=>
  rw[qnw u B];have he:=fun Q=>qgT (W0:=W0) (c:=c) (t:=t) (n:=n) (p:=p) (a:=a) (kd:=kd) (j.sg B) j.ic j.pc g U.ho j.hl2 Q
  obtain⟨J,V,I⟩:=U;obtain⟨hb,ap,lb,ca,cc,sa,sc,sD,oa,oc,oD,la,lc,lD⟩:=h;dsimp only at g J V I ⊢ he;subst g;obtain⟨Z,X,_⟩:=q7x (p:=p) (x:=x) (a:=a) (i:=i);obtain⟨x',rfl⟩:=GT.stg_eq B;generalize GT.endS p {x' with stg:=true} a i=z at*;clear j;obtain⟨op,ia,ib,ic,imm⟩:=i;dsimp only[Ins.v] at he ⊢
  repeat'((try conv=>whnf);first|refine fH ?_|refine fE ?_|(apply qe;first|refine qd (s _ Ye) ?_|refine qn (b:=hb) (D:=(ah.b,atP c t ah a kd)::(oD++ [])) he (fun Q=>sbE) fun y v K=>?_;obtain⟨a5,c5,D5⟩:=y;obtain⟨rfl,C⟩:=K;dsimp only at C)|refine fA ?_|refine fL ?_|refine qg fun Y R=>?_)
  all_goals exact⟨⟨hb, .pointer none,lb,ca,cc,sa,sc,sD,a5,c5,D5,la,lc,lD⟩,⟨rfl,rfl,rfl,rfl,rfl,⟨by rw[Z];exact J,C,by rw[X];exact I⟩⟩,by unfold TH.R;dsimp only;rw[X];exact sbE⟩
theorem qgR{kd:Int}{i:Ins}(R:AnK c p x i)(U:h.ok x)(J:h.ap=ptr ah.b)(C:a.st≠2)(Q:Own):
  jk W0 119 [ptr h.b,i.v] ((h.b,thP c t n p h x)::(ah.b,atP c t ah a kd)::h.R c x Q) fun v own'=>
  ∃H:TH,(v= .tuple #[]/\H.b=h.b/\H.ap=h.ap/\H.ca=h.ca/\H.lb=h.lb/\H.ok (x.ans p a i))/\Ent W0 own' ((H.b,thP c t n p H (x.ans p a i))::(ah.b,atP c t ah a kd)::H.R c (x.ans p a i) Q):=by
 refine sH [] ?_;have B:=fun(own':Own) (V:qy ah.b (atP c t ah a kd) own')=>q7W (W0:=W0) (own:=own') (b:=ah.b) (k:=a.st) (qj V rfl)
 have g:=fun(r kk:Int) O Q=>qkm (c:=c) (t:=t) (n:=n) (p:=p) (kd:=kd) (a:=a) (r:=r) (kk:=kk) O U R.hl J Q (W0:=W0)
 have N:=R.pc;obtain⟨hb,ap,lb,ca,cc,sa,sc,sD,oa,oc,oD,la,lc,lD⟩:=h;dsimp only at J ⊢ g;subst J;obtain⟨L,u,s⟩:=U;dsimp only at L u s;cases I:x.stg with
 |true=>
  rw[qiy C I];obtain⟨x',rfl⟩:=GT.stg_eq I;clear R;obtain⟨op,ia,ib,ic,imm⟩:=i;dsimp only[Ins.v]
  repeat'((try conv=>whnf);first|refine fI ?_|refine fE ?_|refine fD ?_|refine fG ?_|refine fK ?_|apply qe;refine qd (B _ Ye) ?_|refine fA ?_|refine qg fun T K=>?_)
  all_goals exact⟨⟨hb,ptr ah.b,lb,ca,cc,sa,sc,sD,oa,oc,oD,la,lc,lD⟩,⟨rfl,rfl,rfl,rfl,rfl,⟨L,u,s⟩⟩,sbE⟩
 |false=>
  have z:=R.ic;clear R
  by_cases j:i.op=10
  ·rw[qix C I j];have O:=z.a (by rw[j];rfl);obtain⟨x',rfl⟩:=GT.stg_eq I;obtain⟨op,ia,ib,ic,imm⟩:=i;clear z;dsimp only[Ins.v] at j O ⊢;subst j;have g:=g ia 1 O
   repeat'((try conv=>whnf);first|refine fI ?_|refine fE ?_|refine fD ?_|refine fG ?_|refine fK ?_|(apply qe;first|refine qd (B _ Ye) ?_|refine qn (b:=hb) (D:=(ah.b,atP c t ah a kd)::(sD++ [])) g (fun Q=>by simp only[zk,zd,zj];exact sbE) fun y v G=>?_;obtain⟨a5,c5,D5⟩:=y;obtain⟨rfl,q⟩:=G;dsimp only at q|refine qO (q1f (c:=c) (t:=t) (n:=n) (p:=p) (h:=⟨hb,ptr ah.b,lb,ca,cc,a5,c5,D5,oa,oc,oD,la,lc,lD⟩) (x:={x' with stg:=false,th:={x'.th with rg:=x'.th.rg.set ia.toNat a.val},seen:=x'.seen++ [⟨x'.th.pc,1,a.val⟩]}) (by dsimp only at N ⊢;omega) _) fun _ v G=>?_;subst G)|refine fA ?_|refine qg fun T K=>?_)
   all_goals exact⟨⟨hb,ptr ah.b,lb,ca,cc,a5,c5,D5,oa,oc,oD,la,lc,lD⟩,⟨rfl,rfl,rfl,rfl,rfl,⟨q,u,s⟩⟩,sbE⟩
  by_cases o:i.op=14
  ·rw[ql7 C I o];have O:=z.a (by rw[o];rfl);obtain⟨x',rfl⟩:=GT.stg_eq I;obtain⟨op,ia,ib,ic,imm⟩:=i;clear z;dsimp only[Ins.v] at o O ⊢;subst o;have g:=g ia 2 O
   repeat'((try conv=>whnf);first|refine fI ?_|refine fE ?_|refine fD ?_|refine fG ?_|refine fK ?_|(apply qe;first|refine qd (B _ Ye) ?_|refine qn (b:=hb) (D:=(ah.b,atP c t ah a kd)::(sD++ [])) g (fun Q=>by simp only[zk,zd,zj];exact sbE) fun y v G=>?_;obtain⟨a5,c5,D5⟩:=y;obtain⟨rfl,q⟩:=G;dsimp only at q|refine qO (q1f (c:=c) (t:=t) (n:=n) (p:=p) (h:=⟨hb,ptr ah.b,lb,ca,cc,a5,c5,D5,oa,oc,oD,la,lc,lD⟩) (x:={x' with stg:=false,th:={x'.th with rg:=x'.th.rg.set ia.toNat a.val},seen:=x'.seen++ [⟨x'.th.pc,2,a.val⟩]}) (by dsimp only at N ⊢;omega) _) fun _ v G=>?_;subst G)|refine fA ?_|refine qg fun T K=>?_)
   all_goals exact⟨⟨hb,ptr ah.b,lb,ca,cc,a5,c5,D5,oa,oc,oD,la,lc,lD⟩,⟨rfl,rfl,rfl,rfl,rfl,⟨q,u,s⟩⟩,sbE⟩
  ·rw[qfj C I j o];obtain⟨x',rfl⟩:=GT.stg_eq I;obtain⟨op,ia,ib,ic,imm⟩:=i;clear z;dsimp only[Ins.v] at j o ⊢
   repeat'((try conv=>whnf);first|refine fI ?_|refine fD ?_|refine fG ?_|refine fK ?_|(apply qe;first|refine qd (B _ Ye) ?_|refine qO (q1f (c:=c) (t:=t) (n:=n) (p:=p) (h:=⟨hb,ptr ah.b,lb,ca,cc,sa,sc,sD,oa,oc,oD,la,lc,lD⟩) (x:={x' with stg:=false}) (by dsimp only at N ⊢;omega) _) fun _ v G=>?_;subst G)|refine fA ?_|refine qg fun T K=>?_)
   all_goals exact⟨⟨hb,ptr ah.b,lb,ca,cc,sa,sc,sD,oa,oc,oD,la,lc,lD⟩,⟨rfl,rfl,rfl,rfl,rfl,⟨L,u,s⟩⟩,sbE⟩
end
open Go
abbrev evP(e:EH):Obj->Prop:=fun z=>z=Obj.cells #[j4 e.ev,j4 e.t,j4 e.k,j4 e.w, .slice e.ra e.rl.length e.rc, .slice e.wa e.wl.length e.wc] 83 (0,0)
theorem qck{p:jf}{x:GT}{a:AT}{i:Ins}(h:a.st=2):(x.ans p a i).at'=none:=by
 unfold GT.ans;rw[if_pos h]
 split
 ·exact q7x.2.2
 ·unfold GT.endG GT.to;dsimp only
  (repeat' split) <;>rfl
theorem qcl{p:jf}{x:GT}{a:AT}{i:Ins}(h:a.st≠2):(x.ans p a i).at'=some a:=by
 unfold GT.ans;rw[if_neg h]
 (repeat' split) <;>rfl
theorem ev1{W0:World}{b:Nat}{e:EH}{D:Own}(h:RdE qw 1 W0 ((b,evP e)::D) e.ra e.rl/\RdE qw 1 W0 ((b,evP e)::D) e.wa e.wl)(j:e.rl.length<=100000)(o:e.wl.length<=100000):EvO W0 (some ⟨b,0,none⟩) 1 [e] ((b,evP e)::D):=
 ⟨q1Q zp (fun y g=>by rw[zf.1 g];rfl) Yd,zN _,zN _,fun y g=>by rw[zf.1 g];exact⟨h,j,o⟩⟩
section
variable{W0:World}{own Q E:Own}{c:Cfg}{t n:Nat}{p:jf}{h:TH}{x:GT}{k:Int}{b e:Nat}{a:AT}{ah:AH}{mh:MH}{m:MS}
theorem qgN{m':MS}{g:AT}{ac:AcM}(T:h.ok x)(o:h.ap=ptr ah.b)(I:ah.ok c a)(O:mh.ok m.L)(R:PhO W0 c t ah a E)(N:okA c t m a)(V:qf c t m a=(m',g,ac,3))(hb:g.busy=true)(Q:Own):
  jk W0 79 [ptr h.b,ptr mh.mb] ((h.b,thP c t n p h x)::ah.O c t a a.ph.no a.ph.en (E++(mh.O m++h.R c x Q))) fun v own'=>
  ∃s:TR,(v= .tuple #[stV ⟨0,3,x.ct,ac⟩, .slice s.ea s.el.length s.ec]/\s.ok W0 c t h {x with at':=some g} [⟨0,t,3,0,[],[]⟩] g.code)/\Ent W0 own' (s.O c t n p {x with at':=some g} (mh.O m'++Q)):=by
 refine sH (jo 12 3 [28,0]) ?_;have C:=fun Q=>q2K I O R N Q
 unfold StQ AtQ at C;rw[V] at C;dsimp only at C;obtain⟨G,ap,lb,ca,cc,sa,sc,sD,oa,oc,oD,la,lc,lD⟩:=h;obtain⟨B,z,u⟩:=T;dsimp only at o B z u ⊢;subst o;have q:=fun(y:AH) (own':Own) (W:qy y.b (atP c t y g g.ph.no) own')=>q29 (W0:=W0) (own:=own') (a:=g) (ah:=y) (qj W rfl)
 rw[hb] at q
 repeat'((try conv=>whnf);first|refine fE ?_|refine fD ?_|refine qg fun L hbk=>?_|(apply qe;first|refine qd (H _ Ye) ?_|refine qn (b:=ah.b) (D:=AH.R ah c t a a.ph.en (E++(mh.O m++ []))) C (fun Q=>sbE) fun y v U=>?_;(obtain⟨ah1,E1⟩:=y;obtain⟨rfl,J,K,hyp⟩:=U;obtain⟨j,rfl⟩:=AH.b_eq J;have H:=q {j with b:=ah.b}))|refine fO ?_|refine fA ?_|refine fL ?_|refine fN ?_|refine fM ?_)
 all_goals exact⟨⟨⟨G,ptr ah.b,lb,ca,cc,sa,sc,sD,oa,oc,oD,la,lc,lD⟩,AH.O {j with b:=ah.b} c t g g.ph.no g.ph.en E1,some ⟨L,0,none⟩,1,[⟨0,t,3,0,none,[],0,none,[],0⟩],[(L,evP ⟨0,t,3,0,none,[],0,none,[],0⟩)]⟩,⟨rfl,⟨rfl,rfl,⟨B,z,u⟩,⟨{j with b:=ah.b},E1,rfl,K,hyp,rfl⟩,ev1 ⟨RdE.nil,RdE.nil⟩ (zl _) (zl _),rfl,rfl,fun _ _=>rfl,fun _ _ h=>nomatch h⟩⟩,by unfold TR.O;dsimp only;simp only[zd,zk,zj];exact sbE⟩
theorem qbO{m':MS}{g:AT}{ac:AcM}(hh:h.ok x)(B:h.ap=ptr ah.b)(W:ah.ok c a)(hM:mh.ok m.L)(hP:PhO W0 c t ah a E)(hA:okA c t m a)(hz:qf c t m a=(m',g,ac,16))(hd:g.dn=true)(T:g.code=1)(hb:g.busy=true)(Q:Own):
  jk W0 79 [ptr h.b,ptr mh.mb] ((h.b,thP c t n p h x)::ah.O c t a a.ph.no a.ph.en (E++(mh.O m++h.R c x Q))) fun v own'=>
  ∃s:TR,(v= .tuple #[stV ⟨0,16,x.ct,ac⟩, .slice s.ea s.el.length s.ec]/\s.ok W0 c t h {x with at':=some g} [⟨0,t,4,0,g.seen,g.ad.filter fun x=>decide (x<c.words)⟩] g.code)/\Ent W0 own' (s.O c t n p {x with at':=some g} (mh.O m'++Q)):=by
 refine sH (jo 12 3 [28,0]) ?_;have N:=fun Q=>q2K W hM hP hA Q
 unfold StQ AtQ at N;rw[hz] at N;dsimp only at N;obtain⟨O,ap,lb,ca,cc,sa,sc,sD,oa,oc,oD,la,lc,lD⟩:=h;obtain⟨K,J,I⟩:=hh;dsimp only at B K J I ⊢;subst B;have C:=fun(y:AH) (own':Own) (q:qy y.b (atP c t y g g.ph.no) own')=>q29 (W0:=W0) (own:=own') (a:=g) (ah:=y) (qj q rfl)
 rw[hb] at C;have H:=fun(y:AH) (own':Own) (q:qy y.b (atP c t y g g.ph.no) own')=>q16 (W0:=W0) (own:=own') (b:=y.b) (d:=g.dn) (qj q rfl)
 rw[hd] at H;have G:=fun(y:AH) (own':Own) (q:qy y.b (atP c t y g g.ph.no) own')=>q3E (W0:=W0) (own:=own') (b:=y.b) (k:=g.code) (qj q rfl)
 rw[T] at G;have Y:=fun(y:AH) (L:y.ok c g) (own':Own) (q:qy y.b (atP c t y g g.ph.no) own') (m2:qy y.g.b (lgP c.writes y.g.aa g.ad.length y.g.ca y.g.va g.vl.length y.g.cv y.g.ib y.g.P) own') (m3:qx own' y.g.aD) (m4:qx own' y.nD)=>
  q7T (W0:=W0) (own:=own') (b:=y.b) (gb:=y.g.b) (w:=c.words) (qj q rfl) (qj q rfl) (qj q rfl) (qj m2 rfl) ((L.hg.hA.rd (W0:=W0)).up) ((L.hn.rd (W0:=W0)).up) (by have h1:=L.hg.hm;have h2:=L.wr;omega) (by have:=L.ln;omega)
 repeat'((try conv=>whnf);first|refine fH ?_|refine fE ?_|refine fD ?_|refine qg fun bk hbk=>?_|(apply qe;first|refine qd (R _ Ye) ?_|refine qd (V _ Ye) ?_|refine qd (U _ Ye) ?_|refine qn (b:=ah.b) (D:=AH.R ah c t a a.ph.en (E++(mh.O m++ []))) N (fun Q=>sbE) fun y v X=>?_;(obtain⟨ah1,E1⟩:=y;obtain⟨rfl,ae,o,hyp⟩:=X;obtain⟨j,rfl⟩:=AH.b_eq ae;have R:=C {j with b:=ah.b};have V:=H {j with b:=ah.b};have U:=G {j with b:=ah.b};have Z:=Y {j with b:=ah.b} o)|refine qk (Z _ Ye Ye Ye Ye) fun y v X=>?_;obtain⟨⟨a1,c1,D1⟩,⟨a2,c2,D2⟩⟩:=y;obtain⟨rfl,u,z⟩:=X;dsimp only at u z)|refine fO ?_|refine fA ?_|refine fL ?_|refine fN ?_|refine fM ?_)
 all_goals exact⟨⟨⟨O,ptr ah.b,lb,ca,cc,sa,sc,sD,oa,oc,oD,la,lc,lD⟩,AH.O {j with b:=ah.b} c t g g.ph.no g.ph.en E1,some ⟨bk,0,none⟩,1,[⟨0,t,4,0,a1,g.seen,c1,a2,g.ad.filter fun x=>decide (x<c.words),c2⟩],(bk,evP ⟨0,t,4,0,a1,g.seen,c1,a2,g.ad.filter fun x=>decide (x<c.words),c2⟩)::(D1++D2)⟩,⟨rfl,⟨rfl,rfl,⟨K,J,I⟩,⟨{j with b:=ah.b},E1,rfl,o,hyp,rfl⟩,ev1 ⟨(u.rd (W0:=W0)).up,(z.rd (W0:=W0)).up⟩ o.ln (Zq (ya _ _) (by have h1:=o.hg.hm;have h2:=o.wr;omega)),rfl,rfl,fun _ _=>rfl,fun _ _ h=>nomatch h⟩⟩,by unfold TR.O;dsimp only;simp only[zd,zk,zj];exact sbE⟩
theorem qbP{m':MS}{g:AT}{ac:AcM}(hh:h.ok x)(z:h.ap=ptr ah.b)(V:ah.ok c a)(hM:mh.ok m.L)(hP:PhO W0 c t ah a E)(hA:okA c t m a)(hz:qf c t m a=(m',g,ac,16))(hd:g.dn=true)(hcd:g.code≠1)(hb:g.busy=true)(Q:Own):
  jk W0 79 [ptr h.b,ptr mh.mb] ((h.b,thP c t n p h x)::ah.O c t a a.ph.no a.ph.en (E++(mh.O m++h.R c x Q))) fun v own'=>
  ∃s:TR,(v= .tuple #[stV ⟨0,16,x.ct,ac⟩, .slice s.ea s.el.length s.ec]/\s.ok W0 c t h {x with at':=some g} [⟨0,t,4,0,g.seen,[]⟩] g.code)/\Ent W0 own' (s.O c t n p {x with at':=some g} (mh.O m'++Q)):=by
 refine sH (jo 12 3 [28,0]) ?_;have K:=fun Q=>q2K V hM hP hA Q
 unfold StQ AtQ at K;rw[hz] at K;dsimp only at K;obtain⟨N,ap,lb,ca,cc,sa,sc,sD,oa,oc,oD,la,lc,lD⟩:=h;obtain⟨I,H,G⟩:=hh;dsimp only at z I H G ⊢;subst z;have B:=fun(y:AH) (own':Own) (o:qy y.b (atP c t y g g.ph.no) own')=>q29 (W0:=W0) (own:=own') (a:=g) (ah:=y) (qj o rfl)
 rw[hb] at B;have C:=fun(y:AH) (own':Own) (o:qy y.b (atP c t y g g.ph.no) own')=>q16 (W0:=W0) (own:=own') (b:=y.b) (d:=g.dn) (qj o rfl)
 rw[hd] at C;have T:=fun(y:AH) (own':Own) (o:qy y.b (atP c t y g g.ph.no) own')=>q3E (W0:=W0) (own:=own') (b:=y.b) (k:=g.code) (qj o rfl)
 have X:=fun(y:AH) (J:y.ok c g) (own':Own) (o:qy y.b (atP c t y g g.ph.no) own') (m2:qy y.g.b (lgP c.writes y.g.aa g.ad.length y.g.ca y.g.va g.vl.length y.g.cv y.g.ib y.g.P) own') (m3:qx own' y.g.aD) (m4:qx own' y.nD)=>
  q7T (W0:=W0) (own:=own') (b:=y.b) (gb:=y.g.b) (w:=c.words) (qj o rfl) (qj o rfl) (qj o rfl) (qj m2 rfl) ((J.hg.hA.rd (W0:=W0)).up) ((J.hn.rd (W0:=W0)).up) (by have h1:=J.hg.hm;have h2:=J.wr;omega) (by have:=J.ln;omega)
 repeat'((try conv=>whnf);first|refine fH ?_|refine fE ?_|refine fD ?_|refine fF ?_|refine qg fun bk hbk=>?_|(apply qe;first|refine qd (O _ Ye) ?_|refine qd (U _ Ye) ?_|refine qd (R _ Ye) ?_|refine qn (b:=ah.b) (D:=AH.R ah c t a a.ph.en (E++(mh.O m++ []))) K (fun Q=>sbE) fun y v W=>?_;(obtain⟨ah1,E1⟩:=y;obtain⟨rfl,Z,q,hyp⟩:=W;obtain⟨j,rfl⟩:=AH.b_eq Z;have O:=B {j with b:=ah.b};have U:=C {j with b:=ah.b};have R:=T {j with b:=ah.b};have Y:=X {j with b:=ah.b} q)|refine qk (Y _ Ye Ye Ye Ye) fun y v W=>?_;obtain⟨⟨a1,c1,D1⟩,⟨a2,c2,D2⟩⟩:=y;obtain⟨rfl,u,L⟩:=W;dsimp only at u L)|refine fO ?_|refine fA ?_|refine fL ?_|refine fN ?_|refine fM ?_)
 all_goals exact⟨⟨⟨N,ptr ah.b,lb,ca,cc,sa,sc,sD,oa,oc,oD,la,lc,lD⟩,AH.O {j with b:=ah.b} c t g g.ph.no g.ph.en E1,some ⟨bk,0,none⟩,1,[⟨0,t,4,0,a1,g.seen,c1,none,[],0⟩],(bk,evP ⟨0,t,4,0,a1,g.seen,c1,none,[],0⟩)::(D1++D2)⟩,⟨rfl,⟨rfl,rfl,⟨I,H,G⟩,⟨{j with b:=ah.b},E1,rfl,q,hyp,rfl⟩,ev1 ⟨(u.rd (W0:=W0)).up,RdE.nil⟩ q.ln (zl _),rfl,rfl,fun _ _=>rfl,fun _ _ h=>nomatch h⟩⟩,by unfold TR.O;dsimp only;simp only[zd,zk,zj];exact sbE⟩
theorem qgO{m':MS}{g:AT}{ac:AcM}{ph:Int}{i:Ins}{G:Own}(hF:qE W0)(V:AnK c p x i)(hh:h.ok x)(o:h.ap=ptr ah.b)(W:ah.ok c a)(hM:mh.ok m.L)(hP:PhO W0 c t ah a E)(hA:okA c t m a)(H:RdE Ins.enc 5 W0 G h.ca p)(q:0<=g.code/\g.code<=100)(O:∀b∈g.fr,0<=b/\b<qh c)(z:0<=g.ck/\g.ck<=1099511627776)(u:g.st=2)(hi:p[x.th.pc]? =some i)(hz:qf c t m a=(m',g,ac,ph))(h3:ph≠3)(h16:ph≠16)(hb:g.busy=false)(Q:Own) [eq:qx Q G]:
  jk W0 79 [ptr h.b,ptr mh.mb] ((h.b,thP c t n p h x)::ah.O c t a a.ph.no a.ph.en (E++(mh.O m++h.R c x Q))) fun v own'=>
  ∃s:TR,(v= .tuple #[stV ⟨0,ph,x.ct,ac⟩, .slice s.ea s.el.length s.ec]/\s.ok W0 c t h (x.ans p g i) [] g.code)/\Ent W0 own' (s.O c t n p (x.ans p g i) (mh.O m'++Q)):=by
 refine sH (jo 12 3 [28,0]) ?_;have I:=fun Q=>q2K W hM hP hA Q
 unfold StQ AtQ at I;rw[hz] at I;dsimp only at I;have B:=fun(y:AH) (o:h.ap=ptr y.b) (hy:y.ok c g) (Q:Own) (eq:qx Q G)=>qgQ (c:=c) (t:=t) (n:=n) (kd:=g.ph.no) (e:=g.ph.en) (i:=i) (a:=g) (ah:=y) hF V hh hy O z o H q u Q
 have hpc:=V.pc;obtain⟨K,ap,lb,ca,cc,sa,sc,sD,oa,oc,oD,la,lc,lD⟩:=h;obtain⟨U,T,R⟩:=hh;dsimp only at o U T R ⊢;subst o;clear V;have C:=fun(y:AH) (own':Own) (m1:qy y.b (atP c t y g g.ph.no) own')=>q29 (W0:=W0) (own:=own') (a:=g) (ah:=y) (qj m1 rfl)
 rw[hb] at C;dsimp only at H B
 repeat'((try conv=>whnf);first|refine fI ?_|refine fE ?_|refine fD ?_|refine fG ?_|refine fK ?_|(apply qL;first|refine ixE H hi ?_ ?_;(first|rfl|omega))|apply q27;refine q0O H hi rfl ?_|(apply qe;first|refine qd (N _ Ye) ?_|refine qn (b:=ah.b) (D:=AH.R ah c t a a.ph.en (E++(mh.O m++ []))) I (fun Q=>sbE) fun y v X=>?_;(obtain⟨ah1,E1⟩:=y;obtain⟨rfl,aq,au,hyp⟩:=X;obtain⟨j,rfl⟩:=AH.b_eq aq;have N:=C {j with b:=ah.b};have J:=B {j with b:=ah.b} rfl au)|refine q0e (F:=G) (b:=K) (D:=AH.O {j with b:=ah.b} c t g g.ph.no g.ph.en (sD++(oD++((lb.l,lmP c la x.lm.length lc)::(lD++ []))))) J (fun Q=>sbE) fun h1 v X=>?_;obtain⟨rfl,Y,Z,ae,aj,af⟩:=X)|refine fO ?_|refine fA ?_|refine fL ?_|refine fN ?_|refine fM ?_|refine qg fun bk hbk=>?_)
 all_goals exact⟨⟨h1,[(ah.b,atP c t {j with b:=ah.b} g g.ph.no)],none,0,[],[]⟩,⟨rfl,⟨Y,ae,af,by unfold AtO;rw[qck u];exact Z,EvO.nil,rfl,aj,fun _ h=>absurd (qck u) h,fun b0 L _=>by cases L;exact⟨_,g,_,zf.2 rfl,rfl⟩⟩⟩,by unfold TR.O;dsimp only;simp only[zd,zk,zj];exact sbE⟩
end
open Go
section
variable{W0:World}{own Q E:Own}{c:Cfg}{t n:Nat}{p:jf}{h:TH}{x:GT}{k:Int}{b e:Nat}{a:AT}{ah:AH}{mh:MH}{m:MS}
theorem qgP{m':MS}{g:AT}{ac:AcM}{ph:Int}{i:Ins}{cD:Own}(O:AnK c p x i)(hh:h.ok x)(o:h.ap=ptr ah.b)(R:ah.ok c a)(hM:mh.ok m.L)(hP:PhO W0 c t ah a E)(hA:okA c t m a)(G:RdE Ins.enc 5 W0 cD h.ca p)(q:g.st≠2)(hi:p[x.th.pc]? =some i)(hz:qf c t m a=(m',g,ac,ph))(h3:ph≠3)(h16:ph≠16)(hb:g.busy=false)(Q:Own) [eq:qx Q cD]:
  jk W0 79 [ptr h.b,ptr mh.mb] ((h.b,thP c t n p h x)::ah.O c t a a.ph.no a.ph.en (E++(mh.O m++h.R c x Q))) fun v own'=>
  ∃s:TR,(v= .tuple #[stV ⟨0,ph,x.ct,ac⟩, .slice s.ea s.el.length s.ec]/\s.ok W0 c t h (x.ans p g i) [] g.code)/\Ent W0 own' (s.O c t n p (x.ans p g i) (mh.O m'++Q)):=by
 refine sH (jo 12 3 [28,0]) ?_;have C:=fun Q=>q2K R hM hP hA Q
 unfold StQ AtQ at C;rw[hz] at C;dsimp only at C;have u:=fun(y:AH) (o:h.ap=ptr y.b) (Q:Own)=>qgR (W0:=W0) (c:=c) (t:=t) (n:=n) (p:=p) (kd:=g.ph.no) (i:=i) (a:=g) (ah:=y) O hh o q Q
 have hpc:=O.pc;obtain⟨I,ap,lb,ca,cc,sa,sc,sD,oa,oc,oD,la,lc,lD⟩:=h;obtain⟨N,L,K⟩:=hh;dsimp only at o N L K ⊢;subst o;clear O;have z:=fun(y:AH) (own':Own) (m1:qy y.b (atP c t y g g.ph.no) own')=>q29 (W0:=W0) (own:=own') (a:=g) (ah:=y) (qj m1 rfl)
 rw[hb] at z;dsimp only at G u
 repeat'((try conv=>whnf);first|refine fI ?_|refine fE ?_|refine fD ?_|refine fG ?_|refine fK ?_|(apply qL;first|refine ixE G hi ?_ ?_;(first|rfl|omega))|apply q27;refine q0O G hi rfl ?_|(apply qe;first|refine qd (J _ Ye) ?_|refine qn (b:=ah.b) (D:=AH.R ah c t a a.ph.en (E++(mh.O m++ []))) C (fun Q=>sbE) fun y v T=>?_;(obtain⟨ah1,E1⟩:=y;obtain⟨rfl,Y,Z,hyp⟩:=T;obtain⟨j,rfl⟩:=AH.b_eq Y;have J:=z {j with b:=ah.b};have H:=u {j with b:=ah.b})|refine qn (b:=I) (D:=(ah.b,atP c t {j with b:=ah.b} g g.ph.no)::(sD++(oD++((lb.l,lmP c la x.lm.length lc)::(lD++ []))))) (H rfl) (fun Q=>sbE) fun h1 v T=>?_;obtain⟨rfl,U,B,V,X,W⟩:=T)|refine fO ?_|refine fA ?_|refine fL ?_|refine fN ?_|refine fM ?_|refine qg fun bk hbk=>?_)
 all_goals exact⟨⟨h1,AH.O {j with b:=ah.b} c t g g.ph.no g.ph.en E1,none,0,[],[]⟩,⟨rfl,⟨U,V,W,by unfold AtO;rw[qcl q];exact⟨{j with b:=ah.b},E1,B,Z,hyp,rfl⟩,EvO.nil,rfl,X,fun _ _=>B,fun _ _ h=>by rw[qcl q] at h;cases h⟩⟩,by unfold TR.O;dsimp only;simp only[zd,zk,zj];exact sbE⟩
theorem q7N(x:AT):x.rest.busy=true:=by unfold AT.rest;split <;>rfl
theorem qmn{c:Cfg}{m:MS}{n:Nat}{b h:Int}:(q0p c m n b h).2.2.2=21\/(q0p c m n b h).2.2.2=22\/(q0p c m n b h).2.2.2=23:=by
 unfold q0p
 (repeat' split) <;>first|exact .inl rfl|exact .inr (.inl rfl)|exact .inr (.inr rfl)
theorem q8o{c:Cfg}{t:Int}{m:MS}{x:AT}(h:(qf c t m x).2.2.2=3\/(qf c t m x).2.2.2=16):(qf c t m x).2.1.busy=true:=by
 cases g:x.ph with
 |ent k=>
  unfold qf at h ⊢;simp only[g] at h ⊢
  split at h
  ·rcases h with h|h <;>(dsimp only at h;omega)
  ·rename_i u;rw[if_neg u]
   split at h
   ·rename_i B;rw[if_pos B];rfl
   ·rcases h with h|h <;>(dsimp only at h;omega)
 |dc=>
  rw[q33 g];dsimp only
  split
  ·exact q7N _
  ·split
   ·rfl
   ·exact q7N _
 |pp k b v w=>
  exfalso;unfold qf at h;simp only[g] at h
  (repeat' split at h) <;>(rcases h with h|h <;>(dsimp only at h;omega))
 |ph k b v=>
  exfalso;have j:=qmn (c:=c) (m:=m) (n:=k) (b:=b) (h:=v);unfold qf at h;simp only[g] at h;generalize q0p c m k b v=z at h j;obtain⟨m',o,ac,q⟩:=z;dsimp only at j;cases o <;>(dsimp only at h;omega)
 |rd k b v=>
  exfalso;unfold qf at h;simp only[g] at h
  (repeat' split at h) <;>(rcases h with h|h <;>(dsimp only at h;omega))
 |lk s ld=>
  exfalso;rw[q34 g] at h
  (repeat' split at h) <;>(rcases h with h|h <;>(dsimp only at h;omega))
 |tn b=>
  exfalso;cases b with
  |false=>rw[q3h g] at h;rcases h with h|h <;>(dsimp only at h;omega)
  |true=>rw[q3i g] at h;rcases h with h|h <;>(dsimp only at h;omega)
 |_=>exact absurd h (by unfold qf;simp only[g];decide)
def qf8(c:Cfg)(t:Int)(m:MS)(a:AT):Prop:=(qf c t m a).2.1.st=2->(0<=(qf c t m a).2.1.code/\(qf c t m a).2.1.code<=100)/\(∀b∈(qf c t m a).2.1.fr,0<=b/\b<qh c)/\0<=(qf c t m a).2.1.ck/\(qf c t m a).2.1.ck<=1099511627776
theorem q5w{i:Ins}{R:Own}(V:qE W0)(U:AnK c p x i)(L:h.ok x)(o:h.ap=ptr ah.b)(q:ah.ok c a)(J:mh.ok m.L)(K:PhO W0 c t ah a E)(I:okA c t m a)(T:RdE Ins.enc 5 W0 R h.ca p)(hi:p[x.th.pc]? =some i)(g:qf8 c t m a)(Q:Own) [eq:qx Q R]:
  jk W0 79 [ptr h.b,ptr mh.mb] ((h.b,thP c t n p h x)::ah.O c t a a.ph.no a.ph.en (E++(mh.O m++h.R c x Q))) fun v own'=>
  ∃s:TR,(v= .tuple #[stV {(q0A c p t m x a i).2.2.1 with t:=0}, .slice s.ea s.el.length s.ec]/\s.ok W0 c t h (q0A c p t m x a i).2.1 (q0A c p t m x a i).2.2.2 (qf c t m a).2.1.code)/\Ent W0 own' (s.O c t n p (q0A c p t m x a i).2.1 (mh.O (q0A c p t m x a i).1++Q)):=by
 have B:=q8o (c:=c) (t:=t) (m:=m) (x:=a);unfold qf8 at g;unfold q0A;generalize N:qf c t m a=z at g B ⊢;obtain⟨m',H,ac,ph⟩:=z;dsimp only at g B ⊢
 by_cases hb:H.busy=true
 ·simp only[if_pos hb]
  by_cases C:ph=3
  ·subst C;exact qgN L o q J K I N hb Q
  ·unfold evA;rw[if_neg C]
   by_cases j:ph=16/\H.dn=true
   ·rw[if_pos j];obtain⟨rfl,hd⟩:=j
    by_cases u:H.code=1
    ·rw[if_pos u];exact qbO L o q J K I N hd u hb Q
    ·rw[if_neg u];exact qbP L o q J K I N hd u hb Q
   ·rw[if_neg j];refine qgM L o q J K I N C ?_ hb Q
    by_cases h:ph=16
    ·exact .inr (by cases hd:H.dn with|false=>rfl|true=>exact absurd ⟨h,hd⟩ j)
    ·exact .inl h
 ·have C:ph≠3:=fun h=>hb (B (.inl h))
  have j:ph≠16:=fun h=>hb (B (.inr h))
  simp only[if_neg hb];unfold evA;rw[if_neg C,if_neg (fun h=>j h.1)];have O:H.busy=false:=by simpa using hb
  by_cases G:H.st=2
  ·obtain⟨g1,g2,g3⟩:=g G;exact qgO V U L o q J K I T g1 g2 g3 G hi N C j O Q
  ·exact qgP U L o q J K I T G hi N C j O Q
end
open Go
theorem qdD(c:Cfg)(x:AT)(a:Int):(x.read c a).ph.en=3:=by
 unfold AT.read
 split
 ·rfl
 ·split <;>rfl
theorem qfi(c:Cfg)(x:AT)(k:Int):(x.alloc c k).ph.en=3:=by
 unfold AT.alloc
 split <;>rfl
theorem qj1(c:Cfg)(x:AT)(a:Int):(x.free c a).ph.en=3:=by
 unfold AT.free
 split
 ·rfl
 ·split <;>rfl
def rqI(i:Ins):Prop:=i.op=10\/i.op=11\/i.op=8\/i.op=9\/i.op=14\/i.op=15
section
variable{W0:World}{own Q E:Own}{c:Cfg}{t n:Nat}{p:jf}{h:TH}{x:GT}{k:Int}{b e:Nat}{a:AT}{ah:AH}{mh:MH}{m:MS}
theorem qmp{i:Ins}{r:Rg}:(q11 c r a i).ph.en=3:=by
 unfold q11
 (repeat' split) <;>first|exact qdD c a _|exact qfi c a _|exact qj1 c a _|rfl
theorem qkp{i:Ins}(G:h.ap=ptr ah.b)(o:ah.ok c a)(q:a.st=1)(H:0<=c.words/\c.words<=64)(hi:rqI i)(R:qc8 i)(Q:Own):
  jk W0 125 [ptr h.b,i.v] ((h.b,thP c t n p h x)::ah.O c t a 0 3 Q) fun v own'=>
  ∃s:AH×Own,(v= .tuple #[]/\s.1.b=ah.b/\s.1.ok c (q11 c x.th.rg a i)/\PhO W0 c t s.1 (q11 c x.th.rg a i) s.2)/\Ent W0 own' ((h.b,thP c t n p h x)::s.1.O c t (q11 c x.th.rg a i) (q11 c x.th.rg a i).ph.no 3 (s.2++Q)):=by
 refine sH (jo 11 3 (26::0::(jo 19 3 (42::0::(jo 7 3 (18::0::(jo 13 3 [30,0]))))))) ?_;obtain⟨hb,ap,lb,ca,cc,sa,sc,sD,oa,oc,oD,la,lc,lD⟩:=h;dsimp only at G ⊢;subst G;have C:=fun(r imm:Int) (O:0<=r/\r<8) (own':Own) (m1:qy hb (thP c t n p ⟨hb,ptr ah.b,lb,ca,cc,sa,sc,sD,oa,oc,oD,la,lc,lD⟩ x) own')=>qaT (W0:=W0) (own:=own') (b:=hb) (x:=x) (imm:=imm) O
 have hw:∀(r:Rg) b k,0<=adr r b k:=fun r b k=>(q0l _).1
 obtain⟨_,I,J,_,_,N⟩:=R;unfold rqI at hi;obtain⟨op,ia,ib,ic,imm⟩:=i;dsimp only at hi I J N
 rcases hi with rfl|rfl|rfl|rfl|rfl|rfl
 ·have j:=fun Q=>qaH (W0:=W0) (t:=t) o q (adr x.th.rg ib imm) (hw _ _ _) ⟨H.1,Yb⟩ Q
  unfold AtQ at j;have u:=C ib imm (J rfl);dsimp only[Ins.v]
  repeat'((try conv=>whnf);first|refine fE ?_|(apply qe;first|refine qn (b:=ah.b) (D:=AH.R ah c t a 3 []) j (fun Q=>sbE) fun y v g=>?_;obtain⟨rfl,g⟩:=g)|apply qz;refine qm (fun ex=>u _ Ye) ?_|refine fA ?_|refine qg fun B z=>?_)
  all_goals exact⟨y,⟨rfl,g⟩,sbE⟩
 ·have j:=fun Q=>q7U (W0:=W0) (t:=t) o q (adr x.th.rg ia imm) (x.th.rg.get ib.toNat) Q
  unfold AtQ at j;have u:=C ia imm (I rfl);have hb7:=J rfl;have L:ib.toNat<8:=Yb;dsimp only[Ins.v]
  repeat'((try conv=>whnf);first|refine fE ?_|refine fD ?_|refine q6Q (c:=c) (t:=t) (n:=n) (p:=p) (h:=⟨hb,ptr ah.b,lb,ca,cc,sa,sc,sD,oa,oc,oD,la,lc,lD⟩) (x:=x) L ?_ ?_;omega|(apply qe;first|refine qn (b:=ah.b) (D:=AH.R ah c t a 3 []) j (fun Q=>sbE) fun y v g=>?_;obtain⟨rfl,g⟩:=g)|apply qz;refine qm (fun ex=>u _ Ye) ?_|refine fP ?_|refine fA ?_|refine qg fun B z=>?_)
  all_goals exact⟨y,⟨rfl,g⟩,sbE⟩
 ·have j:=fun Q=>q9h (W0:=W0) (t:=t) o q 1 (.inl rfl) Q
  unfold AtQ at j;dsimp only[Ins.v]
  repeat'((try conv=>whnf);first|refine fE ?_|refine fD ?_|(apply qe;first|refine qn (b:=ah.b) (D:=AH.R ah c t a 3 []) j (fun Q=>sbE) fun y v g=>?_;obtain⟨rfl,g⟩:=g)|refine fA ?_|refine qg fun B z=>?_)
  all_goals exact⟨y,⟨rfl,g⟩,sbE⟩
 ·have j:=fun Q=>q9h (W0:=W0) (t:=t) o q 2 (.inr rfl) Q
  unfold AtQ at j;dsimp only[Ins.v]
  repeat'((try conv=>whnf);first|refine fE ?_|refine fD ?_|(apply qe;first|refine qn (b:=ah.b) (D:=AH.R ah c t a 3 []) j (fun Q=>sbE) fun y v g=>?_;obtain⟨rfl,g⟩:=g)|refine fA ?_|refine qg fun B z=>?_)
  all_goals exact⟨y,⟨rfl,g⟩,sbE⟩
 ·have j:=fun Q=>qdN (W0:=W0) (t:=t) o q imm (N rfl) Q
  unfold AtQ at j;dsimp only[Ins.v]
  repeat'((try conv=>whnf);first|refine fE ?_|refine fD ?_|(apply qe;first|refine qn (b:=ah.b) (D:=AH.R ah c t a 3 []) j (fun Q=>sbE) fun y v g=>?_;obtain⟨rfl,g⟩:=g)|refine fA ?_|refine qg fun B z=>?_)
  all_goals exact⟨y,⟨rfl,g⟩,sbE⟩
 ·have j:=fun Q=>qgg (W0:=W0) (t:=t) o q (x.th.rg.get ia.toNat) H Q
  unfold AtQ at j;have ha7:=I rfl;have K:ia.toNat<8:=Yb;dsimp only[Ins.v]
  repeat'((try conv=>whnf);first|refine fE ?_|refine fD ?_|refine q6Q (c:=c) (t:=t) (n:=n) (p:=p) (h:=⟨hb,ptr ah.b,lb,ca,cc,sa,sc,sD,oa,oc,oD,la,lc,lD⟩) (x:=x) K ?_ ?_;omega|(apply qe;first|refine qn (b:=ah.b) (D:=AH.R ah c t a 3 []) j (fun Q=>sbE) fun y v g=>?_;obtain⟨rfl,g⟩:=g)|refine fP ?_|refine fA ?_|refine qg fun B z=>?_)
  all_goals exact⟨y,⟨rfl,g⟩,sbE⟩
theorem qcN{i:Ins}(h:i.op=7):q1m c p t m x i=q0A c p t m {x with bg:=x.th.pc,sv:=x.th.rg,tr:=x.tr+1,seen:= [],ct:=x.ct+1} a0T i:=by
 unfold q1m;rw[if_pos h]
theorem qiZ{i:Ins}(hi:rqI i)(g:x.at'=some a):q1m c p t m x i=q0A c p t m x (q11 c x.th.rg a i) i:=by
 unfold rqI at hi;unfold q1m;rw[g,if_neg Yb,if_pos Yb]
theorem qcO{i:Ins}(hi:(0<=i.op/\i.op<=6)\/i.op=17):q1m c p t m x i=(m,{x with th:={q1r x.th i with dn:=decide ((q1r x.th i).pc=p.length)}},⟨t,0,if x.at'.isSome then x.ct else 0,acz⟩,[]):=by
 unfold q1m;rw[if_neg Yb,if_neg Yb]
theorem qeA{i:Ins}(hi:(0<=i.op/\i.op<=6)\/i.op=17)(H:qc8 i)(G:x.th.rg.ok)(J:h.ok x)(B:x.at'=none)(j:h.ap= .pointer none)(C:x.th.pc<=1000)(I:Int)(Q:Own):
  jk W0 81 [ptr h.b,ptr mh.mb,i.v] ((h.b,thP c t n p h x)::(mh.O m++h.R c x Q)) fun v own'=>
  ∃s:TR,(v= .tuple #[stV {(q1m c p t m x i).2.2.1 with t:=0}, .slice s.ea s.el.length s.ec]/\s.ok W0 c t h (q1m c p t m x i).2.1 (q1m c p t m x i).2.2.2 I)/\Ent W0 own' (s.O c t n p (q1m c p t m x i).2.1 (mh.O (q1m c p t m x i).1++Q)):=by
 refine sH (jo 15 3 (34::35::37::39::42::0::(jo 9 3 [22,23,25,27,30,0]))) ?_;rw[qcO hi];have g:=fun Q=>q8g (W0:=W0) (c:=c) (t:=t) (n:=n) (p:=p) (h:=h) H G C Q
 obtain⟨hb,ap,lb,ca,cc,sa,sc,sD,oa,oc,oD,la,lc,lD⟩:=h;dsimp only at j g ⊢;subst j;obtain⟨u,q,o⟩:=J;dsimp only at u q o;clear H;generalize q1r x.th i=z at*;obtain⟨op,ia,ib,ic,imm⟩:=i;dsimp only[Ins.v] at hi g ⊢;rw[B]
 repeat'((try conv=>whnf);first|refine fE ?_|refine fG ?_|(apply qe;first|refine qO (g _) fun _ v K=>?_;subst K)|refine fA ?_|refine fL ?_|refine fM ?_|refine qg fun bk hbk=>?_)
 all_goals exact⟨⟨⟨hb, .pointer none,lb,ca,cc,sa,sc,sD,oa,oc,oD,la,lc,lD⟩,[],none,0,[],[]⟩,⟨rfl,⟨rfl,rfl,⟨u,q,o⟩,by unfold AtO;rfl,EvO.nil,rfl,rfl,fun _ _=>rfl,fun _ h _=>nomatch h⟩⟩,by unfold TR.O;dsimp only;simp only[zd,zk,zj];exact sbE⟩
theorem qeB{i:Ins}(hi:(0<=i.op/\i.op<=6)\/i.op=17)(J:qc8 i)(I:x.th.rg.ok)(L:h.ok x)(C:x.at'=some a)(B:a.ph= .idle)(j:h.ap=ptr ah.b)(G:ah.ok c a)(H:x.th.pc<=1000)(K:Int)(Q:Own):
  jk W0 81 [ptr h.b,ptr mh.mb,i.v] ((h.b,thP c t n p h x)::ah.O c t a 0 3 (mh.O m++h.R c x Q)) fun v own'=>
  ∃s:TR,(v= .tuple #[stV {(q1m c p t m x i).2.2.1 with t:=0}, .slice s.ea s.el.length s.ec]/\s.ok W0 c t h (q1m c p t m x i).2.1 (q1m c p t m x i).2.2.2 K)/\Ent W0 own' (s.O c t n p (q1m c p t m x i).2.1 (mh.O (q1m c p t m x i).1++Q)):=by
 refine sH (jo 15 3 (34::35::37::39::42::0::(jo 9 3 [22,23,25,27,30,0]))) ?_;rw[qcO hi];have g:=fun Q=>q8g (W0:=W0) (c:=c) (t:=t) (n:=n) (p:=p) (h:=h) J I H Q
 obtain⟨hb,ap,lb,ca,cc,sa,sc,sD,oa,oc,oD,la,lc,lD⟩:=h;dsimp only at j g ⊢;subst j;obtain⟨u,q,o⟩:=L;dsimp only at u q o;clear J;generalize q1r x.th i=z at*;obtain⟨op,ia,ib,ic,imm⟩:=i;dsimp only[Ins.v] at hi g ⊢;rw[C]
 repeat'((try conv=>whnf);first|refine fD ?_|refine fG ?_|(apply qe;first|refine qO (g _) fun _ v N=>?_;subst N)|refine fA ?_|refine fL ?_|refine fM ?_|refine qg fun bk hbk=>?_)
 all_goals exact⟨⟨⟨hb,ptr ah.b,lb,ca,cc,sa,sc,sD,oa,oc,oD,la,lc,lD⟩,AH.O ah c t a 0 3 [],none,0,[],[]⟩,⟨rfl,⟨rfl,rfl,⟨u,q,o⟩,by unfold AtO;exact⟨ah,[],rfl,G,by unfold PhO;rw[B],by rw[B];rfl⟩,EvO.nil,rfl,rfl,fun _ _=>rfl,fun _ _ h=>nomatch h⟩⟩,by unfold TR.O;dsimp only;simp only[zd,zk,zj];exact sbE⟩
theorem qgU{i:Ins}{q:Own}(j:i.op=7)(g:h.ap= .pointer none)(Z:qE W0)(L:h.ok x)(O:AnK c p {x with bg:=x.th.pc,sv:=x.th.rg,tr:=x.tr+1,seen:= [],ct:=x.ct+1} i)(hr:0<=c.reads/\c.reads<=32)(hw:1<=c.writes/\c.writes<=32)(hx:c.allocs<=1000/\c.frees<=1000)(u:x.ct<=100000)(htr:x.tr<=100000)(hM:mh.ok m.L)(Y:okA c t m a0T)(G:RdE Ins.enc 5 W0 q h.ca p)(K:p[x.th.pc]? =some i)(W:Int)(Q:Own) [eq:qx Q q]:
  jk W0 81 [ptr h.b,ptr mh.mb,i.v] ((h.b,thP c t n p h x)::(mh.O m++h.R c x Q)) fun v own'=>
  ∃s:TR,(v= .tuple #[stV {(q1m c p t m x i).2.2.1 with t:=0}, .slice s.ea s.el.length s.ec]/\s.ok W0 c t h (q1m c p t m x i).2.1 (q1m c p t m x i).2.2.2 W)/\Ent W0 own' (s.O c t n p (q1m c p t m x i).2.1 (mh.O (q1m c p t m x i).1++Q)):=by
 refine sH (jo 15 3 (34::35::37::39::42::0::(jo 9 3 [22,23,25,27,30,0]))) ?_;rw[qcN j];have hS:=fun(X:GT) (u:X.ct<=1000000) Q=>q8h (W0:=W0) (c:=c) (t:=t) (n:=n) (p:=p) (h:=h) (x:=X) hr hw hx u Q
 have V:=fun(h:TH) (L:h.ok {x with bg:=x.th.pc,sv:=x.th.rg,tr:=x.tr+1,seen:= [],ct:=x.ct+1}) (ah:AH) (g:h.ap=ptr ah.b) (R:ah.ok c a0T) (G:RdE Ins.enc 5 W0 q h.ca p) (Q:Own) (eq:qx Q q)=>
  q5w (t:=t) (n:=n) (x:={x with bg:=x.th.pc,sv:=x.th.rg,tr:=x.tr+1,seen:= [],ct:=x.ct+1}) (E:= []) (i:=i) Z O L g R hM rfl Y G K (fun h=>by cases h) Q
 have T:=O.pc;clear O;obtain⟨hb,ap,lb,ca,cc,sa,sc,sD,oa,oc,oD,la,lc,lD⟩:=h;obtain⟨N,C,B⟩:=L;dsimp only at N C B G g T ⊢;generalize q0A c p t m {x with bg:=x.th.pc,sv:=x.th.rg,tr:=x.tr+1,seen:= [],ct:=x.ct+1} a0T i=z at V ⊢;obtain⟨op,ia,ib,ic,imm⟩:=i;dsimp only at j;subst j;dsimp only[Ins.v];have H:=fun Q=>hS {x with bg:=x.th.pc,sv:=x.th.rg,tr:=x.tr+1} (by dsimp only;omega) Q
 repeat'((try conv=>whnf);first|refine fE ?_|(apply qe;first|refine qO (H _) fun ah v U=>?_;(obtain⟨rfl,J⟩:=U;have I:=V ⟨hb,ptr ah.b,lb,ca,cc,none,0,[],oa,oc,oD,la,lc,lD⟩ ⟨qq.nil,C,B⟩ ah rfl J G)|refine q0e (F:=q) (b:=hb) (D:=AH.O ah c t a0T 2 0 (mh.O m++(oD++((lb.l,lmP c la x.lm.length lc)::(lD++ []))))) I (fun Q=>by simp only[zj];exact sbE) fun s v U=>?_;obtain⟨rfl,o⟩:=U)|refine fB ?_|refine fO ?_|refine fA ?_|refine fL ?_|refine fQ ?_|refine fN ?_|refine fM ?_|refine qg fun bk hbk=>?_)
 all_goals exact⟨s,⟨rfl,⟨o.b,o.ca,o.ok,o.at',o.ev,o.em,o.lb,fun h=>absurd g h,fun _ h=>nomatch g.symm.trans h⟩⟩,sbE⟩
theorem qgX{i:Ins}{I:Own}(X:qE W0)(O:AnK c p x i)(hh:h.ok x)(L:x.at'=some a)(g:h.ap=ptr ah.b)(q:ah.ok c a)(R:a.st=1)(N:0<=c.words/\c.words<=64)(j:rqI i)(Y:mh.ok m.L)(W:okA c t m (q11 c x.th.rg a i))(V:RdE Ins.enc 5 W0 I h.ca p)(hi:p[x.th.pc]? =some i)(o:qf8 c t m (q11 c x.th.rg a i))(Q:Own) [eq:qx Q I]:
  jk W0 81 [ptr h.b,ptr mh.mb,i.v] ((h.b,thP c t n p h x)::ah.O c t a 0 3 (mh.O m++h.R c x Q)) fun v own'=>
  ∃s:TR,(v= .tuple #[stV {(q1m c p t m x i).2.2.1 with t:=0}, .slice s.ea s.el.length s.ec]/\s.ok W0 c t h (q1m c p t m x i).2.1 (q1m c p t m x i).2.2.2 (qf c t m (q11 c x.th.rg a i)).2.1.code)/\Ent W0 own' (s.O c t n p (q1m c p t m x i).2.1 (mh.O (q1m c p t m x i).1++Q)):=by
 refine sH (jo 15 3 (34::35::37::39::42::0::(jo 9 3 [22,23,25,27,30,0]))) ?_;rw[qiZ j L];have u:=fun(y:AH) (E:Own) (g:h.ap=ptr y.b) (q:y.ok c (q11 c x.th.rg a i)) (Z:PhO W0 c t y (q11 c x.th.rg a i) E) (Q:Own) (eq:qx Q I)=>
  q5w (t:=t) (n:=n) (i:=i) X O hh g q Y Z W V hi o Q
 simp only[qmp] at u;have J:=fun Q=>qkp (W0:=W0) (c:=c) (t:=t) (n:=n) (p:=p) (x:=x) g q R N j O.ic Q
 have C:i.op=10\/i.op=11\/i.op=8\/i.op=9\/i.op=14\/i.op=15:=j;clear O;generalize (qf c t m (q11 c x.th.rg a i)).2.1.code=cd at u ⊢;generalize q0A c p t m x (q11 c x.th.rg a i) i=z at u ⊢;generalize q11 c x.th.rg a i=U at*;obtain⟨hb,ap,lb,ca,cc,sa,sc,sD,oa,oc,oD,la,lc,lD⟩:=h;dsimp only at g V u J ⊢;subst g;clear hi j;obtain⟨op,ja,jb,jc,jm⟩:=i;dsimp only[Ins.v] at C J u ⊢
 rcases C with rfl|rfl|rfl|rfl|rfl|rfl
 all_goals
  repeat'((try conv=>whnf);first|refine fE ?_|refine fD ?_|(apply qe;first|refine qn (b:=hb) (D:=AH.O ah c t a 0 3 []) J (fun Q=>sbE) fun y v T=>?_;(obtain⟨B,E1⟩:=y;obtain⟨rfl,G,H,hyp⟩:=T;dsimp only at G H hyp;have K:=u B E1 (by rw[G]) H hyp)|refine q0e (F:=I) (b:=hb) (D:=AH.O B c t U U.ph.no 3 (E1++(mh.O m++(sD++(oD++((lb.l,lmP c la x.lm.length lc)::(lD++ []))))))) K (fun Q=>sbE) fun s v T=>?_;obtain⟨rfl,hs⟩:=T)|refine fO ?_|refine fA ?_|refine fL ?_|refine fM ?_|refine qg fun bk hbk=>?_)
 all_goals exact⟨s,⟨rfl,hs⟩,sbE⟩
end
open Go
section
variable{W0:World}{own Q E:Own}{c:Cfg}{t n:Nat}{p:jf}{h:TH}{x:GT}{k:Int}{b e:Nat}{a:AT}{ah:AH}{mh:MH}{m:MS}{i:Ins}
theorem qkk(C:h.ap=ptr ah.b)(z:ah.ok c a)(B:a.st=1)(J:0<=c.words/\c.words<=64)(hi:i.op=12\/i.op=13)(N:qc8 i)(hask:x.ask<=100000)(Q:Own):
  jk W0 80 [ptr h.b,i.v] ((h.b,thP c t n p h x)::ah.O c t a 0 3 Q) fun v own'=>
  ∃s:AH×Own,(v= .tuple #[]/\s.1.b=ah.b/\s.1.ok c (q1i c x a i)/\PhO W0 c t s.1 (q1i c x a i) s.2)/\Ent W0 own' ((h.b,thP c t n p h {x with ask:=x.ask+1})::s.1.O c t (q1i c x a i) (q1i c x a i).ph.no 3 (s.2++Q)):=by
 refine sH (jo 8 3 (20::0::(jo 16 3 [36,0]))) ?_;have g:=fun(own':Own) (m1:qy h.b (thP c t n p h {x with ask:=x.ask+1}) own')=>q6p (W0:=W0) (own:=own') (b:=h.b) (c:=c) (t:=t) (n:=n) (p:=p) (h:=h) (x:={x with ask:=x.ask+1}) hi N
 rw[show q1D {x with ask:=x.ask+1} i=q1D x i from rfl] at g;have O:0<=q1D x i:=(q0l _).1;obtain⟨_,hA,T,_,_⟩:=N;unfold q1i;obtain⟨hb,ap,lb,ca,cc,sa,sc,sD,oa,oc,oD,la,lc,lD⟩:=h;dsimp only at C g ⊢;subst C
 by_cases L:1<=x.ask
 ·rw[if_pos L];have o:=fun Q=>q9h (W0:=W0) (t:=t) z B 1 (.inl rfl) Q
  unfold AtQ at o;have R:(x.ask:Int)+1>1:=Yb;obtain⟨op,ia,ib,ic,imm⟩:=i;dsimp only[Ins.v]
  repeat'((try conv=>whnf);first|refine fF ?_|(apply qe;first|refine qn (b:=ah.b) (D:=AH.R ah c t a 3 []) o (fun Q=>sbE) fun y v j=>?_;obtain⟨rfl,j⟩:=j)|refine fB ?_|refine fA ?_|refine fN ?_|refine qg fun K H=>?_)
  all_goals exact⟨y,⟨rfl,j⟩,sbE⟩
 ·rw[if_neg L];have R:¬(x.ask:Int)+1>1:=Yb
  rcases hi with q|u
  ·rw[if_pos q];have o:=fun Q=>qaH (W0:=W0) (t:=t) z B (q1D x i) O ⟨J.1,Yb⟩ Q
   unfold AtQ at o;generalize q1D x i=w at*;obtain⟨op,ia,ib,ic,imm⟩:=i;dsimp only at q;subst q;dsimp only[Ins.v] at g ⊢
   repeat'((try conv=>whnf);first|refine fE ?_|refine fG ?_|(apply qe;first|refine qn (b:=ah.b) (D:=AH.R ah c t a 3 []) o (fun Q=>sbE) fun y v j=>?_;obtain⟨rfl,j⟩:=j)|apply qz;refine qm (fun ex=>g _ Ye) ?_|refine fB ?_|refine fA ?_|refine fL ?_|refine fN ?_|refine qg fun K H=>?_)
   all_goals exact⟨y,⟨rfl,j⟩,sbE⟩
  ·rw[if_neg Yb];have o:=fun Q=>q7U (W0:=W0) (t:=t) z B (q1D x i) (x.th.rg.get i.b.toNat) Q
   unfold AtQ at o;have I:=T (by rw[u];rfl);have G:i.b.toNat<8:=Yb;generalize q1D x i=w at*;obtain⟨op,ia,ib,ic,imm⟩:=i;dsimp only at u;subst u;dsimp only[Ins.v] at g I G o ⊢
   repeat'((try conv=>whnf);first|refine fD ?_|refine fG ?_|refine q6Q (c:=c) (t:=t) (n:=n) (p:=p) (h:=⟨hb,ptr ah.b,lb,ca,cc,sa,sc,sD,oa,oc,oD,la,lc,lD⟩) (x:={x with ask:=x.ask+1}) G ?_ ?_;omega|(apply qe;first|refine qn (b:=ah.b) (D:=AH.R ah c t a 3 []) o (fun Q=>sbE) fun y v j=>?_;obtain⟨rfl,j⟩:=j)|apply qz;refine qm (fun ex=>g _ Ye) ?_|refine fB ?_|refine fP ?_|refine fA ?_|refine fL ?_|refine fN ?_|refine qg fun K H=>?_)
   all_goals exact⟨y,⟨rfl,j⟩,sbE⟩
theorem qeC{J:Own}(hF:qE W0)(T:AnK c p {x with seen:= [],ct:=x.ct+1,stg:=true,ask:=0} i)(hr:0<=c.reads/\c.reads<=32)(az:1<=c.writes/\c.writes<=32)(aj:c.allocs<=1000/\c.frees<=1000)(O:x.ct<=100000)(Y:okA c t m a0T)(V:RdE Ins.enc 5 W0 J h.ca p)(U:p[x.th.pc]? =some i)(aw:c.strong=true)(hcw:0<=c.words/\c.words<=1099511627776)(hM:mh.ok m.L)(hi:i.op=12\/i.op=13)(R:h.ok x)(L:x.at'=none)(j:h.ap= .pointer none)(cd:Int)(Q:Own) [eq:qx Q J]:
  jk W0 126 [ptr h.b,ptr mh.mb,i.v] ((h.b,thP c t n p h x)::(mh.O m++h.R c x Q)) fun v own'=>
  ∃s:TR,(v= .tuple #[stV {(q0c c p t m x i).2.2.1 with t:=0}, .slice s.ea s.el.length s.ec]/\s.ok W0 c t h (q0c c p t m x i).2.1 (q0c c p t m x i).2.2.2 cd)/\Ent W0 own' (s.O c t n p (q0c c p t m x i).2.1 (mh.O (q0c c p t m x i).1++Q)):=by
 refine sH (jo 7 3 (18::0::(jo 11 3 [26,27,29,31,33,36,0,3,1,5,1,8,10,11,0,10,8,11,0,10,5,8,11,0]))) ?_;have hx:=T.ic;have av:=T.pc;have hl:=T.hl2;dsimp only at av hl;have g:=fun(own':Own) (m1:qy h.b (thP c t n p h x) own')=>q6p (W0:=W0) (own:=own') (b:=h.b) (c:=c) (t:=t) (n:=n) (p:=p) (h:=h) (x:=x) hi hx
 have H:=fun(X:GT) (hX:X.obs=x.obs) Q=>q1E (W0:=W0) (c:=c) (t:=t) (n:=n) (p:=p) (h:=h) (x:=X) 7 7 (by rw[hX];exact R.ho) (by rw[hX];exact hl) Q
 have h0:0<=q1D x i:=(q0l _).1;obtain⟨_,W,hB,_,_⟩:=hx;have hS:=fun(X:GT) (O:X.ct<=1000000) Q=>q8h (W0:=W0) (c:=c) (t:=t) (n:=n) (p:=p) (h:=h) (x:=X) hr az aj O Q
 have Z:=fun(h:TH) (R:h.ok {x with seen:= [],ct:=x.ct+1,stg:=true,ask:=0}) (ah:AH) (j:h.ap=ptr ah.b) (au:ah.ok c a0T) (V:RdE Ins.enc 5 W0 J h.ca p) (Q:Own) (eq:qx Q J)=>
  q5w (t:=t) (n:=n) (x:={x with seen:= [],ct:=x.ct+1,stg:=true,ask:=0}) (E:= []) (i:=i) hF T R j au hM rfl Y V U (fun h=>by cases h) Q
 clear T;unfold q0c
 by_cases hw:c.words<=q1D x i
 ·rw[if_pos hw];obtain⟨hb,ap,lb,ca,cc,sa,sc,sD,oa,oc,oD,la,lc,lD⟩:=h;obtain⟨u,G,o⟩:=R;dsimp only at j u G o H g ⊢;subst j;generalize q1D x i=w at*;obtain⟨op,ia,ib,ic,imm⟩:=i;dsimp only[Ins.v] at hi g W ⊢;have ay:w>=c.words:=hw
  rcases hi with rfl|rfl
  ·have ha7:=W rfl;have af:ia.toNat<8:=Yb;rw[if_pos rfl];have B:=H {x with th:={x.th with rg:=x.th.rg.set ia.toNat 0}} rfl
   repeat'((try conv=>whnf);first|refine fE ?_|refine fF ?_|refine q9x (c:=c) (t:=t) (n:=n) (p:=p) (h:=⟨hb, .pointer none,lb,ca,cc,sa,sc,sD,oa,oc,oD,la,lc,lD⟩) (x:=x) af ?_ ?_;omega|(apply qe;first|refine qd (g _ Ye) ?_|refine qn (b:=hb) (D:=oD++ []) B (fun Q=>sbE) fun y v C=>?_;obtain⟨a5,c5,D5⟩:=y;obtain⟨rfl,q⟩:=C;dsimp only at q|refine qO (q1f (c:=c) (t:=t) (n:=n) (p:=p) (h:=⟨hb, .pointer none,lb,ca,cc,sa,sc,sD,a5,c5,D5,la,lc,lD⟩) (x:={x with th:={x.th with rg:=x.th.rg.set ia.toNat 0},obs:=x.obs++ [⟨x.th.pc,7,7⟩]}) (by dsimp only;omega) _) fun _ v C=>?_;subst C)|refine fC ?_|refine fP ?_|refine fA ?_|refine fL ?_|refine fM ?_|refine qg fun bk N=>?_)
   all_goals exact⟨⟨⟨hb, .pointer none,lb,ca,cc,sa,sc,sD,a5,c5,D5,la,lc,lD⟩,[],none,0,[],[]⟩,⟨rfl,⟨rfl,rfl,⟨u,q,o⟩,by unfold AtO GT.to;dsimp only;rw[L],EvO.nil,rfl,rfl,fun _ _=>rfl,fun _ h _=>nomatch h⟩⟩,by unfold TR.O;dsimp only;simp only[zd,zk,zj];exact sbE⟩
  ·rw[if_neg Yc];have B:=H x rfl
   repeat'((try conv=>whnf);first|refine fD ?_|refine fF ?_|(apply qe;first|refine qd (g _ Ye) ?_|refine qn (b:=hb) (D:=oD++ []) B (fun Q=>sbE) fun y v C=>?_;obtain⟨a5,c5,D5⟩:=y;obtain⟨rfl,q⟩:=C;dsimp only at q|refine qO (q1f (c:=c) (t:=t) (n:=n) (p:=p) (h:=⟨hb, .pointer none,lb,ca,cc,sa,sc,sD,a5,c5,D5,la,lc,lD⟩) (x:={x with obs:=x.obs++ [⟨x.th.pc,7,7⟩]}) (by dsimp only;omega) _) fun _ v C=>?_;subst C)|refine fC ?_|refine fA ?_|refine fL ?_|refine fM ?_|refine qg fun bk N=>?_)
   all_goals exact⟨⟨⟨hb, .pointer none,lb,ca,cc,sa,sc,sD,a5,c5,D5,la,lc,lD⟩,[],none,0,[],[]⟩,⟨rfl,⟨rfl,rfl,⟨u,q,o⟩,by unfold AtO GT.to;dsimp only;rw[L],EvO.nil,rfl,rfl,fun _ _=>rfl,fun _ h _=>nomatch h⟩⟩,by unfold TR.O;dsimp only;simp only[zd,zk,zj];exact sbE⟩
 ·rw[if_neg hw];obtain⟨hb,ap,lb,ca,cc,sa,sc,sD,oa,oc,oD,la,lc,lD⟩:=h;obtain⟨u,G,o⟩:=R;dsimp only at j u G o V g ⊢;subst j;have ay:¬q1D x i>=c.words:=hw;have K:=fun Q=>hS {x with stg:=true,ask:=0} (by dsimp only;omega) Q
  clear H hS;generalize q0A c p t m {x with seen:= [],ct:=x.ct+1,stg:=true,ask:=0} {AT.new with st:=1,ph:= .ent 0} i=z at Z ⊢;generalize q1D x i=w at*;obtain⟨op,ia,ib,ic,imm⟩:=i;dsimp only[Ins.v] at hi g K Z ⊢;clear W hB U
  rcases hi with rfl|rfl
  all_goals
   repeat'((try conv=>whnf);first|refine fG ?_|refine q6E aw ?_|(apply qe;first|refine qd (g _ Ye) ?_|refine qO (K _) fun ah v C=>?_;(obtain⟨rfl,aq⟩:=C;have ae:=Z ⟨hb,ptr ah.b,lb,ca,cc,none,0,[],oa,oc,oD,la,lc,lD⟩ ⟨qq.nil,G,o⟩ ah rfl aq V)|refine q0e (F:=J) (b:=hb) (D:=AH.O ah c t a0T 2 0 (mh.O m++(oD++((lb.l,lmP c la x.lm.length lc)::(lD++ []))))) ae (fun Q=>by simp only[zj];exact sbE) fun s v C=>?_;obtain⟨rfl,I⟩:=C)|refine fC ?_|refine fO ?_|refine fA ?_|refine fL ?_|refine fN ?_|refine fM ?_|refine qg fun bk N=>?_)
  all_goals exact⟨s,⟨rfl,⟨I.b,I.ca,I.ok,I.at',I.ev,I.em,I.lb,fun h=>absurd rfl h,fun _ h=>nomatch h⟩⟩,sbE⟩
end
open Go
section
variable{W0:World}{own Q F:Own}{c:Cfg}{mh:MH}{m m':MS}{d p dc:Nat}{ps:jh}{da:j8}{kc bl hd hd2:Int}{n n2:Nat}{ac:AcM}
theorem qdW(s:RdE qf9 1 W0 F da (p::ps))(_:ps.length<=100000)(o:∀Q,jk W0 163 [ptr p,ptr mh.mb] ((p,puP kc bl n hd)::(mh.O m++Q)) fun v own'=>∃_:Unit,v=ac.v/\Ent W0 own' ((p,puP kc bl n2 hd2)::(mh.O m'++Q)))(Q:Own) [eq:qx Q F]:
  jk W0 112 [ptr d,ptr mh.mb] ((d,drP da (ps.length+1) dc)::(p,puP kc bl n hd)::(mh.O m++Q)) fun v own'=>
   ∃_:Unit,v=ac.v/\Ent W0 own' ((d,if n2=3 then drP (slA da dc 1 1) ps.length (dc-1) else drP da (ps.length+1) dc)::(p,puP kc bl n2 hd2)::(mh.O m'++Q)):=by
 refine qG (sH [] ?_);have u:(p::ps)[0]? =some p:=rfl;have j:=fun(own':Own) (mm:qy d (drP da (ps.length+1) dc) own')=>q3H (W0:=W0) (own:=own') (qj mm rfl)
 rw[show decide (ps.length+1=0)=false by simp] at j;have g:=fun(own':Own) (mm:qy p (puP kc bl n2 hd2) own')=>q8a (W0:=W0) (own:=own') (n:=n2) (qj mm rfl)
 rw[show decide ((n2:Int)=3)=decide (n2=3) from decide_eq_decide.2 Yb] at g
 by_cases q:n2=3
 ·simp only[if_pos q,decide_eq_true q] at g ⊢
  repeat'((try conv=>whnf);first|refine fE ?_|refine fD ?_|refine qgc rfl ?_|apply gLd;refine q0n s u rfl ?_|(apply qL;first|refine ixE s u ?_ ?_;(first|rfl|omega))|(apply qe;first|refine qd (j _ Ye) ?_|refine qd (g _ Ye) ?_|refine qA (D:=mh.O m) (o _) fun _ v B=>?_;subst B)|refine fA ?_|refine fL ?_|refine fN ?_|refine fM ?_|refine qg fun C z=>?_)
  all_goals exact⟨rfl,sbE⟩
 ·simp only[if_neg q,decide_eq_false q] at g ⊢
  repeat'((try conv=>whnf);first|refine fD ?_|apply gLd;refine q0n s u rfl ?_|(apply qL;first|refine ixE s u ?_ ?_;(first|rfl|omega))|(apply qe;first|refine qd (j _ Ye) ?_|refine qd (g _ Ye) ?_|refine qA (D:=mh.O m) (o _) fun _ v B=>?_;subst B)|refine fA ?_|refine fL ?_|refine fM ?_|refine qg fun C z=>?_)
  all_goals exact⟨rfl,sbE⟩
def qmh(c:Cfg)(m:MS)(b:Int)(n:Nat)(hd:Int):Prop:=qnk m (ql c b)/\(n=0\/(okU hd/\∃j:Nat,b=j/\j<64/\((n=1/\j<m.nx.length)\/n=2)))
theorem qen{b:Int}(u:mh.ok m.L)(h:qmh c m b n hd):∃(n2:Nat) (hd2:Int),(∀Q,jk W0 163 [ptr p,ptr mh.mb] ((p,puP (ql c b) b n hd)::(mh.O m++Q)) fun v own'=>∃_:Unit,v=(q0p c m n b hd).2.2.1.v/\Ent W0 own' ((p,puP (ql c b) b n2 hd2)::(mh.O (q0p c m n b hd).1++Q)))/\
  ((q0p c m n b hd).2.1=if n2=3 then none else some (n2,hd2))/\(if(q0p c m n b hd).2.2.1.c=8 then(22:Int) else if(q0p c m n b hd).2.2.1.k=3 then 23 else 21)=(q0p c m n b hd).2.2.2:=by
 obtain⟨⟨o,s,h3,z,h5⟩,g⟩:=h
 rcases g with rfl|⟨g,j,rfl,h7,⟨rfl,B⟩|rfl⟩
 ·unfold q0p;rw[if_pos rfl,s];exact⟨1,m.hd.getD o 0,fun Q=>qaP u (q08 z) Q,rfl,rfl⟩
 ·unfold q0p;rw[if_neg Yc,if_pos rfl,s];exact⟨2,hd,fun Q=>qaQ u g (q08 B) Q,rfl,rfl⟩
 ·unfold q0p;rw[if_neg Yc,if_neg Yc,s,zF];have q:=fun Q=>qaR (W0:=W0) (b:=p) (bl:=j) u g ⟨Yb,Yb⟩ (q08 z) Q
  by_cases hw:m.hd.getD o 0=hd
  ·rw[if_pos hw];simp only[hw,if_true,decide_true] at q;exact⟨3,hd,q,rfl,rfl⟩
  ·rw[if_neg hw];simp only[hw,if_false,decide_false] at q;exact⟨0,hd,q,rfl,rfl⟩
end
open Go
def FeO(W0:World)(c:Cfg)(lb:LB)(t n:Nat)(fn:Option FT)(F:Own):Prop:=
 match fn with
 |none=>lb.fp= .pointer none/\lb.dp= .pointer none/\F= []
 |some f=>∃fb:Nat,lb.fp=ptr fb/\match f.dr with
  |none=>lb.dp= .pointer none/\F= [(fb,feP t n f)]
  |some (l,k,g)=>∃(d:Nat) (da:j8) (dc:Nat) (dD:Own) (p:Nat) (ps:jh),lb.dp=ptr d/\(RdE qf9 1 W0 dD da (p::ps)/\ps.length+1<=dc/\ps.length+1=l.length/\l.length<=1000)/\F=(fb,feP t n f)::(d,drP da (ps.length+1) dc)::(dD++((p,puP (ql c (l.headD 0)) (l.headD 0) k g)::puL c ps l.tail))
def qhZ(n:Nat)(m:MS)(f:FT):Prop:=(f=⟨false,0,0,none⟩\/(f.ld=true/\f.nx<n/\0<=f.lim/\f.lim<=1099511627776))/\0<=m.ck/\m.ck<=1099511627776/\n<=16/\m.sl.length=n
def qmg(c:Cfg)(n:Nat)(m:MS)(f:FT):Prop:=
 match f.dr with
 |none=>qhZ n m f
 |some (l,k,g)=>qmh c m (l.headD 0) k g
section
variable{W0:World}{own Q E:Own}{c:Cfg}{t n:Nat}{p:jf}{h:TH}{x:GT}{k:Int}{b e:Nat}{a:AT}{ah:AH}{mh:MH}{m:MS}{i:Ins}{f:FT}
theorem qfx(u:qhZ n m f):(q1c t m f).1.ld=true/\(0<=(q1c t m f).1.lim/\(q1c t m f).1.lim<=1099511627776)/\(((q1c t m f).2.1.c=3/\(q1c t m f).2.2=25)\/((q1c t m f).2.1.c=6/\(q1c t m f).2.2=26)):=by
 obtain⟨g,q,s,_⟩:=u;unfold q1c
 rcases g with rfl|⟨g,h4,j,o⟩
 ·rw[if_pos rfl];exact⟨rfl,⟨q,s⟩, .inl ⟨rfl,rfl⟩⟩
 ·rw[if_neg (by rw[g];decide)];dsimp only;refine⟨?_,?_, .inr ⟨rfl,rfl⟩⟩
  ·split
   ·exact g
   ·exact g
  ·split
   ·exact⟨j,o⟩
   ·exact⟨j,o⟩
theorem qe2(j:mh.ok m.L)(u:qhZ n m f)(Q:Own):jk W0 108 [ptr b,ptr mh.mb] ((b,feP t n f)::(mh.O m++Q)) fun v own'=>
  ∃_:Unit,v=(q1c t m f).2.1.v/\Ent W0 own' ((b,feP t n (q1c t m f).1)::(mh.O m++Q)):=by
 obtain⟨g,h2,h3,o,q⟩:=u
 rcases g with rfl|⟨g,s,_,_⟩
 ·exact qby j Q
 ·exact qbz j g s o q Q
abbrev WtQ(W0:World)(c:Cfg)(t n:Nat)(h:TH)(x':GT)(s:TH×Own):Prop:=s.1.b=h.b/\s.1.ap=h.ap/\s.1.ca=h.ca/\s.1.lb.l=h.lb.l/\s.1.ok x'/\FeO W0 c s.1.lb t n x'.fn s.2
theorem q8i{fb:Nat}(hM:mh.ok m.L)(hf:qhZ n m f)(af:f.dr=none)(aq:h.lb.fp=ptr fb)(ae:h.lb.dp= .pointer none)(hh:h.ok x)(hl:x.obs.length<=100000)(hpc:x.th.pc<=100000)(aB:x.lm.length<=1000)(aA:∀q∈x.lm,0<=q.1/\q.1<qh c)(Q:Own):
  jk W0 77 [ptr h.b,ptr mh.mb] ((h.b,thP c t n p h x)::(mh.O m++h.R c x ((fb,feP t n f)::Q))) fun v own'=>
  ∃s:TH×Own,(v=stV {(qM c n p t m x f).2.2.1 with t:=0}/\WtQ W0 c t n h (qM c n p t m x f).2.1 s)/\Ent W0 own' ((s.1.b,thP c t n p s.1 (qM c n p t m x f).2.1)::(mh.O (qM c n p t m x f).1++s.1.R c (qM c n p t m x f).2.1 (s.2++Q))):=by
 refine sH (jo 11 3 [26,27,29,31,34,0]) ?_;have H:=fun Q=>qe2 (W0:=W0) (b:=fb) (t:=t) hM hf Q
 obtain⟨aw,ay,I⟩:=qfx (t:=t) hf;unfold qM;rw[af];dsimp only;have aj:(q1c t m f).1.dr=none:=by unfold q1c;split <;>(dsimp only;try split) <;>first|rfl|exact af
 generalize q1c t m f=z at*;obtain⟨⟨ld,lim,nx,dr⟩,ac,ph⟩:=z;dsimp only at H aw ay I aj ⊢;subst aw;subst aj;have au:=fun(h:TH) (hh:qq ObM.enc 77 3 h.oa h.oc x.obs h.oD) Q=>q1E (W0:=W0) (c:=c) (t:=t) (n:=n) (p:=p) (h:=h) (x:=x) 6 0 hh hl Q
 obtain⟨hb,ap,⟨j,fp,dp⟩,ca,cc,sa,sc,sD,oa,oc,oD,la,lc,lD⟩:=h;obtain⟨K,J,U⟩:=hh;dsimp only at aq ae K J U au ⊢;subst aq;subst ae;have C:=fun(own':Own) (R:qy fb (feP t n ⟨true,lim,nx,none⟩) own')=>q5q (W0:=W0) (own:=own') (b:=fb) (n:=n) (ld:=true) (nx:=nx) (qj R rfl) (qj R rfl) (qj R rfl)
 have N:=fun(own':Own) (R:qy fb (feP t n ⟨true,lim,nx,none⟩) own')=>qbx (W0:=W0) (own:=own') (b:=fb) (lim:=lim) (qj R rfl) (qj R rfl) ay
 have Z:=fun(y:DH) (own':Own) (R:qy y.d (drP y.da y.ps.length y.dc) own')=>q3H (W0:=W0) (own:=own') (b:=y.d) (n:=y.ps.length) (qj R rfl)
 have G:=fun Q=>qgl (W0:=W0) (b:=j) (c:=c) U aA Yb lim Q
 obtain⟨ak,acc,ai,ag,apt,adn⟩:=ac;dsimp only at I H ⊢
 by_cases hd:n<=nx
 ·rw[if_pos hd];rw[show(true&&decide (n<=nx))=true by simpa using hd] at C;have O:=fun la lc lD=>au ⟨hb,ap,⟨j, .pointer none, .pointer none⟩,ca,cc,sa,sc,sD,oa,oc,oD,la,lc,lD⟩ J
  dsimp only at O
  by_cases hz:lmL lim x.lm= []
  ·rw[if_pos hz]
   rcases I with ⟨rfl,rfl⟩|⟨rfl,rfl⟩
   all_goals
    repeat'((try conv=>whnf);first|refine fH ?_|refine fE ?_|refine fD ?_|(apply qe;first|refine qd (C _ Ye) ?_|refine qd (B _ Ye) ?_|refine qn (b:=fb) (D:=mh.O m++ []) H (fun Q=>sbE) fun _ v u=>?_;subst u|refine qn (b:=j) (D:=lD++ []) G (fun Q=>sbE) fun y v u=>?_;(obtain⟨rfl,V,L,o⟩:=u;have B:=Z y;rw[show decide (y.ps.length=0)=true from decide_eq_true (by rw[o,hz];rfl)] at B)|refine qn (b:=hb) (D:=oD++ []) (O y.ra y.rc y.rD) (fun Q=>sbE) fun y2 v u=>?_;obtain⟨a5,c5,D5⟩:=y2;obtain⟨rfl,W⟩:=u;dsimp only at W|refine qO (q1f (c:=c) (t:=t) (n:=n) (p:=p) (h:=⟨hb,ap,⟨j, .pointer none, .pointer none⟩,ca,cc,sa,sc,sD,a5,c5,D5,y.ra,y.rc,y.rD⟩) (x:={x with obs:=x.obs++ [⟨x.th.pc,6,0⟩]}) (by dsimp only;omega) _) fun _ v u=>?_;subst u)|apply qz;refine qm (fun ex=>N _ Ye) ?_|refine fA ?_|refine fL ?_|refine fN ?_|refine fM ?_|refine qg fun bk X=>?_)
   all_goals exact⟨(⟨hb,ap,⟨j, .pointer none, .pointer none⟩,ca,cc,sa,sc,sD,a5,c5,D5,y.ra,y.rc,y.rD⟩,[]),⟨rfl,rfl,rfl,rfl,rfl,⟨K,W,V⟩,rfl,rfl,rfl⟩,sbE⟩
  ·rw[if_neg hz];obtain⟨b0,l',Y⟩:∃b0 l',lmL lim x.lm=b0::l':=by
    cases e:lmL lim x.lm with
    |nil=>exact absurd e hz
    |cons b0 l'=>exact⟨b0,l',rfl⟩
   have az:(b0::l').length<=1000:=by rw[<-Y];unfold lmL;rw[zi];exact Zq (ya _ _) aB
   simp only[Y] at G ⊢
   rcases I with ⟨rfl,rfl⟩|⟨rfl,rfl⟩
   all_goals
    repeat'((try conv=>whnf);first|refine fH ?_|refine fE ?_|refine fD ?_|(apply qe;first|refine qd (C _ Ye) ?_|refine qd (B _ Ye) ?_|refine qn (b:=fb) (D:=mh.O m++ []) H (fun Q=>sbE) fun _ v u=>?_;subst u|refine qn (b:=j) (D:=lD++ []) G (fun Q=>sbE) fun y v u=>?_;(obtain⟨rfl,V,L,o⟩:=u;have B:=Z y;rw[show decide (y.ps.length=0)=false from decide_eq_false (by rw[o];simp)] at B))|apply qz;refine qm (fun ex=>N _ Ye) ?_|refine fA ?_|refine fL ?_|refine fN ?_|refine fM ?_|refine qg fun bk X=>?_)
    obtain⟨T,g,av⟩:∃T g,y.ps=T::g:=by
     cases e:y.ps with
     |nil=>rw[e] at o;cases o
     |cons T g=>exact⟨T,g,rfl⟩
    rw[av] at L o;exact⟨(⟨hb,ap,⟨j,ptr fb,ptr y.d⟩,ca,cc,sa,sc,sD,oa,oc,oD,y.ra,y.rc,y.rD⟩,(fb,feP t n ⟨true,lim,nx,some (b0::l',0,0)⟩)::(y.d,drP y.da (g.length+1) y.dc)::(y.dD++((T,puP (ql c b0) b0 0 0)::puL c g l'))),⟨rfl,rfl,rfl,rfl,rfl,⟨K,J,V⟩,fb,rfl,y.d,y.da,y.dc,y.dD,T,g,rfl,⟨L.rd,L.le,o,az⟩,rfl⟩,by rw[av,show puL c (T::g) (b0::l')=(T,puP (ql c b0) b0 0 0)::puL c g l' from rfl];simp only[zd,zk,zu];exact sbE⟩
 ·rw[if_neg hd];rw[show(true&&decide (n<=nx))=false by simpa using hd] at C
  rcases I with ⟨rfl,rfl⟩|⟨rfl,rfl⟩
  all_goals
   repeat'((try conv=>whnf);first|refine fI ?_|refine fE ?_|refine fD ?_|(apply qe;first|refine qd (C _ Ye) ?_|refine qn (b:=fb) (D:=mh.O m++ []) H (fun Q=>sbE) fun _ v u=>?_;subst u)|refine fA ?_|refine fL ?_|refine fN ?_|refine fM ?_|refine qg fun bk X=>?_)
  all_goals exact⟨(⟨hb,ap,⟨j,ptr fb, .pointer none⟩,ca,cc,sa,sc,sD,oa,oc,oD,la,lc,lD⟩,[(fb,feP t n ⟨true,lim,nx,none⟩)]),⟨rfl,rfl,rfl,rfl,rfl,⟨K,J,U⟩,fb,rfl,rfl,rfl⟩,sbE⟩
end
open Go
section
variable{W0:World}{own Q E dD:Own}{c:Cfg}{t n:Nat}{p:jf}{h:TH}{x:GT}{k:Nat}{b e:Nat}{mh:MH}{m:MS}{f:FT}
theorem qeE{fb d dc R:Nat}{ps:jh}{da:j8}{b0 N:Int}{l:jd}(hM:mh.ok m.L)(hf:qmh c m b0 k N)(aw:f.dr=some (b0::l,k,N))(Z:h.lb.fp=ptr fb)(Y:h.lb.dp=ptr d)(hL:RdE qf9 1 W0 dD da (R::ps))(T:ps.length+1<=dc)(q:ps.length+1=(b0::l).length)(V:(b0::l).length<=1000)
  (hh:h.ok x) (hl:x.obs.length<=100000) (hpc:x.th.pc<=100000) (Q:Own):
  jk W0 77 [ptr h.b,ptr mh.mb] ((h.b,thP c t n p h x)::(mh.O m++h.R c x ((fb,feP t n f)::(d,drP da (ps.length+1) dc)::(dD++((R,puP (ql c b0) b0 k N)::(puL c ps l++Q)))))) fun v own'=>
  ∃s:TH×Own,(v=stV {(qM c n p t m x f).2.2.1 with t:=0}/\WtQ W0 c t n h (qM c n p t m x f).2.1 s)/\Ent W0 own' ((s.1.b,thP c t n p s.1 (qM c n p t m x f).2.1)::(mh.O (qM c n p t m x f).1++s.1.R c (qM c n p t m x f).2.1 (s.2++Q))):=by
 refine sH (jo 11 3 [26,27,29,31,34,0]) ?_;rw[zu] at q V;obtain⟨n2,hd2,av,aj,aq⟩:=qen (W0:=W0) (p:=R) hM hf;unfold qM;rw[aw];dsimp only[List.headD_cons];have hz:qmh c m b0 k N:=hf;generalize q0p c m k b0 N=z at*;obtain⟨m',o,ac,ph⟩:=z;dsimp only at av aj aq ⊢;subst aj;have u:=fun(Q:Own) (eq:qx Q dD)=>qdW (W0:=W0) (d:=d) (dc:=dc) hL Yb av Q
 have J:=fun own=>q88 (W0:=W0) (own:=own) ac
 rw[aq] at J;have af:=fun(h:TH) (hh:qq ObM.enc 77 3 h.oa h.oc x.obs h.oD) Q=>q1E (W0:=W0) (c:=c) (t:=t) (n:=n) (p:=p) (h:=h) (x:=x) 6 0 hh hl Q
 obtain⟨hb,ap,⟨B,fp,dp⟩,ca,cc,sa,sc,sD,oa,oc,oD,la,lc,lD⟩:=h;obtain⟨H,G,C⟩:=hh;dsimp only at Z Y H G C af ⊢;subst Z;subst Y;have O:=af ⟨hb,ap,⟨B, .pointer none, .pointer none⟩,ca,cc,sa,sc,sD,oa,oc,oD,la,lc,lD⟩ G;dsimp only at O
 by_cases h3:n2=3
 ·simp only[if_pos h3] at u ⊢;have j:=fun(own':Own) (m1:qy d (drP (slA da dc 1 1) ps.length (dc-1)) own')=>q3H (W0:=W0) (own:=own') (b:=d) (n:=ps.length) (qj m1 rfl)
  by_cases I:(b0::l).tail= []
  ·rw[if_pos I];have U:l= []:=I;rw[show decide (ps.length=0)=true from decide_eq_true (by rw[U] at q;simpa using q)] at j
   repeat'((try conv=>whnf);first|refine fH ?_|refine fE ?_|refine fD ?_|(apply qe;first|refine qd (j _ Ye) ?_|refine qd (J _) ?_|refine q0e (F:=dD) (b:=d) (D:=(R,puP (ql c b0) b0 k N)::(mh.O m++ [])) u (fun Q=>sbE) fun _ v K=>?_;subst K|refine qn (b:=hb) (D:=oD++ []) O (fun Q=>sbE) fun y2 v K=>?_;obtain⟨a5,c5,D5⟩:=y2;obtain⟨rfl,W⟩:=K;dsimp only at W|refine qO (q1f (c:=c) (t:=t) (n:=n) (p:=p) (h:=⟨hb,ap,⟨B, .pointer none, .pointer none⟩,ca,cc,sa,sc,sD,a5,c5,D5,la,lc,lD⟩) (x:={x with obs:=x.obs++ [⟨x.th.pc,6,0⟩]}) (by dsimp only;omega) _) fun _ v K=>?_;subst K)|refine fA ?_|refine fL ?_|refine fQ ?_|refine fN ?_|refine fM ?_|refine qg fun bk X=>?_)
   all_goals exact⟨(⟨hb,ap,⟨B, .pointer none, .pointer none⟩,ca,cc,sa,sc,sD,a5,c5,D5,la,lc,lD⟩,[]),⟨rfl,rfl,rfl,rfl,rfl,⟨H,W,C⟩,rfl,rfl,rfl⟩,sbE⟩
  ·rw[if_neg I];have U:l≠ []:=I;obtain⟨b1,l2,rfl⟩:∃b1 l2,l=b1::l2:=by cases l with|nil=>exact absurd rfl U|cons b1 l2=>exact⟨b1,l2,rfl⟩
   obtain⟨L,g,rfl⟩:∃L g,ps=L::g:=by cases ps with|nil=>simp at q|cons L g=>exact⟨L,g,rfl⟩
   have au:g.length+1=(b1::l2).length:=by simp only[zu] at q ⊢;omega
   have ae:(b1::l2).length<=1000:=by simp only[zu] at V ⊢;omega
   rw[show decide ((L::g).length=0)=false from decide_eq_false Yd] at j
   repeat'((try conv=>whnf);first|refine fH ?_|refine fD ?_|(apply qe;first|refine qd (j _ Ye) ?_|refine qd (J _) ?_|refine q0e (F:=dD) (b:=d) (D:=(R,puP (ql c b0) b0 k N)::(mh.O m++ [])) u (fun Q=>sbE) fun _ v K=>?_;subst K)|refine fA ?_|refine fL ?_|refine fQ ?_|refine fN ?_|refine fM ?_|refine qg fun bk X=>?_)
   all_goals exact⟨(⟨hb,ap,⟨B,ptr fb,ptr d⟩,ca,cc,sa,sc,sD,oa,oc,oD,la,lc,lD⟩,(fb,feP t n f)::(d,drP (slA da dc 1 1) (g.length+1) (dc-1))::(dD++((L,puP (ql c b1) b1 0 0)::puL c g l2))),⟨rfl,rfl,rfl,rfl,rfl,⟨H,G,C⟩,fb,rfl,d,slA da dc 1 1,dc-1,dD,L,g,rfl,⟨RdE.tl hL T,by rw[zu] at T;omega,au,ae⟩,rfl⟩,by rw[show puL c (L::g) (b1::l2)=(L,puP (ql c b1) b1 0 0)::puL c g l2 from rfl];simp only[zd,zk,zu];exact sbE⟩
 ·simp only[if_neg h3] at u ⊢;have j:=fun(own':Own) (m1:qy d (drP da (ps.length+1) dc) own')=>q3H (W0:=W0) (own:=own') (b:=d) (n:=ps.length+1) (qj m1 rfl)
  rw[show decide (ps.length+1=0)=false by simp] at j
  repeat'((try conv=>whnf);first|refine fH ?_|refine fD ?_|(apply qe;first|refine qd (j _ Ye) ?_|refine qd (J _) ?_|refine q0e (F:=dD) (b:=d) (D:=(R,puP (ql c b0) b0 k N)::(mh.O m++ [])) u (fun Q=>sbE) fun _ v K=>?_;subst K)|refine fA ?_|refine fL ?_|refine fQ ?_|refine fN ?_|refine fM ?_|refine qg fun bk X=>?_)
  all_goals exact⟨(⟨hb,ap,⟨B,ptr fb,ptr d⟩,ca,cc,sa,sc,sD,oa,oc,oD,la,lc,lD⟩,(fb,feP t n f)::(d,drP da (ps.length+1) dc)::(dD++((R,puP (ql c b0) b0 n2 hd2)::puL c ps l))),⟨rfl,rfl,rfl,rfl,rfl,⟨H,G,C⟩,fb,rfl,d,da,dc,dD,R,ps,rfl,⟨hL,T,q,V⟩,rfl⟩,by simp only[zd,zk];exact sbE⟩
end
open Go
section
variable{W0:World}{own Q E F:Own}{c:Cfg}{t n:Nat}{p:jf}{h:TH}{x:GT}{k:Int}{b e:Nat}{a:AT}{ah:AH}{mh:MH}{m:MS}{i:Ins}{f:FT}
theorem qh0(K:mh.ok m.L)(B:qmg c n m f)(g:FeO W0 c h.lb t n (some f) F)(L:h.ok x)(N:x.obs.length<=100000)(G:x.th.pc<=100000)(I:x.lm.length<=1000)(H:∀q∈x.lm,0<=q.1/\q.1<qh c)(Q:Own):
  jk W0 77 [ptr h.b,ptr mh.mb] ((h.b,thP c t n p h x)::(mh.O m++h.R c x (F++Q))) fun v own'=>
  ∃s:TH×Own,(v=stV {(qM c n p t m x f).2.2.1 with t:=0}/\WtQ W0 c t n h (qM c n p t m x f).2.1 s)/\Ent W0 own' ((s.1.b,thP c t n p s.1 (qM c n p t m x f).2.1)::(mh.O (qM c n p t m x f).1++s.1.R c (qM c n p t m x f).2.1 (s.2++Q))):=by
 obtain⟨fb,C,g⟩:=g;unfold qmg at B;cases o:f.dr with
 |none=>
  rw[o] at B g;obtain⟨u,rfl⟩:=g;exact q8i K B o C u L N G I H Q
 |some z=>
  obtain⟨l,j,h0⟩:=z;rw[o] at B g;obtain⟨d,da,dc,dD,p0,ps,u,⟨O,R,J,T⟩,rfl⟩:=g;cases l with
  |nil=>cases J
  |cons b0 l=>
   exact q87 (qeE K B o C u O R J T L N G Q) (by simp only[zd,zk];rfl)
theorem qgV(hi:i.op=16)(O:mh.ok m.L)(R:qhZ n m ⟨false,0,0,none⟩)(j:h.lb.fp= .pointer none)(g:h.lb.dp= .pointer none)(H:h.ok x)(T:x.obs.length<=100000)(K:x.th.pc<=100000)(J:x.lm.length<=1000)(I:∀q∈x.lm,0<=q.1/\q.1<qh c)(Q:Own):
  jk W0 81 [ptr h.b,ptr mh.mb,i.v] ((h.b,thP c t n p h x)::(mh.O m++h.R c x Q)) fun v own'=>
  ∃s:TH×Own,(v= .tuple #[stV {(qM c n p t m x ⟨false,0,0,none⟩).2.2.1 with t:=0},j6]/\WtQ W0 c t n h (qM c n p t m x ⟨false,0,0,none⟩).2.1 s)/\Ent W0 own' ((s.1.b,thP c t n p s.1 (qM c n p t m x ⟨false,0,0,none⟩).2.1)::(mh.O (qM c n p t m x ⟨false,0,0,none⟩).1++s.1.R c (qM c n p t m x ⟨false,0,0,none⟩).2.1 (s.2++Q))):=by
 refine sH (jo 15 3 (34::35::37::39::42::0::(jo 9 3 [22,23,25,27,30,0]))) ?_;have N:=fun(fb:Nat) (h:TH) (j:h.lb.fp=ptr fb) (g:h.lb.dp= .pointer none) (H:h.ok x) Q=>q8i (W0:=W0) (c:=c) (t:=t) (n:=n) (p:=p) (fb:=fb) O R rfl j g H T K J I Q
 generalize qM c n p t m x ⟨false,0,0,none⟩=z at*;obtain⟨hb,ap,⟨G,fp,dp⟩,ca,cc,sa,sc,sD,oa,oc,oD,la,lc,lD⟩:=h;obtain⟨C,B,u⟩:=H;dsimp only at j g C B u ⊢;subst j;subst g;obtain⟨op,ia,ib,ic,imm⟩:=i;dsimp only[Ins.v] at hi ⊢;subst hi
 repeat'((try conv=>whnf);first|refine fE ?_|refine fD ?_|(apply qe;first|refine qk (q9o t n _) fun fb v L=>?_;(subst L;have o:=N fb ⟨hb,ap,⟨G,ptr fb, .pointer none⟩,ca,cc,sa,sc,sD,oa,oc,oD,la,lc,lD⟩ rfl rfl ⟨C,B,u⟩;dsimp only at o)|refine qn (b:=hb) (D:=mh.O m++(sD++(oD++((G,lmP c la x.lm.length lc)::(lD++((fb,feP t n ⟨false,0,0,none⟩):: [])))))) o (fun Q=>sbE) fun s v L=>?_;obtain⟨rfl,U⟩:=L)|refine fA ?_|refine fL ?_|refine fN ?_|refine fM ?_|refine qg fun bk hbk=>?_)
 all_goals exact⟨s,⟨rfl,U⟩,sbE⟩
theorem qgW{o:Own}(O:qE W0)(L:AnK c p {x with seen:= [],ct:=x.ct+1,stg:=true,ask:=0} i)(U:0<=c.reads/\c.reads<=32)(J:1<=c.writes/\c.writes<=32)(u:c.allocs<=1000/\c.frees<=1000)(G:x.ct<=100000)(q:okA c t m a0T)(N:RdE Ins.enc 5 W0 o h.ca p)(g:p[x.th.pc]? =some i)(I:c.strong=true)(H:0<=c.words/\c.words<=1099511627776)(R:mh.ok m.L)(hi:i.op=12\/i.op=13)(T:h.ok x)(C:x.at'=none)(B:h.ap= .pointer none)(K:Int)(Q:Own) [eq:qx Q o]:
  jk W0 81 [ptr h.b,ptr mh.mb,i.v] ((h.b,thP c t n p h x)::(mh.O m++h.R c x Q)) fun v own'=>
  ∃s:TR,(v= .tuple #[stV {(q0c c p t m x i).2.2.1 with t:=0}, .slice s.ea s.el.length s.ec]/\s.ok W0 c t h (q0c c p t m x i).2.1 (q0c c p t m x i).2.2.2 K)/\Ent W0 own' (s.O c t n p (q0c c p t m x i).2.1 (mh.O (q0c c p t m x i).1++Q)):=by
 refine sH (jo 15 3 (34::35::37::39::42::0::(jo 9 3 [22,23,25,27,30,0]))) ?_;have j:=fun(Q:Own) (eq:qx Q o)=>qeC (W0:=W0) (c:=c) (t:=t) (n:=n) (p:=p) O L U J u G q N g I H R hi T C B K Q
 clear L;generalize q0c c p t m x i=z at*;obtain⟨hb,ap,lb,ca,cc,sa,sc,sD,oa,oc,oD,la,lc,lD⟩:=h;clear g;obtain⟨op,ia,ib,ic,imm⟩:=i;dsimp only[Ins.v] at hi j ⊢
 rcases hi with rfl|rfl
 all_goals
  repeat'((try conv=>whnf);first|refine fE ?_|refine fD ?_|(apply qe;first|refine q0e (F:=o) (b:=hb) (D:=mh.O m++(sD++(oD++((lb.l,lmP c la x.lm.length lc)::(lD++ []))))) j (fun Q=>sbE) fun s v W=>?_;obtain⟨rfl,V⟩:=W)|refine fO ?_|refine fA ?_|refine fL ?_|refine fM ?_|refine qg fun bk hbk=>?_)
 all_goals exact⟨s,⟨rfl,V⟩,sbE⟩
end
open Go
structure GoC(c:Cfg)(p:jf):Prop where
 hr:0<=c.reads/\c.reads<=32
 hw:1<=c.writes/\c.writes<=32
 hcw:0<=c.words/\c.words<=64
 ax:c.allocs<=1000/\c.frees<=1000
 hp:p.length<=100000
 hck:(qB p).2=0
 hend:∀b i,p[b]? =some i->i.op=7->q0B p b<=100000
def locI(i:Ins):Prop:=(0<=i.op/\i.op<=6)\/i.op=17
structure GoT(c:Cfg)(p:jf)(n t:Nat)(m:MS)(x:GT)(i:Ins):Prop where
 hi:p[x.th.pc]? =some i
 ic:qc8 i
 rg:x.th.rg.ok
 hpc:x.th.pc<=1000
 dn:x.th.dn=false
 hl:x.seen.length<=100000
 hl2:x.obs.length<=100000
 ct:x.ct<=100000
 tr:x.tr<=100000
 ask:x.ask<=100000
 lm:x.lm.length<=1000
 lb:∀q∈x.lm,0<=q.1/\q.1<qh c
 at':match x.at' with
  |none=>(match x.fn with
   |some f=>qmg c n m f
   |none=>locI i\/(i.op=7/\x.stg=false/\okA c t m a0T)\/((i.op=12\/i.op=13)/\c.strong=true/\okA c t m a0T)\/(i.op=16/\qhZ n m ⟨false,0,0,none⟩))
  |some a=>x.fn=none/\(x.stg=true->i.op=12\/i.op=13)/\(x.stg=false->∃bi,p[x.bg]? =some bi/\bi.op=7)/\((a.busy=true/\okA c t m a/\qf8 c t m a)\/
   (a.ph= .idle/\a.st=1/\((x.stg=true/\okA c t m (q1i c x a i)/\qf8 c t m (q1i c x a i))\/(x.stg=false/\(locI i\/(rqI i/\okA c t m (q11 c x.th.rg a i)/\qf8 c t m (q11 c x.th.rg a i)))))))
theorem GT.dn_eq{x:GT}(e:x.th.dn=false):∃x':GT,x={x' with th:={x'.th with dn:=false}}:=⟨x,by obtain⟨⟨_,_,_,_⟩,_,_,_,_,_,_,_,_,_,_,_⟩:=x;cases e;rfl⟩
def GT.codZ(c:Cfg)(t:Int)(m:MS)(x:GT)(i:Ins):Int:=match x.at' with
 |none=>0
 |some a=>if a.busy then(qf c t m a).2.1.code else if x.stg then(qf c t m (q1i c x a i)).2.1.code else(qf c t m (q11 c x.th.rg a i)).2.1.code
structure qip(W0:World)(c:Cfg)(t n:Nat)(h:TH)(s:TR×Own)(x:GT)(es:jj)(cd:Int):Prop where
 b:s.1.h.b=h.b
 ca:s.1.h.ca=h.ca
 ok:s.1.h.ok x
 at':AtO W0 c t s.1.h x s.1.A
 ev:EvO W0 s.1.ea s.1.ec s.1.el s.1.eD
 em:s.1.el.map EH.m=es
 fe:FeO W0 c s.1.h.lb t n x.fn s.2
 ll:s.1.h.lb.l=h.lb.l
 ap:h.ap≠ .pointer none->x.at'≠none->s.1.h.ap=h.ap
 lv:∀b0:Nat,h.ap=ptr b0->x.at'=none->∃(ah:AH) (a:AT) (k:Int),(b0,atP c t ah a k)∈s.1.A/\a.code=cd
section
variable{W0:World}{own Q E A F:Own}{c:Cfg}{t n:Nat}{p:jf}{h:TH}{x:GT}{k:Int}{b e:Nat}{a:AT}{ah:AH}{mh:MH}{m:MS}{i:Ins}
theorem q61{t:Int}:(q0A c p t m x a i).2.2.1.t=t/\(q0A c p t m x a i).2.1.fn=x.fn:=by
 refine⟨rfl,?_⟩;unfold q0A GT.ans GT.endS GT.accG GT.endG GT.to;dsimp only
 (repeat' split) <;>rfl
theorem qcL{t:Int}:(q1m c p t m x i).2.2.1.t=t/\(q1m c p t m x i).2.1.fn=x.fn:=by
 unfold q1m
 split
 ·exact q61
 ·split
  ·split
   ·exact q61
   ·exact⟨rfl,rfl⟩
  ·exact⟨rfl,rfl⟩
theorem qat{t:Int}:(q0c c p t m x i).2.2.1.t=t/\(q0c c p t m x i).2.1.fn=x.fn:=by
 unfold q0c
 split
 ·exact⟨rfl,rfl⟩
 ·exact q61
theorem qcM(g:¬(i.op=12\/i.op=13))(j:i.op≠16){t:Int}:q2l c p n t m x i=q1m c p t m x i:=by
 unfold q2l;rw[if_neg g,if_neg j]
theorem q7e{t:Int}{f:FT}:(qM c n p t m x f).2.2.1.t=t/\(qM c n p t m x f).2.2.2= []/\(qM c n p t m x f).2.1.at'=x.at':=by
 unfold qM;cases f.dr with
 |none=>
  refine⟨rfl,rfl,?_⟩;dsimp only
  (repeat' split) <;>rfl
 |some z=>
  obtain⟨l,q,g⟩:=z;dsimp only;generalize q0p c m q (l.headD 0) g=q;obtain⟨m',z,ac,ph⟩:=q;cases z with
  |none=>refine⟨rfl,rfl,?_⟩;dsimp only;split <;>rfl
  |some z=>exact⟨rfl,rfl,rfl⟩
theorem qlc:(q1i c x a i).ph.en=3:=by
 unfold q1i
 (repeat' split) <;>first|exact qdD c a _|rfl
theorem qip.of{s:TR}{x':GT}{ev:jj}{q:Int}(g:s.ok W0 c t h x' ev q)(u:x'.fn=none)(o:h.lb.fp= .pointer none)(j:h.lb.dp= .pointer none):qip W0 c t n h (s,[]) x' ev q:=
 ⟨g.b,g.ca,g.ok,g.at',g.ev,g.em,by unfold FeO;rw[u];exact⟨by rw[g.lb];exact o,by rw[g.lb];exact j,rfl⟩,by rw[g.lb],g.ap,g.lv⟩
theorem qgZ{cD:Own}(hF:qE W0)(hG:GoC c p)(hT:GoT c p n t m x i)(hh:h.ok x)(aM:AtO W0 c t h x A)(aC:FeO W0 c h.lb t n x.fn F)(hM:mh.ok m.L)(I:RdE Ins.enc 5 W0 cD h.ca p)(Q:Own) [eq:qx Q cD]:
  jk W0 47 [ptr h.b,ptr mh.mb] ((h.b,thP c t n p h x)::(A++(mh.O m++h.R c x (F++Q)))) fun v own'=>
  ∃s:TR×Own,(v= .tuple #[stV (qY c p n t m x).2.2.1, .slice s.1.ea s.1.el.length s.1.ec, .bool true]/\qip W0 c t n h s (qY c p n t m x).2.1 (qY c p n t m x).2.2.2 (x.codZ c t m i))/\Ent W0 own' (s.1.O c t n p (qY c p n t m x).2.1 (mh.O (qY c p n t m x).1++(s.2++Q))):=by
 refine sH (jo 11 3 [26,28,0]) ?_;obtain⟨hi,aK,bE,bD,aJ,hl,aP,bA,bL,bz,aQ,bB,j⟩:=hT;unfold qY GT.codZ;rw[hi];dsimp only;unfold AtO at aM;cases hx:x.at' with
 |none=>
  rw[hx] at j aM;have g:h.ap= .pointer none:=aM;dsimp only at j ⊢;cases ae:x.fn with
  |some f=>
   rw[ae] at j aC;dsimp only at j ⊢;have aj:=fun Q=>qh0 (W0:=W0) (c:=c) (t:=t) (n:=n) (p:=p) hM j aC hh aP Yb aQ bB Q
   have af:=q7e (c:=c) (n:=n) (p:=p) (m:=m) (x:=x) (t:=t) (f:=f);rw[hx] at af;obtain⟨fb,B, -⟩:=aC;generalize qM c n p t m x f=z at aj af ⊢;obtain⟨m',x',⟨st,aY,sat,aX⟩,ev⟩:=z;dsimp only at af aj ⊢;obtain⟨rfl,rfl,bu⟩:=af;obtain⟨x0,rfl⟩:=GT.dn_eq aJ;obtain⟨o,ap,⟨q,fp,dp⟩,ca,cc,sa,sc,sD,oa,oc,oD,la,lc,lD⟩:=h;dsimp only at g B I aj ⊢;subst g;subst B
   repeat'((try conv=>whnf);first|refine fH ?_|refine fE ?_|refine fD ?_|(apply qL;first|refine ixE I hi ?_ ?_;(first|rfl|omega))|apply q27;refine q0O I hi rfl ?_|(apply qe;first|refine qn (b:=o) (D:=mh.O m++(sD++(oD++((q,lmP c la x0.lm.length lc)::(lD++(F++ [])))))) aj (fun Q=>sbE) fun s v hv=>?_;obtain⟨⟨K,Z,⟨aW,bo,bm⟩,G,H,X,Y,W,U,V,T,O,R,N⟩,F1⟩:=s;obtain⟨rfl,aF,aG,aS,aT,aU,aV⟩:=hv;dsimp only at aF aG aS aT aU aV;subst aF;subst aG;subst aS;subst aT)|refine fA ?_|refine fL ?_|refine fN ?_|refine fM ?_|refine qg fun bk aN=>?_)
   all_goals exact⟨(⟨⟨K, .pointer none,⟨aW,bo,bm⟩,G,H,X,Y,W,U,V,T,O,R,N⟩,[],none,0,[],[]⟩,F1),⟨rfl,⟨rfl,rfl,aU,by unfold AtO;rw[bu],EvO.nil,rfl,aV,rfl,fun _ _=>rfl,fun _ h _=>nomatch h⟩⟩,by unfold TR.O;dsimp only;simp only[zd,zk,zj];exact sbE⟩
  |none=>
   rw[ae] at j aC;dsimp only at j ⊢;obtain⟨B,C,rfl⟩:=aC
   by_cases aL:i.op=16
   ·have aq:qhZ n m ⟨false,0,0,none⟩:=by
     unfold locI at j
     rcases j with h|h|h|h
     ·omega
     ·omega
     ·omega
     ·exact h.2
    have aj:=fun Q=>qgV (W0:=W0) (c:=c) (t:=t) (n:=n) (p:=p) (i:=i) aL hM aq B C hh aP Yb aQ bB Q
    have aA:q2l c p n t m x i=qM c n p t m x ⟨false,0,0,none⟩:=by unfold q2l;rw[if_neg Yb,if_pos aL]
    rw[aA];have af:=q7e (c:=c) (n:=n) (p:=p) (m:=m) (x:=x) (t:=t) (f:=⟨false,0,0,none⟩);rw[hx] at af;generalize qM c n p t m x ⟨false,0,0,none⟩=z at aj af ⊢;obtain⟨m',x',⟨st,aY,sat,aX⟩,ev⟩:=z;dsimp only at af aj ⊢;obtain⟨rfl,rfl,bu⟩:=af;obtain⟨x0,rfl⟩:=GT.dn_eq aJ;obtain⟨o,ap,⟨q,fp,dp⟩,ca,cc,sa,sc,sD,oa,oc,oD,la,lc,lD⟩:=h;dsimp only at g B C I aj ⊢;subst g;subst B;subst C
    repeat'((try conv=>whnf);first|refine fH ?_|refine fI ?_|refine fD ?_|(apply qL;first|refine ixE I hi ?_ ?_;(first|rfl|omega))|apply q27;refine q0O I hi rfl ?_|(apply qe;first|refine qn (b:=o) (D:=mh.O m++(sD++(oD++((q,lmP c la x0.lm.length lc)::(lD++ []))))) aj (fun Q=>sbE) fun s v hv=>?_;obtain⟨⟨K,Z,⟨aW,bo,bm⟩,G,H,X,Y,W,U,V,T,O,R,N⟩,F1⟩:=s;obtain⟨rfl,aF,aG,aS,aT,aU,aV⟩:=hv;dsimp only at aF aG aS aT aU aV;subst aF;subst aG;subst aS;subst aT)|refine fO ?_|refine fA ?_|refine fL ?_|refine fN ?_|refine fM ?_|refine qg fun bk aN=>?_)
    all_goals exact⟨(⟨⟨K, .pointer none,⟨aW,bo,bm⟩,G,H,X,Y,W,U,V,T,O,R,N⟩,[],none,0,[],[]⟩,F1),⟨rfl,⟨rfl,rfl,aU,by unfold AtO;rw[bu],EvO.nil,rfl,aV,rfl,fun _ _=>rfl,fun _ h _=>nomatch h⟩⟩,by unfold TR.O;dsimp only;simp only[zd,zk,zj];exact sbE⟩
   ·have J:∀(Q:Own),qx Q cD->jk W0 81 [ptr h.b,ptr mh.mb,i.v] ((h.b,thP c t n p h x)::(mh.O m++h.R c x Q)) fun v own'=>
      ∃s:TR,(v= .tuple #[stV {(q2l c p n t m x i).2.2.1 with t:=0}, .slice s.ea s.el.length s.ec]/\s.ok W0 c t h (q2l c p n t m x i).2.1 (q2l c p n t m x i).2.2.2 0)/\Ent W0 own' (s.O c t n p (q2l c p n t m x i).2.1 (mh.O (q2l c p n t m x i).1++Q)):=by
     intro Q _
     by_cases u:i.op=12\/i.op=13
     ·have aA:q2l c p n t m x i=q0c c p t m x i:=by unfold q2l;rw[if_pos u]
      rw[aA];obtain⟨aF,aG⟩:c.strong=true/\okA c t m a0T:=by
       unfold locI at j
       rcases j with h|h|h|h
       ·omega
       ·omega
       ·exact h.2
       ·omega
      exact qgW hF ⟨aQ,zl _,aP,hG.hp,by dsimp only;omega,hG.hck,aK,fun _=>u,fun h=>by cases h⟩ hG.hr hG.hw hG.ax bA aG I hi aF (by have:=hG.hcw;omega) hM u hh hx g 0 Q
     ·rw[qcM u aL]
      rcases j with br|⟨h7,aZ,hA⟩|h|h
      ·exact qeA br aK bE hh hx g bD 0 Q
      ·exact qgU h7 g hF hh ⟨aQ,zl _,aP,hG.hp,by dsimp only;omega,hG.hck,aK,fun h=>(by dsimp only at h;rw[aZ] at h;cases h),fun _=>⟨i,hi,h7,hG.hend _ _ hi h7⟩⟩ hG.hr hG.hw hG.ax bA bL hM hA I hi 0 Q
      ·exact absurd h.1 u
      ·exact absurd h.1 aL
    have het:(q2l c p n t m x i).2.2.1.t=t/\(q2l c p n t m x i).2.1.fn=x.fn:=by
     by_cases u:i.op=12\/i.op=13
     ·have aA:q2l c p n t m x i=q0c c p t m x i:=by unfold q2l;rw[if_pos u]
      rw[aA];exact qat
     ·rw[qcM u aL];exact qcL
    rw[ae] at het;generalize q2l c p n t m x i=z at J het ⊢;obtain⟨m',x',⟨st,aY,sat,aX⟩,ev⟩:=z;dsimp only at het J ⊢;obtain⟨rfl,aB⟩:=het;obtain⟨x0,rfl⟩:=GT.dn_eq aJ;obtain⟨o,ap,⟨q,fp,dp⟩,ca,cc,sa,sc,sD,oa,oc,oD,la,lc,lD⟩:=h;dsimp only at g B C I J ⊢;subst g;subst B;subst C;simp only[zj]
    repeat'((try conv=>whnf);first|refine fH ?_|refine fI ?_|refine fD ?_|(apply qL;first|refine ixE I hi ?_ ?_;(first|rfl|omega))|apply q27;refine q0O I hi rfl ?_|(apply qe;first|refine q0e (F:=cD) (b:=o) (D:=mh.O m++(sD++(oD++((q,lmP c la x0.lm.length lc)::(lD++ []))))) J (fun Q=>sbE) fun s v hv=>?_;(obtain⟨⟨K,Z,aH,G,H,X,Y,W,U,V,T,O,R,N⟩,A1,av,aw,ay,au⟩:=s;obtain⟨rfl,hs⟩:=hv;have az:o=K:=hs.b.symm;subst az;have L:aH=⟨q, .pointer none, .pointer none⟩:=hs.lb;subst L))|refine fO ?_|refine fA ?_|refine fL ?_|refine fN ?_|refine fM ?_|refine qg fun bk aN=>?_)
    all_goals exact⟨(⟨⟨o,Z,⟨q, .pointer none, .pointer none⟩,G,H,X,Y,W,U,V,T,O,R,N⟩,A1,av,aw,ay,au⟩,[]),⟨rfl,qip.of hs aB rfl rfl⟩,by dsimp only;simp only[zj];exact sbE⟩
 |some a=>
  rw[hx] at j aM;obtain⟨ah,E,g,aq,hP,rfl⟩:=aM;dsimp only at j ⊢;obtain⟨ae,aZ,bK,j⟩:=j;rw[ae] at aC ⊢;obtain⟨B,C,rfl⟩:=aC;dsimp only;have hk:AnK c p x i:=⟨aQ,hl,aP,hG.hp,Yb,hG.hck,aK,aZ,fun h=>by
   obtain⟨bi,h1,h2⟩:=bK h;exact⟨bi,h1,h2,hG.hend _ _ h1 h2⟩⟩
  have aI:=fun(own':Own) (m1:qy ah.b (atP c t ah a a.ph.no) own')=>q29 (W0:=W0) (own:=own') (a:=a) (ah:=ah) (qj m1 rfl)
  rcases j with ⟨hb,hA,aO⟩|⟨aR,bF,j⟩
  ·rw[if_pos hb,if_pos hb];rw[hb] at aI;have J:=fun(Q:Own) (eq:qx Q cD)=>q5w (t:=t) (n:=n) (i:=i) hF hk hh g aq hM hP hA I hi aO Q
   clear hk;have het:=q61 (c:=c) (p:=p) (t:=t) (m:=m) (x:=x) (a:=a) (i:=i);rw[ae] at het;generalize (qf c t m a).2.1.code=cd at J ⊢;generalize q0A c p t m x a i=z at J het ⊢;obtain⟨m',x',⟨st,aY,sat,aX⟩,ev⟩:=z;dsimp only at het J ⊢;obtain⟨rfl,aB⟩:=het;obtain⟨x0,rfl⟩:=GT.dn_eq aJ;obtain⟨o,ap,⟨q,fp,dp⟩,ca,cc,sa,sc,sD,oa,oc,oD,la,lc,lD⟩:=h;dsimp only at g B C I J ⊢;subst g;subst B;subst C;simp only[zd,zk,zj]
   repeat'((try conv=>whnf);first|refine fH ?_|refine fE ?_|refine fD ?_|(apply qL;first|refine ixE I hi ?_ ?_;(first|rfl|omega))|apply q27;refine q0O I hi rfl ?_|(apply qe;first|refine qd (aI _ Ye) ?_|refine q0e (F:=cD) (b:=o) (D:=AH.O ah c t a a.ph.no a.ph.en (E++(mh.O m++(sD++(oD++((q,lmP c la x0.lm.length lc)::(lD++ []))))))) J (fun Q=>sbE) fun s v hv=>?_;(obtain⟨⟨K,Z,aH,G,H,X,Y,W,U,V,T,O,R,N⟩,A1,av,aw,ay,au⟩:=s;obtain⟨rfl,hs⟩:=hv;have az:o=K:=hs.b.symm;subst az;have L:aH=⟨q, .pointer none, .pointer none⟩:=hs.lb;subst L))|refine fO ?_|refine fA ?_|refine fL ?_|refine fN ?_|refine fM ?_|refine qg fun bk aN=>?_)
   all_goals exact⟨(⟨⟨o,Z,⟨q, .pointer none, .pointer none⟩,G,H,X,Y,W,U,V,T,O,R,N⟩,A1,av,aw,ay,au⟩,[]),⟨rfl,qip.of hs aB rfl rfl⟩,by dsimp only;simp only[zj];exact sbE⟩
  ·have hb:a.busy=false:=by unfold AT.busy;rw[aR]
   have hE:E= []:=by unfold PhO at hP;rw[aR] at hP;exact hP
   subst hE;rw[hb] at aI;have bC:¬a.busy=true:=by rw[hb];decide
   rw[if_neg bC,if_neg bC];rw[show a.ph.no=0 by rw[aR];rfl] at aI ⊢;rw[show a.ph.en=3 by rw[aR];rfl]
   rcases j with ⟨aE,hA,aO⟩|⟨aE,j⟩
   ·rw[if_pos aE,if_pos aE,show({x with at':=some a,fn:=none,ask:=x.ask+1}:GT)={x with ask:=x.ask+1} by rw[<-hx,<-ae]];have hQ:=fun Q=>qkk (W0:=W0) (c:=c) (t:=t) (n:=n) (p:=p) (x:=x) g aq bF hG.hcw (aZ aE) aK bz Q
    have J:=fun(y:AH) (E:Own) (g:h.ap=ptr y.b) (aq:y.ok c (q1i c x a i)) (hP:PhO W0 c t y (q1i c x a i) E) (Q:Own) (eq:qx Q cD)=>
     q5w (t:=t) (n:=n) (x:={x with ask:=x.ask+1}) (i:=i) hF ⟨hk.lm,hk.hl,hk.hl2,hk.hp,hk.pc,hk.ck,hk.ic,hk.sg,hk.ns⟩ ⟨hh.hs,hh.ho,hh.hl⟩ g aq hM hP hA I hi aO Q
    simp only[qlc] at J;clear hk;have het:(q0A c p t m {x with ask:=x.ask+1} (q1i c x a i) i).2.2.1.t=t/\(q0A c p t m {x with ask:=x.ask+1} (q1i c x a i) i).2.1.fn=none:=⟨q61.1,q61.2.trans ae⟩
    generalize (qf c t m (q1i c x a i)).2.1.code=cd at J ⊢;generalize q0A c p t m {x with ask:=x.ask+1} (q1i c x a i) i=z at J het ⊢;generalize q1i c x a i=a' at*;obtain⟨m',x',⟨st,aY,sat,aX⟩,ev⟩:=z;dsimp only at het J ⊢;obtain⟨rfl,aB⟩:=het;obtain⟨x0,rfl⟩:=GT.dn_eq aJ;obtain⟨x1,rfl⟩:=GT.stg_eq (x:=x0) aE;obtain⟨o,ap,⟨q,fp,dp⟩,ca,cc,sa,sc,sD,oa,oc,oD,la,lc,lD⟩:=h;dsimp only at g B C I J hQ ⊢;subst g;subst B;subst C;simp only[zd,zk,zj]
    repeat'((try conv=>whnf);first|refine fH ?_|refine fE ?_|refine fD ?_|(apply qL;first|refine ixE I hi ?_ ?_;(first|rfl|omega))|apply q27;refine q0O I hi rfl ?_|(apply qe;first|refine qd (aI _ Ye) ?_|refine qn (b:=o) (D:=AH.O ah c t a 0 3 []) hQ (fun Q=>sbE) fun y v hv=>?_;(obtain⟨bw,E1⟩:=y;obtain⟨rfl,bG,bH,hyp⟩:=hv;dsimp only at bG bH hyp;have bI:=J bw E1 (by rw[bG]) bH hyp)|refine q0e (F:=cD) (b:=o) (D:=AH.O bw c t a' a'.ph.no 3 (E1++(mh.O m++(sD++(oD++((q,lmP c la x1.lm.length lc)::(lD++ []))))))) bI (fun Q=>sbE) fun s v hv=>?_;(obtain⟨⟨K,Z,aH,G,H,X,Y,W,U,V,T,O,R,N⟩,A1,av,aw,ay,au⟩:=s;obtain⟨rfl,hs⟩:=hv;have az:o=K:=hs.b.symm;subst az;have L:aH=⟨q, .pointer none, .pointer none⟩:=hs.lb;subst L))|refine fO ?_|refine fA ?_|refine fL ?_|refine fN ?_|refine fM ?_|refine qg fun bk aN=>?_)
    all_goals exact⟨(⟨⟨o,Z,⟨q, .pointer none, .pointer none⟩,G,H,X,Y,W,U,V,T,O,R,N⟩,A1,av,aw,ay,au⟩,[]),⟨rfl,qip.of hs aB rfl rfl⟩,by dsimp only;simp only[zj];exact sbE⟩
   ·have bh:¬x.stg=true:=by rw[aE];decide
    rw[if_neg bh,if_neg bh];have aA:q2l c p n t m x i=q1m c p t m x i:=by
     have:locI i\/rqI i:=j.imp id fun h=>h.1
     unfold locI rqI at this;exact qcM Yb Yb
    rw[aA];have J:∀(Q:Own),qx Q cD->jk W0 81 [ptr h.b,ptr mh.mb,i.v] ((h.b,thP c t n p h x)::ah.O c t a 0 3 (mh.O m++h.R c x Q)) fun v own'=>
      ∃s:TR,(v= .tuple #[stV {(q1m c p t m x i).2.2.1 with t:=0}, .slice s.ea s.el.length s.ec]/\s.ok W0 c t h (q1m c p t m x i).2.1 (q1m c p t m x i).2.2.2 (qf c t m (q11 c x.th.rg a i)).2.1.code)/\Ent W0 own' (s.O c t n p (q1m c p t m x i).2.1 (mh.O (q1m c p t m x i).1++Q)):=by
     intro Q _
     rcases j with br|⟨bJ,hA,aO⟩
     ·exact qeB br aK bE hh hx aR g aq bD _ Q
     ·exact qgX hF hk hh hx g aq bF hG.hcw bJ hM hA I hi aO Q
    clear hk;have het:=qcL (c:=c) (p:=p) (t:=t) (m:=m) (x:=x) (i:=i);rw[ae] at het;generalize (qf c t m (q11 c x.th.rg a i)).2.1.code=cd at J ⊢;generalize q1m c p t m x i=z at J het ⊢;obtain⟨m',x',⟨st,aY,sat,aX⟩,ev⟩:=z;dsimp only at het J ⊢;obtain⟨rfl,aB⟩:=het;obtain⟨x0,rfl⟩:=GT.dn_eq aJ;obtain⟨x1,rfl⟩:=GT.stg_eq (x:=x0) aE;obtain⟨o,ap,⟨q,fp,dp⟩,ca,cc,sa,sc,sD,oa,oc,oD,la,lc,lD⟩:=h;dsimp only at g B C I J ⊢;subst g;subst B;subst C;simp only[zd,zk,zj]
    repeat'((try conv=>whnf);first|refine fH ?_|refine fD ?_|(apply qL;first|refine ixE I hi ?_ ?_;(first|rfl|omega))|apply q27;refine q0O I hi rfl ?_|(apply qe;first|refine qd (aI _ Ye) ?_|refine q0e (F:=cD) (b:=o) (D:=AH.O ah c t a 0 3 (mh.O m++(sD++(oD++((q,lmP c la x1.lm.length lc)::(lD++ [])))))) J (fun Q=>sbE) fun s v hv=>?_;(obtain⟨⟨K,Z,aH,G,H,X,Y,W,U,V,T,O,R,N⟩,A1,av,aw,ay,au⟩:=s;obtain⟨rfl,hs⟩:=hv;have az:o=K:=hs.b.symm;subst az;have L:aH=⟨q, .pointer none, .pointer none⟩:=hs.lb;subst L))|refine fO ?_|refine fA ?_|refine fL ?_|refine fN ?_|refine fM ?_|refine qg fun bk aN=>?_)
    all_goals exact⟨(⟨⟨o,Z,⟨q, .pointer none, .pointer none⟩,G,H,X,Y,W,U,V,T,O,R,N⟩,A1,av,aw,ay,au⟩,[]),⟨rfl,qip.of hs aB rfl rfl⟩,by dsimp only;simp only[zj];exact sbE⟩
end
open Go
structure TW where
 h:TH
 A:Own
 F:Own
 cD:Own
 x:GT
 p:jf
structure TW.ok(W0:World)(c:Cfg)(n t:Nat)(y:TW):Prop where
 ok:y.h.ok y.x
 at':AtO W0 c t y.h y.x y.A
 fe:FeO W0 c y.h.lb t n y.x.fn y.F
 C:RdE Ins.enc 5 W0 y.cD y.h.ca y.p
def ThO(c:Cfg)(n t:Nat)(y:TW):Own:=(y.h.b,thP c t n y.p y.h y.x)::(y.A++y.h.R c y.x (y.F++y.cD))
def TsO(c:Cfg)(n:Nat):Nat->List TW->Own
 |_,[]=> []
 |k,y::l=>ThO c n k y++TsO c n (k+1) l
theorem q2T{c:Cfg}{n:Nat}:∀(L:List TW) (k t:Nat) (y:TW),L[t]? =some y->TsO c n k L=TsO c n k (L.take t)++(ThO c n (k+t) y++TsO c n (k+t+1) (L.drop (t+1)))
 | [],_,_,_,h=>by simp at h
 |z::L,k,0,y,h=>by
  simp only[Zr,Option.some.injEq] at h;subst h;rfl
 |z::L,k,t+1,y,h=>by
  rw[List.getElem?_cons_succ] at h;rw[Y4,yi,TsO,TsO,q2T L (k+1) t y h,zd,show k+1+t=k+(t+1) by omega]
theorem qit{c:Cfg}{n:Nat}{L:List TW}{t:Nat}{y y':TW}(h:L[t]? =some y):TsO c n 0 (L.set t y')=TsO c n 0 (L.take t)++(ThO c n t y'++TsO c n (t+1) (L.drop (t+1))):=by
 have g:=(z7.1 h).1;have j:(L.set t y')[t]? =some y':=by rw[zx];simp[g]
 rw[q2T _ 0 t y' j,List.take_set_of_le (zN _),Y3 Yb,zy]
structure MQ where
 b:Nat
 mh:MH
 ta:j8
 tc:Nat
 tD:Own
 sa:j8
 sc:Nat
 sD:Own
 ea:j8
 ec:Nat
 eD:Own
 el:List EH
 gD:Own
 L:List TW
abbrev maP(M:MQ)(S:List StM):Obj->Prop:=fun z=>z=Obj.cells #[ptr M.mh.mb, .slice M.ta (M.L.map fun y=>y.h.b).length M.tc, .slice M.sa S.length M.sc, .slice M.ea M.el.length M.ec] 105 (0,0)
abbrev MQ.O(M:MQ)(c:Cfg)(n:Nat)(m:MS)(S:List StM)(Q:Own):Own:=(M.b,maP M S)::(M.mh.O m++(M.tD++(M.sD++(M.eD++(M.gD++(TsO c n 0 M.L++Q))))))
structure MQ.ok(W0:World)(c:Cfg)(n:Nat)(M:MQ)(m:MS)(S:List StM)(ev:jj):Prop where
 hM:M.mh.ok m.L
 ht:RdE qf9 1 W0 M.tD M.ta (M.L.map fun y=>y.h.b)
 hs:qq StM.enc 111 9 M.sa M.sc S M.sD
 he:qq EH.enc 83 6 M.ea M.ec M.el M.eD
 hv:∀e∈M.el,(RdE qw 1 W0 M.gD e.ra e.rl/\RdE qw 1 W0 M.gD e.wa e.wl)/\e.rl.length<=100000/\e.wl.length<=100000
 hL:∀(t:Nat) (y:TW),M.L[t]? =some y->y.ok W0 c n t
 le:M.el.length<=S.length
 em:M.el.map EH.m=ev
theorem qfM{L:List TW}{t:Nat}{y y':TW}(h:L[t]? =some y)(e:y'.h.b=y.h.b):((L.set t y').map fun y=>y.h.b)=L.map fun y=>y.h.b:=by
 rw[Y6,e];refine Z8 fun j=>?_
 rw[zx]
 split
 ·rename_i g;subst g;have:=(z7.1 h).1;rw[if_pos (by simpa using this),zI,h];rfl
 ·rfl
structure SaL(m m':MS):Prop where
 d:m'.d.length=m.d.length
 o:m'.o.length=m.o.length
 sl:m'.sl.length=m.sl.length
 hd:m'.hd.length=m.hd.length
 nx:m'.nx.length=m.nx.length
theorem SaL.refl{m:MS}:SaL m m:=⟨rfl,rfl,rfl,rfl,rfl⟩
theorem MH.ok.to{h:MH}{m m':MS}(k:h.ok m.L)(s:SaL m m'):h.ok m'.L:=by
 refine⟨k.fd,fun j o=>?_,rfl,k.bd⟩;rw[<-k.ln j o];have g:j=0\/j=1\/j=2\/j=3\/j=4\/j=5\/j=6\/j=7:=Yb
 rcases g with rfl|rfl|rfl|rfl|rfl|rfl|rfl|rfl
 ·exact s.d
 ·exact s.o
 ·rfl
 ·rfl
 ·rfl
 ·exact s.sl
 ·exact s.hd
 ·exact s.nx
theorem qaw(c:Cfg)(m:MS)(n:Nat)(b h:Int):SaL m (q0p c m n b h).1:=by
 unfold q0p
 (repeat' split) <;>exact⟨rfl,rfl,rfl,Yd,Yd⟩
theorem qeP(c:Cfg)(t:Int)(m:MS)(x:AT):SaL m (qf c t m x).1:=by
 cases g:x.ph with
 |ph k b v=>
  have:=qaw c m k b v;unfold qf;simp only[g];generalize q0p c m k b v=z at*;obtain⟨m',o,ac,q⟩:=z;cases o <;>exact this
 |lk s ld=>
  rw[q34 g]
  (repeat' split) <;>exact⟨rfl,Yd,rfl,rfl,rfl⟩
 |tn b=>cases b <;>(unfold qf;simp only[g];exact⟨rfl,rfl,rfl,rfl,rfl⟩)
 |_=>
  unfold qf;simp only[g]
  (repeat' split) <;>exact⟨Yd,Yd,Yd,Yd,Yd⟩
theorem q3n(c:Cfg)(p:jf)(t:Int)(m:MS)(x:GT)(a:AT)(i:Ins):SaL m (q0A c p t m x a i).1:=by
 unfold q0A;exact qeP _ _ _ _
theorem qfv(c:Cfg)(p:jf)(t:Int)(m:MS)(x:GT)(i:Ins):SaL m (q1m c p t m x i).1:=by
 unfold q1m
 split
 ·exact q3n _ _ _ _ _ _ _
 ·split
  ·split
   ·exact q3n _ _ _ _ _ _ _
   ·exact SaL.refl
  ·exact SaL.refl
theorem qeQ(c:Cfg)(p:jf)(n:Nat)(t:Int)(m:MS)(x:GT):SaL m (qY c p n t m x).1:=by
 have hw:∀f,SaL m (qM c n p t m x f).1:=fun f=>by
  unfold qM;cases f.dr with
  |none=>exact SaL.refl
  |some z=>
   obtain⟨l,q,g⟩:=z;have:=qaw c m q (l.headD 0) g;dsimp only;generalize q0p c m q (l.headD 0) g=z at*;obtain⟨m',o,ac,ph⟩:=z;cases o <;>exact this
 have j:∀i,SaL m (q0c c p t m x i).1:=fun i=>by
  unfold q0c
  split
  ·exact SaL.refl
  ·exact q3n _ _ _ _ _ _ _
 have he:∀i,SaL m (q2l c p n t m x i).1:=fun i=>by
  unfold q2l
  split
  ·exact j i
  ·split
   ·exact hw _
   ·exact qfv _ _ _ _ _ _
 unfold qY
 split
 ·exact SaL.refl
 ·split
  ·exact hw _
  ·split
   ·split
    ·exact q3n _ _ _ _ _ _ _
    ·split
     ·exact q3n _ _ _ _ _ _ _
     ·exact he _
   ·exact he _
section
variable{W0:World}{own Q:Own}{c:Cfg}{n t:Nat}{p:jf}{M:MQ}{ev:jj}{m:MS}{S:List StM}{y:TW}{i:Ins}
theorem qhl(g:M.L[t]? =some y):(M.L.map fun y=>y.h.b)[t]? =some y.h.b:=by rw[zI,g];rfl
theorem qgS{h:TH}{x:GT}{mb:Nat} [mm:qy h.b (thP c t n p h x) own](g:x.th.dn=true):jk W0 47 [ptr h.b,ptr mb] own fun v own'=>∃_:Unit,v= .tuple #[stV ⟨0,0,0,acz⟩,j6, .bool false]/\Ent W0 own' own:=by
 refine qG (sH (jo 11 3 [26,28,0]) ?_);have j:Cl W0 own h.b 42 (.bool true):=by have:=qj (W0:=W0) (off:=42) mm rfl;rw[g] at this;exact this
 repeat'((try conv=>whnf);first|refine fH ?_|refine fE ?_|refine q0k j ?_|refine fL ?_|refine fM ?_|refine qg fun bk hbk=>?_)
 all_goals exact⟨rfl,sbE⟩
theorem qgy(u:M.ok W0 c n m S ev)(s:M.L[t]? =some y)(o:y.x.th.dn=true)(z:M.L.length<=16)(Q:Own):jk W0 25 [ptr M.b,j4 t] (M.O c n m S Q) fun v own'=>∃_:Unit,v= .bool false/\Ent W0 own' (M.O c n m S Q):=by
 refine qG (sH [3,5,7,9,11,13,15,17,19,21,23,1,26,27,29,31,33,36,38,39,41,0,36,26,27,29,31,33,38,39,41,0,3,5,7,9,11,13,16,18,19,21,24,0,3,5,7,9,11,13,16,18,19,21,24,0] ?_);have j:=qhl s;have hlt:=(z7.1 s).1;have hti:(t:Int)<(M.L.map fun y=>y.h.b).length:=by rw[zi];omega
 have hn2:(M.L.map fun y=>y.h.b).length<=16:=by rw[zi];exact z
 have g:=u.ht;have q:=fun(own':Own) (m1:qy y.h.b (thP c t n y.p y.h y.x) own')=>qgS (W0:=W0) (own:=own') (c:=c) (t:=t) (n:=n) (p:=y.p) (h:=y.h) (x:=y.x) (mb:=M.mh.mb) o
 unfold MQ.O;rw[q2T M.L 0 t y s,zy,ThO];simp only[zd,zk]
 repeat'((try conv=>whnf);first|refine fH ?_|refine fE ?_|refine fG ?_|apply gLd;refine q0n g j rfl ?_|(apply qL;first|refine ixE g j ?_ ?_;(first|rfl|omega))|(apply qe;first|refine qk (q _ Ye) fun _ v B=>?_;subst B)|refine fO ?_|refine fA ?_|refine fM ?_|refine qg fun bk hbk=>?_|refine q1k.mk ?_ ?_)
 all_goals exact⟨rfl,sbE⟩
theorem qgz(hF:qE W0)(hG:GoC c y.p)(g:M.ok W0 c n m S ev)(W:M.L[t]? =some y)(hT:GoT c y.p n t m y.x i)(hn:M.L.length<=16)(hS:S.length<=1000)(Q:Own):jk W0 25 [ptr M.b,j4 t] (M.O c n m S Q) fun v own'=>
  ∃M':MQ,(v= .bool true/\M'.b=M.b/\M'.ok W0 c n (qY c y.p n t m y.x).1 (S++ [(qY c y.p n t m y.x).2.2.1]) (ev++(qY c y.p n t m y.x).2.2.2.map (qnf S.length))/\∃y':TW,y'.x=(qY c y.p n t m y.x).2.1/\y'.p=y.p/\y'.h.b=y.h.b/\(y.h.ap≠ .pointer none->y'.x.at'≠none->y'.h.ap=y.h.ap)/\(∀b0:Nat,y.h.ap=ptr b0->y'.x.at'=none->∃(ah:AH) (a:AT) (k:Int),(b0,atP c t ah a k)∈y'.A/\a.code=y.x.codZ c t m i)/\M'.L=M.L.set t y')/\Ent W0 own' (M'.O c n (qY c y.p n t m y.x).1 (S++ [(qY c y.p n t m y.x).2.2.1]) Q):=by
 refine sH [3,5,7,9,11,13,15,17,19,21,23,1,26,27,29,31,33,36,38,39,41,0,36,26,27,29,31,33,38,39,41,0,3,5,7,9,11,13,16,18,19,21,24,0,3,5,7,9,11,13,16,18,19,21,24,0] ?_;have aA:=qhl W;have hlt:=(z7.1 W).1;have C:=g.hL t y W;unfold MQ.O;rw[q2T M.L 0 t y W,zy,ThO];simp only[zd,zk];have I:=fun(Q:Own) (eq:qx Q y.cD)=>qgZ (W0:=W0) (n:=n) hF hG hT C.ok C.at' C.fe g.hM C.C Q
 have o:=qeQ c y.p n t m y.x;generalize y.x.codZ c t m i=cd at I ⊢;generalize qY c y.p n t m y.x=z at I o ⊢;obtain⟨m',x',s,evs⟩:=z;dsimp only at I o ⊢;have hti:(t:Int)<(M.L.map fun y=>y.h.b).length:=by rw[zi];omega
 have hn2:(M.L.map fun y=>y.h.b).length<=16:=by rw[zi];exact hn
 have az:=g.ht;have aF:=g.he;have aj:=g.hs;have hle:=g.le
 repeat'((try conv=>whnf);first|refine fH ?_|refine fD ?_|refine fG ?_|apply gLd;refine q0n az aA rfl ?_|(apply qL;first|refine ixE az aA ?_ ?_;(first|rfl|omega))|(apply qe;first|refine q0e (F:=y.cD) (b:=y.h.b) (D:=y.A++(M.mh.O m++(y.h.sD++(y.h.oD++((y.h.lb.l,lmP c y.h.la y.x.lm.length y.h.lc)::(y.h.lD++(y.F++ []))))))) I (fun Q=>sbE) fun r v hv=>?_;obtain⟨⟨R,K,ea1,ec1,O,N⟩,L⟩:=r;obtain⟨rfl,H,aq,au,av,B,aw,ay,aG,V,q⟩:=hv;dsimp only at H aq au av B aw ay aG V q;subst aw)|refine fO ?_|refine fA ?_|refine fM ?_|refine qg fun bk Y=>?_|refine q1k.mk ?_ ?_)
 all_goals
  have j:=qfM (y':=⟨R,K,L,y.cD,x',y.p⟩) W H;have J:=qit (c:=c) (n:=n) (y':=⟨R,K,L,y.cD,x',y.p⟩) W;have X:∀(u:Nat) (z:TW),(M.L.set t ⟨R,K,L,y.cD,x',y.p⟩)[u]? =some z->z.ok W0 c n u:=by
   intro u z G;rw[zx] at G
   split at G
   ·rename_i hu;subst hu;cases G;exact⟨au,av,ay,by dsimp only;rw[aq];exact C.C⟩
   ·exact g.hL u z G
  have aC:O= []\/∃e,O= [e]:=by
   have:=B.n
   match O,this with
   | [],_=>exact .inl rfl
   | [e],_=>exact .inr ⟨e,rfl⟩
  rcases aC with rfl|⟨e,rfl⟩
  ·repeat'((try conv=>whnf);first|refine fD ?_|refine q31 2 ?_|refine qg fun bk Y=>?_|apply q0f (enc:=StM.enc) (T:=111) s aj;exact rfl;exact rfl;omega;exact rfl;exact rfl;omega;intro a5 c5 D5 U|refine fA ?_|refine fL ?_|refine fN ?_)
   all_goals
    refine⟨⟨M.b,M.mh,M.ta,M.tc,M.tD,a5,c5,D5,M.ea,M.ec,M.eD,M.el,M.gD,M.L.set t ⟨R,K,L,y.cD,x',y.p⟩⟩,⟨rfl,rfl,⟨g.hM.to o,by dsimp only;rw[j];exact g.ht,U,g.he,g.hv,X,by rw[z8];exact Zn hle,by dsimp only;rw[Zx,Zx,zC];exact g.em⟩,⟨R,K,L,y.cD,x',y.p⟩,rfl,rfl,H,V,q,rfl⟩,?_⟩
    try unfold maP
    dsimp only;rw[j,J,z8];simp only[ThO,zd,zk,zj];exact sbE
  ·have af:=(B.v e (zf.2 rfl)).1;have aE:∀z∈M.el++ [{e with ev:=(S.length:Int)}],(RdE qw 1 W0 (N++M.gD) z.ra z.rl/\RdE qw 1 W0 (N++M.gD) z.wa z.wl)/\z.rl.length<=100000/\z.wl.length<=100000:=by
    intro z G
    rcases zw.1 G with G|G
    ·have:=g.hv z G;exact⟨⟨this.1.1.ent Ent.right,this.1.2.ent Ent.right⟩,this.2⟩
    ·rw[zf] at G;subst G;exact⟨⟨af.1.ent Ent.left,af.2.ent Ent.left⟩,(B.v e (zf.2 rfl)).2⟩
   have ae:=B.r;have Z:([e]:List EH)[0]? =some e:=rfl
   repeat'((try conv=>whnf);first|refine fE ?_|refine fD ?_|refine q31 2 ?_|refine qg fun bk Y=>?_|apply q0f (enc:=StM.enc) (T:=111) s aj;exact rfl;exact rfl;omega;exact rfl;exact rfl;omega;intro a5 c5 D5 U|apply q0f (enc:=EH.enc) (T:=83) {e with ev:=(S.length:Int)} aF;exact rfl;exact rfl;omega;exact rfl;exact rfl;omega;intro a6 c6 D6 aB|(apply qL;first|refine ixE ae Z ?_ ?_;(first|rfl|omega))|apply q27;refine q0O ae Z rfl ?_|refine fB ?_|refine fA ?_|refine fL ?_|refine fN ?_|refine fM ?_)
   all_goals
    refine⟨⟨M.b,M.mh,M.ta,M.tc,M.tD,a5,c5,D5,a6,c6,D6,M.el++ [{e with ev:=(S.length:Int)}],N++M.gD,M.L.set t ⟨R,K,L,y.cD,x',y.p⟩⟩,⟨rfl,rfl,⟨g.hM.to o,by dsimp only;rw[j];exact g.ht,U,aB,aE,X,by rw[z8,z8];exact yF hle,by dsimp only;rw[zv,g.em];rfl⟩,⟨R,K,L,y.cD,x',y.p⟩,rfl,rfl,H,V,q,rfl⟩,?_⟩
    try unfold maP
    dsimp only;rw[j,J,z8,z8];simp only[ThO,zd,zk,zj];exact sbE
end
open Go
section
variable{W0:World}{own Q:Own}{c:Cfg}{n t:Nat}{p:jf}
theorem qkn{a:j8}{cap:Nat}(H:qE W0)(I:qI c=0)(u:qB p=(0,0))(ht:t<n)(hn:n<=16)(C:RdE Ins.enc 5 W0 own a p)(hp:p.length<=100000):
  jk W0 46 [c.v,j4 t,j4 n, .slice a p.length cap] own fun v own'=>∃y:TW,(v= .tuple #[ptr y.h.b,j4 0]/\y.ok W0 c n t/\y.x=q3f p/\y.p=p)/\Ent W0 own' (ThO c n t y++own):=by
 refine sH [5,7,9,1,3,1,12,13,16,17,20,21,0,13,12,16,17,20,21,0,1,12,13,1,3,16,17,20,21,0,16,3,17,20,21,0,13,1,3,12,16,17,20,21,0,12,1,3,16,17,20,21,0,16,3,17,20,21,0] ?_;have g:=fun own=>q1v W0 own c
 rw[I] at g;have q:=fun(own':Own) (m:qx own' own)=>q5t (own:=own') (cap:=cap) H C.up
 rw[u] at q;have z:=fun(own':Own) (m:qx own' own)=>q32 (own:=own') (cap:=cap) C.up Yb
 have o:=fun(own':Own)=>q9l (W0:=W0) (c:=c) own'
 dsimp only[Cfg.v,Cfg.cs] at g o ⊢
 repeat'((try conv=>whnf);first|refine fH ?_|refine fD ?_|refine fG ?_|refine fK ?_|refine qg fun tb htb=>?_|(apply qe;first|refine qd (g _) ?_|refine qd (q _ Ye) ?_|refine qk (z _ Ye) fun y v s=>?_;obtain⟨a3,B,G⟩:=y;obtain⟨rfl,j⟩:=s;dsimp only at j|refine qk (o _) fun lb v s=>?_;subst s|refine qO (q4o (c:=c) (t:=t) (n:=n) (p:=p) (h:=⟨tb, .pointer none,⟨lb, .pointer none, .pointer none⟩,a3,B,none,0,[],none,0,[],none,0,[]⟩) (x:=⟨⟨0,⟨0,0,0,0,0,0,0,0⟩,0,false⟩,none,0,⟨0,0,0,0,0,0,0,0⟩,0,[],none,[],0,false,0,[]⟩) 0 rfl _) fun _ v s=>?_;subst s)|refine fO ?_|refine fL ?_|refine q1k.mk ?_ ?_)
 all_goals exact⟨⟨⟨tb, .pointer none,⟨lb, .pointer none, .pointer none⟩,a3,B,none,0,[],none,0,[],none,0,[]⟩,[],[],G,q3f p,p⟩,⟨rfl,⟨⟨qq.nil,qq.nil,qq.nil⟩,rfl,⟨rfl,rfl,rfl⟩,j.rd⟩,rfl,rfl⟩,by unfold ThO TH.R;simp only[zk,zj];exact sbE⟩
end
end Go.Proofs.YtfnghamklcdgnaaGreatDoor
