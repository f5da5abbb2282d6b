/- What the laws share, part 22. No condition. -/
import Derived.Test.YtbhbldllneadeaaGreatDoorQ21
set_option maxRecDepth 10000
namespace Go.Proofs.YtbhbldllneadeaaGreatDoor
open Go
def AP.tick:AP→Bool
 | .tn b=>b
 | .ck _=>true
 | .dc=>true
 | .wr _ _=>true
 | .rl _ _=>true
 | .sp=>true
 | .ps=>true
 |_=>false
def AP.hold:AP→Bool
 | .ck _=>true
 | .dc=>true
 | .wr _ _=>true
 | .rl _ _=>true
 | .sp=>true
 | .ps=>true
 |_=>false
def AT.held(a:AT):List Int:=match a.ph with
 | .lk _ _=>a.oc.take a.old.length
 | .tn _=>a.oc
 | .ck _=>a.oc
 | .dc=>a.oc
 | .wr _ _=>a.oc
 | .rl l _=>l
 |_=> []
def q1C(m:MS)(o:Int):Int:=q5V (m.o.getD o.toNat 0)
def qi4(m:MS)(o:Int):Int:=q3R (m.o.getD o.toNat 0)
def qai(m:MS)(l w:List Int):Prop:=∀j,j<w.length→q5V (w.getD j 0)=q1C m (l.getD j 0)∧q3R (w.getD j 0)<0∧okU (w.getD j 0)
def AT.fresh(a:AT):Prop:=a.dn=false∧a.oc= []∧a.old= []
def PhA(c:Cfg)(m:MS)(a:AT):Prop:=
 match a.ph with
 | .idle=>a.fresh
 | .loc k=>a.fresh∧∀w v,k= .wr w v→0≤w
 | .ent n=>a.fresh∧n≤2
 | .rd n _ _=>a.fresh∧n≤2∧0≤a.addr∧a.addr<c.words
 | .lk s ld=>a.dn=false∧a.code=1∧a.ad≠ []∧a.old.length<a.oc.length∧(∀w∈a.ad,qF c w∈a.oc)∧qai m a.oc a.old∧(ld=true→q3R s<0∧okU s)
 | .tn _=>a.dn=false∧a.old.length=a.oc.length∧((a.code=1→∀w∈a.ad,qF c w∈a.oc)∧(a.oc≠ []→a.code=1∧a.ad≠ []))∧qai m a.oc a.old
 | .ck l=>a.dn=false∧a.old.length=a.oc.length∧((a.code=1→∀w∈a.ad,qF c w∈a.oc)∧(a.oc≠ []→a.code=1∧a.ad≠ []))∧qai m a.oc a.old∧l≠ []∧(∀o∈l,o∈a.set)∧∀o∈a.set,o∈l∨q1C m o≤a.rv
 | .dc=>a.dn=false∧a.old.length=a.oc.length∧((a.code=1→∀w∈a.ad,qF c w∈a.oc)∧(a.oc≠ []→a.code=1∧a.ad≠ []))∧qai m a.oc a.old∧∀o∈a.set,q1C m o≤a.rv
 | .wr A V=>a.dn=true∧a.code=1∧a.ad≠ []∧a.ck=m.ck∧A≠ []∧A.length=V.length∧A.Nodup∧(∀w∈A,w∈a.ad)∧∀w∈a.ad,qF c w∈a.oc
 | .rl l w=>l≠ []∧(∀o∈l,o∈a.oc)∧l.length=w.length∧l.Nodup∧((a.dn=true∧a.code=1∧a.ad≠ []∧a.ck=m.ck∧∀z∈w,z=(m.ck+1)*64)∨(a.dn=false∧qai m l w))
 | .sp=>a.dn=true∧a.code=1∧a.ad≠ []∧a.ck=m.ck
 | .ps=>True
 | .lv=>True
def AP.past:AP→Bool
 | .ent n=>decide (2≤n)
 |_=>true
structure AI(c:Cfg)(t:Nat)(m:MS)(a:AT):Prop where
 ph:PhA c m a
 rv:a.ph.past=true→0≤a.rv∧a.rv≤m.ck
 tk:a.ph.tick=true→m.sv≤a.tk∧a.tk<m.tk
 ho:a.ph.hold=true→a.tk=m.sv
 hl:∀o∈a.held,qi4 m o=t
 oc:∀o∈a.oc,0≤o∧o.toNat<m.o.length
 nd:a.oc.Nodup
 an:a.ad.Nodup
 ar:∀w∈a.ad,0≤w∧w<c.words
 al:a.ad.length=a.vl.length
 st:∀o∈a.set,0≤o∧o.toNat<m.o.length
structure GM(c:Cfg)(n k:Nat)(m:MS):Prop where
 o:∀j,okU (m.o.getD j 0)
 ol:(m.o.length:Int)=c.orecs
 dl:(m.d.length:Int)=c.words
 sl:m.sl.length=n
 sv:0≤m.sv∧m.sv≤m.tk
 tk:m.tk≤k
 ck:0≤m.ck∧m.ck≤k
structure FrM(t:Nat)(a:AT)(m m':MS):Prop where
 ck:m'.ck=m.ck∨(a.ph.hold=true∧m.ck≤m'.ck)
 sv:m'.sv=m.sv∨(a.ph.hold=true∧m'.sv=m.sv+1)
 tk:m.tk≤m'.tk
 ol:m'.o.length=m.o.length
 o:∀k,0≤q3R (m.o.getD k 0)→q3R (m.o.getD k 0)≠t→m'.o.getD k 0=m.o.getD k 0
 ver:∀o,q1C m' o=q1C m o∨(a.dn=true∧(∃l w,a.ph= .rl l w∧o.toNat=(l.headD 0).toNat)∧q1C m' o=m.ck+1)
theorem FrM.same{t:Nat}{a:AT}{m m':MS}(h1:m'.ck=m.ck)(h2:m'.sv=m.sv)(h3:m.tk≤m'.tk)(h4:m'.o=m.o):FrM t a m m':=
 ⟨.inl h1, .inl h2,h3,by rw[h4],fun k _ _=>by rw[h4],fun o=> .inl (by unfold q1C;rw[h4])⟩
section
variable{c:Cfg}{t u n k:Nat}{m m':MS}{a b:AT}
theorem qai.same{l w:List Int}(h:qai m l w)(hv:∀j,j<w.length→q1C m' (l.getD j 0)=q1C m (l.getD j 0)):qai m' l w:=fun j hj=>by
 obtain⟨h1,h2⟩:=h j hj;exact⟨by rw[hv j hj];exact h1,h2⟩
theorem q3p(h:m'.o=m.o)(o:Int):q1C m' o=q1C m o:=by unfold q1C;rw[h]
theorem qai.cong{l w:List Int}(h:qai m l w)(ho:m'.o=m.o):qai m' l w:=h.same fun _ _=>q3p ho _
theorem AI.frame(hu:u≠t)(hF:FrM t a m m')(hd:a.ph.tick=true→b.ph.tick=true→a.tk≠b.tk)(hta:a.ph.hold=true→a.ph.tick=true∧a.tk=m.sv)(hb:AI c u m b):AI c u m' b:=by
 have hht:b.ph.hold=true→b.ph.tick=true:=fun h=>by
  cases e:b.ph <;>rw[e] at h <;>first|rfl|cases h
 have hno:b.ph.hold=true→a.ph.hold=true→False:=fun h1 h2=>by
  obtain⟨h3,h4⟩:=hta h2;exact hd h3 (hht h1) (h4.trans (hb.ho h1).symm)
 have hck:b.ph.hold=true→m'.ck=m.ck:=fun h=>by
  rcases hF.ck with e|⟨e,_⟩
  ·exact e
  ·exact absurd e (fun e=>hno h e)
 have hvr:b.ph.hold=true→∀o,q1C m' o=q1C m o:=fun h o=>by
  rcases hF.ver o with e|⟨_,⟨l,w,e,_⟩,_⟩
  ·exact e
  ·exact(hno h (by rw[e];rfl)).elim
 have hol:∀o∈b.held,m'.o.getD o.toNat 0=m.o.getD o.toNat 0:=fun o ho=>by
  have h1:=hb.hl o ho;unfold qi4 at h1;exact hF.o _ Y6 Y6
 have hvl:∀o∈b.held,q1C m' o=q1C m o:=fun o ho=>by unfold q1C;rw[hol o ho]
 have hck2:m.ck≤m'.ck:=by rcases hF.ck with e|⟨_,e⟩ <;>omega
 refine⟨?_,fun h=>⟨(hb.rv h).1,by have:=(hb.rv h).2;omega⟩,fun h=> ?_,fun h=> ?_,fun o ho=> ?_,fun o ho=>by rw[hF.ol];exact hb.oc o ho,hb.nd,hb.an,hb.ar,hb.al,fun o ho=>by rw[hF.ol];exact hb.st o ho⟩
 ·have hp:=hb.ph;unfold PhA at hp ⊢;unfold AT.held at hvl;have hgm:∀(l:List Int) (j:Nat),j<l.length→l.getD j 0∈l:=fun l j hj=>by rw[zh,z6 hj];exact yo _
  cases e:b.ph with
  |idle=>rw[e] at hp;exact hp
  |loc _=>rw[e] at hp;exact hp
  |ent _=>rw[e] at hp;exact hp
  |rd _ _ _=>rw[e] at hp;exact hp
  |lk s ld=>
   rw[e] at hp hvl;dsimp only at hp hvl ⊢;obtain⟨h1,h2,h3,h4,h5,h6,h7⟩:=hp;refine⟨h1,h2,h3,h4,h5,h6.same fun j hj=>hvl _ ?_,h7⟩;refine List.mem_iff_getElem?.2 ⟨j,?_⟩;rw[yY,if_pos hj,zh,z6 Y6];rfl
  |tn _=>
   rw[e] at hp hvl;dsimp only at hp hvl ⊢;obtain⟨h1,h2,h3,h4⟩:=hp;exact⟨h1,h2,h3,h4.same fun j hj=>hvl _ (hgm _ _ Y6)⟩
  |ck l=>
   rw[e] at hp hvl;dsimp only at hp hvl ⊢;have hv:=hvr (by rw[e];rfl);obtain⟨h1,h2,h3,h4,h5,h7,h6⟩:=hp;exact⟨h1,h2,h3,h4.same fun j hj=>hv _,h5,h7,fun o ho=>by rw[hv];exact h6 o ho⟩
  |dc=>
   rw[e] at hp hvl;dsimp only at hp hvl ⊢;have hv:=hvr (by rw[e];rfl);obtain⟨h1,h2,h3,h4,h6⟩:=hp;exact⟨h1,h2,h3,h4.same fun j hj=>hv _,fun o ho=>by rw[hv];exact h6 o ho⟩
  |wr A V=>
   rw[e] at hp;dsimp only at hp ⊢;rw[hck (by rw[e];rfl)];exact hp
  |rl l w=>
   rw[e] at hp;dsimp only at hp ⊢;have hv:=hvr (by rw[e];rfl);rw[hck (by rw[e];rfl)];obtain⟨h1,h5,h2,h3,h4⟩:=hp;exact⟨h1,h5,h2,h3,h4.imp id fun h=>⟨h.1,h.2.same fun j _=>hv _⟩⟩
  |sp=>
   rw[e] at hp;dsimp only at hp ⊢;rw[hck (by rw[e];rfl)];exact hp
  |ps=>trivial
  |lv=>trivial
 ·have h1:=hb.tk h;have:=hF.tk;refine⟨?_,Y6⟩
  rcases hF.sv with e|⟨e,e2⟩
  ·omega
  ·obtain⟨h3,h4⟩:=hta e;have:=hd h3 h;omega
 ·rcases hF.sv with e|⟨e,_⟩
  ·rw[e];exact hb.ho h
  ·exact(hno h e).elim
 ·unfold qi4;rw[hol o ho];exact hb.hl o ho
end
open Go
theorem q79{l:List Int}{i j:Nat}{v:Int}(h:i≠j):(l.set i v).getD j 0=l.getD j 0:=by
 rw[zh,zv,if_neg h,zh]
theorem q8f{l:List Int}{i:Nat}{v:Int}(h:i<l.length):(l.set i v).getD i 0=v:=by
 rw[zh,zv,if_pos rfl,if_pos h];rfl
theorem qgK{l:List Int}{j:Nat}(h:j<l.length):l.getD j 0∈l:=by
 rw[zh,z6 h];exact yo _
theorem qgL{l:List Int}{i:Nat}{v:Int}(h:∀j,okU (l.getD j 0))(hv:okU v)(j:Nat):okU ((l.set i v).getD j 0):=by
 by_cases e:i=j
 ·subst e
  by_cases hi:i<l.length
  ·rw[q8f hi];exact hv
  ·rw[List.set_eq_of_length_le Y6];exact h i
 ·rw[q79 e];exact h j
theorem qkR{l:List Int}{j:Nat}{v:Int}(h:j<l.length):(l++ [v]).getD j 0=l.getD j 0:=by
 rw[zh,zy h,zh]
theorem qhY{l:List Int}{v:Int}:(l++ [v]).getD l.length 0=v:=by
 rw[zh,zP (zu _),y0];rfl
theorem q7a{l:List Int}(h:l≠ []):l.headD 0∈l:=by
 cases l with
 |nil=>exact absurd rfl h
 |cons x r=>exact zm
theorem q8g{l:List Int}(h:l≠ []):l.headD 0::l.tail=l:=by
 cases l with
 |nil=>exact absurd rfl h
 |cons x r=>rfl
theorem ql3{s:Int}{t:Nat}(h:q3R s<0)(hs:okU s)(ht:t<16):qM (s+t+1)=s+t+1∧q5V (s+t+1)=q5V s∧q3R (s+t+1)=t∧okU (s+t+1):=by
 unfold q3R at h;unfold okU at hs;have hw:okU (s+t+1):=by unfold okU;omega
 refine⟨q27 hw,?_,?_,hw⟩
 ·unfold q5V;omega
 ·unfold q3R;omega
theorem qgJ(z:Int):q5V (z*64)=z∧q3R (z*64)<0:=by
 unfold q5V q3R;omega
structure COk(c:Cfg):Prop where
 or:∀w,0≤w→w<c.words→0≤qF c w∧qF c w<c.orecs
section
variable{c:Cfg}{t u n k:Nat}{m m':MS}{a b:AT}
theorem GM.mono(h:GM c n k m):GM c n (k+1) m:=⟨h.o,h.ol,h.dl,h.sl,h.sv,by have:=h.tk;omega,by have:=h.ck;omega⟩
theorem GM.len(h:GM c n k m){o:Int}(h0:0≤o∧o<c.orecs):0≤o∧o.toNat<m.o.length:=by
 have:=h.ol;omega
theorem AI.to(hA:AI c t m a)(hp:PhA c m b)(h1:b.rv=a.rv)(h2:b.oc=a.oc)(h3:b.ad=a.ad)(h4:b.vl=a.vl)(h5:b.set=a.set)(hpa:a.ph.past=true)(h6:b.ph.tick=true→b.tk=a.tk∧a.ph.tick=true)(h7:b.ph.hold=true→b.tk=m.sv)(h8:∀o∈b.held,o∈a.held):AI c t m b:=
 ⟨hp,fun _=>by rw[h1];exact hA.rv hpa,fun h=>by obtain⟨e,h⟩:=h6 h;rw[e];exact hA.tk h,h7,fun o ho=>hA.hl o (h8 o ho),by rw[h2];exact hA.oc,by rw[h2];exact hA.nd,by rw[h3];exact hA.an,by rw[h3];exact hA.ar,by rw[h3,h4];exact hA.al,by rw[h5];exact hA.st⟩
theorem AI.end(hC:COk c)(hG:GM c n k m)(hA:AI c t m a)(hf:a.fresh)(hpa:a.ph.past=true)(code:Int):AI c t m (a.endA c code):=by
 obtain⟨hdn,hoc,hold⟩:=hf;unfold AT.endA
 split
 ·rename_i h1;obtain⟨hs1,hs2,hs3⟩:=q6C (a.ad.map (qF c));have hmem:∀w∈a.ad,qF c w∈q7H (a.ad.map (qF c)):=fun w hw=>(hs2 _).2 (y2 hw)
  have hpos:0<(q7H (a.ad.map (qF c))).length:=by
   obtain⟨w,hw⟩:=yp _ h1.2;exact List.length_pos_of_mem (hmem w hw)
  refine⟨⟨hdn,h1.1,h1.2,hpos,hmem,fun j hj=>absurd hj (Nat.not_lt_zero _),fun h=>by cases h⟩,fun _=>hA.rv hpa,fun h=>(by cases h),fun h=>(by cases h),fun o ho=>(by simp[AT.held] at ho),fun o ho=> ?_,hs1.imp fun h=>by omega,hA.an,hA.ar,hA.al,hA.st⟩;obtain⟨w,hw,rfl⟩:=zK.1 ((hs2 o).1 ho);have:=hA.ar w hw;exact hG.len (hC.or w this.1 this.2)
 ·rename_i h1;refine⟨⟨hdn,by rw[hoc,hold],⟨fun h w hw=>absurd ⟨h,fun e=>by rw[e] at hw;cases hw⟩ h1,fun h=>absurd hoc h⟩,fun j hj=> ?_⟩,fun _=>hA.rv hpa,fun h=>(by cases h),fun h=>(by cases h),fun o ho=> ?_,hA.oc,hA.nd,hA.an,hA.ar,hA.al,hA.st⟩
  ·dsimp only at hj;rw[hold] at hj;exact absurd hj (Nat.not_lt_zero _)
  ·unfold AT.held at ho;dsimp only at ho;rw[hoc] at ho;cases ho
theorem AI.undo(hA:AI c t m a)(hpa:a.ph.past=true)(code:Int):AI c t m (a.undo code):=
 ⟨trivial,fun _=>hA.rv hpa,fun h=>(by cases h),fun h=>(by cases h),fun o ho=>(by cases ho),hA.oc,hA.nd,hA.an,hA.ar,hA.al,hA.st⟩
theorem AI.rest(hA:AI c t m a)(hhd:a.held=a.oc)(hpa:a.ph.past=true)(hti:a.ph.tick=true)(hho:a.tk=m.sv)(b:AT)(h1:b.rv=a.rv)(h2:b.oc=a.oc)(h3:b.ad=a.ad)(h4:b.vl=a.vl)(h5:b.set=a.set)(h6:b.tk=a.tk)(hl:b.old.length=b.oc.length)(hr:b.oc≠ []→b.dn=false∧qai m b.oc b.old):AI c t m b.rest:=by
 unfold AT.rest
 split
 ·exact⟨trivial,fun _=>by(try dsimp only);rw[h1];exact hA.rv hpa,fun _=>by(try dsimp only);rw[h6];exact hA.tk hti,fun _=>by(try dsimp only);rw[h6];exact hho,fun o ho=>(by cases ho),by(try dsimp only);rw[h2];exact hA.oc,by(try dsimp only);rw[h2];exact hA.nd,by(try dsimp only);rw[h3];exact hA.an,by(try dsimp only);rw[h3];exact hA.ar,by(try dsimp only);rw[h3,h4];exact hA.al,by(try dsimp only);rw[h5];exact hA.st⟩
 ·rename_i hne;obtain⟨hd,hO⟩:=hr hne;exact⟨⟨hne,fun o ho=>ho,hl.symm,by(try dsimp only);rw[h2];exact hA.nd, .inr ⟨hd,hO⟩⟩,fun _=>by(try dsimp only);rw[h1];exact hA.rv hpa,fun _=>by(try dsimp only);rw[h6];exact hA.tk hti,fun _=>by(try dsimp only);rw[h6];exact hho,fun o ho=>hA.hl o (by rw[hhd,←h2];exact ho),by(try dsimp only);rw[h2];exact hA.oc,by(try dsimp only);rw[h2];exact hA.nd,by(try dsimp only);rw[h3];exact hA.an,by(try dsimp only);rw[h3];exact hA.ar,by(try dsimp only);rw[h3,h4];exact hA.al,by(try dsimp only);rw[h5];exact hA.st⟩
theorem qho{l:List Int}{x:Int}(h:l.Nodup):(q1G l x).Nodup:=by
 unfold q1G
 split
 ·exact h
 ·rename_i hx;exact List.nodup_append.2 ⟨h,Y8,fun y hy z hz e=>by rw[zf.1 hz] at e;exact hx (e ▸ hy)⟩
theorem qe9{l:List Int}{x y:Int}:y∈q1G l x↔y∈l∨y=x:=by
 unfold q1G
 split
 ·rename_i hx;exact⟨.inl,fun h=>h.elim id fun e=>e ▸ hx⟩
 ·rw[zz,zf]
theorem q5Z{cap:Int}{l s:List Int}{o y:Int}(h:q6Q cap l o=some s):y∈s↔y∈l∨y=o:=by
 unfold q6Q at h
 split at h
 ·rename_i hx;cases h;exact⟨.inl,fun h=>h.elim id fun e=>e ▸ hx⟩
 ·split at h
  ·cases h
  ·cases h;rw[zz,zf]
theorem AI.loc(hC:COk c)(hG:GM c n k m)(hA:AI c t m a){q:Ko}(he:a.ph= .loc q):AI c t m ({a with ph:= .idle}.kont c q):=by
 have hp:=hA.ph;unfold PhA at hp;rw[he] at hp;dsimp only at hp;obtain⟨hf,hw⟩:=hp;have hpa:a.ph.past=true:=by rw[he];rfl
 have h0:AI c t m {a with ph:= .idle}:=⟨hf,fun _=>hA.rv hpa,fun h=>(by cases h),fun h=>(by cases h),fun o ho=>(by cases ho),hA.oc,hA.nd,hA.an,hA.ar,hA.al,hA.st⟩
 cases q with
 |en code=>exact h0.end hC hG hf rfl code
 |tk v=>exact⟨hf,fun _=>hA.rv hpa,fun h=>(by cases h),fun h=>(by cases h),fun o ho=>(by cases ho),hA.oc,hA.nd,hA.an,hA.ar,hA.al,hA.st⟩
 |wr w v=>
  unfold AT.kont;dsimp only
  split
  ·exact h0.end hC hG hf rfl 7
  ·rename_i hlt
   split
   ·rename_i ad vl hpu;obtain⟨h1,h2,h3⟩:=q8w hA.al hpu;refine⟨hf,fun _=>hA.rv hpa,fun h=>(by cases h),fun h=>(by cases h),fun o ho=>(by cases ho),hA.oc,hA.nd,?_,fun y hy=> ?_,h1,hA.st⟩
    ·dsimp only;rw[h2];exact qho hA.an
    ·dsimp only at hy;rw[h2] at hy
     rcases qe9.1 hy with hy|rfl
     ·exact hA.ar y hy
     ·exact⟨hw _ v rfl,Y6⟩
   ·exact h0.undo rfl 3
end
open Go
section
variable{c:Cfg}{t u n k:Nat}{m m':MS}{a b:AT}
abbrev StI(c:Cfg)(t n k:Nat)(m:MS)(a:AT):Prop:=
 (a.ph≠ .lv→AI c t (qh c t m a).1 (qh c t m a).2.1)∧GM c n (k+1) (qh c t m a).1∧FrM t a m (qh c t m a).1
theorem AI.cong(hA:AI c t m a)(h1:m'.o=m.o)(h2:m'.ck=m.ck)(h3:m'.sv=m.sv)(h4:m'.tk=m.tk):AI c t m' a:=by
 have hv:∀o,q1C m' o=q1C m o:=q3p h1
 refine⟨?_,by rw[h2];exact hA.rv,by rw[h3,h4];exact hA.tk,by rw[h3];exact hA.ho,fun o ho=>by unfold qi4;rw[h1];exact hA.hl o ho,by rw[h1];exact hA.oc,hA.nd,hA.an,hA.ar,hA.al,by rw[h1];exact hA.st⟩;have hp:=hA.ph;unfold PhA at hp ⊢;cases e:a.ph <;>rw[e] at hp <;>dsimp only at hp ⊢
 case lk=>exact⟨hp.1,hp.2.1,hp.2.2.1,hp.2.2.2.1,hp.2.2.2.2.1,hp.2.2.2.2.2.1.cong h1,hp.2.2.2.2.2.2⟩
 case tn=>exact⟨hp.1,hp.2.1,hp.2.2.1,hp.2.2.2.cong h1⟩
 case ck=>exact⟨hp.1,hp.2.1,hp.2.2.1,hp.2.2.2.1.cong h1,hp.2.2.2.2.1,hp.2.2.2.2.2.1,fun o ho=>by rw[hv];exact hp.2.2.2.2.2.2 o ho⟩
 case dc=>exact⟨hp.1,hp.2.1,hp.2.2.1,hp.2.2.2.1.cong h1,fun o ho=>by rw[hv];exact hp.2.2.2.2 o ho⟩
 case rl=>
  rw[h2];exact⟨hp.1,hp.2.1,hp.2.2.1,hp.2.2.2.1,hp.2.2.2.2.imp id fun h=>⟨h.1,h.2.cong h1⟩⟩
 all_goals first|exact hp|(rw[h2];exact hp)
theorem StI.ent(hG:GM c n k m)(hA:AI c t m a){j:Nat}(he:a.ph= .ent j):StI c t n k m a:=by
 have hp:=hA.ph;unfold PhA at hp;rw[he] at hp;dsimp only at hp;obtain⟨hf,hj⟩:=hp;have hsl:∀v,GM c n (k+1) {m with sl:=m.sl.set t v}:=fun v=>⟨hG.o,hG.ol,hG.dl,by(try dsimp only);rw[zj];exact hG.sl,hG.sv,hG.mono.tk,hG.mono.ck⟩
 unfold StI qh;rw[he];dsimp only;have hfr:∀m',m'.o=m.o→m'.ck=m.ck→m'.sv=m.sv→m'.tk=m.tk→FrM t a m m':=fun m' h1 h2 h3 h4=>FrM.same h2 h3 Y6 h1
 have hto:∀(b:AT) (m':MS),m'.o=m.o→m'.ck=m.ck→m'.sv=m.sv→m'.tk=m.tk→b.oc=a.oc→b.ad=a.ad→b.vl=a.vl→b.set=a.set→PhA c m' b→(b.ph.past=true→0≤b.rv∧b.rv≤m.ck)→b.ph.tick=false→b.ph.hold=false→b.held= []→AI c t m' b:=
  fun b m' h1 h2 h3 h4 e1 e2 e3 e4 hp hr ht hh hd=>⟨hp,by rw[h2];exact hr,fun h=>(by rw[ht] at h;cases h),fun h=>(by rw[hh] at h;cases h),fun o ho=>(by rw[hd] at ho;cases ho),by rw[e1,h1];exact hA.oc,by rw[e1];exact hA.nd,by rw[e2];exact hA.an,by rw[e2];exact hA.ar,by rw[e2,e3];exact hA.al,by rw[e4,h1];exact hA.st⟩
 by_cases h0:j=0
 ·rw[if_pos h0];exact⟨fun _=>hto _ _ rfl rfl rfl rfl rfl rfl rfl rfl ⟨hf,Y7⟩ (fun h=>by cases h) rfl rfl rfl,hsl _,hfr _ rfl rfl rfl rfl⟩
 ·rw[if_neg h0]
  by_cases h1:j=1
  ·rw[if_pos h1];exact⟨fun _=>hto _ _ rfl rfl rfl rfl rfl rfl rfl rfl ⟨hf,Y7⟩ (fun _=>⟨hG.ck.1,zW _⟩) rfl rfl rfl,hG.mono,hfr _ rfl rfl rfl rfl⟩
  ·rw[if_neg h1];have hr:=hA.rv (by rw[he];exact decide_eq_true Y6);exact⟨fun _=>hto _ _ rfl rfl rfl rfl rfl rfl rfl rfl hf (fun _=>hr) rfl rfl rfl,hsl _,hfr _ rfl rfl rfl rfl⟩
theorem StI.rd(hC:COk c)(hG:GM c n k m)(hA:AI c t m a){j:Nat}{bf v:Int}(he:a.ph= .rd j bf v):StI c t n k m a:=by
 have hp:=hA.ph;unfold PhA at hp;rw[he] at hp;dsimp only at hp;obtain⟨hf,hj,hr0,hr1⟩:=hp;have hpa:a.ph.past=true:=by rw[he];rfl
 have hto:∀(b:AT),b.rv=a.rv→b.oc=a.oc→b.ad=a.ad→b.vl=a.vl→(∀o∈b.set,0≤o∧o.toNat<m.o.length)→PhA c m b→b.ph.tick=false→b.ph.hold=false→b.held= []→AI c t m b:=
  fun b e0 e1 e2 e3 e4 hp ht hh hd=>⟨hp,fun _=>by rw[e0];exact hA.rv hpa,fun h=>(by rw[ht] at h;cases h),fun h=>(by rw[hh] at h;cases h),fun o ho=>(by rw[hd] at ho;cases ho),by rw[e1];exact hA.oc,by rw[e1];exact hA.nd,by rw[e2];exact hA.an,by rw[e2];exact hA.ar,by rw[e2,e3];exact hA.al,e4⟩
 unfold StI qh;rw[he];dsimp only
 by_cases h0:j=0
 ·rw[if_pos h0];refine⟨fun _=> ?_,hG.mono,FrM.same rfl rfl (zW _) rfl⟩;dsimp only
  split
  ·exact hA.undo hpa 9
  ·exact hto _ rfl rfl rfl rfl hA.st ⟨hf,Y6,hr0,hr1⟩ rfl rfl rfl
 ·rw[if_neg h0]
  by_cases h1:j=1
  ·rw[if_pos h1];refine⟨fun _=>hto _ rfl rfl rfl rfl hA.st ⟨hf,Y6,hr0,hr1⟩ rfl rfl rfl,hG.mono,FrM.same rfl rfl (zW _) rfl⟩
  ·rw[if_neg h1];refine⟨fun _=> ?_,hG.mono,FrM.same rfl rfl (zW _) rfl⟩;dsimp only
   split
   ·exact hA.undo hpa 9
   ·split
    ·exact hto _ rfl rfl rfl rfl hA.st trivial rfl rfl rfl
    ·rename_i s hs;refine hto _ rfl rfl rfl rfl (fun o ho=> ?_) hf rfl rfl rfl
     rcases (q5Z hs).1 ho with h|rfl
     ·exact hA.st o h
     ·exact hG.len (hC.or _ hr0 hr1)
theorem StI.lk(hn:n≤16)(ht:t<n)(hG:GM c n k m)(hA:AI c t m a){s:Int}{ld:Bool}(he:a.ph= .lk s ld):StI c t n k m a:=by
 have hp:=hA.ph;unfold PhA at hp;rw[he] at hp;dsimp only at hp;obtain⟨hdn,hcd,had,hlt,hmm,hO,hs⟩:=hp;have hpa:a.ph.past=true:=by rw[he];rfl
 unfold StI;rw[q5R he];have hom:=qgK hlt;have hor:=hA.oc _ hom;cases ld with
 |false=>
  rw[if_pos rfl];refine⟨fun _=>hA.to ⟨hdn,hcd,had,hlt,hmm,hO,fun h=>⟨by simpa using h,hG.o _⟩⟩ rfl rfl rfl rfl rfl hpa (fun h=>by cases h) (fun h=>by cases h) fun o ho=> ?_,hG.mono,FrM.same rfl rfl (zW _) rfl⟩;unfold AT.held at ho ⊢;rw[he];exact ho
 |true=>
  rw[if_neg Y7];obtain⟨hs1,hs2⟩:=hs rfl
  by_cases hw:m.o.getD (a.oc.getD a.old.length 0).toNat 0=s
  ·rw[if_pos hw];obtain⟨w1,w2,w3,w4⟩:=ql3 (t:=t) hs1 hs2 Y6;have hix:∀o,0≤o→(a.oc.getD a.old.length 0).toNat=o.toNat→o=a.oc.getD a.old.length 0:=fun o h0 e=>by omega
   have hverI:∀o,q1C {m with o:=m.o.set (a.oc.getD a.old.length 0).toNat (qM (s+t+1))} o=q1C m o:=fun o=>by
    unfold q1C;dsimp only
    by_cases e:(a.oc.getD a.old.length 0).toNat=o.toNat
    ·rw[←e,q8f hor.2,w1,w2,hw]
    ·rw[q79 e]
   have hheld:∀o∈a.oc.take (a.old.length+1),qi4 {m with o:=m.o.set (a.oc.getD a.old.length 0).toNat (qM (s+t+1))} o=t:=fun o ho=>by
    have hoc:=hA.oc o (yj ho);unfold qi4;dsimp only
    by_cases e:(a.oc.getD a.old.length 0).toNat=o.toNat
    ·rw[←e,q8f hor.2,w1,w3]
    ·rw[q79 e];refine hA.hl o ?_;unfold AT.held;rw[he];dsimp only;rw[zZ,zz] at ho
     rcases ho with ho|ho
     ·exact ho
     ·exfalso;rw[z6 hlt,Option.toList_some,zf] at ho;apply e;rw[ho,zh,z6 hlt];rfl
   have hO':qai {m with o:=m.o.set (a.oc.getD a.old.length 0).toNat (qM (s+t+1))} a.oc (a.old++ [s]):=fun j hj=>by
    rw[hverI];rw[z8,zE] at hj
    by_cases hjl:j<a.old.length
    ·rw[qkR hjl];exact hO j hjl
    ·obtain rfl:j=a.old.length:=Y6;rw[qhY];exact⟨by unfold q1C;rw[hw],hs1,hs2⟩
   have hol:(a.old++ [s]).length=a.old.length+1:=Y8;have hG':GM c n (k+1) {m with o:=m.o.set (a.oc.getD a.old.length 0).toNat (qM (s+t+1))}:=
    ⟨fun j=>qgL hG.o (by rw[w1];exact w4) j,by(try dsimp only);rw[zj];exact hG.ol,hG.dl,hG.sl,hG.sv,hG.mono.tk,hG.mono.ck⟩
   have hF:FrM t a m {m with o:=m.o.set (a.oc.getD a.old.length 0).toNat (qM (s+t+1))}:=
    ⟨.inl rfl, .inl rfl,zW _,by(try dsimp only);rw[zj],fun j h1 h2=>by(try dsimp only);rw[q79];rintro rfl;rw[hw] at h1;omega,fun o=> .inl (hverI o)⟩
   have hst:=hA.st;refine⟨fun _=> ?_,hG',hF⟩;dsimp only
   by_cases hd:a.old.length+1=a.oc.length
   ·rw[if_pos hd];refine⟨⟨hdn,by(try dsimp only);rw[hol];exact hd,⟨fun _=>hmm,fun _=>⟨hcd,had⟩⟩,hO'⟩,fun _=>hA.rv hpa,fun h=>(by cases h),fun h=>(by cases h),fun o ho=>hheld o ?_,by(try dsimp only);rw[zj];exact hA.oc,hA.nd,hA.an,hA.ar,hA.al,by(try dsimp only);rw[zj];exact hA.st⟩;rw[hd,Z4];exact ho
   ·rw[if_neg hd];refine⟨⟨hdn,hcd,had,by(try dsimp only);rw[hol];omega,hmm,hO',fun h=>(by cases h)⟩,fun _=>hA.rv hpa,fun h=>(by cases h),fun h=>(by cases h),fun o ho=>hheld o ?_,by(try dsimp only);rw[zj];exact hA.oc,hA.nd,hA.an,hA.ar,hA.al,by(try dsimp only);rw[zj];exact hA.st⟩;unfold AT.held at ho;dsimp only at ho;rw[hol] at ho;exact ho
  ·rw[if_neg hw];refine⟨fun _=>hA.to ⟨hdn,hcd,had,hlt,hmm,hO,fun h=>by cases h⟩ rfl rfl rfl rfl rfl hpa (fun h=>by cases h) (fun h=>by cases h) fun o ho=> ?_,hG.mono,FrM.same rfl rfl (zW _) rfl⟩;unfold AT.held at ho ⊢;rw[he];exact ho
theorem q6i{p:AP}(h:a.ph=p)(hp:(∃b,p= .tn b)∨(∃l,p= .ck l)∨p= .dc∨∃A V,p= .wr A V):a.held=a.oc:=by
 unfold AT.held;rw[h]
 rcases hp with ⟨b,rfl⟩|⟨l,rfl⟩|rfl|⟨A,V,rfl⟩ <;>rfl
theorem StI.tn(hk:k≤100000)(hG:GM c n k m)(hA:AI c t m a){b:Bool}(he:a.ph= .tn b):StI c t n k m a:=by
 have hp:=hA.ph;unfold PhA at hp;rw[he] at hp;dsimp only at hp;obtain⟨hdn,hol,hoc,hO⟩:=hp;have hpa:a.ph.past=true:=by rw[he];rfl
 have hhd:=q6i he (.inl ⟨b,rfl⟩);unfold StI;cases b with
 |false=>
  rw[q8R he];have htk:=hG.tk;have hsv:=hG.sv;have hw:qM (m.tk+1)=m.tk+1:=q27 ⟨Y6,Y6⟩;rw[hw];refine⟨fun _=>⟨⟨hdn,hol,hoc,hO⟩,fun _=>hA.rv hpa,fun _=>⟨hsv.2,by(try dsimp only);omega⟩,fun h=>(by cases h),fun o ho=>hA.hl o (by rw[hhd];exact ho),hA.oc,hA.nd,hA.an,hA.ar,hA.al,hA.st⟩,
   ⟨hG.o,hG.ol,hG.dl,hG.sl,⟨hsv.1,by(try dsimp only);omega⟩,by(try dsimp only);omega,hG.mono.ck⟩,FrM.same rfl rfl (by(try dsimp only);omega) rfl⟩
 |true=>
  rw[q6D he];refine⟨fun _=> ?_,hG.mono,FrM.same rfl rfl (zW _) rfl⟩;dsimp only
  split
  ·rename_i hs
   split
   ·rename_i h0;exact hA.to ⟨hdn,hol,hoc,hO,fun o ho=>by dsimp only at ho;rw[h0] at ho;cases ho⟩ rfl rfl rfl rfl rfl hpa (fun _=>⟨rfl,by rw[he];rfl⟩) (fun _=>hs.symm) fun o ho=>by rw[hhd];exact ho
   ·rename_i h0;exact hA.to ⟨hdn,hol,hoc,hO,h0,fun o ho=>ho,fun o ho=> .inl ho⟩ rfl rfl rfl rfl rfl hpa (fun _=>⟨rfl,by rw[he];rfl⟩) (fun _=>hs.symm) fun o ho=>by rw[hhd];exact ho
  ·exact hA
theorem StI.ck(hG:GM c n k m)(hA:AI c t m a){l:List Int}(he:a.ph= .ck l):StI c t n k m a:=by
 have hp:=hA.ph;unfold PhA at hp;rw[he] at hp;dsimp only at hp;obtain⟨hdn,hol,hoc,hO,hl,hls,hv⟩:=hp;have hpa:a.ph.past=true:=by rw[he];rfl
 have hti:a.ph.tick=true:=by rw[he];rfl
 have hho:=hA.ho (by rw[he];rfl);have hhd:=q6i he (.inr (.inl ⟨l,rfl⟩));unfold StI;rw[qdD he];refine⟨fun _=> ?_,hG.mono,FrM.same rfl rfl (zW _) rfl⟩;dsimp only;have hcs:=q8g hl
 split
 ·exact hA.rest hhd hpa hti hho {a with code:=9} rfl rfl rfl rfl rfl rfl hol fun _=>⟨hdn,hO⟩
 ·rename_i hle;have hle:q1C m (l.headD 0)≤a.rv:=by unfold q1C;omega
  split
  ·rename_i htl;refine hA.to ⟨hdn,hol,hoc,hO,fun o ho=> ?_⟩ rfl rfl rfl rfl rfl hpa (fun _=>⟨rfl,hti⟩) (fun _=>hho) fun o ho=>by rw[hhd];exact ho
   rcases hv o ho with h|h
   ·rw[←hcs,htl,zf] at h;rw[h];exact hle
   ·exact h
  ·rename_i htl;refine hA.to ⟨hdn,hol,hoc,hO,htl,fun o ho=>hls o (Zg ho),fun o ho=> ?_⟩ rfl rfl rfl rfl rfl hpa (fun _=>⟨rfl,hti⟩) (fun _=>hho) fun o ho=>by rw[hhd];exact ho
   rcases hv o ho with h|h
   ·rw[←hcs,zQ] at h
    rcases h with rfl|h
    ·exact .inr hle
    ·exact .inl h
   ·exact .inr h
theorem StI.dc(hG:GM c n k m)(hA:AI c t m a)(he:a.ph= .dc):StI c t n k m a:=by
 have hp:=hA.ph;unfold PhA at hp;rw[he] at hp;dsimp only at hp;obtain⟨hdn,hol,hoc,hO,hv⟩:=hp;have hpa:a.ph.past=true:=by rw[he];rfl
 have hti:a.ph.tick=true:=by rw[he];rfl
 have hho:=hA.ho (by rw[he];rfl);have hhd:=q6i he (.inr (.inr (.inl rfl)));unfold StI;rw[q50 he];refine⟨fun _=> ?_,hG.mono,FrM.same rfl rfl (zW _) rfl⟩;dsimp only
 split
 ·exact hA.rest hhd hpa hti hho {a with ck:=m.ck,code:=6} rfl rfl rfl rfl rfl rfl hol fun _=>⟨hdn,hO⟩
 ·split
  ·rename_i hs;have hs:a.code=1∧a.ad≠ []:=by simpa [AT.sto] using hs
   exact hA.to ⟨rfl,hs.1,hs.2,rfl,hs.2,hA.al,hA.an,fun w hw=>hw,hoc.1 hs.1⟩ rfl rfl rfl rfl rfl hpa (fun _=>⟨rfl,hti⟩) (fun _=>hho) fun o ho=>by rw[hhd];exact ho
  ·rename_i hs;have hs:¬(a.code=1∧a.ad≠ []):=by simpa [AT.sto] using hs
   exact hA.rest hhd hpa hti hho {a with ck:=m.ck,dn:=true} rfl rfl rfl rfl rfl rfl hol fun h=>absurd (hoc.2 h) hs
end
open Go
section
variable{c:Cfg}{t u n k:Nat}{m m':MS}{a b:AT}
theorem StI.wr(hG:GM c n k m)(hA:AI c t m a){A V:List Int}(he:a.ph= .wr A V):StI c t n k m a:=by
 have hp:=hA.ph;unfold PhA at hp;rw[he] at hp;dsimp only at hp;obtain⟨hdn,hcd,had,hck,hA0,hAV,hnd,hAd,hoc⟩:=hp;have hpa:a.ph.past=true:=by rw[he];rfl
 have hti:a.ph.tick=true:=by rw[he];rfl
 have hho:=hA.ho (by rw[he];rfl);have hhd:=q6i he (.inr (.inr (.inr ⟨A,V,rfl⟩)));have hG':GM c n (k+1) {m with d:=m.d.set (A.headD 0).toNat (V.headD 0)}:=⟨hG.o,hG.ol,by(try dsimp only);rw[zj];exact hG.dl,hG.sl,hG.sv,hG.mono.tk,hG.mono.ck⟩
 unfold StI qh;rw[he];dsimp only;refine⟨fun _=>AI.cong (m:=m) ?_ rfl rfl rfl rfl,hG',FrM.same rfl rfl (zW _) rfl⟩
 split
 ·have hne:a.oc≠ []:=by
   obtain⟨w,hw⟩:=yp _ had;exact List.ne_nil_of_mem (hoc w hw)
  refine hA.to ⟨hne,fun o ho=>ho,by rw[zk],hA.nd, .inl ⟨hdn,hcd,had,hck,fun z hz=> ?_⟩⟩ rfl rfl rfl rfl rfl hpa (fun _=>⟨rfl,hti⟩) (fun _=>hho) fun o ho=>by rw[hhd];exact ho
  obtain⟨_,_,rfl⟩:=zK.1 hz;rw[hck]
 ·rename_i htl;refine hA.to ⟨hdn,hcd,had,hck,htl,by rw[y8,y8,hAV],hnd.sublist (List.tail_sublist A),fun w hw=>hAd w (Zg hw),hoc⟩ rfl rfl rfl rfl rfl hpa (fun _=>⟨rfl,hti⟩) (fun _=>hho) fun o ho=>by rw[hhd];exact ho
theorem StI.rl(hk:k≤100000)(hG:GM c n k m)(hA:AI c t m a){l w:List Int}(he:a.ph= .rl l w):StI c t n k m a:=by
 have hp:=hA.ph;unfold PhA at hp;rw[he] at hp;dsimp only at hp;obtain⟨hl,hlo,hlw,hnd,hor⟩:=hp;have hoc:∀o∈l,0≤o∧o.toNat<m.o.length:=fun o ho=>hA.oc o (hlo o ho)
 have hpa:a.ph.past=true:=by rw[he];rfl
 have hti:a.ph.tick=true:=by rw[he];rfl
 have hho:=hA.ho (by rw[he];rfl);have hhd:a.held=l:=by unfold AT.held;rw[he]
 have hhm:=q7a hl;have hh0:=hoc _ hhm;have hhl:q3R (m.o.getD (l.headD 0).toNat 0)=t:=hA.hl _ (by rw[hhd];exact hhm);have hw0:w≠ []:=fun e=>hl (zA.1 (by rw[hlw,e];rfl))
 have hgw:w.getD 0 0=w.headD 0:=by cases w with
  |nil=>rfl
  |cons x r=>rfl
 have hgl:l.getD 0 0=l.headD 0:=by cases l with
  |nil=>rfl
  |cons x r=>rfl
 have hkk:=hG.ck;have hwok:okU (w.headD 0):=by
  rcases hor with ⟨_,_,_,_,h⟩|⟨_,h⟩
  ·rw[h _ (q7a hw0)];unfold okU;omega
  ·have:=(h 0 (List.length_pos_iff.2 hw0)).2.2;rw[hgw] at this;exact this
 have hve:q1C {m with o:=m.o.set (l.headD 0).toNat (w.headD 0)} (l.headD 0)=q5V (w.headD 0):=by
  unfold q1C;dsimp only;rw[q8f hh0.2]
 have hvo:∀o:Int,(l.headD 0).toNat≠o.toNat→q1C {m with o:=m.o.set (l.headD 0).toNat (w.headD 0)} o=q1C m o:=fun o e=>by
  unfold q1C;dsimp only;rw[q79 e]
 have htl:∀o∈l.tail,(l.headD 0).toNat≠o.toNat:=fun o ho e=>by
  have h0:=hoc o (Zg ho);have e2:l.headD 0=o:=Y6;have:=q8g hl;rw[←this,ZN] at hnd;exact hnd.1 (e2 ▸ ho)
 have hG':GM c n (k+1) {m with o:=m.o.set (l.headD 0).toNat (w.headD 0)}:=⟨fun j=>qgL hG.o hwok j,by(try dsimp only);rw[zj];exact hG.ol,hG.dl,hG.sl,hG.sv,hG.mono.tk,hG.mono.ck⟩
 have hF:FrM t a m {m with o:=m.o.set (l.headD 0).toNat (w.headD 0)}:=by
  refine⟨.inl rfl, .inl rfl,zW _,by(try dsimp only);rw[zj],fun j h1 h2=> ?_,fun o=> ?_⟩
  ·dsimp only;rw[q79];rintro rfl;exact h2 hhl
  ·by_cases e:(l.headD 0).toNat=o.toNat
   ·rcases hor with ⟨h1,_,_,_,h⟩|⟨_,h⟩
    ·right;refine⟨h1,⟨l,w,he,e.symm⟩,?_⟩;unfold q1C;dsimp only;rw[←e,q8f hh0.2,h _ (q7a hw0)];exact(qgJ _).1
    ·left;have:=(h 0 (List.length_pos_iff.2 hw0)).1;rw[hgw,hgl] at this;unfold q1C at this ⊢;dsimp only;rw[←e,q8f hh0.2];exact this
   ·exact .inl (hvo o e)
 have hAc:∀b:AT,PhA c {m with o:=m.o.set (l.headD 0).toNat (w.headD 0)} b→b.rv=a.rv→b.oc=a.oc→b.ad=a.ad→b.vl=a.vl→b.set=a.set→b.tk=a.tk→(∀o∈b.held,o∈l.tail)→AI c t {m with o:=m.o.set (l.headD 0).toNat (w.headD 0)} b:=
  fun b hp h1 h2 h3 h4 h5 h6 h7=>⟨hp,fun _=>by rw[h1];exact hA.rv hpa,fun _=>by rw[h6];exact hA.tk hti,fun _=>by rw[h6];exact hho,fun o ho=>by
   unfold qi4;dsimp only;rw[q79 (htl o (h7 o ho))];exact hA.hl o (by rw[hhd];exact Zg (h7 o ho)),by rw[h2];dsimp only;rw[zj];exact hA.oc,by rw[h2];exact hA.nd,by rw[h3];exact hA.an,by rw[h3];exact hA.ar,by rw[h3,h4];exact hA.al,by rw[h5];dsimp only;rw[zj];exact hA.st⟩
 unfold StI qh;rw[he];dsimp only;refine⟨fun _=> ?_,hG',hF⟩
 split
 ·rename_i ht0
  split
  ·rename_i hds;have hds:a.dn=true∧a.code=1∧a.ad≠ []:=by simpa [AT.sto] using hds
   refine hAc _ ⟨hds.1,hds.2.1,hds.2.2,?_⟩ rfl rfl rfl rfl rfl rfl fun o ho=>by cases ho
   rcases hor with ⟨_,_,_,h,_⟩|⟨h,_⟩
   ·exact h
   ·rw[hds.1] at h;cases h
  ·exact hAc _ trivial rfl rfl rfl rfl rfl rfl fun o ho=>by cases ho
 ·rename_i ht0;refine hAc _ ⟨ht0,fun o ho=>hlo o (Zg ho),by rw[y8,y8,hlw],hnd.sublist (List.tail_sublist l),hor.imp (fun h=>⟨h.1,h.2.1,h.2.2.1,h.2.2.2.1,fun z hz=>h.2.2.2.2 z (Zg hz)⟩) fun h=>⟨h.1,fun j hj=> ?_⟩⟩ rfl rfl rfl rfl rfl rfl fun o ho=>ho
  rw[y8] at hj;have hgt:∀(z:List Int) (i:Nat),z.tail.getD i 0=z.getD (i+1) 0:=fun z i=>by
   cases z with
   |nil=>rfl
   |cons x r=>rfl
  have:=h.2 (j+1) Y6;rw[hgt,hgt,hvo]
  ·exact this
  ·have hm:=qgK (l:=l.tail) (j:=j) (by rw[y8];omega);rw[hgt] at hm;exact htl _ hm
theorem StI.sp(hk:k≤100000)(hG:GM c n k m)(hA:AI c t m a)(he:a.ph= .sp):StI c t n k m a:=by
 have hp:=hA.ph;unfold PhA at hp;rw[he] at hp;dsimp only at hp;obtain⟨hdn,hcd,had,hck⟩:=hp;have hpa:a.ph.past=true:=by rw[he];rfl
 have hti:a.ph.tick=true:=by rw[he];rfl
 have hho:=hA.ho (by rw[he];rfl);have hkk:=hG.ck;have hw:qM (a.ck+1)=m.ck+1:=by rw[hck];exact q27 ⟨Y6,Y6⟩
 have hrv:=hA.rv hpa;unfold StI qh;rw[he];dsimp only;rw[hw];exact⟨fun _=>⟨trivial,fun _=>⟨hrv.1,by have:=hrv.2;dsimp only;omega⟩,fun _=>hA.tk hti,fun _=>hho,fun o ho=>(by cases ho),hA.oc,hA.nd,hA.an,hA.ar,hA.al,hA.st⟩,
  ⟨hG.o,hG.ol,hG.dl,hG.sl,hG.sv,hG.mono.tk,by(try dsimp only);omega⟩,⟨.inr ⟨by rw[he];rfl,by(try dsimp only);omega⟩, .inl rfl,zW _,rfl,fun _ _ _=>rfl,fun _=> .inl rfl⟩⟩
theorem StI.ps(hk:k≤100000)(hG:GM c n k m)(hA:AI c t m a)(he:a.ph= .ps):StI c t n k m a:=by
 have hpa:a.ph.past=true:=by rw[he];rfl
 have hti:a.ph.tick=true:=by rw[he];rfl
 have hho:=hA.ho (by rw[he];rfl);have htk:=hA.tk hti;have hsv:=hG.sv;have hgt:=hG.tk;have hw:qM (a.tk+1)=m.sv+1:=by rw[hho];exact q27 ⟨Y6,Y6⟩
 unfold StI qh;rw[he];dsimp only;rw[hw];exact⟨fun _=>⟨trivial,fun _=>hA.rv hpa,fun h=>(by cases h),fun h=>(by cases h),fun o ho=>(by cases ho),hA.oc,hA.nd,hA.an,hA.ar,hA.al,hA.st⟩,
  ⟨hG.o,hG.ol,hG.dl,hG.sl,⟨by(try dsimp only);omega,by(try dsimp only);omega⟩,hG.mono.tk,hG.mono.ck⟩,⟨.inl rfl, .inr ⟨by rw[he];rfl,rfl⟩,zW _,rfl,fun _ _ _=>rfl,fun _=> .inl rfl⟩⟩
theorem AI.step(hC:COk c)(hn:n≤16)(ht:t<n)(hk:k≤100000)(hG:GM c n k m)(hA:AI c t m a):StI c t n k m a:=by
 cases he:a.ph with
 |idle=>
  unfold StI qh;rw[he];exact⟨fun _=>hA,hG.mono,FrM.same rfl rfl (zW _) rfl⟩
 |loc q=>
  unfold StI qh;rw[he];exact⟨fun _=>hA.loc hC hG he,hG.mono,FrM.same rfl rfl (zW _) rfl⟩
 |ent j=>exact StI.ent hG hA he
 |rd j b v=>exact StI.rd hC hG hA he
 |lk s ld=>exact StI.lk hn ht hG hA he
 |tn b=>exact StI.tn hk hG hA he
 |ck l=>exact StI.ck hG hA he
 |dc=>exact StI.dc hG hA he
 |wr A V=>exact StI.wr hG hA he
 |rl l w=>exact StI.rl hk hG hA he
 |sp=>exact StI.sp hk hG hA he
 |ps=>exact StI.ps hk hG hA he
 |lv=>
  unfold StI qh;rw[he];exact⟨fun h=>absurd rfl h,⟨hG.o,hG.ol,hG.dl,by(try dsimp only);rw[zj];exact hG.sl,hG.sv,hG.mono.tk,hG.mono.ck⟩,FrM.same rfl rfl (zW _) rfl⟩
end
open Go
def q3q(x:GT)(a:AT)(tk:List Bool)(d:List Int):BM:=⟨lay a.ad a.vl d,tk,x.th,a.seen,a.ad,x.seen,[]⟩
def q8i(x:GT)(tk:List Bool)(d:List Int):BM:=⟨d,tk,⟨x.bg+1,x.sv,x.th.oc,false⟩,[],[],[],[]⟩
def Agr(r:List (Int×Int))(d:List Int):Prop:=∀q∈r,d.getD q.1.toNat 0=q.2
def Rep(c:Cfg)(p:List Ins)(x:GT)(a:AT)(r:List (Int×Int)):Prop:=∀(tk:List Bool) (d:List Int),(d.length:Int)=c.words→Agr r d→Rn c p (q8i x tk d) (q3q x a tk d)
def q2L(c:Cfg)(x:GT)(a:AT)(i:Ins):Prop:=
 match a.ph with
 | .idle=>a.code=0
 | .loc (.en k)=>a.code=0∧k=q57 c x.th.rg i∧k≠0
 | .loc (.tk v)=>a.code=0∧i.op=10∧adr x.th.rg i.b i.imm<c.words∧q41 a.ad a.vl (adr x.th.rg i.b i.imm)=some v
 | .loc (.wr w v)=>a.code=0∧i.op=11∧w=adr x.th.rg i.a i.imm∧v=x.th.rg.get i.b.toNat
 | .rd _ _ _=>a.code=0∧i.op=10∧a.addr=adr x.th.rg i.b i.imm∧a.addr<c.words∧q41 a.ad a.vl a.addr=none
 | .lk _ _=>a.code=q57 c x.th.rg i∧a.code≠0
 | .tn _=>a.code=q57 c x.th.rg i∧a.code≠0
 | .ck _=>a.code=q57 c x.th.rg i∧a.code≠0
 | .dc=>a.code=q57 c x.th.rg i∧a.code≠0
 |_=>False
def AP.back:AP→Bool
 | .rl _ _=>true
 | .ps=>true
 | .lv=>true
 |_=>false
structure TL(c:Cfg)(p:List Ins)(x:GT)(a:AT)(r:List (Int×Int)):Prop where
 bg:∃ib,p[x.bg]? =some ib∧ib.op=7
 dn:x.th.dn=false
 fn:x.fn=none
 tr:x.tr≠0
 len:a.ad.length=a.vl.length
 st:a.st=1
 rr:∀q∈r,0≤q.1∧q.1<c.words∧qF c q.1∈a.set
 ph:(∃k,a.ph= .ent k∧r= []∧a.ad= []∧a.vl= []∧a.seen= []∧x.seen= []∧x.th.pc=x.bg∧x.th.rg=x.sv∧a.code=0)∨
  (x.bg<x.th.pc∧x.th.pc≤q0t p x.bg∧Rep c p x a r∧∃i,p[x.th.pc]? =some i∧q2L c x a i)∨
  (a.ph.back=true∧(a.code=3∨a.code=6∨a.code=9))
 pl:x.th.pc<p.length
def fl(a:AT):List (Int×Int):=match a.ph with
 | .rd n _ v=>if n=0∨n=1 then [] else [(a.addr,v)]
 |_=> []
structure q2Z(x x':GT):Prop where
 bg:x'.bg=x.bg
 sv:x'.sv=x.sv
 oc:x'.th.oc=x.th.oc
 obs:x'.obs=x.obs
 tr:x'.tr=x.tr
 fn:x'.fn=x.fn
 dn:x'.th.dn=x.th.dn
theorem q2Z.at{x:GT}{z:Option AT}:q2Z x {x with at':=z}:=⟨rfl,rfl,rfl,rfl,rfl,rfl,rfl⟩
section
variable{c:Cfg}{p:List Ins}{x x':GT}{a b:AT}{r r':List (Int×Int)}{i:Ins}{t:Nat}{m:MS}
theorem TL.at(h:TL c p x a r)(z:Option AT):TL c p {x with at':=z} a r:=⟨h.bg,h.dn,h.fn,h.tr,h.len,h.st,h.rr,h.ph,h.pl⟩
theorem TL.to(hT:TL c p x a r)(hne:∀k,a.ph≠ .ent k)(hnb:a.ph.back=false)(h1:b.ad=a.ad)(h2:b.vl=a.vl)(h3:b.seen=a.seen)(h4:b.set=a.set)(h5:b.st=a.st)(hq:∀i,p[x.th.pc]? =some i→q2L c x a i→q2L c x b i):TL c p x b r:=by
 refine⟨hT.bg,hT.dn,hT.fn,hT.tr,by rw[h1,h2];exact hT.len,by rw[h5];exact hT.st,by rw[h4];exact hT.rr,?_,hT.pl⟩
 rcases hT.ph with ⟨k,e,_⟩|⟨e1,e2,e3,i,hi,e4⟩|⟨e,_⟩
 ·exact absurd e (hne k)
 ·refine .inr (.inl ⟨e1,e2,?_,i,hi,hq i hi e4⟩);unfold Rep q3q at e3 ⊢;rw[h1,h2,h3];exact e3
 ·rw[hnb] at e;cases e
theorem TL.off(hT:TL c p x a r)(h1:b.ad=a.ad)(h2:b.vl=a.vl)(h4:b.set=a.set)(h5:b.st=a.st)(hb:b.ph.back=true)(hk:b.code=3∨b.code=6∨b.code=9):TL c p x b r:=
 ⟨hT.bg,hT.dn,hT.fn,hT.tr,by rw[h1,h2];exact hT.len,by rw[h5];exact hT.st,by rw[h4];exact hT.rr, .inr (.inr ⟨hb,hk⟩),hT.pl⟩
theorem TL.req(hT:TL c p x a r)(hne:∀k,a.ph≠ .ent k)(hnb:a.ph.back=false):x.bg<x.th.pc∧x.th.pc≤q0t p x.bg∧Rep c p x a r∧∃i,p[x.th.pc]? =some i∧q2L c x a i:=by
 rcases hT.ph with ⟨k,e,_⟩|h|⟨e,_⟩
 ·exact absurd e (hne k)
 ·exact h
 ·rw[hnb] at e;cases e
theorem Rep.snoc(h:Rep c p x a r)(hi:p[x.th.pc]? =some i)(hs:∀(tk:List Bool) (d:List Int),(d.length:Int)=c.words→Agr r' d→q07 c (q3q x a tk d) i=(q3q x' b tk d,0))(hr:∀q∈r,q∈r')(hH:q2Z x x'):Rep c p x' b r':=fun tk d hd ha=>by
 have h1:=h tk d hd fun q hq=>ha q (hr q hq)
 have h2:=hs tk d hd ha;have h3:=Rn.snoc h1 hi (by rw[h2]);rw[h2] at h3;have e:q8i x' tk d=q8i x tk d:=by unfold q8i;rw[hH.bg,hH.sv,hH.oc]
 rw[e];exact h3
theorem q1Y{y:AT}(h:y.ph= .idle):¬y.busy=true:=by unfold AT.busy;rw[h];decide
theorem q5o(r:Rg)(b imm:Int):0≤adr r b imm:=(q0m _).1
theorem q6I{k:Nat}(hx:q2Z x x')(hk:k≠p.length)(hd:x.th.dn=false):q2Z x (x'.to p.length k):=⟨hx.bg,hx.sv,hx.oc,hx.obs,hx.tr,hx.fn,by unfold GT.to;dsimp only;rw[hd];exact decide_eq_false hk⟩
theorem TL.next(hp:PrO p)(hT:TL c p x a r)(hne:∀k,a.ph≠ .ent k)(hnb:a.ph.back=false)(hi:p[x.th.pc]? =some i)(hop:i.op≠8)(hS:q2Z x x')(hpc:x'.th.pc=x.th.pc+1∨(x.th.pc<x'.th.pc∧x'.th.pc≤q0t p x.bg))(hid:b.ph= .idle)(hcd:b.code=0)(hst:b.st=1)(hlen:b.ad.length=b.vl.length)
  (hrr:∀q∈r',0≤q.1∧q.1<c.words∧qF c q.1∈b.set) (hr:∀q∈r,q∈r') (hs:∀(tk:List Bool) (d:List Int),(d.length:Int)=c.words→Agr r' d→q07 c (q3q x a tk d) i=(q3q x' b tk d,0)):TL c p x' b r':=by
 obtain⟨h1,h2,h3,_⟩:=hT.req hne hnb;obtain⟨ib,hib,h7⟩:=hT.bg;obtain⟨e1,e2,e3,j,hj,e4,e5⟩:=q7b hp hib h7 h1 h2;rw[hi] at hj;cases hj;have hlt:x.th.pc<q0t p x.bg:=by
  refine yy h2 fun e=> ?_
  obtain⟨c',hc,_,_,⟨y,hy,hy8⟩,_⟩:=q0k hp.ck hib h7;rw[e,hc,hy] at hi;cases hi;exact hop hy8
 have hpc':x.th.pc<x'.th.pc∧x'.th.pc≤q0t p x.bg:=by rcases hpc with e|e <;>omega
 obtain⟨f1,f2,f3,j,hj,f4,_⟩:=q7b hp hib h7 (Nat.lt_trans h1 hpc'.1) hpc'.2;refine⟨⟨ib,by rw[hS.bg];exact hib,h7⟩,by rw[hS.dn];exact hT.dn,by rw[hS.fn];exact hT.fn,by rw[hS.tr];exact hT.tr,hlen,hst,hrr, .inr (.inl ⟨by rw[hS.bg];omega,by rw[hS.bg];exact hpc'.2,h3.snoc hi hs hr hS,j,hj,?_⟩),f3⟩;unfold q2L;rw[hid];exact hcd
theorem TL.lt(hp:PrO p)(hT:TL c p x a r)(hne:∀k,a.ph≠ .ent k)(hnb:a.ph.back=false):x.th.pc<p.length∧∀i,p[x.th.pc]? =some i→i.op≠8→x.th.pc+1<p.length:=by
 obtain⟨h1,h2,h3,_⟩:=hT.req hne hnb;obtain⟨ib,hib,h7⟩:=hT.bg;obtain⟨e1,e2,e3,j,hj,e4,e5⟩:=q7b hp hib h7 h1 h2;obtain⟨c',hc,_,hl,⟨y,hy,hy8⟩,_⟩:=q0k hp.ck hib h7;refine⟨e3,fun i hi hop=> ?_⟩;have:x.th.pc≠q0t p x.bg:=fun e=>by
  rw[e,hc,hy] at hi;cases hi;exact hop hy8
 omega
end
open Go
section
variable{c:Cfg}{p:List Ins}{x x':GT}{a b:AT}{r r':List (Int×Int)}{i:Ins}{t:Nat}{m:MS}
theorem q7V:(q0M c p t m x a i).2.1=if(qh c t m a).2.1.busy then{x with at':=some (qh c t m a).2.1} else x.ans p (qh c t m a).2.1 i:=rfl
def q0L(c:Cfg)(p:List Ins)(t:Nat)(m:MS)(x:GT)(a:AT)(r:List (Int×Int))(i:Ins):Prop:=
 ∃r',r'=(if(qh c t m a).2.1.busy then r else r++fl a)∧q2Z x (q0M c p t m x a i).2.1∧(q0M c p t m x a i).2.1.at'=some (qh c t m a).2.1∧
  ((qh c t m a).2.1.dn=false→TL c p (q0M c p t m x a i).2.1 (qh c t m a).2.1 r')∧((qh c t m a).2.1.dn=true→a.ph= .dc∧(q0M c p t m x a i).2.1={x with at':=some (qh c t m a).2.1})
theorem q0L.busy{y:AT}(hy:(qh c t m a).2.1=y)(hb:y.busy=true)(hT:y.dn=false→TL c p x y r)(hd:y.dn=true→a.ph= .dc):q0L c p t m x a r i:=by
 unfold q0L;rw[q7V,hy,if_pos hb,if_pos hb];exact⟨r,rfl,q2Z.at,rfl,fun h=>(hT h).at _,fun h=>⟨hd h,rfl⟩⟩
theorem qgg{X:GT}{k:Nat}(hk:k≠p.length)(hd:X.th.dn=false):(X.to p.length k).th={X.th with pc:=k}:=by
 unfold GT.to;dsimp only;rw[decide_eq_false hk,←hd]
theorem q0L.ent(hp:PrO p)(hT:TL c p x a r)(hi:p[x.th.pc]? =some i)(hdn:a.dn=false){k:Nat}(he:a.ph= .ent k):q0L c p t m x a r i:=by
 rcases hT.ph with ⟨k',e,h1,h2,h3,h4,h5,h6,h7,h8⟩|⟨_,_,_,i,_,e⟩|⟨e,_⟩
 ·by_cases h0:k=0
  ·refine q0L.busy (y:={a with ph:= .ent 1}) (by unfold qh;rw[he];dsimp only;rw[if_pos h0]) rfl (fun _=> ?_) (fun h=>by rw[hdn] at h;cases h);exact⟨hT.bg,hT.dn,hT.fn,hT.tr,hT.len,hT.st,hT.rr, .inl ⟨1,rfl,h1,h2,h3,h4,h5,h6,h7,h8⟩,hT.pl⟩
  ·by_cases hk:k=1
   ·refine q0L.busy (y:={a with rv:=m.ck,ph:= .ent 2}) (by unfold qh;rw[he];dsimp only;rw[if_neg h0,if_pos hk]) rfl (fun _=> ?_) (fun h=>by rw[hdn] at h;cases h);exact⟨hT.bg,hT.dn,hT.fn,hT.tr,hT.len,hT.st,hT.rr, .inl ⟨2,rfl,h1,h2,h3,h4,h5,h6,h7,h8⟩,hT.pl⟩
   ·obtain⟨ib,hib,hb7⟩:=hT.bg;have hii:i=ib:=by rw[h6,hib] at hi;exact(Option.some.inj hi).symm
    subst hii;obtain⟨c',hc,h9,h10,_⟩:=q0k hp.ck hib hb7;have hy:(qh c t m a).2.1={a with ph:= .idle}:=by unfold qh;rw[he];dsimp only;rw[if_neg h0,if_neg hk]
    have hne:x.th.pc+1≠p.length:=Y6;have hf:fl a= []:=by unfold fl;rw[he]
    unfold q0L;rw[q7V,hy,if_neg (q1Y rfl),if_neg (q1Y rfl),qhr (by show a.st≠2;rw[hT.st];decide) Y6];have hth:=qgg (p:=p) (X:={x with at':=some {a with ph:= .idle}}) hne hT.dn;have hS:q2Z x (({x with at':=some {a with ph:= .idle}}:GT).to p.length (x.th.pc+1)):=q6I q2Z.at hne hT.dn;refine⟨r,by rw[hf,zC],hS,rfl,fun _=>⟨hT.bg,by rw[hth];exact hT.dn,hT.fn,hT.tr,hT.len,hT.st,hT.rr, .inr (.inl ⟨?_,?_,fun tk d _ _=> ?_,?_⟩),by rw[hth];show x.th.pc+1<p.length;omega⟩,fun h=> ?_⟩
    ·show x.bg<x.th.pc+1;omega
    ·show x.th.pc+1≤q0t p x.bg;rw[hc];omega
    ·have:q8i (({x with at':=some {a with ph:= .idle}}:GT).to p.length (x.th.pc+1)) tk d=q3q (({x with at':=some {a with ph:= .idle}}:GT).to p.length (x.th.pc+1)) {a with ph:= .idle} tk d:=by
      unfold q8i q3q;rw[hth,hS.bg,hS.sv];dsimp only;rw[h2,h3,h4,q8n,h6,h7,hT.dn];show _=BM.mk _ _ _ _ _ x.seen _;rw[h5]
     rw[this];exact Rn.nil
    ·obtain⟨_,_,_,j,hj,_⟩:=q7b (k:=x.th.pc+1) hp hib hb7 Y6 (by rw[hc];omega);exact⟨j,hj,h8⟩
    ·rw[show({a with ph:= .idle}:AT).dn=a.dn from rfl,hdn] at h;cases h
 ·unfold q2L at e;rw[he] at e;exact e.elim
 ·rw[he] at e;cases e
theorem TL.endA(hT:TL c p x a r)(hne:∀k,a.ph≠ .ent k)(hnb:a.ph.back=false){k:Int}(hk:∀i,p[x.th.pc]? =some i→q2L c x a i→k=q57 c x.th.rg i∧k≠0):TL c p x ({a with ph:= .idle}.endA c k) r∧({a with ph:= .idle}.endA c k).busy=true∧({a with ph:= .idle}.endA c k).dn=a.dn:=by
 unfold AT.endA
 split
 ·refine⟨hT.to hne hnb rfl rfl rfl rfl rfl fun i hi hq=> ?_,rfl,rfl⟩;exact hk i hi hq
 ·refine⟨hT.to hne hnb rfl rfl rfl rfl rfl fun i hi hq=> ?_,rfl,rfl⟩;exact hk i hi hq
theorem qlP{d:BM}(h11:i.op=11)(hlt:adr d.t.rg i.a i.imm<c.words):q07 c d i=((wrM d (adr d.t.rg i.a i.imm).toNat (d.t.rg.get i.b.toNat)).go,0):=by
 unfold q07;rw[if_neg Y6,if_pos h11,if_neg Y6]
theorem qhb{d:BM}(h10:i.op=10)(hlt:adr d.t.rg i.b i.imm<c.words):q07 c d i=((rdM d (adr d.t.rg i.b i.imm).toNat).put i.a 1 (d.d.getD (adr d.t.rg i.b i.imm).toNat 0),0):=by
 unfold q07;rw[if_pos h10,if_neg Y6]
theorem toN(r:Rg)(b imm:Int):((adr r b imm).toNat:Int)=adr r b imm:=Z6 (q5o r b imm)
theorem q0L.loc(hp:PrO p)(hT:TL c p x a r)(hi:p[x.th.pc]? =some i)(hdn:a.dn=false){q:Ko}(he:a.ph= .loc q):q0L c p t m x a r i:=by
 have hne:∀k,a.ph≠ .ent k:=fun k e=>by rw[he] at e;cases e
 have hnb:a.ph.back=false:=by rw[he];rfl
 have hlt:=(hT.lt hp hne hnb).2 i hi;obtain⟨_,_,_,j,hj,hq⟩:=hT.req hne hnb;rw[hi] at hj;cases hj;have hf:fl a= []:=by unfold fl;rw[he]
 have hy:(qh c t m a).2.1={a with ph:= .idle}.kont c q:=by unfold qh;rw[he]
 have hends:∀k,(∀i,p[x.th.pc]? =some i→q2L c x a i→k=q57 c x.th.rg i∧k≠0)→(qh c t m a).2.1={a with ph:= .idle}.endA c k→q0L c p t m x a r i:=fun k hk hy=>by
  obtain⟨h1,h2,h3⟩:=hT.endA hne hnb hk;exact q0L.busy hy h2 (fun _=>h1) (fun h=>by rw[h3,hdn] at h;cases h)
 unfold q2L at hq;rw[he] at hq;cases q with
 |en k=>exact hends k (fun i hi hq=>by unfold q2L at hq;rw[he] at hq;exact hq.2) hy
 |tk v=>
  dsimp only at hq;obtain⟨hc0,h10,hw,hg⟩:=hq;have hpl:x.th.pc+1≠p.length:=by have:=hlt Y6;omega
  have hy:(qh c t m a).2.1={a with ph:= .idle,val:=v}:=hy;unfold q0L;rw[q7V,hy,if_neg (q1Y rfl),if_neg (q1Y rfl),qhs (by show a.st≠2;rw[hT.st];decide) h10];have hS:q2Z x (({x with at':=some {a with ph:= .idle,val:=v},th:={x.th with rg:=x.th.rg.set i.a.toNat v},seen:=x.seen++ [⟨x.th.pc,1,v⟩]}:GT).to p.length (x.th.pc+1)):=q6I ⟨rfl,rfl,rfl,rfl,rfl,rfl,rfl⟩ hpl hT.dn;refine⟨r,by rw[hf,zC],hS,rfl,fun _=>hT.next hp hne hnb hi Y6 hS (.inl rfl) rfl ?_ hT.st hT.len hT.rr (fun q hq=>hq) fun tk d hd _=> ?_,fun h=> ?_⟩
  ·exact hc0
  ·rw[qhb h10 (by exact hw)];unfold q3q;rw[qgg hpl (by exact hT.dn)];have hm:adr x.th.rg i.b i.imm∈a.ad:=by
    refine Decidable.byContradiction fun e=> ?_
    rw[(q16 hT.len).2 e] at hg;cases hg
   have hgd:(lay a.ad a.vl d).getD (adr x.th.rg i.b i.imm).toNat 0=v:=by
    have:=toN x.th.rg i.b i.imm;rw[q7e Y6,this,hg];rfl
   dsimp only;rw[hgd];unfold rdM BM.put;dsimp only;rw[toN,if_pos (.inl hm)];rfl
  ·rw[show({a with ph:= .idle,val:=v}:AT).dn=a.dn from rfl,hdn] at h;cases h
 |wr w v=>
  dsimp only at hq;obtain⟨hc0,h11,rfl,rfl⟩:=hq;have hpl:x.th.pc+1≠p.length:=by have:=hlt Y6;omega
  unfold AT.kont at hy;dsimp only at hy
  by_cases hw:c.words≤adr x.th.rg i.a i.imm
  ·rw[if_pos hw] at hy;refine hends 7 (fun j hj hq=> ?_) hy;rw[hi] at hj;cases hj;refine⟨?_,Y7⟩;unfold q57;rw[if_neg Y6,if_pos h11,if_pos hw]
  ·rw[if_neg hw] at hy;cases hpu:q5k c.writes a.ad a.vl (adr x.th.rg i.a i.imm) (x.th.rg.get i.b.toNat) with
   |none=>
    rw[hpu] at hy;exact q0L.busy hy rfl (fun _=>hT.off rfl rfl rfl rfl rfl (.inl rfl)) (fun h=>by rw[show(AT.undo {a with ph:= .idle} 3).dn=a.dn from rfl,hdn] at h;cases h)
   |some z=>
    obtain⟨ad,vl⟩:=z;rw[hpu] at hy;dsimp only at hy;obtain⟨g1,g2,g3⟩:=q8w hT.len hpu;unfold q0L;rw[q7V,hy,if_neg (q1Y rfl),if_neg (q1Y rfl),qhr (by show a.st≠2;rw[hT.st];decide) Y6];have hS:q2Z x (({x with at':=some {a with ph:= .idle,ad:=ad,vl:=vl}}:GT).to p.length (x.th.pc+1)):=q6I q2Z.at hpl hT.dn;refine⟨r,by rw[hf,zC],hS,rfl,fun _=>hT.next hp hne hnb hi Y6 hS (.inl rfl) rfl ?_ hT.st g1 hT.rr (fun q hq=>hq) fun tk d hd _=> ?_,fun h=> ?_⟩
    ·exact hc0
    ·rw[qlP h11 (by show adr x.th.rg i.a i.imm<_;omega)];unfold q3q;rw[qgg hpl (by exact hT.dn)];unfold wrM BM.go;dsimp only;rw[toN,g2,←qic (ad':=ad) (vl':=vl) (a:=(adr x.th.rg i.a i.imm).toNat) (v:=x.th.rg.get i.b.toNat) (fun k=>by rw[toN];exact g3 k),g2];rfl
    ·rw[show({a with ph:= .idle,ad:=ad,vl:=vl}:AT).dn=a.dn from rfl,hdn] at h;cases h
end
open Go
section
variable{c:Cfg}{p:List Ins}{x x':GT}{a b:AT}{r r':List (Int×Int)}{i:Ins}{t n k:Nat}{m:MS}
theorem q0L.b2{z:MS×AT×AcM×Int}(hst:qh c t m a=z)(hb:z.2.1.busy=true)(hT:z.2.1.dn=false→TL c p x z.2.1 r)(hd:z.2.1.dn=true→a.ph= .dc):q0L c p t m x a r i:=
 q0L.busy (congrArg (fun z=>z.2.1) hst) hb hT hd
theorem q0L.rd(hp:PrO p)(hT:TL c p x a r)(hA:AI c t m a)(hi:p[x.th.pc]? =some i){j:Nat}{bf v:Int}(he:a.ph= .rd j bf v):q0L c p t m x a r i:=by
 have hne:∀k,a.ph≠ .ent k:=fun k e=>by rw[he] at e;cases e
 have hnb:a.ph.back=false:=by rw[he];rfl
 have hlt:=(hT.lt hp hne hnb).2 i hi;have hpa:=hA.ph;unfold PhA at hpa;rw[he] at hpa;dsimp only at hpa;obtain⟨⟨hdn,_⟩,hj,_⟩:=hpa;obtain⟨_,_,_,i',hi',hq⟩:=hT.req hne hnb;rw[hi] at hi';cases hi';unfold q2L at hq;rw[he] at hq;dsimp only at hq;obtain⟨hc0,h10,had,hw,hg⟩:=hq;have hun:∀(y:AT),y.dn=a.dn→y.dn=true→a.ph= .dc:=fun y e h=>by rw[e,hdn] at h;cases h
 by_cases h0:j=0
 ·have hy:(qh c t m a).2.1=if q3R (m.o.getD (qF c a.addr).toNat 0)≥0∨q5V (m.o.getD (qF c a.addr).toNat 0)>a.rv then a.undo 9 else{a with ph:= .rd 1 (m.o.getD (qF c a.addr).toNat 0) 0}:=by
   unfold qh;rw[he];dsimp only;rw[if_pos h0]
  split at hy
  ·exact q0L.busy hy rfl (fun _=>hT.off rfl rfl rfl rfl rfl (.inr (.inr rfl))) (hun _ rfl)
  ·exact q0L.busy hy rfl (fun _=>hT.to hne hnb rfl rfl rfl rfl rfl fun i hi hq=>by unfold q2L at hq;rw[he] at hq;exact hq) (hun _ rfl)
 ·by_cases h1:j=1
  ·have hy:(qh c t m a).2.1={a with ph:= .rd 2 bf (m.d.getD a.addr.toNat 0)}:=by unfold qh;rw[he];dsimp only;rw[if_neg h0,if_pos h1]
   exact q0L.busy hy rfl (fun _=>hT.to hne hnb rfl rfl rfl rfl rfl fun i hi hq=>by unfold q2L at hq;rw[he] at hq;exact hq) (hun _ rfl)
  ·have hfl:fl a= [(a.addr,v)]:=by unfold fl;rw[he];dsimp only;rw[if_neg Y6]
   have hy:(qh c t m a).2.1=if m.o.getD (qF c a.addr).toNat 0≠bf then a.undo 9 else match q6Q c.reads a.set (qF c a.addr) with
    |none=>{a with seen:=q1G a.seen a.addr}.undo 3
    |some s=>{a with seen:=q1G a.seen a.addr,set:=s,val:=v,ph:= .idle}:=by
    unfold qh;rw[he];dsimp only;rw[if_neg h0,if_neg h1];rfl
   split at hy
   ·exact q0L.busy hy rfl (fun _=>hT.off rfl rfl rfl rfl rfl (.inr (.inr rfl))) (hun _ rfl)
   ·cases hs:q6Q c.reads a.set (qF c a.addr) with
    |none=>
     rw[hs] at hy;exact q0L.busy hy rfl (fun _=>hT.off rfl rfl rfl rfl rfl (.inl rfl)) (hun _ rfl)
    |some s=>
     rw[hs] at hy;dsimp only at hy;have hpl:x.th.pc+1≠p.length:=by have:=hlt Y6;omega
     unfold q0L;rw[q7V,hy,if_neg (q1Y rfl),if_neg (q1Y rfl),qhs (by show a.st≠2;rw[hT.st];decide) h10];have hS:q2Z x (({x with at':=some {a with seen:=q1G a.seen a.addr,set:=s,val:=v,ph:= .idle},th:={x.th with rg:=x.th.rg.set i.a.toNat v},seen:=x.seen++ [⟨x.th.pc,1,v⟩]}:GT).to p.length (x.th.pc+1)):=q6I ⟨rfl,rfl,rfl,rfl,rfl,rfl,rfl⟩ hpl hT.dn;refine⟨r++fl a,rfl,hS,rfl,fun _=>hT.next hp hne hnb hi Y6 hS (.inl rfl) rfl hc0 hT.st hT.len (fun q hq=> ?_) (fun q hq=>zN _ hq) fun tk d hd ha=> ?_,fun h=> ?_⟩
     ·rw[hfl,zz,zf] at hq
      rcases hq with hq|rfl
      ·have:=hT.rr q hq;exact⟨this.1,this.2.1,(q5Z hs).2 (.inl this.2.2)⟩
      ·exact⟨by rw[had];exact q5o _ _ _,hw,(q5Z hs).2 (.inr rfl)⟩
     ·rw[qhb h10 (by show adr x.th.rg i.b i.imm<_;rw[←had];exact hw)];unfold q3q;rw[qgg hpl (by exact hT.dn)];have hm:adr x.th.rg i.b i.imm∉a.ad:=by rw[←had];exact(q16 hT.len).1 hg
      have hav:=ha (a.addr,v) (by rw[hfl];exact zR _ (zf.2 rfl));dsimp only at hav;have hgd:(lay a.ad a.vl d).getD (adr x.th.rg i.b i.imm).toNat 0=v:=by
       have:=toN x.th.rg i.b i.imm;rw[q7e Y6,this,←had,hg];exact hav
      dsimp only;rw[hgd];unfold rdM BM.put;dsimp only;rw[toN,had];unfold q1G
      by_cases hsn:adr x.th.rg i.b i.imm∈a.seen
      ·rw[if_pos (.inr hsn),if_pos hsn];rfl
      ·rw[if_neg (fun h=>h.elim hm hsn),if_neg hsn];rfl
     ·rw[show({a with seen:=q1G a.seen a.addr,set:=s,val:=v,ph:= .idle}:AT).dn=a.dn from rfl,hdn] at h;cases h
theorem TL.rest(hT:TL c p x a r){b:AT}(h1:b.ad=a.ad)(h2:b.vl=a.vl)(h4:b.set=a.set)(h5:b.st=a.st)(hk:b.code=3∨b.code=6∨b.code=9):TL c p x b.rest r∧b.rest.busy=true:=by
 unfold AT.rest
 split
 ·exact⟨hT.off h1 h2 h4 h5 rfl hk,rfl⟩
 ·exact⟨hT.off h1 h2 h4 h5 rfl hk,rfl⟩
theorem q4E(b:AT):b.rest.dn=b.dn∧b.rest.code=b.code∧b.rest.busy=true:=by
 unfold AT.rest
 split <;>exact⟨rfl,rfl,rfl⟩
theorem q0L.lk(hT:TL c p x a r)(hdn:a.dn=false){s:Int}{ld:Bool}(he:a.ph= .lk s ld):q0L c p t m x a r i:=by
 have hne:∀k,a.ph≠ .ent k:=fun k e=>by rw[he] at e;cases e
 have hnb:a.ph.back=false:=by rw[he];rfl
 have hun:∀(y:AT),y.dn=a.dn→y.dn=true→a.ph= .dc:=fun y e h=>by rw[e,hdn] at h;cases h
 have hq:∀(y:AT),(∃s ld,y.ph= .lk s ld)∨(∃b,y.ph= .tn b)→y.code=a.code→∀i,p[x.th.pc]? =some i→q2L c x a i→q2L c x y i:=fun y hy e i _ hq=>by
  unfold q2L at hq ⊢;rw[he] at hq
  rcases hy with ⟨s,ld,hy⟩|⟨b,hy⟩ <;>rw[hy] <;>dsimp only at hq ⊢ <;>rw[e] <;>exact hq
 have hst:=q5R (c:=c) (t:=t) (m:=m) he;cases ld with
 |false=>
  rw[if_pos rfl] at hst;exact q0L.b2 hst rfl (fun _=>hT.to hne hnb rfl rfl rfl rfl rfl (hq _ (.inl ⟨_,_,rfl⟩) rfl)) (hun _ rfl)
 |true=>
  rw[if_neg Y7] at hst
  by_cases hw:m.o.getD (a.oc.getD a.old.length 0).toNat 0=s
  ·rw[if_pos hw] at hst
   by_cases hd:a.old.length+1=a.oc.length
   ·rw[if_pos hd] at hst;exact q0L.b2 hst rfl (fun _=>hT.to hne hnb rfl rfl rfl rfl rfl (hq _ (.inr ⟨_,rfl⟩) rfl)) (hun _ rfl)
   ·rw[if_neg hd] at hst;exact q0L.b2 hst rfl (fun _=>hT.to hne hnb rfl rfl rfl rfl rfl (hq _ (.inl ⟨_,_,rfl⟩) rfl)) (hun _ rfl)
  ·rw[if_neg hw] at hst;exact q0L.b2 hst rfl (fun _=>hT.to hne hnb rfl rfl rfl rfl rfl (hq _ (.inl ⟨_,_,rfl⟩) rfl)) (hun _ rfl)
theorem q0L.tnk(hT:TL c p x a r)(hdn:a.dn=false)(he:(∃b,a.ph= .tn b)∨(∃l,a.ph= .ck l)∨a.ph= .dc):q0L c p t m x a r i:=by
 have hne:∀k,a.ph≠ .ent k:=fun k e=>by rcases he with ⟨b,h⟩|⟨l,h⟩|h <;>rw[h] at e <;>cases e
 have hnb:a.ph.back=false:=by rcases he with ⟨b,h⟩|⟨l,h⟩|h <;>rw[h] <;>rfl
 have hun:∀(y:AT),y.dn=a.dn→y.dn=true→a.ph= .dc:=fun y e h=>by rw[e,hdn] at h;cases h
 have hqa:∀i,q2L c x a i→a.code=q57 c x.th.rg i∧a.code≠0:=fun i hq=>by
  unfold q2L at hq
  rcases he with ⟨b,h⟩|⟨l,h⟩|h <;>rw[h] at hq <;>exact hq
 have hq:∀(y:AT),(∃b,y.ph= .tn b)∨(∃l,y.ph= .ck l)∨y.ph= .dc→y.code=a.code→∀i,p[x.th.pc]? =some i→q2L c x a i→q2L c x y i:=fun y hy e i _ hq=>by
  have:=hqa i hq;unfold q2L
  rcases hy with ⟨b,h⟩|⟨l,h⟩|h <;>rw[h] <;>dsimp only <;>rw[e] <;>exact this
 have hre:∀(y:AT),(qh c t m a).2.1=y.rest→y.ad=a.ad→y.vl=a.vl→y.set=a.set→y.st=a.st→y.dn=a.dn→(y.code=3∨y.code=6∨y.code=9)→q0L c p t m x a r i:=fun y hy h1 h2 h3 h4 h5 h6=>by
  have h:=hT.rest h1 h2 h3 h4 h6;exact q0L.busy hy h.2 (fun _=>h.1) (hun _ ((q4E y).1.trans h5))
 rcases he with ⟨b,he⟩|⟨l,he⟩|he
 ·cases b with
  |false=>
   have hst:=q8R (c:=c) (t:=t) (m:=m) he;exact q0L.b2 hst rfl (fun _=>hT.to hne hnb rfl rfl rfl rfl rfl (hq _ (.inl ⟨_,rfl⟩) rfl)) (hun _ rfl)
  |true=>
   have hst:=q6D (c:=c) (t:=t) (m:=m) he
   split at hst
   ·split at hst
    ·exact q0L.b2 hst rfl (fun _=>hT.to hne hnb rfl rfl rfl rfl rfl (hq _ (.inr (.inr rfl)) rfl)) (hun _ rfl)
    ·exact q0L.b2 hst rfl (fun _=>hT.to hne hnb rfl rfl rfl rfl rfl (hq _ (.inr (.inl ⟨_,rfl⟩)) rfl)) (hun _ rfl)
   ·exact q0L.b2 hst (by unfold AT.busy;rw[he]) (fun _=>hT) (hun _ rfl)
 ·have hst:=qdD (c:=c) (t:=t) (m:=m) he
  split at hst
  ·exact hre {a with code:=9} (congrArg (fun z=>z.2.1) hst) rfl rfl rfl rfl rfl (.inr (.inr rfl))
  ·split at hst
   ·exact q0L.b2 hst rfl (fun _=>hT.to hne hnb rfl rfl rfl rfl rfl (hq _ (.inr (.inr rfl)) rfl)) (hun _ rfl)
   ·exact q0L.b2 hst rfl (fun _=>hT.to hne hnb rfl rfl rfl rfl rfl (hq _ (.inr (.inl ⟨_,rfl⟩)) rfl)) (hun _ rfl)
 ·have hst:=q50 (c:=c) (t:=t) (m:=m) he
  split at hst
  ·exact hre {a with ck:=m.ck,code:=6} (congrArg (fun z=>z.2.1) hst) rfl rfl rfl rfl rfl (.inr (.inl rfl))
  ·split at hst
   ·exact q0L.b2 hst rfl (fun h=>by cases h) (fun _=>he)
   ·refine q0L.b2 hst (q4E _).2.2 (fun h=> ?_) (fun _=>he);rw[(q4E _).1] at h;cases h
theorem q0L.back(hT:TL c p x a r)(hdn:a.dn=false)(he:(∃l w,a.ph= .rl l w)∨a.ph= .ps):q0L c p t m x a r i:=by
 have hun:∀(y:AT),y.dn=a.dn→y.dn=true→a.ph= .dc:=fun y e h=>by rw[e,hdn] at h;cases h
 have hcd:a.code=3∨a.code=6∨a.code=9:=by
  rcases hT.ph with ⟨k,e,_⟩|⟨_,_,_,i,_,e⟩|⟨_,e⟩
  ·rcases he with ⟨l,w,h⟩|h <;>rw[h] at e <;>cases e
  ·unfold q2L at e
   rcases he with ⟨l,w,h⟩|h <;>rw[h] at e <;>exact e.elim
  ·exact e
 rcases he with ⟨l,w,he⟩|he
 ·have hst:(qh c t m a).2.1=if l.tail= [] then{a with ph:=if a.dn∧a.sto then .sp else .ps} else{a with ph:= .rl l.tail w.tail}:=by unfold qh;rw[he]
  have e:(if a.dn=true∧a.sto=true then AP.sp else AP.ps)=AP.ps:=if_neg (fun h=>by rw[hdn] at h;cases h.1);rw[e] at hst
  split at hst
  ·exact q0L.busy hst rfl (fun _=>hT.off rfl rfl rfl rfl rfl hcd) (hun _ rfl)
  ·exact q0L.busy hst rfl (fun _=>hT.off rfl rfl rfl rfl rfl hcd) (hun _ rfl)
 ·have hst:(qh c t m a).2.1={a with ph:= .lv}:=by unfold qh;rw[he]
  exact q0L.busy hst rfl (fun _=>hT.off rfl rfl rfl rfl rfl hcd) (hun _ rfl)
theorem TL.adv(hp:PrO p)(hT:TL c p x a r)(hA:AI c t m a)(hi:p[x.th.pc]? =some i)(hb:a.busy=true)(hdn:a.dn=false)(hlv:a.ph≠ .lv):q0L c p t m x a r i:=by
 cases he:a.ph with
 |idle=>unfold AT.busy at hb;rw[he] at hb;cases hb
 |loc q=>exact q0L.loc hp hT hi hdn he
 |ent j=>exact q0L.ent hp hT hi hdn he
 |rd j b v=>exact q0L.rd hp hT hA hi he
 |lk s ld=>exact q0L.lk hT hdn he
 |tn b=>exact q0L.tnk hT hdn (.inl ⟨b,he⟩)
 |ck l=>exact q0L.tnk hT hdn (.inr (.inl ⟨l,he⟩))
 |dc=>exact q0L.tnk hT hdn (.inr (.inr he))
 |wr A V=>
  have:=hA.ph;unfold PhA at this;rw[he] at this;rw[this.1] at hdn;cases hdn
 |rl l w=>exact q0L.back hT hdn (.inl ⟨l,w,he⟩)
 |sp=>
  have:=hA.ph;unfold PhA at this;rw[he] at this;rw[this.1] at hdn;cases hdn
 |ps=>exact q0L.back hT hdn (.inr he)
 |lv=>exact absurd he hlv
end
open Go
section
variable{c:Cfg}{p:List Ins}{x x':GT}{a b:AT}{r r':List (Int×Int)}{i:Ins}{t n k:Nat}{m:MS}
theorem AI.idle(hA:AI c t m a)(hid:a.ph= .idle){y:AT}(h1:y.oc=a.oc)(h2:y.ad=a.ad)(h3:y.vl=a.vl)(h4:y.set=a.set)(h5:y.rv=a.rv)(hp:PhA c m y)(ht:y.ph.tick=false)(hh:y.ph.hold=false)(hd:y.held= []):AI c t m y:=
 ⟨hp,fun _=>by rw[h5];exact hA.rv (by rw[hid];rfl),fun h=>(by rw[ht] at h;cases h),fun h=>(by rw[hh] at h;cases h),fun o ho=>(by rw[hd] at ho;cases ho),by rw[h1];exact hA.oc,by rw[h1];exact hA.nd,by rw[h2];exact hA.an,by rw[h2];exact hA.ar,by rw[h2,h3];exact hA.al,by rw[h4];exact hA.st⟩
theorem q9U(hT:TL c p x a r)(hA:AI c t m a)(hid:a.ph= .idle)(hi:p[x.th.pc]? =some i)(hop:8≤i.op∧i.op≤11):
  TL c p x (q1F c x.th.rg a i) r∧AI c t m (q1F c x.th.rg a i)∧(q1F c x.th.rg a i).busy=true∧(q1F c x.th.rg a i).dn=a.dn∧(q1F c x.th.rg a i).rv=a.rv∧(∀q,q∈fl (q1F c x.th.rg a i)→False)∧(q1F c x.th.rg a i).ph.tick=false∧(q1F c x.th.rg a i).ph≠ .lv∧∀A V,(q1F c x.th.rg a i).ph≠ .wr A V:=by
 have hne:∀k,a.ph≠ .ent k:=fun k e=>by rw[hid] at e;cases e
 have hnb:a.ph.back=false:=by rw[hid];rfl
 have hf:a.fresh:=by have:=hA.ph;unfold PhA at this;rw[hid] at this;exact this
 have hc0:a.code=0:=by
  obtain⟨_,_,_,j,_,hq⟩:=hT.req hne hnb;unfold q2L at hq;rw[hid] at hq;exact hq
 have key:∀(y:AT),y.oc=a.oc→y.old=a.old→y.ad=a.ad→y.vl=a.vl→y.set=a.set→y.rv=a.rv→y.seen=a.seen→y.st=a.st→y.dn=a.dn→y.code=a.code→(∃q,y.ph= .loc q∧∀w v,q= .wr w v→0≤w)∨(y.ph= .rd 0 0 0∧0≤y.addr∧y.addr<c.words)→(q2L c x y i)→
   TL c p x y r∧AI c t m y∧y.busy=true∧y.dn=a.dn∧y.rv=a.rv∧(∀q,q∈fl y→False)∧y.ph.tick=false∧y.ph≠ .lv∧∀A V,y.ph≠ .wr A V:=by
  intro y h1 h2 h3 h4 h5 h6 h7 h8 h9 h10 hph hq;have hfy:y.fresh:=by unfold AT.fresh at hf ⊢;rw[h9,h1,h2];exact hf
  have hT':TL c p x y r:=hT.to hne hnb h3 h4 h7 h5 h8 fun j hj _=>by rw[hi] at hj;cases hj;exact hq
  rcases hph with ⟨q,e,hw⟩|⟨e,hr⟩
  ·refine⟨hT',hA.idle hid h1 h3 h4 h5 h6 (by unfold PhA;rw[e];exact⟨hfy,hw⟩) (by rw[e];rfl) (by rw[e];rfl) (by unfold AT.held;rw[e]),by unfold AT.busy;rw[e],h9,h6,fun q hq=> ?_,by rw[e];rfl,fun h=>(by rw[e] at h;cases h),fun A V h=>(by rw[e] at h;cases h)⟩;unfold fl at hq;rw[e] at hq;cases hq
  ·refine⟨hT',hA.idle hid h1 h3 h4 h5 h6 (by unfold PhA;rw[e];exact⟨hfy,Y6,hr⟩) (by rw[e];rfl) (by rw[e];rfl) (by unfold AT.held;rw[e]),by unfold AT.busy;rw[e],h9,h6,fun q hq=> ?_,by rw[e];rfl,fun h=>(by rw[e] at h;cases h),fun A V h=>(by rw[e] at h;cases h)⟩;unfold fl at hq;rw[e] at hq;dsimp only at hq;rw[if_pos (.inl rfl)] at hq;cases hq
 unfold q1F
 by_cases h10:i.op=10
 ·rw[if_pos h10];unfold AT.read
  by_cases hw:c.words≤adr x.th.rg i.b i.imm
  ·rw[if_pos hw];refine key _ rfl rfl rfl rfl rfl rfl rfl rfl rfl rfl (.inl ⟨_,rfl,fun _ _ e=>by cases e⟩) ⟨hc0,?_,Y7⟩;unfold q57;rw[if_pos h10,if_pos hw]
  ·rw[if_neg hw];cases hg:q41 a.ad a.vl (adr x.th.rg i.b i.imm) with
   |some v=>exact key _ rfl rfl rfl rfl rfl rfl rfl rfl rfl rfl (.inl ⟨_,rfl,fun _ _ e=>by cases e⟩) ⟨hc0,h10,Y6,hg⟩
   |none=>exact key _ rfl rfl rfl rfl rfl rfl rfl rfl rfl rfl (.inr ⟨rfl,q5o _ _ _,by dsimp only;omega⟩) ⟨hc0,h10,rfl,by dsimp only;omega,hg⟩
 ·rw[if_neg h10]
  by_cases h11:i.op=11
  ·rw[if_pos h11];exact key _ rfl rfl rfl rfl rfl rfl rfl rfl rfl rfl (.inl ⟨_,rfl,fun w v e=>by cases e;exact q5o _ _ _⟩) ⟨hc0,h11,rfl,rfl⟩
  ·rw[if_neg h11]
   by_cases h8:i.op=8
   ·rw[if_pos h8];refine key _ rfl rfl rfl rfl rfl rfl rfl rfl rfl rfl (.inl ⟨_,rfl,fun _ _ e=>by cases e⟩) ⟨hc0,?_,Y7⟩;unfold q57;rw[if_neg h10,if_neg h11,if_pos h8]
   ·rw[if_neg h8];refine key _ rfl rfl rfl rfl rfl rfl rfl rfl rfl rfl (.inl ⟨_,rfl,fun _ _ e=>by cases e⟩) ⟨hc0,?_,Y7⟩;unfold q57;rw[if_neg h10,if_neg h11,if_neg h8,if_pos Y6]
theorem TL.locI(hp:PrO p)(hT:TL c p x a r)(hid:a.ph= .idle)(hi:p[x.th.pc]? =some i)(hop:0≤i.op∧i.op≤6):
  TL c p {x with th:={q1q x.th i with dn:=decide ((q1q x.th i).pc=p.length)}} a r:=by
 have hne:∀k,a.ph≠ .ent k:=fun k e=>by rw[hid] at e;cases e
 have hnb:a.ph.back=false:=by rw[hid];rfl
 obtain⟨h1,h2,h3,j,hj,hq⟩:=hT.req hne hnb;rw[hi] at hj;cases hj;obtain⟨ib,hib,h7⟩:=hT.bg;obtain⟨e1,e2,e3,_⟩:=q7b hp hib h7 h1 h2;obtain⟨c',hc,_,hl,_⟩:=q0k hp.ck hib h7;obtain⟨l1,l2,l3,_⟩:=qca hp.ck hi Y6;have l3:=l3 (by rw[e1];omega) Y6;rw[e2] at l3;have hdn:decide ((q1q x.th i).pc=p.length)=false:=decide_eq_false (by show q1o x.th i≠_;omega);have hth:({q1q x.th i with dn:=decide ((q1q x.th i).pc=p.length)}:Thr)=q1q x.th i:=by
  rw[hdn];unfold q1q;rw[hT.dn]
 unfold q2L at hq;rw[hid] at hq;refine hT.next hp hne hnb hi Y6 ⟨rfl,rfl,rfl,rfl,rfl,rfl,by dsimp only;rw[hdn];exact hT.dn.symm⟩ (.inr ⟨l1,l3⟩) hid hq hT.st hT.len hT.rr (fun q hq=>hq) fun tk d _ _=> ?_
 unfold q07 q3q;rw[if_neg Y6,if_neg Y6,if_neg Y6,if_neg Y6,if_neg Y6,if_neg Y6];dsimp only;rw[hth]
theorem TL.start(hi:p[x.th.pc]? =some i)(h7:i.op=7)(hdn:x.th.dn=false)(hfn:x.fn=none):TL c p {x with bg:=x.th.pc,sv:=x.th.rg,tr:=x.tr+1,seen:= [],ct:=x.ct+1} {AT.new with st:=1,ph:= .ent 0} []:=
 ⟨⟨i,hi,h7⟩,hdn,hfn,Nat.succ_ne_zero _,rfl,rfl,fun q hq=>(by cases hq), .inl ⟨0,rfl,rfl,rfl,rfl,rfl,rfl,rfl,rfl,rfl⟩,(z7.1 hi).1⟩
theorem AI.start:AI c t m {AT.new with st:=1,ph:= .ent 0}:=
 ⟨⟨⟨rfl,rfl,rfl⟩,Y7⟩,fun h=>(by cases h),fun h=>(by cases h),fun h=>(by cases h),fun o ho=>(by cases ho),fun o ho=>(by cases ho),List.nodup_nil,List.nodup_nil,fun o ho=>(by cases ho),rfl,fun o ho=>(by cases ho)⟩
end
open Go
def pnd(b:AT):List Int:=match b.ph with
 | .wr _ _=>b.oc
 | .rl l _=>l
 |_=> []
def Pd(xs:List GT)(o:Int):Prop:=∃(u:Nat) (y:GT) (b:AT),xs[u]? =some y∧y.at'=some b∧b.dn=true∧o∈pnd b
def qjR(c:Cfg)(m:MS)(a:AT)(r:List (Int×Int)):Prop:=∃q∈r,a.rv<q1C m (qF c q.1)
def VAq(c:Cfg)(m:MS)(xs:List GT)(gd:List Int)(a:AT)(q:Int×Int):Prop:=q1C m (qF c q.1)≤a.rv→Pd xs (qF c q.1)∨gd.getD q.1.toNat 0=q.2
def VA(c:Cfg)(m:MS)(xs:List GT)(gd:List Int)(a:AT)(r:List (Int×Int)):Prop:=qjR c m a r∨∀q∈r++fl a,VAq c m xs gd a q
structure TD(c:Cfg)(p:List Ins)(x:GT)(a:AT):Prop where
 bg:∃ib,p[x.bg]? =some ib∧ib.op=7
 fn:x.fn=none
 tr:x.tr≠0
 st:a.st=1
 cd:a.code=1∨a.code=2∨a.code=7
 dn:x.th.dn=false
 pl:x.th.pc<p.length
def qdZ(p:List Ins)(x:GT)(a:AT):Thr:=⟨q0t p x.bg+1,if a.code=1 then x.th.rg else x.sv,a.code,decide (q0t p x.bg+1=p.length)⟩
def qep(x:GT)(a:AT):List ObM:=(if a.code=1 then x.obs++x.seen else x.obs)++ [⟨x.bg,3,a.code⟩]
def ThR(c:Cfg)(p:List Ins)(gt:Option Thr)(go:List ObM)(x:GT)(r:List (Int×Int)):Prop:=
 match x.at' with
 |none=>gt=some x.th∧go=x.obs∧x.th.pc≤p.length∧stB p x.th.pc<0∧x.th.dn=decide (x.th.pc=p.length)∧(x.fn≠none→x.tr=0∧∃i,p[x.th.pc]? =some i∧i.op=16)∧(x.tr≠0→∃i,p[x.th.pc]? =some i∧i.op=7)
 |some a=>if a.dn=true then gt=some (qdZ p x a)∧go=qep x a∧TD c p x a else gt=some ⟨x.bg,x.sv,x.th.oc,false⟩∧go=x.obs∧TL c p x a r
def MR(xs:List GT)(md gd:List Int):Prop:=
 (∃(u:Nat) (y:GT) (b:AT) (A V:List Int),xs[u]? =some y∧y.at'=some b∧b.ph= .wr A V∧gd=lay A V md)∨
 ((∀(u:Nat) (y:GT) (b:AT),xs[u]? =some y→y.at'=some b→∀A V,b.ph≠ .wr A V)∧gd=md)
structure q0c(c:Cfg)(ps:List (List Ins))(n k:Nat)(m:MS)(xs:List GT)(g:GS)(r:Nat→List (Int×Int)):Prop where
 gm:GM c n k m
 xl:xs.length=n
 pl:ps.length=n
 tl:g.T.length=n
 ol:g.O.length=n
 dl:(g.d.length:Int)=c.words
 ai:∀(t:Nat) x a,xs[t]? =some x→x.at'=some a→AI c t m a
 ds:∀(u v:Nat) y z a b,xs[u]? =some y→xs[v]? =some z→y.at'=some a→z.at'=some b→u≠v→a.ph.tick=true→b.ph.tick=true→a.tk≠b.tk
 th:∀(t:Nat) x p,xs[t]? =some x→ps[t]? =some p→ThR c p g.T[t]? (g.O.getD t []) x (r t)
 va:∀(t:Nat) x a,xs[t]? =some x→x.at'=some a→a.dn=false→VA c m xs g.d a (r t)
 mr:MR xs m.d g.d
theorem q4w{a:AP}(h:a.hold=true):a.tick=true:=by
 cases a <;>first|rfl|cases h
section
variable{c:Cfg}{ps:List (List Ins)}{n k:Nat}{m m':MS}{xs:List GT}{g g':GS}{r r':Nat→List (Int×Int)}{t u:Nat}{x x':GT}{a b:AT}
theorem q0c.one(h:q0c c ps n k m xs g r)(hx:xs[t]? =some x)(ha:x.at'=some a)(h1:a.ph.hold=true){y:GT}(hy:xs[u]? =some y)(hb:y.at'=some b)(h2:b.ph.hold=true):u=t:=by
 refine Decidable.byContradiction fun e=> ?_
 have e1:=(h.ai t x a hx ha).ho h1;have e2:=(h.ai u y b hy hb).ho h2;exact h.ds t u x y a b hx hy ha hb (fun e'=>e e'.symm) (q4w h1) (q4w h2) (e1.trans e2.symm)
theorem qf2{o:Int}(h:o∈pnd b):b.ph.hold=true:=by
 unfold pnd at h;cases e:b.ph <;>rw[e] at h <;>first|rfl|cases h
theorem q0v{l:List GT}{z:GT}(h:u≠t):(l.set t z)[u]? =l[u]? :=by rw[zv,if_neg (fun e=>h e.symm)]
theorem q0u{l:List GT}{z:GT}(h:l[t]? =some x):(l.set t z)[t]? =some z:=by
 rw[zv,if_pos rfl,if_pos (z7.1 h).1]
theorem qjR.step(hF:FrM t a m m'){rr:List (Int×Int)}(hb:b.rv≤m.ck)(h:qjR c m b rr):qjR c m' b rr:=by
 obtain⟨q,hq,hv⟩:=h;refine⟨q,hq,?_⟩
 rcases hF.ver (qF c q.1) with e|⟨_,_,e⟩ <;>rw[e] <;>omega
theorem VA.step(hF:FrM t a m m'){rr:List (Int×Int)}{xs':List GT}{gd gd':List Int}(hb:b.rv≤m.ck)(hP:∀o,Pd xs o→Pd xs' o∨m.ck<q1C m' o)(hd:∀q∈rr++fl b,gd'.getD q.1.toNat 0=gd.getD q.1.toNat 0∨Pd xs' (qF c q.1))(h:VA c m xs gd b rr):VA c m' xs' gd' b rr:=by
 rcases h with h|h
 ·exact .inl (h.step hF hb)
 ·refine .inr fun q hq hv=> ?_
  rcases hF.ver (qF c q.1) with e|⟨_,_,e⟩
  ·rw[e] at hv
   rcases h q hq hv with h1|h1
   ·rcases hP _ h1 with h2|h2
    ·exact .inl h2
    ·rw[e] at h2;omega
   ·rcases hd q hq with h2|h2
    ·exact .inr (h2.trans h1)
    ·exact .inl h2
  ·omega
end
open Go
def upR(r:Nat→List (Int×Int))(t:Nat)(l:List (Int×Int)):Nat→List (Int×Int):=fun u=>if u=t then l else r u
section
variable{c:Cfg}{ps:List (List Ins)}{n k:Nat}{m m':MS}{xs:List GT}{g g':GS}{r r':Nat→List (Int×Int)}{t u:Nat}{x x':GT}{a b:AT}{p:List Ins}{i:Ins}
theorem q5U{l:List (Int×Int)}:upR r t l t=l:=if_pos rfl
theorem qaf{l:List (Int×Int)}(h:u≠t):upR r t l u=r u:=if_neg h
theorem q8C(b:AT):b.rest.tk=b.tk:=by unfold AT.rest;split <;>rfl
theorem qjy(h:(qh c t m a).2.1.ph.tick=true):(a.ph.tick=true∧(qh c t m a).2.1.tk=a.tk)∨(qh c t m a).2.1.tk=m.tk:=by
 unfold qh at h ⊢;cases e:a.ph with
 |idle=>rw[e] at h;dsimp only at h;rw[e] at h;cases h
 |loc q=>
  rw[e] at h;dsimp only at h;exfalso;have he:∀(y:AT) k,y.ph= .idle→(y.endA c k).ph.tick=true→False:=fun y k _ h=>by
   unfold AT.endA at h
   split at h <;>cases h
  cases q with
  |en k=>exact he _ _ rfl h
  |tk v=>cases h
  |wr w v=>
   unfold AT.kont at h;dsimp only at h
   split at h
   ·exact he _ _ rfl h
   ·split at h <;>cases h
 |ent j=>
  rw[e] at h;dsimp only at h;exfalso
  split at h
  ·cases h
  ·split at h <;>cases h
 |rd j b v=>
  rw[e] at h;dsimp only at h;exfalso
  split at h
  ·dsimp only at h
   split at h <;>cases h
  ·split at h
   ·cases h
   ·dsimp only at h
    split at h
    ·cases h
    ·split at h <;>cases h
 |lk s ld=>
  rw[e] at h;dsimp only at h;exfalso
  split at h
  ·cases h
  ·split at h
   ·dsimp only at h
    split at h <;>cases h
   ·cases h
 |tn b=>
  cases b with
  |false=>exact .inr rfl
  |true=>
   left;refine⟨rfl,?_⟩;dsimp only;rw[if_neg Y7];dsimp only
   split
   ·split <;>rfl
   ·rfl
 |ck l=>
  left;refine⟨rfl,?_⟩;dsimp only
  split
  ·rw[q8C]
  ·split <;>rfl
 |dc=>
  left;refine⟨rfl,?_⟩;dsimp only
  split
  ·rw[q8C]
  ·split
   ·rfl
   ·rw[q8C]
 |wr A V=>left;refine⟨rfl,?_⟩;dsimp only;split <;>rfl
 |rl l w=>left;refine⟨rfl,?_⟩;dsimp only;split <;>rfl
 |sp=>exact .inl ⟨rfl,rfl⟩
 |ps=>exact .inl ⟨rfl,rfl⟩
 |lv=>rw[e] at h;cases h
theorem Pd.set{o:Int}(hx:xs[t]? =some x)(ha:∀a,x.at'=some a→a.dn=true→o∈pnd a→(∃a',x'.at'=some a'∧a'.dn=true∧o∈pnd a')∨m.ck<q1C m' o)(h:Pd xs o):Pd (xs.set t x') o∨m.ck<q1C m' o:=by
 obtain⟨u,y,b,hy,hb,hd,ho⟩:=h
 by_cases e:u=t
 ·subst e;rw[hx] at hy;cases hy
  rcases ha b hb hd ho with ⟨a',h1,h2,h3⟩|h
  ·exact .inl ⟨u,x',a',q0u hx,h1,h2,h3⟩
  ·exact .inr h
 ·exact .inl ⟨u,y,b,by rw[q0v e];exact hy,hb,hd,ho⟩
theorem q0c.put(hC:COk c)(hn:n≤16)(hk:k≤100000)(h:q0c c ps n k m xs g r)(hx:xs[t]? =some x)(ha:x.at'=some a)
  (hx':∀a',x'.at'=some a'→a'=(qh c t m a).2.1∧a.ph≠ .lv) (h1:g'.T.length=n) (h2:g'.O.length=n) (h3:(g'.d.length:Int)=c.words) (hu:∀u,u≠t→g'.T[u]? =g.T[u]? ∧g'.O.getD u []=g.O.getD u []∧r' u=r u)
  (hth:∀p,ps[t]? =some p→ThR c p g'.T[t]? (g'.O.getD t []) x' (r' t)) (hva:∀a',x'.at'=some a'→a'.dn=false→VA c (qh c t m a).1 (xs.set t x') g'.d a' (r' t))
  (hP:a.dn=true→∀o∈pnd a,(∃a',x'.at'=some a'∧a'.dn=true∧o∈pnd a')∨m.ck<q1C (qh c t m a).1 o)
  (hd:∀(q:Int×Int),0≤q.1→q.1<c.words→g'.d.getD q.1.toNat 0=g.d.getD q.1.toNat 0∨Pd (xs.set t x') (qF c q.1)) (hmr:MR (xs.set t x') (qh c t m a).1.d g'.d):q0c c ps n (k+1) (qh c t m a).1 (xs.set t x') g' r':=by
 have htn:t<n:=by rw[←h.xl];exact(z7.1 hx).1
 have hA:=h.ai t x a hx ha;obtain⟨s1,s2,s3⟩:=hA.step hC hn htn hk h.gm;have hta:a.ph.hold=true→a.ph.tick=true∧a.tk=m.sv:=fun e=>⟨q4w e,hA.ho e⟩
 have hP':∀o,Pd xs o→Pd (xs.set t x') o∨m.ck<q1C (qh c t m a).1 o:=fun o ho=>Pd.set hx (fun b hb hd hm=>by rw[ha] at hb;cases hb;exact hP hd o hm) ho
 refine⟨s2,by rw[zj];exact h.xl,h.pl,h1,h2,h3,fun u y b hy hb=> ?_,fun u v y z b d hy hz hb hd' huv e1 e2=> ?_,fun u y p hy hp=> ?_,fun u y b hy hb hdn=> ?_,hmr⟩
 ·by_cases e:u=t
  ·subst e;rw[q0u hx] at hy;cases hy;obtain⟨rfl,hlv⟩:=hx' b hb;exact s1 hlv
  ·rw[q0v e] at hy;exact(h.ai u y b hy hb).frame e s3 (fun f1 f2=>h.ds t u x y a b hx hy ha hb (fun e'=>e e'.symm) f1 f2) hta
 ·have own:∀(w:Nat) (q:GT) (d:AT),w≠t→xs[w]? =some q→q.at'=some d→d.ph.tick=true→∀a',x'.at'=some a'→a'.ph.tick=true→a'.tk≠d.tk:=fun w q d hw hq hd e2 a' ha' e1=>by
   obtain⟨rfl,hlv⟩:=hx' a' ha'
   rcases qjy e1 with ⟨f1,f2⟩|f2
   ·rw[f2];exact h.ds t w x q a d hx hq ha hd (fun e'=>hw e'.symm) f1 e2
   ·rw[f2];have:=((h.ai w q d hq hd).tk e2).2;omega
  by_cases eu:u=t
  ·subst eu;rw[q0u hx] at hy;cases hy;have hv:v≠u:=fun e=>huv e.symm
   rw[q0v hv] at hz;exact own v z d hv hz hd' e2 b hb e1
  ·rw[q0v eu] at hy
   by_cases ev:v=t
   ·subst ev;rw[q0u hx] at hz;cases hz;exact fun e=>own u y b eu hy hb e1 d hd' e2 e.symm
   ·rw[q0v ev] at hz;exact h.ds u v y z b d hy hz hb hd' huv e1 e2
 ·by_cases e:u=t
  ·subst e;rw[q0u hx] at hy;cases hy;exact hth p hp
  ·rw[q0v e] at hy;obtain⟨f1,f2,f3⟩:=hu u e;rw[f1,f2,f3];exact h.th u y p hy hp
 ·by_cases e:u=t
  ·subst e;rw[q0u hx] at hy;cases hy;exact hva b hb hdn
  ·rw[q0v e] at hy;obtain⟨f1,f2,f3⟩:=hu u e;rw[f3];have hb':=h.ai u y b hy hb;have hpl:u<ps.length:=by rw[h.pl,←h.xl];exact(z7.1 hy).1
   have hT:=h.th u y _ hy (z6 hpl);unfold ThR at hT;rw[hb] at hT;dsimp only at hT;rw[if_neg (by rw[hdn];decide)] at hT;have hrr:=hT.2.2
   by_cases hpa:b.ph.past=true
   ·refine(h.va u y b hy hb hdn).step s3 (hb'.rv hpa).2 hP' fun q hq=> ?_
    rcases zz.1 hq with hq|hq
    ·exact hd q (hrr.rr q hq).1 (hrr.rr q hq).2.1
    ·unfold fl at hq;have hpp:=hb'.ph;unfold PhA at hpp;cases eb:b.ph <;>rw[eb] at hq hpp <;>dsimp only at hq hpp <;>first|(cases hq)|skip
     split at hq
     ·cases hq
     ·rw[zf.1 hq];exact hd _ hpp.2.2.1 hpp.2.2.2
   ·right;intro q hq;exfalso;have hent:∃j,b.ph= .ent j:=by
     cases eb:b.ph <;>rw[eb] at hpa <;>first|(exact⟨_,rfl⟩)|(exact absurd rfl hpa)
    obtain⟨j,hj⟩:=hent
    rcases hrr.ph with ⟨_,_,e0,_⟩|⟨_,_,_,i,_,e0⟩|⟨e0,_⟩
    ·rw[e0] at hq;unfold fl at hq;rw[hj] at hq;cases hq
    ·unfold q2L at e0;rw[hj] at e0;exact e0
    ·rw[hj] at e0;cases e0
end
end Go.Proofs.YtbhbldllneadeaaGreatDoor
