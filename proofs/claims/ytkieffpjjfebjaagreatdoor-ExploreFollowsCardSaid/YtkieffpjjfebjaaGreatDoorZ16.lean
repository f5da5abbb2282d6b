/- What the laws share, part 16. No condition. -/
import Derived.Test.YtkieffpjjfebjaaGreatDoorZ15
set_option maxHeartbeats 4000000
set_option maxRecDepth 10000
namespace Go.Proofs.YtkieffpjjfebjaaGreatDoor
open Go Go.RowKit
theorem arx{e:Int}{K:Int→Prop}(h:∀m,0≤m∧m≤18446744073709551615→K m):q6t .u64 e K:=by
 refine⟨h _ ?_⟩
 have:IntKind.u64.wrap e=e % 18446744073709551616:=by
  simp[IntKind.wrap,IntKind.signed,IntKind.bits]
 rw[this];omega
theorem qgW{α:Type}{en:α→Value}{Φ:α→Prop}{P:Program}{W0:World}{own:Own}{k:FuncId}{args:List Value}{K:Value→Own→Prop}(h:q0E P W0 k args own fun v own'=>∃x,v=en x∧Φ x∧Ent W0 own' own)(hk:∀x,Φ x→K (en x) own):qf P W0 own k args K:=
 ⟨fun w hw=>(h w hw).mono fun _ _ ⟨_,_,he,hs,x,hv,hx,hE⟩=>⟨_,own,by rw[he,hv],hE _ hs,hk x hx⟩⟩
abbrev qkf(n:Nat):List Value:= [.int .i64 n]
structure PS where
 i:Nat
 o:Bool
 b:Int
 p:List Ins
 a:Option Addr
 cap:Nat
 D:Own
 js:List Nat
 a2:Option Addr
 cap2:Nat
 D2:Own
abbrev qfw(heap:Bool)(x:Ins):Prop:=(0≤x.imm∧x.imm≤64)∧(x.op=14∨x.op=15→heap=true)
structure PI(heap:Bool)(n:Nat)(most:Int)(s:PS):Prop where
 le:s.i≤n
 ob:s.o=decide (0≤s.b)
 mkd:Mk s.p s.b
 bp:qr Ins.enc 69 5 s.a s.cap s.p s.D
 bj:qr qkf 3 1 s.a2 s.cap2 s.js s.D2
 lp:s.p.length+1≤most
 lj:s.js.length≤s.p.length
 asc:s.js.Pairwise (· < ·)
 zer:∀j∈s.js,∃x,s.p[j]? =some x∧x.imm=0
 rng:∀x∈s.p,qfw heap x
theorem qff{y:Ins}(h:qv y=0)(ho:y.op=5∨y.op=6){m:Int}(hm:0≤m∧m<8):qv ⟨y.op,m,y.b,y.c,y.imm⟩=0:=by
 unfold qv at*
 rw[if_neg (by omega)] at h
 rw[if_neg (by simp only;omega)]
 split at h
 ·rename_i hr
  have ha:q2o (qfY y.op) m:=by rcases ho with e|e <;>rw[e] <;>simpa [q2o,qfY] using hm
  rw[if_pos ⟨ha,hr.2⟩]
  exact h
 ·cases h
theorem PI.next{heap:Bool}{n:Nat}{most:Int}{s:PS}(h:PI heap n most s)(hi:s.i<n)(hl:(s.p.length:Int)+1<most){y:Ins}(hf:qhr s.o y.op)(hc:qv y=0)(hz:y.op=4∨y.op=5∨y.op=6→y.imm=0)(hr:qfw heap y)
  {a:Option Addr} {cap:Nat} {D:Own} (hb:qr Ins.enc 69 5 a cap (s.p++ [y]) D) {o:Bool} (ho:o=if y.op=7 then true else if y.op=8 then false else s.o):
  PI heap n most ⟨s.i+1,o,q16 y s.p.length s.b,s.p++ [y],a,cap,D,s.js,s.a2,s.cap2,s.D2⟩:=by
 refine⟨by simp only;omega,?_,h.mkd.snoc (qb7 hf hc h.ob) (fun hs=>hz (q4q hs).1),hb,h.bj,by simp;omega,?_,h.asc,fun j hj=> ?_,fun x hx=>by
  rcases List.mem_append.1 hx with hx|hx
  ·exact h.rng x hx
  ·rw[List.mem_singleton.1 hx];exact hr⟩
 ·simp only
  rw[ho]
  unfold q16
  split
  ·exact(decide_eq_true (by omega)).symm
  ·split
   ·exact(decide_eq_false (by omega)).symm
   ·exact h.ob
 ·have:=h.lj
  simp;omega
 ·obtain⟨x,hx,h0⟩:=h.zer j hj
  exact⟨x,by rw[List.getElem?_append_left (List.getElem?_eq_some_iff.1 hx).1];exact hx,h0⟩
theorem PI.jump{heap:Bool}{n:Nat}{most:Int}{s:PS}(h:PI heap n most s)(hi:s.i<n)(hl:(s.p.length:Int)+1<most){y:Ins}(hf:qhr s.o y.op)(hc:qv y=0)(hj:y.op=4∨y.op=5∨y.op=6)(hz:y.imm=0)
  {a:Option Addr} {cap:Nat} {D:Own} (hb:qr Ins.enc 69 5 a cap (s.p++ [y]) D) {a2:Option Addr} {cap2:Nat} {D2:Own} (hb2:qr qkf 3 1 a2 cap2 (s.js++ [s.p.length]) D2):
  PI heap n most ⟨s.i+1,s.o,s.b,s.p++ [y],a,cap,D,s.js++ [s.p.length],a2,cap2,D2⟩:=by
 have h1:=h.next hi hl hf hc (fun _=>hz) ⟨by rw[hz];exact⟨by decide,by decide⟩,fun h=>by omega⟩ hb (o:=s.o) (by rw[if_neg (by omega),if_neg (by omega)])
 have hn:q16 y s.p.length s.b=s.b:=by unfold q16;rw[if_neg (by omega),if_neg (by omega)]
 have hlt:∀j∈s.js,j<s.p.length:=fun j hj=>by
  obtain⟨x,hx,_⟩:=h.zer j hj
  exact(List.getElem?_eq_some_iff.1 hx).1
 refine⟨h1.le,h.ob,by have:=h1.mkd;simp only[hn] at this;exact this,hb,hb2,h1.lp,?_,?_,fun j hj=> ?_,h1.rng⟩
 ·have:=h.lj
  simp;omega
 ·rw[List.pairwise_append]
  exact⟨h.asc,List.pairwise_singleton _ _,fun j hj k hk=>by rw[List.mem_singleton.1 hk];exact hlt j hj⟩
 ·rcases List.mem_append.1 hj with hj|hj
  ·exact h1.zer j hj
  ·rw[List.mem_singleton.1 hj]
   exact⟨y,by simp,hz⟩
theorem PI.commit{heap:Bool}{n:Nat}{most:Int}{s:PS}(h:PI heap n most s)(ho:s.o=true):Mk (s.p++ [⟨8,0,0,0,0⟩]) (q16 ⟨8,0,0,0,0⟩ s.p.length s.b)∧q16 ⟨8,0,0,0,0⟩ s.p.length s.b<0∧∀j∈s.js,∃x,(s.p++ [⟨8,0,0,0,0⟩])[j]? =some x∧x.imm=0:=by
 refine⟨h.mkd.snoc (qb7 (o:=s.o) (by rw[ho];simp[qhr]) rfl h.ob) (fun _=>rfl),by simp[q16],fun j hj=> ?_⟩
 obtain⟨x,hx,h0⟩:=h.zer j hj
 exact⟨x,by rw[List.getElem?_append_left (List.getElem?_eq_some_iff.1 hx).1];exact hx,h0⟩
theorem qjt{α:Type}{enc:α→List Value}{sz:Nat}{W0:World}{own:Own}{a:Option Addr}{l:List α}{i:Int}{n:Nat}{K:Addr→Prop}{j:Nat}{x:α}(h:RdE enc sz W0 own a l)(hx:l[j]? =some x)(hn:n=l.length)(hi:i=j)(hk:K ⟨ab a,ao a+j*sz,none⟩):IxS a sz i n K:=by
 subst hn;exact ixE h hx hi hk
theorem qfC{l:List Ins}{j:Nat}{x y:Ins}(hx:l[j]? =some x)(h0:x.imm=0):(l.set j y).set j ⟨x.op,x.a,x.b,x.c,0⟩=l:=by
 obtain⟨hj,he⟩:=List.getElem?_eq_some_iff.1 hx
 rw[List.set_set]
 have:(⟨x.op,x.a,x.b,x.c,0⟩:Ins)=l[j]:=by rw[he,←h0]
 rw[this,List.set_getElem_self]
theorem qiR{l:List Nat}(h:l.Pairwise (· < ·)){a b i j:Nat}(hi:l[a]? =some i)(hj:l[b]? =some j)(hab:a<b):i≠j:=by
 obtain⟨h1,e1⟩:=List.getElem?_eq_some_iff.1 hi
 obtain⟨h2,e2⟩:=List.getElem?_eq_some_iff.1 hj
 have:=(List.pairwise_iff_getElem.1 h) a b h1 h2 hab
 omega
theorem q6z(tgt:Nat→Int→Ins→Int):∀(l:List Ins) (k:Nat) (b:Int),(qY tgt l k b).2=0→qY tgt l k b=(0,0)
 | [],k,b,h=>by
  unfold qY at*
  split at h
  ·cases h
  ·rename_i hb
   rw[if_neg hb]
 |x::l,k,b,h=>by
  unfold qY at*
  split at h
  ·rename_i h1
   exact absurd h h1
  ·rename_i h1
   rw[if_neg h1]
   exact q6z tgt l (k+1) _ h
theorem qad{p:List Ins}(h:(q1v p).2=0):q1v p=(0,0):=by
 unfold q1v at*
 split at h
 ·cases h
 ·rename_i h1
  rw[if_neg h1]
  exact q6z _ _ _ _ h
section
variable{W0:World}{own:Own}{la:Option Addr}{lc:Nat}{l:List Int}
theorem q8e(most:Int)(heap plain:Bool)(hL:RdE (fun n=> [.int .i64 n]) 1 W0 own la l)(hl:l.length≤1000000)(hm:1≤most∧most≤64):
  q0E Tryz.prog W0 42 [.slice la l.length lc, .int .i64 most, .bool heap, .bool plain] own fun v own'=>
   ∃a cap D p,v= .slice a (List.length p) cap∧qr Ins.enc 69 5 a cap p D∧Ent W0 own' (D++own)∧q1v p=(0,0)∧(p.length:Int)≤most∧∀x∈p,qfw heap x:=by
 refine qa qj q5L (by simp[q1l]) ?_
 (try(conv=>whnf))
 refine q0Z (σ:=PS) (fun s=> [(9, .slice s.a s.p.length s.cap),(10, .bool s.o),(11, .slice s.a2 s.js.length s.cap2),(12, .int .i64 s.i)]) (fun s=>s.D++(s.D2++own)) (PI heap l.length most) (fun s=>l.length-s.i) ⟨0,false, -1,[],none,0,[],[],none,0,[]⟩
  ⟨by simp,rfl,Mk.nil,qr.nil,qr.nil,by simp;omega,by simp,List.Pairwise.nil,fun _ h=>(by cases h),fun _ h=>(by cases h)⟩ (eF) Ent.refl rfl ?_
 ·rintro s junk hPI
  have hPI':=hPI
  obtain⟨hi,hob,hmk,hbp,hbj,hlp,hlj,hasc,hzer,hrng⟩:=hPI'
  by_cases hlt:s.i<l.length∧(s.p.length:Int)+1<most
  ·obtain⟨x,hx⟩:∃x,l[s.i]? =some x:=⟨_,List.getElem?_eq_getElem hlt.1⟩
   have hh1:(s.i:Int)<l.length:=by omega
   have hh2:(s.p.length:Int)<most-1:=by omega
   repeat'((try(conv=>whnf));first|(refine fH ?_)|(refine fF ?_)|(refine fJ ?_)|(refine arx (fun m hm=> ?_))|(refine qhR ?_ ?_;omega)|((with_reducible show Ld _ _ _ _);first|(refine q1M hL hx rfl ?_))|((with_reducible show IxS _ _ _ _ _);first|((refine ixE hL hx ?_ ?_;(first|rfl|omega))))|(refine fB ?_)|(refine q9M ?_ ?_;omega))
   refine q4H (σ:=Int×Int) 2658455991569831745807605324467707904 (fun r=> [(13, .int .u64 r.2),(15, .int .i64 r.1)]) (fun _=>s.D++(s.D2++own)) (fun r=>(0≤r.2∧r.2≤18446744073709551615)∧qhr s.o r.1∧(r.1=14∨r.1=15→heap=true)) rfl ?_ ?_
   ·clear hbp hbj hasc hzer hmk hlj hi
    obtain⟨o,ho⟩:∃o,s.o=o:=⟨_,rfl⟩
    rw[ho]
    cases o <;>cases heap <;>cases plain
    all_goals as_aux_lemma=>
     repeat'((try(conv=>whnf));first|(refine fH ?_)|(refine fI ?_)|(refine fE ?_)|(refine fD ?_)|(refine fF ?_)|(refine fG ?_)|(refine fJ ?_)|(refine fK ?_)|(refine qhR ?_ ?_;omega)|(apply qgq;(exact eN);(simp;omega))|(exact qew.nil)|(refine qew.cons ?_ ?_)|(refine qhF ?_ ?_;omega)|(refine qc (fun bk hbk=> ?_))|(apply q0e;(exact rfl);(exact rfl);all_goals intro hc)|(apply q9q;(exact rfl);all_goals intro hc)|(refine q9M ?_ ?_;omega))
     all_goals refine⟨(_,_),⟨?_,?_,?_⟩,(eF),(eC)⟩
     all_goals first|(simp only[];omega)|simp[qhr]
   ·rintro⟨op,m2⟩ junk2 ⟨hm2,hf,hna⟩
    simp only at hm2 hf hna
    have h18:0≤op∧op<18:=by unfold qhr at hf;omega
    have hins:=fun ex=>qjP W0 ex op m2 h18 hm2
    as_aux_lemma=>
     refine qgW (hins _) (fun y hy=> ?_)
     obtain⟨hy1,hy2,hy3,hy4⟩:=hy
     subst hy1
     have h6':(y.op=5∨y.op=6)∨y.op=4∨(y.op≠4∧y.op≠5∧y.op≠6):=by omega
     rcases h6' with h6|h6|h6
     ·rcases h6 with h6|h6
      all_goals
       repeat'((try(conv=>whnf));first|(refine fH ?_)|(refine fI ?_)|(refine fE ?_)|(refine fF ?_)|(refine fG ?_)|(refine fJ ?_)|(refine fK ?_)|(refine q5r (enc:=qkf) s.p.length hbj (by(repeat(first|exact At.head|apply At.tail|apply At.skip))) (eN) rfl rfl (by omega) rfl rfl (by omega) (fun a1 c1 D1 hb1=> ?_))|(refine q5r (enc:=Ins.enc) ⟨y.op,m2 % 4,y.b,y.c,y.imm⟩ hbp (by(repeat(first|exact At.head|apply At.tail|apply At.skip))) (eN) rfl rfl (by omega) rfl rfl (by omega) (fun a3 c3 D3 hb3=> ?_))|(refine fB ?_)|(refine fL ?_)|(refine fN ?_)|(refine fM ?_)|(refine qc (fun bk hbk=> ?_))|(refine q9M ?_ ?_;omega)|(refine qd1 ?_))
      all_goals refine⟨⟨s.i+1,s.o,s.b,s.p++ [⟨y.op,m2 % 4,y.b,y.c,y.imm⟩],a3,c3,D3,s.js++ [s.p.length],a1,c1,D1⟩,hPI.jump (y:=⟨y.op,m2 % 4,y.b,y.c,y.imm⟩) hlt.1 hlt.2 hf (qff (y:=y) hy2 (by omega) (by omega)) (by first|omega|(simp only;omega)) (hy3 (by omega)) hb3 hb1,by simp only;omega,?_,(eC)⟩
      all_goals(simp only[List.length_append,List.length_cons,List.length_nil,Nat.zero_add];exact(eF))
     ·repeat'((try(conv=>whnf));first|(refine fH ?_)|(refine fF ?_)|(refine fG ?_)|(refine fK ?_)|(refine q5r (enc:=qkf) s.p.length hbj (by(repeat(first|exact At.head|apply At.tail|apply At.skip))) (eN) rfl rfl (by omega) rfl rfl (by omega) (fun a1 c1 D1 hb1=> ?_))|(refine q5r (enc:=Ins.enc) y hbp (by(repeat(first|exact At.head|apply At.tail|apply At.skip))) (eN) rfl rfl (by omega) rfl rfl (by omega) (fun a3 c3 D3 hb3=> ?_))|(refine fB ?_)|(refine fL ?_)|(refine fM ?_)|(refine qc (fun bk hbk=> ?_))|(refine qd1 ?_))
      refine⟨⟨s.i+1,s.o,s.b,s.p++ [y],a3,c3,D3,s.js++ [s.p.length],a1,c1,D1⟩,hPI.jump hlt.1 hlt.2 hf hy2 (by omega) (hy3 (by omega)) hb3 hb1,by simp only;omega,?_,(eC)⟩
      (simp only[List.length_append,List.length_cons,List.length_nil,Nat.zero_add];exact(eF))
     ·have h7:y.op=7∨y.op=8∨(y.op≠7∧y.op≠8):=by omega
      rcases h7 with h7|h7|h7
      ·repeat'((try(conv=>whnf));first|(refine fH ?_)|(refine fF ?_)|(refine fG ?_)|(refine fK ?_)|(refine q5r (enc:=Ins.enc) y hbp (by(repeat(first|exact At.head|apply At.tail|apply At.skip))) (eN) rfl rfl (by omega) rfl rfl (by omega) (fun a3 c3 D3 hb3=> ?_))|(refine fB ?_)|(refine fL ?_)|(refine fM ?_)|(refine qc (fun bk hbk=> ?_))|(refine qd1 ?_))
       refine⟨⟨s.i+1,true,q16 y s.p.length s.b,s.p++ [y],a3,c3,D3,s.js,s.a2,s.cap2,s.D2⟩,hPI.next hlt.1 hlt.2 hf hy2 hy3 ⟨hy4,hna⟩ hb3 (by rw[if_pos h7]),by simp only;omega,?_,(eC)⟩
       (simp only[List.length_append,List.length_cons,List.length_nil,Nat.zero_add];exact(eF))
      ·repeat'((try(conv=>whnf));first|(refine fH ?_)|(refine fF ?_)|(refine fG ?_)|(refine fK ?_)|(refine q5r (enc:=Ins.enc) y hbp (by(repeat(first|exact At.head|apply At.tail|apply At.skip))) (eN) rfl rfl (by omega) rfl rfl (by omega) (fun a3 c3 D3 hb3=> ?_))|(refine fB ?_)|(refine fL ?_)|(refine fM ?_)|(refine qc (fun bk hbk=> ?_))|(refine qd1 ?_))
       refine⟨⟨s.i+1,false,q16 y s.p.length s.b,s.p++ [y],a3,c3,D3,s.js,s.a2,s.cap2,s.D2⟩,hPI.next hlt.1 hlt.2 hf hy2 hy3 ⟨hy4,hna⟩ hb3 (by rw[if_neg (by omega),if_pos h7]),by simp only;omega,?_,(eC)⟩
       (simp only[List.length_append,List.length_cons,List.length_nil,Nat.zero_add];exact(eF))
      ·repeat'((try(conv=>whnf));first|(refine fH ?_)|(refine fG ?_)|(refine fK ?_)|(refine q5r (enc:=Ins.enc) y hbp (by(repeat(first|exact At.head|apply At.tail|apply At.skip))) (eN) rfl rfl (by omega) rfl rfl (by omega) (fun a3 c3 D3 hb3=> ?_))|(refine fB ?_)|(refine fL ?_)|(refine fM ?_)|(refine qc (fun bk hbk=> ?_))|(refine qd1 ?_))
       refine⟨⟨s.i+1,s.o,q16 y s.p.length s.b,s.p++ [y],a3,c3,D3,s.js,s.a2,s.cap2,s.D2⟩,hPI.next hlt.1 hlt.2 hf hy2 hy3 ⟨hy4,hna⟩ hb3 (by rw[if_neg h7.1,if_neg h7.2]),by simp only;omega,?_,(eC)⟩
       (simp only[List.length_append,List.length_cons,List.length_nil,Nat.zero_add];exact(eF))
  ·have hx1:¬(s.i:Int)<l.length∨((s.i:Int)<l.length∧¬(s.p.length:Int)<most-1):=by omega
   rcases hx1 with hx1|⟨hx0,hx1⟩
   all_goals
    repeat'((try(conv=>whnf));first|(refine fH ?_)|(refine fI ?_)|(refine fD ?_)|(refine fG ?_)|(refine fJ ?_)|(refine fK ?_)|(refine fB ?_))
    refine q4H (σ:=List Ins×Option Addr×Nat×Own) 11326637689314497616078557453551193402333477208576 (fun q=> [(9, .slice q.2.1 q.1.length q.2.2.1)]) (fun q=>q.2.2.2++(s.D2++own)) (fun q=>qr Ins.enc 69 5 q.2.1 q.2.2.1 q.1 q.2.2.2∧q1v q.1=(0,0)∧(q.1.length:Int)≤most∧(∀j∈s.js,∃x,q.1[j]? =some x∧x.imm=0)∧∀x∈q.1,qfw heap x) rfl ?_ ?_
    ·repeat'((try(conv=>whnf));first|(refine qlv (fun hs=> ?_) (fun hs=> ?_))|(refine q5r (enc:=Ins.enc) ⟨8,0,0,0,0⟩ hbp (by(repeat(first|exact At.head|apply At.tail|apply At.skip))) (eN) rfl rfl (by omega) rfl rfl (by omega) (fun a3 c3 D3 hb3=> ?_))|(refine qc (fun bk hbk=> ?_)))
     ·have hcm:=hPI.commit hs
      refine⟨(s.p++ [⟨8,0,0,0,0⟩],a3,c3,D3),⟨hb3,hcm.1.ok hcm.2.1 (by simp;omega),by simp;omega,hcm.2.2,fun x hx=>by
       rcases List.mem_append.1 hx with hx|hx
       ·exact hrng x hx
       ·rw[List.mem_singleton.1 hx];exact⟨⟨by decide,by decide⟩,fun h=>by simp at h⟩⟩,?_,(eC)⟩
      (simp only[List.length_append,List.length_cons,List.length_nil,Nat.zero_add];exact(eF))
     ·rw[hs] at hob
      exact⟨(s.p,s.a,s.cap,s.D),⟨hbp,hmk.ok (by simpa using hob.symm) (by omega),by simp only;omega,hzer,hrng⟩,(eF),(eC)⟩
    ·rintro q junk3 ⟨hq1,hq2,hq3,hq4,hq5⟩
     (try(conv=>whnf))
     refine q0Z (σ:=Nat×List Ins×Own) (fun r=> [(17, .int .i64 r.1)]) (fun r=>r.2.2++(s.D2++own)) (fun r=>(r.1≤s.js.length∧r.2.1.length=q.1.length)∧qr Ins.enc 69 5 q.2.1 q.2.2.1 r.2.1 r.2.2∧q1v r.2.1=(0,0)∧(∀m j,r.1≤m→s.js[m]? =some j→∃x,r.2.1[j]? =some x∧x.imm=0)∧∀x∈r.2.1,qfw heap x)
      (fun r=>s.js.length-r.1) (0,q.1,q.2.2.2) ⟨⟨by simp,rfl⟩,hq1,hq2,fun m j _ hj=>hq4 j (List.mem_of_getElem? hj),hq5⟩ (eF) Ent.refl rfl ?_
     rintro r junk4 ⟨⟨hr1,hr2⟩,hr3,hr4,hr5,hr6⟩
     by_cases hlt2:r.1<s.js.length
     ·obtain⟨j,hj⟩:∃j,s.js[r.1]? =some j:=⟨_,List.getElem?_eq_getElem hlt2⟩
      obtain⟨x,hx,hx0⟩:=hr5 r.1 j (Nat.le_refl _) hj
      have hJ:=hbj.rd (W0:=W0)
      have hP:=hr3.rd (W0:=W0)
      have hh:(r.1:Int)<s.js.length:=by omega
      have hjl:j<r.2.1.length:=(List.getElem?_eq_some_iff.1 hx).1
      have hx1:(r.2.1.set j ⟨x.op,x.a,x.b,x.c,1⟩)[j]? =some ⟨x.op,x.a,x.b,x.c,1⟩:=List.getElem?_set_self hjl
      have hl1:(r.2.1.set j ⟨x.op,x.a,x.b,x.c,1⟩).length=q.1.length:=by rw[List.length_set,hr2]
      have hback:(r.2.1.set j ⟨x.op,x.a,x.b,x.c,1⟩).set j ⟨x.op,x.a,x.b,x.c,0⟩=r.2.1:=qfC hx hx0
      have hck:∀D1,qr Ins.enc 69 5 q.2.1 q.2.2.1 (r.2.1.set j ⟨x.op,x.a,x.b,x.c,1⟩) D1→∀own',Ent W0 own' D1→qD Tryz.prog W0 72 [.slice q.2.1 q.1.length q.2.2.1] own' (.tuple #[.int .i64 (q1v (r.2.1.set j ⟨x.op,x.a,x.b,x.c,1⟩)).1, .int .i64 (q1v (r.2.1.set j ⟨x.op,x.a,x.b,x.c,1⟩)).2]):=fun D1 h own' he=>by
       have:=qcq (cap:=q.2.2.1) ((h.rd (W0:=W0)).ent he)
       rwa[hl1] at this
      have hnx:∀m j',r.1+1≤m→s.js[m]? =some j'→∃x',(r.2.1.set j ⟨x.op,x.a,x.b,x.c,1⟩)[j']? =some x'∧x'.imm=0:=fun m j' hm hj'=>by
       obtain⟨x',h1,h2⟩:=hr5 m j' (by omega) hj'
       exact⟨x',by rw[List.getElem?_set_ne (qiR hasc hj hj' (by omega))];exact h1,h2⟩
      by_cases he:(q1v (r.2.1.set j ⟨x.op,x.a,x.b,x.c,1⟩)).2=0
      ·have hz:=qad he
       repeat'((try(conv=>whnf));first|(refine fF ?_)|(refine fG ?_)|(refine qjt (hP.ent (eB)) hx (by omega) rfl ?_)|(refine stE (k:=4) ⟨x.op,x.a,x.b,x.c,1⟩ hr3 (by(repeat(first|exact At.head|apply At.tail|apply At.skip))) hx rfl (by omega) rfl rfl (fun D1 hb1=> ?_))|(refine qg (hck _ hb1 _ (eB)) ?_)|((with_reducible show Ld _ _ _ _);first|(refine q1M hJ hj rfl ?_))|((with_reducible show IxS _ _ _ _ _);first|((refine ixE hJ hj ?_ ?_;(first|rfl|omega))))|(refine fB ?_)|(refine fO ?_))
       exact⟨(r.1+1,_,D1),⟨⟨by simp only;omega,hl1⟩,hb1,hz,hnx,fun y hy=>by
        rcases List.mem_or_eq_of_mem_set hy with hy|rfl
        ·exact hr6 y hy
        ·exact⟨⟨(by decide:(0:Int)≤1),(by decide:(1:Int)≤64)⟩,(hr6 x (List.mem_of_getElem? hx)).2⟩⟩,by simp only;omega,(eF),(eC)⟩
      ·repeat'((try(conv=>whnf));first|(refine fF ?_)|(refine qjt (hP.ent (eB)) hx (by omega) rfl ?_)|(refine stE (k:=4) ⟨x.op,x.a,x.b,x.c,0⟩ hb1 (by(repeat(first|exact At.head|apply At.tail|apply At.skip))) hx1 rfl (by omega) rfl rfl (fun D2 hb2=> ?_))|(refine stE (k:=4) ⟨x.op,x.a,x.b,x.c,1⟩ hr3 (by(repeat(first|exact At.head|apply At.tail|apply At.skip))) hx rfl (by omega) rfl rfl (fun D1 hb1=> ?_))|(refine qg (hck _ hb1 _ (eB)) ?_)|((with_reducible show Ld _ _ _ _);first|(refine q1M hJ hj rfl ?_))|((with_reducible show IxS _ _ _ _ _);first|((refine ixE hJ hj ?_ ?_;(first|rfl|omega))))|(refine fB ?_)|(refine fO ?_))
       rw[hback] at hb2
       exact⟨(r.1+1,r.2.1,D2),⟨⟨by simp only;omega,hr2⟩,hb2,hr4,fun m j' hm hj'=>hr5 m j' (by simp only at hm;omega) hj',hr6⟩,by simp only;omega,(eF),(eC)⟩
     ·repeat'((try(conv=>whnf));first|(refine fG ?_))
      exact⟨q.2.1,q.2.2.1,r.2.2,r.2.1,by rw[hr2];rfl,hr3,Ent.of_sub ((List.sublist_append_right s.D2 own).append_left r.2.2),hr4,by omega,hr6⟩
end
open Go
def qbu(a n:Int):Int:=IntKind.u64.wrap a % n
theorem qg0(a:Int):0≤IntKind.u64.wrap a∧IntKind.u64.wrap a≤18446744073709551615:=by
 unfold IntKind.wrap
 have h3:((2:Int) ^ IntKind.u64.bits)=18446744073709551616:=rfl
 simp only[h3,IntKind.signed,Bool.false_and,Bool.false_eq_true,if_false]
 omega
theorem qbv(a:Int){n:Int}(h:0<n):0≤qbu a n∧qbu a n<n:=⟨Int.emod_nonneg _ (by omega),Int.emod_lt_of_pos _ h⟩
theorem qbG(W0:World)(own:Own)(a n:Int)(hn:0<n∧n≤9223372036854775807):qD Tryz.prog W0 12 [.int .i64 a, .int .i64 n] own (.int .i64 (qbu a n)):=by
 refine qe (qa qj q56 (by simp[q2c]) ?_)
 have hw:=qg0 a
 have hp:=qbv a hn.1
 unfold qbu at hp
 repeat'((try(conv=>whnf));first|(refine arw (k:= .u64) (e:=a) ?_)|(refine fB ?_)|(refine fC ?_)|(refine q9M ?_ ?_;omega)|(exact Ent.refl)|(refine And.intro rfl ?_))
 all_goals exact⟨q0N rfl,eB⟩
section
variable{P:Program}{W0:World}{own:Own}
def qkr(P:Program)(W0:World)(k:FuncId)(args:List Value)(own:Own)(Φ:Value→Prop):Prop:=
 ∀w,St W0 own w→Calls P k args.toArray w fun e w'=>∃v,e= .returned v∧Φ v∧St W0 own w'
theorem q6x{k:FuncId}{args:List Value}{Φ:Value→Prop}{K:Value→Own→Prop}(h:qkr P W0 k args own Φ)(hk:∀v,Φ v→K v own):qf P W0 own k args K:=
 ⟨fun w hw=>(h w hw).mono fun _ _ ⟨v,he,hv,hs⟩=>⟨v,own,he,hs,hk v hv⟩⟩
end
theorem qab{W0:World}{own:Own}{a n:Int}{K:Value→Prop}(hn:0<n∧n≤9223372036854775807)(h:∀p,0≤p∧p<n→K (.int .i64 p)):
  q0b Tryz.prog W0 own 12 [.int .i64 a, .int .i64 n] K:=q6y (fun _=>qbG _ _ _ _ hn) (h _ (qbv a hn.1))
open Go
structure PB where
 h:PH
 D:Own
abbrev PB.ok(x:PB):Prop:=qr Ins.enc 69 5 x.h.a x.h.cap x.h.p x.D
abbrev q9L(l:List PB):Own:=(l.map PB.D).flatten
abbrev q7j(n:Int):List Value:= [.int .u64 n]
abbrev qiF(c:Cfg)(i p k:Value):Array Value:= #[.int .i64 c.words, .int .i64 c.orecs, .int .i64 c.base, .int .i64 c.c0, .int .i64 c.c1, .int .i64 c.c2, .int .i64 c.c3, .int .i64 c.reads, .int .i64 c.writes, .int .i64 c.allocs, .int .i64 c.frees, .int .i64 c.clock, .bool c.strong,i,p,k]
structure IH where
 a:Option Addr
 cap:Nat
 l:List Int
abbrev IH.enc(h:IH):List Value:= [.slice h.a h.l.length h.cap]
theorem qcX{P:Program}{W0:World}{own:Own}{k:FuncId}{args:List Value}{T:TypeId}{Φ:List Ins→Prop}{K:Value→Own→Prop}
  (h:q0E P W0 k args own fun v own'=>∃a cap D p,v= .slice a (List.length p) cap∧qr Ins.enc T 5 a cap p D∧Ent W0 own' (D++own)∧Φ p)
  (hk:∀a cap D p,qr Ins.enc T 5 a cap p D→Φ p→K (.slice a (List.length p) cap) (D++own)):qf P W0 own k args K:=
 ⟨fun w hw=>(h w hw).mono fun _ _ ⟨_,_,he,hs,a,cap,D,p,hv,hB,hE,hΦ⟩=>⟨_,_,by rw[he,hv],hE _ hs,hk a cap D p hB hΦ⟩⟩
theorem q72(l:List PB)(x:PB):q9L (l++ [x])=q9L l++x.D:=by simp[q9L]
theorem qb3{W0:World}{e b:Nat×(Obj→Prop)}{D1 D3 L R:Own}:Ent W0 (e::(D1++(b::(D3++(L++R))))) (b::(D3++((L++D1)++R))):=by
 refine Ent.cons (Ent.of_perm ?_)
 refine List.perm_middle.trans (List.Perm.cons b ?_)
 refine(List.perm_append_comm_assoc D1 D3 (L++R)).trans (List.Perm.append_left D3 ?_)
 rw[List.append_assoc]
 exact List.perm_append_comm_assoc D1 L R
abbrev qiC:Value:= .slice none 0 0
abbrev qiq(b14 b7:Nat)(c:Cfg)(own:Own):Own:=(b14,fun o=>o=Obj.cells (qiF ⟨0,0,0,0,0,0,0,0,0,0,0,0,false⟩ qiC qiC qiC) 32)::(b7,fun o=>o=Obj.cells c.cs 28)::own
def stB(p:List Ins):Nat→Int
 |0=> -1
 |k+1=>match p[k]? with
  |some x=>q16 x k (stB p k)
  |none=>stB p k
theorem q5m{p:List Ins}{k:Nat}{x:Ins}(hx:p[k]? =some x):stB p (k+1)=q16 x k (stB p k):=by
 simp only[stB,hx]
theorem q6A{p:List Ins}(h:qx p=(0,0)):p.length≤64:=by
 unfold qx at h
 split at h
 ·simp at h
 ·omega
theorem q8s{p:List Ins}(h:qx p=(0,0)):∀k,k≤p.length→qaF p k (stB p k)∧qY (q0S p) (p.drop k) k (stB p k)=(0,0)
 |0,_=>by
  refine⟨qaF.start p,?_⟩
  unfold qx at h
  split at h
  ·simp at h
  ·exact h
 |k+1,hk=>by
  obtain⟨h1,h2⟩:=q8s h k (by omega)
  obtain⟨x,hx⟩:∃x,p[k]? =some x:=⟨_,List.getElem?_eq_getElem (by omega)⟩
  rw[q0R hx,qY] at h2
  split at h2
  ·rename_i h0
   simp only[Prod.mk.injEq] at h2
   exact absurd h2.2 h0
  ·rename_i h0
   have ho:=q8Y (by simpa using h0)
   rw[q5m hx]
   exact⟨h1.step hx ho.1 ho.2.1,h2⟩
theorem qgc{p:List Ins}(h:qx p=(0,0)){k:Nat}{x:Ins}(hx:p[k]? =some x):qa5 (q0S p k (stB p k) x) (stB p k) x=0:=by
 have hk:=(List.getElem?_eq_some_iff.1 hx).1
 have h2:=(q8s h k (by omega)).2
 rw[q0R hx,qY] at h2
 split at h2
 ·rename_i h0
  simp only[Prod.mk.injEq] at h2
  exact absurd h2.2 h0
 ·rename_i h0
  simpa using h0
theorem qiV{p:List Ins}(h:qx p=(0,0)):stB p p.length<0:=by
 have h2:=(q8s h p.length (Nat.le_refl _)).2
 rw[List.drop_length,qY] at h2
 split at h2
 ·simp at h2
 ·omega
theorem qgb{p:List Ins}(h:qx p=(0,0)){k:Nat}(hk:k≤p.length):qaF p k (stB p k):=(q8s h k hk).1
theorem q9v{p:List Ins}(h:qx p=(0,0)){k:Nat}{x:Ins}(hx:p[k]? =some x):
  qv x=0∧(x.op=7→stB p k<0)∧(x.op=8→0≤stB p k)∧q0S p k (stB p k) x=0∧
   (x.op=9∨x.op=10∨x.op=11∨x.op=14∨x.op=15→0≤stB p k):=by
 have h0:=qgc h hx
 have ho:=q8Y h0
 refine⟨ho.2.2.1,ho.1,ho.2.1,ho.2.2.2,fun hop=> ?_⟩
 unfold qa5 at h0
 rw[if_neg (by simpa using ho.2.2.1)] at h0
 split at h0
 ·omega
 ·split at h0
  ·omega
  ·rename_i h2
   have hp:q2Y x=1:=by unfold q2Y;rw[if_pos ho.2.2.1,if_pos (by omega)]
   omega
theorem qdq{p:List Ins}(h:qx p=(0,0)):∀(n k:Nat),n+k=p.length→0≤stB p k→
  ∃c,q2P (p.drop k) k=c∧k≤c∧c<p.length∧(∃x,p[c]? =some x∧x.op=8)∧stB p (c+1)= -1∧∀i,k≤i→i≤c→stB p i=stB p k∧q2P (p.drop i) i=c∧(i<c→∀x,p[i]? =some x→x.op≠7∧x.op≠8)
 |0,k,hn,hb=>by
  have hk:k=p.length:=by omega
  have:=qiV h
  rw[←hk] at this
  omega
 |n+1,k,hn,hb=>by
  obtain⟨x,hx⟩:∃x,p[k]? =some x:=⟨_,List.getElem?_eq_getElem (by omega)⟩
  have hi:=q9v h hx
  have h7:x.op≠7:=fun e=>by have:=hi.2.1 e;omega
  have hd:q2P (p.drop k) k=if x.op=8 then k else q2P (p.drop (k+1)) (k+1):=by rw[q0R hx,q2P]
  by_cases h8:x.op=8
  ·refine⟨k,by rw[hd,if_pos h8],Nat.le_refl k,by omega,⟨x,hx,h8⟩,?_,fun i h1 h2=> ?_⟩
   ·rw[q5m hx,q16,if_neg h7,if_pos h8]
   ·obtain rfl:i=k:=by omega
    exact⟨rfl,by rw[hd,if_pos h8],fun h=>absurd h (by omega)⟩
  ·have hs:stB p (k+1)=stB p k:=by rw[q5m hx,q16,if_neg h7,if_neg h8]
   obtain⟨c,hc,hkc,hcl,hc8,hc1,hall⟩:=qdq h n (k+1) (by omega) (by rw[hs];exact hb)
   refine⟨c,by rw[hd,if_neg h8,hc],by omega,hcl,hc8,hc1,fun i h1 h2=> ?_⟩
   by_cases hik:i=k
   ·subst hik
    refine⟨rfl,by rw[hd,if_neg h8,hc],fun _ y hy=> ?_⟩
    rw[hx] at hy
    obtain rfl:=Option.some.inj hy
    exact⟨h7,h8⟩
   ·have:=hall i (by omega) h2
    rw[hs] at this
    exact this
theorem q3G{p:List Ins}(h:qx p=(0,0)){k:Nat}{x:Ins}(hx:p[k]? =some x)(h7:x.op=7):
  ∃c,q40 p k=c∧k<c∧c<p.length∧(∃y,p[c]? =some y∧y.op=8)∧stB p (c+1)= -1∧∀i,k<i→i≤c→stB p i=k∧q2P (p.drop i) i=c∧(i<c→∀y,p[i]? =some y→y.op≠7∧y.op≠8):=by
 have hk:=(List.getElem?_eq_some_iff.1 hx).1
 have hs:stB p (k+1)=k:=by rw[q5m hx,q16,if_pos h7]
 obtain⟨c,h1,h2,h3,h4,h5,h6⟩:=qdq h (p.length-(k+1)) (k+1) (by omega) (by rw[hs];omega)
 rw[hs] at h6
 exact⟨c,h1,h2,h3,h4,h5,fun i hi=>h6 i (by omega)⟩
def q5W(p:List Ins)(k:Nat)(x:Ins):List Int:=
 if x.op=4 then [k+1+x.imm] else if x.op=5∨x.op=6 then [k+1,k+1+x.imm] else if x.op=9 then [(q40 p k:Int)+1] else [k+1]
theorem qbi(len:Nat):∀(l:List Ins) (j t:Nat),q3f len l j t=false→∀(i:Nat) (x:Ins),l[i]? =some x→j+i<t→x.op=7→q2P (l.drop (i+1)) (j+i+1)<t∨len≤t
 | [],j,t,_,i,x,hx,_,_=>by simp at hx
 |y::l,j,t,h,i,x,hx,hi,h7=>by
  unfold q3f at h
  rw[Bool.or_eq_false_iff,decide_eq_false_iff_not] at h
  cases i with
  |zero=>
   simp only[List.getElem?_cons_zero,Option.some.injEq] at hx
   subst hx
   simp only[Nat.add_zero,Nat.zero_add,List.drop_succ_cons,List.drop_zero]
   by_cases h1:t≤q2P l (j+1)
   ·right
    by_cases h2:t+1≤len
    ·exact absurd ⟨by omega,h7,h1,h2⟩ h.1
    ·omega
   ·left;omega
  |succ i=>
   have:=qbi len l (j+1) t h.2 i x (by simpa using hx) (by omega) h7
   simp only[List.drop_succ_cons]
   have e:j+(i+1)+1=j+1+i+1:=by omega
   rw[e]
   exact this
theorem qdr{x:Ins}(hc:qv x=0)(h:x.op=4∨x.op=5∨x.op=6):q1L x=true:=by
 unfold q1L
 rw[decide_eq_true_iff]
 exact⟨hc,h⟩
theorem qaM{p:List Ins}(h:qx p=(0,0)){k:Nat}{x:Ins}(hx:p[k]? =some x):∀t∈q5W p k x,∃j:Nat,t=j∧k<j∧j≤p.length∧
  (0≤stB p k→x.op≠8→(x.op≠9→j≤q2P (p.drop k) k)∧(x.op=9→j=q2P (p.drop k) k+1))∧
  (stB p k<0→∀(b:Nat) (y:Ins),k<b→p[b]? =some y→y.op=7→j≤b∨q40 p b<j):=by
 have hk:=(List.getElem?_eq_some_iff.1 hx).1
 have hi:=q9v h hx
 have hin:=fun hb=>qdq h (p.length-k) k (by omega) hb
 have hdk:x.op≠8→q2P (p.drop k) k=q2P (p.drop (k+1)) (k+1):=fun h8=>by rw[q0R hx,q2P,if_neg h8]
 have step:∃j:Nat,((k:Int)+1)=j∧k<j∧j≤p.length∧(0≤stB p k→x.op≠8→j≤q2P (p.drop k) k)∧
   (stB p k<0→∀(b:Nat) (y:Ins),k<b→p[b]? =some y→y.op=7→j≤b∨q40 p b<j):=by
  refine⟨k+1,by omega,by omega,by omega,fun hb h8=> ?_,fun _ b y hb _ _=> .inl (by omega)⟩
  rw[hdk h8]
  exact(q5u _ _).1
 have skip:(x.op=4∨x.op=5∨x.op=6)→∃j:Nat,((k:Int)+1+x.imm)=j∧k<j∧j≤p.length∧(0≤stB p k→x.op≠8→j≤q2P (p.drop k) k)∧
   (stB p k<0→∀(b:Nat) (y:Ins),k<b→p[b]? =some y→y.op=7→j≤b∨q40 p b<j):=fun hop=>by
  have hs:=qdr hi.1 hop
  have hs2:=q4q hs
  have ht:=hi.2.2.2.1
  unfold q0S at ht
  rw[if_pos hs] at ht
  split at ht
  ·omega
  ·rename_i hlen
   refine⟨k+1+x.imm.toNat,by omega,by omega,by omega,fun hb h8=> ?_,fun hb b y hkb hy h7=> ?_⟩
   ·rw[if_pos hb] at ht
    split at ht
    ·omega
    ·rename_i he
     rcases (qgb h (by omega:k≤p.length)).bb with hb1|⟨_,_,hb3⟩
     ·omega
     ·rw[hb3] at he;omega
   ·rw[if_neg (by omega)] at ht
    split at ht
    ·omega
    ·rename_i hno
     by_cases hjb:k+1+x.imm.toNat≤b
     ·exact .inl hjb
     ·right
      have hbl:=(List.getElem?_eq_some_iff.1 hy).1
      have:=qbi p.length (p.drop (k+1)) (k+1) (k+1+x.imm.toNat) (by simpa using hno) (b-(k+1)) y (by rw[List.getElem?_drop,show k+1+(b-(k+1))=b by omega];exact hy) (by omega) h7
      rw[List.drop_drop,show k+1+(b-(k+1)+1)=b+1 by omega,show k+1+(b-(k+1))+1=b+1 by omega] at this
      obtain⟨c,hc,_,hcl,_⟩:=q3G h hy h7
      have hce:q2P (p.drop (b+1)) (b+1)=c:=hc
      rw[hc]
      rw[hce] at this
      omega
 intro t ht
 unfold q5W at ht
 split at ht
 ·rename_i h4
  obtain⟨j,hj,h1,h2,h3,h5⟩:=skip (.inl h4)
  rw[List.mem_singleton.1 ht]
  exact⟨j,hj,h1,h2,fun hb h8=>⟨fun _=>h3 hb h8,fun h9=>by omega⟩,h5⟩
 ·split at ht
  ·rename_i h56
   rcases List.mem_cons.1 ht with rfl|ht
   ·obtain⟨j,hj,h1,h2,h3,h5⟩:=step
    exact⟨j,hj,h1,h2,fun hb h8=>⟨fun _=>h3 hb h8,fun h9=>by omega⟩,h5⟩
   ·obtain⟨j,hj,h1,h2,h3,h5⟩:=skip (.inr h56)
    rw[List.mem_singleton.1 ht]
    exact⟨j,hj,h1,h2,fun hb h8=>⟨fun _=>h3 hb h8,fun h9=>by omega⟩,h5⟩
  ·split at ht
   ·rename_i h9
    rw[List.mem_singleton.1 ht]
    have hb:=hi.2.2.2.2 (.inl h9)
    obtain⟨c,hc,hkc,hcl,_⟩:=hin hb
    have he:q40 p k=c:=by unfold q40;rw[←hdk (by omega),hc]
    rw[he]
    refine⟨c+1,by omega,by omega,by omega,fun _ _=>⟨fun h=>absurd h9 h,fun _=>by rw[hc]⟩,fun hb2=>by omega⟩
   ·rename_i h9
    obtain⟨j,hj,h1,h2,h3,h5⟩:=step
    rw[List.mem_singleton.1 ht]
    exact⟨j,hj,h1,h2,fun hb h8=>⟨fun _=>h3 hb h8,fun h=>absurd h h9⟩,h5⟩
def q6D(p:List Ins)(k:Int):Int:=if(qx p).2=0∧0≤k then(match p[k.toNat]? with
 |some x=>if x.op=7 then q40 p k.toNat else-1
 |none=> -1) else-1
theorem qac{p:List Ins}:(qx p).2=0↔qx p=(0,0):=by
 refine⟨fun h=> ?_,fun h=>by rw[h]⟩
 have key:∀(tgt:Nat→Int→Ins→Int) (l:List Ins) (k:Nat) (b:Int),(qY tgt l k b).2=0→qY tgt l k b=(0,0):=fun tgt l=>by
  induction l with
  |nil=>
   intro k b
   simp only[qY]
   split
   ·intro h;simp at h
   ·intro _;rfl
  |cons x l ih=>
   intro k b
   simp only[qY]
   split
   ·rename_i h0;intro h;exact absurd h h0
   ·exact ih _ _
 unfold qx at*
 split at h
 ·simp at h
 ·rename_i h64
  rw[if_neg h64]
  exact key _ _ _ _ h
section
variable{W0:World}{own:Own}{a:Option Addr}{cap:Nat}{p:List Ins}
theorem qfR(hF:q0A W0)(hR:RdE Ins.enc 5 W0 own a p):qD Tryz.prog W0 123 [.slice a p.length cap] own (.bool (decide ((qx p).2=0))):=by
 refine qe (qa qj q5G (by simp[q1g]) ?_)
 have hc:=q9X (cap:=cap) hF hR
 generalize qx p=r at*
 repeat'((try(conv=>whnf));first|(refine qg hc ?_)|(refine fO ?_)|(exact Ent.refl)|(refine And.intro rfl ?_))
 all_goals exact⟨rfl,eB⟩
theorem qah{k:Int}(h:¬(0≤k∧k<p.length)):q6D p k= -1:=by
 unfold q6D
 split
 ·rename_i hc
  rw[List.getElem?_eq_none (by omega)]
 ·rfl
theorem q7X{k:Nat}{x:Ins}(hx:p[k]? =some x):q6D p k=if(qx p).2=0∧x.op=7 then(q40 p k:Int) else-1:=by
 unfold q6D
 rw[Int.toNat_natCast,hx]
 simp only
 (repeat' split) <;>first|rfl|omega
theorem qdU(hF:q0A W0)(hR:RdE Ins.enc 5 W0 own a p)(hl:p.length≤1099511627776)(k:Int):qD Tryz.prog W0 93 [.slice a p.length cap, .int .i64 k] own (.int .i64 (q6D p k)):=by
 refine qe (qa qj q57 (by simp[q12]) ?_)
 have hv:=qfR (cap:=cap) hF hR
 by_cases hk:0≤k∧k<p.length
 ·obtain⟨j,rfl⟩:=Int.eq_ofNat_of_zero_le hk.1
  obtain⟨x,hx⟩:∃x,p[j]? =some x:=⟨_,List.getElem?_eq_getElem (by omega)⟩
  have he:=qdY (cap:=cap) hR hl j (by omega)
  rw[q7X hx]
  generalize (qx p).2=r at*
  repeat'((try(conv=>whnf));first|(refine qC ?_)|(refine q0D ?_)|(refine q3M ?_)|(refine q4R (by omega) ?_)|(refine qg hv ?_)|(refine qg he ?_)|((with_reducible show Ld _ _ _ _);first|(refine ldE (k:=0) (RdE.ent hR ?_) hx ?_ rfl ?_;rotate_left;rfl;rotate_left;(solve|(exact eB))))|((with_reducible show IxS _ _ _ _ _);first|(refine ixE hR hx ?_ ?_;(first|rfl|omega)))|(refine q5n (fun hc=> ?_) (fun hc=> ?_))|(refine q5Z (fun hc=> ?_) (fun hc=> ?_)))
  all_goals(refine⟨q0N (vi ?_),eB⟩;(repeat' split) <;>first|rfl|(exfalso;omega)|omega)
 ·rw[qah hk]
  generalize (qx p).2=r at*
  repeat'((try(conv=>whnf));first|(refine qC ?_)|(refine q0D ?_)|(refine q3M ?_)|(refine q7i (by omega) ?_)|(refine qg hv ?_)|(refine q2p (fun hc=> ?_) (fun hc=> ?_))|(refine q5n (fun hc=> ?_) (fun hc=> ?_)))
  all_goals first|exact⟨rfl,eB⟩|(exfalso;omega)
end
end Go.Proofs.YtkieffpjjfebjaaGreatDoor
