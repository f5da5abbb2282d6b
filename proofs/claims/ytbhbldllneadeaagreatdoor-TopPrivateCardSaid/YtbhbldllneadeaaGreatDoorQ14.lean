/- What the laws share, part 14. No condition. -/
import Derived.Test.YtbhbldllneadeaaGreatDoorQ13
set_option maxHeartbeats 16000000
set_option maxRecDepth 10000
namespace Go.Proofs.YtbhbldllneadeaaGreatDoor
open Go
structure BI(c:Cfg)(b:BM):Prop where
 dl:(b.d.length:Int)=c.words
 dr:∀x∈b.d,okU x
 tl:b.tk.length=(qA c).toNat
 rg:b.t.rg.ok
 rl:b.r.length≤b.t.pc
 ol:b.o.length≤b.t.pc
 wl:b.w.length≤8*b.t.pc
 rr:∀x∈b.r,0≤x∧x<c.words
 wr:∀x∈b.w,0≤x∧x<c.words
 ad:∀a∈b.ad,a≤9223372036854775807
theorem q3B{P:Int→Prop}{l:List Int}{a:Nat}{v:Int}(h:∀x∈l,P x)(hv:P v):∀x∈l.set a v,P x:=fun x hx=>by
 rcases Zh hx with hx|rfl
 ·exact h x hx
 ·exact hv
theorem BI.next{c:Cfg}{b b':BM}(h:BI c b)(hp:b.t.pc+1≤b'.t.pc)(h1:b'.d.length=b.d.length)(h2:∀x∈b'.d,okU x)(h3:b'.tk.length=b.tk.length)(h4:b'.t.rg.ok)(h5:b'.r.length≤b.r.length+1)(h6:b'.o.length≤b.o.length+1)(h7:b'.w.length≤b.w.length+8)
  (h8:∀x∈b'.r,0≤x∧x<c.words) (h9:∀x∈b'.w,0≤x∧x<c.words) (h10:∀a∈b'.ad,a∈b.ad):BI c b':=by
 have e1:=h.rl;have e2:=h.ol;have e3:=h.wl;exact⟨by rw[h1];exact h.dl,h2,by rw[h3];exact h.tl,h4,Y6,Y6,Y6,h8,h9,fun a ha=>h.ad a (h10 a ha)⟩
theorem BI.go{c:Cfg}{b:BM}(h:BI c b):BI c b.go:=h.next (zu _) rfl h.dr rfl h.rg (y9 _) (y9 _) (y5 _ 8) h.rr h.wr (fun _ h=>h)
theorem qih{t:Thr}{x:Ins}:t.pc+1≤q1o t x:=by unfold q1o;split <;>omega
theorem BI.loc{c:Cfg}{b:BM}(h:BI c b){x:Ins}:BI c {b with t:=q1q b.t x}:=
 h.next qih rfl h.dr rfl (q8p h.rg) (y9 _) (y9 _) (y5 _ 8) h.rr h.wr (fun _ h=>h)
theorem qbg{P:Int→Prop}{l:List Int}{a:Int}(h:∀x∈l,P x)(ha:P a):∀x∈q1G l a,P x:=fun x hx=>by
 unfold q1G at hx
 split at hx
 ·exact h x hx
 ·rcases zz.1 hx with hx|hx
  ·exact h x hx
  ·rw[zf.1 hx];exact ha
theorem qbV(l:List Int)(a:Int):(q1G l a).length≤l.length+1:=by unfold q1G;split <;>simp
theorem qhe{c:Cfg}{b:BM}{a:Nat}(hd:∀x∈b.d,okU x)(hw:∀x∈b.w,0≤x∧x<c.words):∀n,((a+n:Nat):Int)≤c.words→(∀x∈(wrL b a n).d,okU x)∧∀x∈(wrL b a n).w,0≤x∧x<c.words
 |0,_=>⟨hd,hw⟩
 |n+1,h=>by
  obtain⟨h1,h2⟩:=qhe (a:=a) hd hw n Y6;exact⟨q3B h1 ⟨Y7,Y7⟩,qbg (P:=fun x=>0≤x∧x<c.words) h2 Y6⟩
theorem qbW{l:List Int}(h:∀x∈l,okU x)(j:Nat):okU (l.getD j 0):=by
 rw[zh];cases hj:l[j]? with
 |none=>exact⟨Y7,Y7⟩
 |some y=>exact h y (zg hj)
theorem qjW{c:Cfg}{tk:List Bool}{ad:List Int}{imm:Int}{a k:Nat}(h:alB c tk ad imm=some (a,k)):∃ad',ad=(a:Int)::ad'∧(k:Int)<qA c∧q1m c k=a∧q2a c k=imm∧tk.getD k false=false∧((a+2 ^ imm.toNat:Nat):Int)≤c.words:=by
 unfold alB at h
 split at h
 ·cases h
 ·rename_i z ad'
  split at h
  ·cases h
  ·rename_i hn;have h1:0≤z∧0≤qV c z∧q2a c (qV c z)=imm∧¬tk.getD (qV c z).toNat false=true:=⟨Y6,Y6,by
    by_cases e:q2a c (qV c z)=imm
    ·exact e
    ·exact absurd (.inr (.inr (.inl e))) hn,fun e=>hn (.inr (.inr (.inr e)))⟩
   simp only[Option.some.injEq,Prod.mk.injEq] at h;obtain⟨rfl,rfl⟩:=h
   rcases q6m c z with hl|⟨hl0,hl1,hl2⟩
   ·omega
   ·have hr:=q5r hl0 hl1;have e1:((qV c z).toNat:Int)=qV c z:=Y6;have e2:(z.toNat:Int)=z:=Y6;rw[e1,e2];refine⟨ad',rfl,hl1,hl2,h1.2.2.1,by simpa using h1.2.2.2,?_⟩;rw[h1.2.2.1,hl2] at hr;have e3:((2 ^ imm.toNat:Nat):Int)=2 ^ imm.toNat:=Y8;rw[Int.natCast_add,e2,e3];omega
theorem qdO{c:Cfg}{b:BM}{x:Ins}(hx:qS x=0)(h:BI c b)(hne:(q07 c b x).2≠ -1):BI c (q07 c b x).1:=by
 have hi:=(q0T hx).2.2.2.2.2;unfold q07 at hne ⊢
 by_cases h10:x.op=10
 ·rw[if_pos h10]
  split
  ·exact h.go
  ·rename_i hz;have ha:=q6R (r:=b.t.rg) (b:=x.b) (imm:=x.imm);generalize adr b.t.rg x.b x.imm=z at*;have hzn:(z.toNat:Int)=z:=Y6;refine h.next (zu _) rfl h.dr rfl (Rg.ok_set h.rg (qbW h.dr _)) ?_ (by simp[BM.put,rdM]) (y5 _ 8) ?_ h.wr (fun _ h=>h)
   ·show(rdM b z.toNat).r.length≤_;unfold rdM;dsimp only
    split <;>simp
   ·show ∀x∈(rdM b z.toNat).r,_
    unfold rdM;dsimp only
    split
    ·exact h.rr
    ·intro y hy
     rcases zz.1 hy with hy|hy
     ·exact h.rr y hy
     ·rw[zf.1 hy];omega
 rw[if_neg h10] at hne ⊢
 by_cases h11:x.op=11
 ·rw[if_pos h11]
  split
  ·exact h.go
  ·rename_i hz;have ha:=q6R (r:=b.t.rg) (b:=x.a) (imm:=x.imm);generalize adr b.t.rg x.a x.imm=z at*;have hzn:(z.toNat:Int)=z:=Y6;refine h.next (zu _) (zj ..) (q3B h.dr (h.rg _)) rfl h.rg (y9 _) (y9 _) ?_ h.rr (qbg (P:=fun x=>0≤x∧x<c.words) h.wr Y6) (fun _ h=>h);have:=qbV b.w z.toNat;show(q1G b.w z.toNat).length≤_;omega
 rw[if_neg h11] at hne ⊢
 by_cases h14:x.op=14
 ·rw[if_pos h14] at hne ⊢;cases hal:alB c b.tk b.ad x.imm with
  |none=>rw[hal] at hne;exact absurd rfl hne
  |some ak=>
   obtain⟨a,k⟩:=ak;obtain⟨ad',had,hk,_,_,_,hroom⟩:=qjW hal;simp only;have hM8:(2:Nat) ^ x.imm.toNat≤8:=by
    have h4:=hi h14;have:x.imm.toNat=0∨x.imm.toNat=1∨x.imm.toNat=2∨x.imm.toNat=3:=Y6
    rcases this with e|e|e|e <;>rw[e] <;>decide
   generalize 2 ^ x.imm.toNat=M at*;obtain⟨w1,w2,w3,w4,w5,w6,w7⟩:=qgo {b with ad:=b.ad.tail,tk:=b.tk.set k true} a M;obtain⟨w8,w9⟩:=qhe (c:=c) (b:={b with ad:=b.ad.tail,tk:=b.tk.set k true}) (a:=a) h.dr h.wr M hroom;generalize wrL {b with ad:=b.ad.tail,tk:=b.tk.set k true} a M=b1 at*;dsimp only at w1 w2 w3 w4 w5 w6 w7;refine h.next (by show _≤b1.t.pc+1;rw[w5];exact zu _) w2 w8 (by show b1.tk.length=_;rw[w6,zj]) ?_ (by show b1.r.length≤_;rw[w4];exact y9 _) (by show(b1.o++ [_]).length≤_;rw[w3];simp) (by show b1.w.length≤_;omega) (by show ∀x∈b1.r,_;rw[w4];exact h.rr) w9 (by show ∀x∈b1.ad,_;rw[w7];exact fun x hx=>Zg hx);show(b1.t.rg.set x.a.toNat a).ok;rw[w5];have h1:=h.ad a (by rw[had];exact zm);exact Rg.ok_set h.rg ⟨Y6,Y6⟩
 rw[if_neg h14] at hne ⊢
 split
 ·split
  ·exact h.go
  ·exact h.next (zu _) rfl h.dr (zj ..) h.rg (y9 _) (y9 _) (y5 _ 8) h.rr h.wr (fun _ h=>h)
 ·split
  ·exact h.go
  ·split
   ·exact h.go
   ·exact h.loc
theorem qi0{c:Cfg}{b:BM}{x:Ins}(hx:qS x=0)(h0:(q07 c b x).2=0):x.op≠8∧x.op≠9∧∀p:List Ins,((q07 c b x).1.t.pc:Int)∈q2E p b.t.pc x:=by
 have hI:=(q0T hx).2.2.2.2.1;have h8:x.op≠8:=fun e=>by
  unfold q07 at h0;rw[if_neg Y6,if_neg Y6,if_neg Y6,if_neg Y6,if_pos e] at h0;cases h0
 have h9:x.op≠9:=fun e=>by
  unfold q07 at h0;rw[if_neg Y6,if_neg Y6,if_neg Y6,if_neg Y6,if_neg Y6,if_pos e] at h0;cases h0
 refine⟨h8,h9,fun p=> ?_⟩;have key:(q07 c b x).1.t.pc=q1o b.t x:=by
  by_cases h14:x.op=14
  ·rw[qdN h14 h0];unfold q1o;rw[if_neg Y6]
  ·by_cases h1:x.op=10∨x.op=11
   ·rw[(qdM h1).1];unfold q1o;rw[if_neg Y6]
   ·by_cases h15:x.op=15
    ·rw[(qad h15).1];unfold q1o;rw[if_neg Y6]
    ·unfold q07;rw[if_neg Y6,if_neg Y6,if_neg h14,if_neg h15,if_neg h8,if_neg h9];rfl
 rw[key];unfold q1o q2E
 by_cases h4:x.op=4
 ·rw[if_pos h4,if_pos (Or.inl h4),zf];have:=hI (.inl h4);omega
 ·rw[if_neg h4]
  by_cases h56:x.op=5∨x.op=6
  ·rw[if_pos h56];have:=hI (.inr h56)
   split
   ·simp;omega
   ·simp
  ·rw[if_neg h56,if_neg h9,if_neg Y6];simp
theorem qdS{p:List Ins}(h:qw p=(0,0)){k j:Nat}{x0 x:Ins}(hx0:p[k]? =some x0)(h7:x0.op=7)(hkj:k<j)(hje:j≤q0t p k)(hx:p[j]? =some x){c:Cfg}{b:BM}(hb:b.t.pc=j)(h0:(q07 c b x).2=0):
  j<(q07 c b x).1.t.pc∧(q07 c b x).1.t.pc≤q0t p k:=by
 obtain⟨e,he,hke,hel,_,_,hall⟩:=q0k h hx0 h7;rw[he] at hje ⊢;obtain⟨h1,h2,_⟩:=hall j hkj hje;obtain⟨h8,h9,haf⟩:=qi0 (q36 h hx).1 h0;obtain⟨j',hj',hlt,_,h3,_⟩:=q44 h hx _ (hb ▸ haf p);have:=(h3 (by rw[h1];omega) h8).1 h9;rw[h2] at this;omega
theorem qlW{p:List Ins}(h:qw p=(0,0)){k j:Nat}{x0:Ins}(hx0:p[k]? =some x0)(h7:x0.op=7)(hkj:k<j)(hje:j≤q0t p k):∃x,p[j]? =some x∧qS x=0∧(x.op=8↔j=q0t p k)∧x.op≠7∧x.op≠12∧x.op≠13∧x.op≠16∧x.op≠17:=by
 obtain⟨e,he,hke,hel,⟨y,hy,hy8⟩,_,hall⟩:=q0k h hx0 h7;rw[he] at hje ⊢;obtain⟨x,hx⟩:∃x,p[j]? =some x:=⟨_,z6 Y6⟩
 obtain⟨h1,_,h3⟩:=hall j hkj hje;have hi:=q36 h hx;have h0:=qbC h hx;refine⟨x,hx,hi.1,?_,fun e7=>by have:=hi.2.1 e7;rw[h1] at this;omega,?_⟩
 ·by_cases hje2:j=e
  ·subst hje2;rw[hx] at hy;obtain rfl:=Option.some.inj hy;exact⟨fun _=>rfl,fun _=>hy8⟩
  ·exact⟨fun e8=>absurd e8 (h3 Y6 x hx).2,fun e=>absurd e hje2⟩
 ·have hpl:∀o,x.op=o→(o=12∨o=13∨o=16∨o=17)→False:=fun o ho hoo=>by
   unfold q7P at h0;rw[if_neg (by simpa using hi.1)] at h0
   split at h0
   ·omega
   ·split at h0
    ·omega
    ·rename_i hp;have hp2:q1M x=2:=by unfold q1M;rw[if_pos hi.1,if_neg Y6,if_pos Y6]
     exact hp (.inr ⟨hp2,by rw[h1];omega⟩)
  exact⟨fun e=>hpl 12 e Y7,fun e=>hpl 13 e Y7,fun e=>hpl 16 e Y7,fun e=>hpl 17 e Y7⟩
theorem qeD{c:Cfg}{b:BM}{x:Ins}(h0:(q07 c b x).2≠0)(h1:(q07 c b x).2≠ -1):(q07 c b x).1=b.go∧0<(q07 c b x).2∧(q07 c b x).2≤8:=by
 unfold q07 at h0 h1 ⊢
 by_cases h10:x.op=10
 ·rw[if_pos h10] at h0 ⊢
  split at h0
  ·rw[if_pos (by assumption)];exact⟨rfl,Y8,Y8⟩
  ·exact absurd rfl h0
 rw[if_neg h10] at h0 h1 ⊢
 by_cases h11:x.op=11
 ·rw[if_pos h11] at h0 ⊢
  split at h0
  ·rw[if_pos (by assumption)];exact⟨rfl,Y8,Y8⟩
  ·exact absurd rfl h0
 rw[if_neg h11] at h0 h1 ⊢
 by_cases h14:x.op=14
 ·rw[if_pos h14] at h0 h1
  split at h0
  ·rename_i hal;rw[hal] at h1;exact absurd rfl h1
  ·exact absurd rfl h0
 rw[if_neg h14] at h0 h1 ⊢
 by_cases h15:x.op=15
 ·rw[if_pos h15] at h0 ⊢
  split at h0
  ·rw[if_pos (by assumption)];exact⟨rfl,Y8,Y8⟩
  ·exact absurd rfl h0
 rw[if_neg h15] at h0 ⊢
 by_cases h8:x.op=8
 ·rw[if_pos h8];exact⟨rfl,Y8,Y8⟩
 rw[if_neg h8] at h0 ⊢
 by_cases h9:x.op=9
 ·rw[if_pos h9];exact⟨rfl,Y8,Y8⟩
 ·rw[if_neg h9] at h0;exact absurd rfl h0
theorem qcE{p:List Ins}(h:qw p=(0,0)){k:Nat}{x0:Ins}(hx0:p[k]? =some x0)(h7:x0.op=7){c:Cfg}:∀(n:Nat) (b:BM),k<b.t.pc→b.t.pc≤q0t p k→BI c b→(q3U c p n b).2≠ -1→BI c (q3U c p n b).1∧(0<(q3U c p n b).2∧(q3U c p n b).2≤8)∧(q3U c p n b).1.t.pc≤q0t p k+1
 |0,_,_,_,_,hn=>absurd rfl hn
 |n+1,b,h1,h2,hb,hn=>by
  obtain⟨x,hx,hi, -⟩:=qlW h hx0 h7 h1 h2;unfold q3U at hn ⊢;rw[hx] at hn ⊢;simp only at hn ⊢
  by_cases h0:(q07 c b x).2=0
  ·rw[if_pos h0] at hn ⊢;obtain⟨h3,h4⟩:=qdS h hx0 h7 h1 h2 hx (c:=c) (b:=b) rfl h0;exact qcE h hx0 h7 n _ Y6 h4 (qdO hi hb Y6) hn
  ·rw[if_neg h0] at hn ⊢;obtain⟨h3,h4⟩:=qeD h0 hn;exact⟨qdO hi hb hn,h4,by rw[h3];show b.t.pc+1≤_;omega⟩
section
variable{W0:World}{K Kp:Own}{g:TxG}{c:Cfg}{b:BM}{p:List Ins}{pa:Option Addr}{pcap:Nat}
theorem qhZ(h:g.ok W0 K b)(hc:qH c=0)(hp:qw p=(0,0)){x0:Ins}(hx0:p[b.t.pc]? =some x0)(h7:x0.op=7)(hB:BI c {b with t:={b.t with pc:=b.t.pc+1}})(hR:RdE Ins.enc 5 W0 Kp pa p)(q:Own) [ek:qv q K] [ekp:qv q Kp]:
  qt Tryz.prog W0 92 [.pointer (some ⟨g.xb,0,none⟩), .slice pa p.length pcap] (g.O c b 0++q) fun v own'=>
   ((v= .bool false∧((q3U c p p.length {b with t:={b.t with pc:=b.t.pc+1}}).2= -1∨(q3U c p p.length {b with t:={b.t with pc:=b.t.pc+1}}).1.ad≠ []))∧Ent W0 own' q)∨
   ∃g':TxG,(v= .bool true∧(q3U c p p.length {b with t:={b.t with pc:=b.t.pc+1}}).2≠ -1∧(q3U c p p.length {b with t:={b.t with pc:=b.t.pc+1}}).1.ad= []∧g'.ok W0 K (q3U c p p.length {b with t:={b.t with pc:=b.t.pc+1}}).1∧g'.xb=g.xb)∧
    Ent W0 own' (g'.O c (q3U c p p.length {b with t:={b.t with pc:=b.t.pc+1}}).1 (q3U c p p.length {b with t:={b.t with pc:=b.t.pc+1}}).2++q):=by
 refine sH [] ?_;generalize hz:q3U c p p.length {b with t:={b.t with pc:=b.t.pc+1}}=z;obtain⟨e,he,hke,hel, -⟩:=q0k hp hx0 h7;have h64:=q70 hp;generalize hk:b.t.pc=k at*
 repeat'((try(conv=>whnf));first|(refine fB ?_)|(refine fA ?_)|(refine fN ?_))
 refine qX (σ:=Nat×BM×Int×TxG) (fun _=> []) (fun s=>s.2.2.2.O c s.2.1 s.2.2.1++q) (fun s=>(s.2.2.2.ok W0 K s.2.1∧s.2.2.2.xb=g.xb∧BI c s.2.1)∧((s.2.2.1=0∧q3U c p s.1 s.2.1=z∧k<s.2.1.t.pc∧s.2.1.t.pc≤e∧e<s.1+s.2.1.t.pc)∨(s.2.2.1≠0∧s.2.2.1≠ -1∧(s.2.1,s.2.2.1)=z)))
  (fun s=>if s.2.2.1=0 then s.1+1 else 0) (p.length,{b with t:={b.t with pc:=b.t.pc+1}},0,g) ⟨⟨⟨h.d,h.m,h.a,h.al,h.r,h.w,h.o⟩,rfl,hk ▸ hB⟩, .inl ⟨rfl,by rw[hk];exact hz,by simp only;omega,by simp only;omega,by simp only;omega⟩⟩ trivial (eC) rfl ?_
 rintro⟨n,b1,out,g1⟩ junk ⟨⟨hok,hxb,hBI⟩,hI⟩;dsimp only at hok hxb hBI hI ⊢;rw[←hxb]
 rcases hI with ⟨rfl,hrun,hk1,hk2,hk3⟩|⟨ho1,ho2,hrun⟩
 ·obtain⟨x,hx,hi, -⟩:=qlW hp hx0 h7 hk1 (by rw[he];exact hk2);obtain⟨m,rfl⟩:∃m,n=m+1:=⟨n-1,Y6⟩
  have hst:=qdS hp hx0 h7 hk1 (by rw[he];exact hk2) hx (c:=c) (b:=b1) rfl;have hso:=qdO (c:=c) (b:=b1) hi hBI;rw[q3U,hx] at hrun;simp only at hrun;have h1:=hBI.rl;have h2:=hBI.ol;have h3:=hBI.wl;have hsp:=qj8 hok hc hi hBI.rg Y6 hBI.dl hBI.tl Y6 Y6 Y6 hBI.ad q;generalize q07 c b1 x=y at*
  repeat'((try(conv=>whnf));first|(refine fE ?_)|(refine fD ?_)|((apply qJ);first|((refine ixE hR hx ?_ ?_;(first|rfl|omega))))|((apply q2H);first|(refine q1h hR hx rfl ?_))|((apply qe);first|((refine q2g hsp ?_ ?_ ?_ (fun v hv=> ?_) (fun s v hv=> ?_);(exact(eC));(exact rfl);(exact rfl);(obtain⟨rfl,hv⟩:=hv);rotate_left;(obtain⟨rfl,hne,hv,hxb2⟩:=hv))))|(refine fA ?_))
  ·refine⟨(m,y.1,y.2,s),⟨⟨hv,hxb2,hso hne⟩,?_⟩,?_,trivial,Ent.refl⟩
   ·by_cases h0:y.2=0
    ·rw[if_pos h0] at hrun;have:=hst h0;exact .inl ⟨h0,hrun,by simp only;omega,by simp only;omega,by simp only;omega⟩
    ·rw[if_neg h0] at hrun;exact .inr ⟨h0,hne,hrun⟩
   ·simp only
    split <;>simp
  ·rw[if_neg Y6] at hrun;exact .inl ⟨⟨rfl, .inl (by rw[←hrun];exact hv)⟩,Ent.refl⟩
 ·subst hrun
  by_cases had:b1.ad= []
  ·have hl:(b1.ad.length:Int)=0:=by rw[had];rfl
   repeat'((try(conv=>whnf));first|(refine fG ?_)|(refine fA ?_))
   exact .inr ⟨g1,⟨q0J (vb (decide_eq_true hl)),ho2,had,hok,rfl⟩,Ent.refl⟩
  ·have hl:¬(b1.ad.length:Int)=0:=fun e=>had (Z9 Y6)
   repeat'((try(conv=>whnf));first|(refine fG ?_)|(refine fA ?_))
   exact .inl ⟨⟨q0J (vb (decide_eq_false hl)), .inr had⟩,(eC)⟩
end
open Go
structure ObS where
 a:Option Addr
 cap:Nat
 l:List ObM
 D:Own
abbrev ObS.enc(x:ObS):List Value:= [.slice x.a x.l.length x.cap]
def q5j(S:List ObS):Own:=(S.map ObS.D).flatten
theorem q3C{S:List ObS}{t:Nat}{x:ObS}(hx:S[t]? =some x):q5j S=q5j (S.take t)++(x.D++q5j (S.drop (t+1))):=by
 have h:S=S.take t++(x::S.drop (t+1)):=by
  have:=q4q hx
  conv=>lhs;rw[←ye t S,this]
 conv=>lhs;rw[h]
 simp[q5j]
theorem q9N{S:List ObS}{t:Nat}{x:ObS}(hx:S[t]? =some x)(x':ObS):q5j (S.set t x')=q5j (S.take t)++(x'.D++q5j (S.drop (t+1))):=by
 have ht:=(z7.1 hx).1;rw[Za,if_pos ht];simp[q5j]
structure GP where
 gb:Nat
 mb:Nat
 ml:Mp
 da:Option Addr
 dc:Nat
 dD:Own
 ka:Option Addr
 kc:Nat
 ta:Option Addr
 tc:Nat
 tD:Own
 ea:Option Addr
 ec:Nat
 eD:Own
 L:List EH
 X:Own
 oa:Option Addr
 oc:Nat
 oD:Own
 S:List ObS
abbrev GP.cells(g:GP)(c:Cfg)(np:Nat)(s:GS):List Value:= .slice g.da s.d.length g.dc:: .map (some g.mb)::cfL c [.slice g.ka np g.kc, .slice g.ta s.T.length g.tc, .slice g.ea g.L.length g.ec, .slice g.oa g.S.length g.oc, .int .i64 s.n]
abbrev GP.O(g:GP)(c:Cfg)(np:Nat)(s:GS):Own:=(g.gb,fun o=>o=Obj.cells (g.cells c np s).toArray 152 (0,0))::(g.dD++((g.mb,q2C (mpV g.ml))::(g.tD++(g.eD++(g.oD++(q5j g.S++g.X))))))
structure GP.ok(g:GP)(W0:World)(Kp:Own)(ps:List PH)(s:GS):Prop where
 d:qu q09 49 1 g.da g.dc s.d g.dD
 m:mpR g.ml s.tk
 k:RdE PH.enc 1 W0 Kp g.ka ps
 kp:∀h∈ps,RdE Ins.enc 5 W0 Kp h.a h.p
 t:qu Thr.enc 89 11 g.ta g.tc s.T g.tD
 e:qu EH.enc 84 6 g.ea g.ec g.L g.eD
 em:g.L.map EH.m=s.E
 o:qu ObS.enc 76 1 g.oa g.oc g.S g.oD
 os:∀x∈g.S,qu ObM.enc 78 3 x.a x.cap x.l x.D
 ol:g.S.map ObS.l=s.O
def GP.ev(g:GP)(W0:World):Prop:=∀e∈g.L,RdE qx 1 W0 g.X e.ra e.rl∧RdE qx 1 W0 g.X e.wa e.wl
theorem GP.ok.ot{g:GP}{W0:World}{Kp:Own}{ps:List PH}{s:GS}(h:g.ok W0 Kp ps s){t:Nat}{x:ObS}(hx:g.S[t]? =some x):s.O.getD t []=x.l:=by
 rw[←h.ol];simp[List.getD,hx]
theorem GP.ok.obs{g:GP}{W0:World}{Kp:Own}{ps:List PH}{s:GS}(h:g.ok W0 Kp ps s){t:Nat}{x:ObS}(hx:g.S[t]? =some x){a:Option Addr}{cap:Nat}{D D':Own}{l:List ObM}(hb:qu ObM.enc 78 3 a cap (x.l++l) D)(hb2:qu ObS.enc 76 1 g.oa g.oc (g.S.set t ⟨a,cap,x.l++l,D⟩) D'):
  ({g with oD:=D',S:=g.S.set t ⟨a,cap,x.l++l,D⟩}:GP).ok W0 Kp ps {s with O:=s.O.set t (s.O.getD t []++l)}:=by
 refine⟨h.d,h.m,h.k,h.kp,h.t,h.e,h.em,hb2,fun y hy=> ?_,?_⟩
 ·rcases Zh hy with hy|rfl
  ·exact h.os y hy
  ·exact hb
 ·rw[h.ot hx,←h.ol,yW]
section
variable{W0:World}{Kp:Own}{g:GP}{c:Cfg}{ps:List PH}{s:GS}
theorem q0U(h:g.ok W0 Kp ps s){t:Nat}(ht:t<g.S.length)(hl:∀l∈s.O,l.length≤1000000)(pc:Nat)(k v:Int)(q:Own):
  qt Tryz.prog W0 94 [.pointer (some ⟨g.gb,0,none⟩), .int .i64 t, .int .i64 pc, .int .i64 k, .int .u64 v] (g.O c ps.length s++q) fun _ own'=>∃g':GP,
   (g'.ok W0 Kp ps {s with O:=s.O.set t (s.O.getD t []++ [⟨pc,k,v⟩])}∧g'={g with oD:=g'.oD,S:=g'.S}∧g'.S.length=g.S.length)∧Ent W0 own' (g'.O c ps.length {s with O:=s.O.set t (s.O.getD t []++ [⟨pc,k,v⟩])}++q):=by
 obtain⟨x,hx⟩:∃x,g.S[t]? =some x:=⟨_,z6 ht⟩
 have hxm:=zg hx;have hB:=h.os x hxm;have hxl:x.l.length≤1000000:=hl x.l (by rw[←h.ol];exact y2 hxm);have hO:=h.o;have hOR:=hO.rd (W0:=W0);refine sH [3,5,7,11,13,15,17,19,21,23,25,27,29,31,33,1,9,36,38,39,42,0,36,1,9,38,39,42,0,38,9,39,42,0] ?_;dsimp only[GP.O];rw[q3C hx]
 repeat'((try(conv=>whnf));first|(apply q0p (enc:=ObM.enc) (T:=78) ⟨pc,k,v⟩ hB;(exact rfl);(exact rfl);(omega);(exact rfl);(exact rfl);(omega);intro a1 c1 D1 hb1)|(apply q3o (enc:=ObS.enc) (T:=76) (j:=t) (k:=0) ⟨a1,c1,x.l++ [⟨pc,k,v⟩],D1⟩ hO hx;(exact rfl);(omega);(simp only[ObS.enc,z8,zG,zM,zD];exact rfl);(exact rfl);intro D2 hb2)|((apply gLd);first|(refine q0r hOR hx rfl ?_))|((apply qJ);first|((refine ixE hOR hx ?_ ?_;(first|rfl|omega))))|(refine fA ?_)|(refine qf (fun bk hbk=> ?_))|(refine q1c.mk ?_ ?_))
 all_goals
  refine⟨{g with oD:=D2,S:=g.S.set t ⟨a1,c1,x.l++ [⟨pc,k,v⟩],D1⟩},⟨h.obs hx hb1 hb2,rfl,zj ..⟩,?_⟩;dsimp only[GP.O,GP.cells];rw[q9N hx,zj];exact(eC)
end
open Go
section
variable{W0:World}{Kp:Own}{g:GP}{c:Cfg}{ps:List PH}{s:GS}
theorem q4v(h:g.ok W0 Kp ps s){t:Nat}{th:Thr}(hth:s.T[t]? =some th){ph:PH}(hph:ps[t]? =some ph)(pc:Nat)(q:Own) [ek:qv q Kp]:
  qt Tryz.prog W0 95 [.pointer (some ⟨g.gb,0,none⟩), .int .i64 t, .int .i64 pc] (g.O c ps.length s++q) fun _ own'=>∃g':GP,
   (g'.ok W0 Kp ps {s with T:=s.T.set t {th with pc:=pc,dn:=decide (pc=ph.p.length)}}∧g'={g with tD:=g'.tD})∧Ent W0 own' (g'.O c ps.length {s with T:=s.T.set t {th with pc:=pc,dn:=decide (pc=ph.p.length)}}++q):=by
 refine sH [3,5,7,9,11,13,15,17,19,21,23,25,27,29,31,33,35,37,39,41,43,45,47,50,51,53,56,0] ?_;have hT:=h.t;have hTR:=hT.rd (W0:=W0);have hK:=h.k;have ht:=(z7.1 hth).1;have hth2:(s.T.set t {th with pc:=pc})[t]? =some {th with pc:=pc}:=Ze ht;have hlen:s.T.length=(s.T.set t {th with pc:=pc}).length:=(zj ..).symm;have hdn:(decide ((pc:Int)=ph.p.length))=decide (pc=ph.p.length):=dd Y6;dsimp only[GP.O]
 repeat'((try(conv=>whnf));first|(apply q3o (enc:=Thr.enc) (T:=89) (j:=t) (k:=10) {th with pc:=pc,dn:=decide (pc=ph.p.length)} hb1 hth2;(exact rfl);(omega);(rw[hdn];exact rfl);(exact rfl);intro D2 hb2)|(apply q3o (enc:=Thr.enc) (T:=89) (j:=t) (k:=0) {th with pc:=pc} hT hth;(exact rfl);(omega);(exact rfl);(exact rfl);intro D1 hb1)|((apply gLd);first|(refine q0r hK hph rfl ?_))|((apply qJ);first|((refine ixE hTR hth ?_ ?_;(first|rfl|omega)))|((refine ixE hK hph ?_ ?_;(first|rfl|omega))))|(refine fA ?_))
 all_goals
  rw[yc] at hb2;refine⟨{g with tD:=D2},⟨⟨h.d,h.m,h.k,h.kp,hb2,h.e,h.em,h.o,h.os,h.ol⟩,rfl⟩,?_⟩;dsimp only[GP.O,GP.cells];rw[zj];exact(eC)
theorem qh2{D:Own}{q:Own}:(D++(g.O c ps.length s++q)).Perm (({g with X:=D++g.X}:GP).O c ps.length s++q):=by
 have h:∀(Y:Own),(D++(Y++(g.X++q))).Perm (Y++((D++g.X)++q)):=fun Y=>by
  rw[←zd,zd D g.X q];exact(Z5.append_right _).trans (by rw[zd])
 have:=h ((g.gb,fun o=>o=Obj.cells (g.cells c ps.length s).toArray 152 (0,0))::(g.dD++((g.mb,q2C (mpV g.ml))::(g.tD++(g.eD++(g.oD++q5j g.S))))))
 simpa [GP.O] using this
theorem GP.ok.x{X:Own}(h:g.ok W0 Kp ps s):({g with X:=X}:GP).ok W0 Kp ps s:=⟨h.d,h.m,h.k,h.kp,h.t,h.e,h.em,h.o,h.os,h.ol⟩
theorem GP.ev.x{D:Own}(h:g.ev W0):({g with X:=D++g.X}:GP).ev W0:=fun e he=>⟨(h e he).1.ent (Ent.app Ent.refl),(h e he).2.ent (Ent.app Ent.refl)⟩
theorem q1j(h:g.ok W0 Kp ps s)(hv:g.ev W0){e:EH}(h1:RdE qx 1 W0 g.X e.ra e.rl)(h2:RdE qx 1 W0 g.X e.wa e.wl)(hl:s.E.length≤1000000)(q:Own):
  qt Tryz.prog W0 134 [.pointer (some ⟨g.gb,0,none⟩),e.v] (g.O c ps.length s++q) fun _ own'=>∃g':GP,
   (g'.ok W0 Kp ps (s.ev [⟨s.n,e.t,e.k,e.w,e.rl,e.wl⟩])∧g'.ev W0∧g'={g with ea:=g'.ea,ec:=g'.ec,eD:=g'.eD,L:=g'.L})∧Ent W0 own' (g'.O c ps.length (s.ev [⟨s.n,e.t,e.k,e.w,e.rl,e.wl⟩])++q):=by
 refine sH [3,5,7,9,11,13,16,18,19,21,24,0] ?_;have hE:=h.e;have hLl:g.L.length≤1000000:=by rw[←h.em,zk] at hl;exact hl
 obtain⟨ev,t,k,w,ra,rl,rc,wa,wl,wc⟩:=e;dsimp only[EH.v] at*;dsimp only[GP.O]
 repeat'((try(conv=>whnf));first|(apply q0p (enc:=EH.enc) (T:=84) ⟨s.n,t,k,w,ra,rl,rc,wa,wl,wc⟩ hE;(exact rfl);(exact rfl);(omega);(exact rfl);(exact rfl);(omega);intro a1 c1 D1 hb1)|(refine fA ?_)|(refine fL ?_)|(refine fN ?_)|(refine qf (fun bk hbk=> ?_)))
 refine⟨{g with ea:=a1,ec:=c1,eD:=D1,L:=g.L++ [⟨s.n,t,k,w,ra,rl,rc,wa,wl,wc⟩]},⟨⟨h.d,h.m,h.k,h.kp,h.t,hb1,?_,h.o,h.os,h.ol⟩,fun y hy=> ?_,rfl⟩,?_⟩
 ·rw[zH,h.em];rfl
 ·rcases zz.1 hy with hy|hy
  ·exact hv y hy
  ·rw[zf.1 hy];exact⟨h1,h2⟩
 ·dsimp only[GP.O,GP.cells,GS.ev];simp only[z8,zG,zM,zD];exact(eC)
theorem qkH{s:GS}{a b:List EvM}:(s.ev a).ev b=s.ev (a++b):=by unfold GS.ev;rw[zd]
theorem q5O(h:g.ok W0 Kp ps s)(hv:g.ev W0)(hl:s.E.length≤900000)(t a:Nat){k:Int}(hk:k=1∨k=2)(q:Own):
  qt Tryz.prog W0 138 [.pointer (some ⟨g.gb,0,none⟩), .int .i64 t, .int .i64 a, .int .i64 k] (g.O c ps.length s++q) fun _ own'=>∃g':GP,
   (g'.ok W0 Kp ps (s.ev (plE c s.n t k a))∧g'.ev W0∧g'={g with ea:=g'.ea,ec:=g'.ec,eD:=g'.eD,L:=g'.L,X:=g'.X})∧Ent W0 own' (g'.O c ps.length (s.ev (plE c s.n t k a))++q):=by
 refine sH [] ?_;cases hs:c.strong with
 |false=>
  have he:=q1j (c:=c) h hv (e:=⟨0,t,k,a,none,[],0,none,[],0⟩) RdE.nil RdE.nil Y6 q;have hp:plE c s.n t k a= [⟨s.n,t,k,a,[],[]⟩]:=by unfold plE;rw[hs];rfl
  rw[hp];have hsv:(!c.strong)=true:=by rw[hs];rfl
  repeat'((try(conv=>whnf));first|(refine qk4 hsv ?_)|((apply qe);first|((refine qm he ?_ ?_ ?_ (fun g' v hg=> ?_);(exact(eC));(exact rfl);(exact rfl))))|(refine fA ?_))
  exact⟨g',⟨hg.1,hg.2.1,by rw[hg.2.2]⟩,Ent.refl⟩
 |true=>
  have hsv:(!c.strong)=false:=by rw[hs];rfl
  rcases hk with rfl|rfl
  ·have hp:plE c s.n t 1 a= [⟨s.n,t,3,0,[],[]⟩]++ [⟨s.n,t,4,0,[(a:Int)],[]⟩]:=by unfold plE;rw[hs];rfl
   rw[hp,←qkH]
   repeat'((try(conv=>whnf));first|(refine qbq hsv ?_)|(refine qf (fun b8 hb8=> ?_);(apply Stop.h))|(refine fA ?_))
   refine Stop.mk ?_
   repeat'((try(conv=>whnf));first|(refine fE ?_)|(refine qf (fun b9 hb9=> ?_);(apply Stop.h))|(refine fM ?_))
   refine Stop.mk ?_;have hX:∀(X:Own),RdE qx 1 W0 ([(b9,fun o=>o=Obj.cells #[.int .i64 a] 3 (0,0))]++X) (some ⟨b9,0,none⟩) [(a:Int)]:=fun X=>q1A (List.Mem.head _) (fun _ _=>rfl) rfl
   have he1:=fun q=>q1j (q:=q) (c:=c) (g:={g with X:= [(b9,fun o=>o=Obj.cells #[.int .i64 a] 3 (0,0))]++g.X}) h.x hv.x (e:=⟨0,t,3,0,none,[],0,none,[],0⟩) RdE.nil RdE.nil Y6
   have hk1:=qL (E:= [(b8,fun o=>o=Obj.cells #[.int .i64 0, .int .i64 t, .int .i64 4, .int .i64 0,(.slice (some ⟨b9,0,none⟩) 1 1),(.slice none 0 0)] 84 (0,0))]) (q:=q) he1;have he2:=fun(g':GP) (h1:g'.ok W0 Kp ps (s.ev [⟨s.n,t,3,0,[],[]⟩])) (h2:g'.ev W0) (hx:g'.X= [(b9,fun o=>o=Obj.cells #[.int .i64 a] 3 (0,0))]++g.X) (hgb:g'.gb=g.gb)=>hgb ▸ q1j (c:=c) h1 h2 (e:=⟨0,t,4,0,some ⟨b9,0,none⟩,[(a:Int)],1,none,[],0⟩) (hx ▸ hX _) RdE.nil (by simp[GS.ev];omega) q
   repeat'((try(conv=>whnf));first|((apply qe);first|((refine qm hk1 ?_ ?_ ?_ (fun g1 v hg1=> ?_);(exact Ent.of_perm ((List.Perm.swap _ _ _).trans ((qh2 (D:= [_])).cons _)));(exact rfl);(exact rfl);(obtain⟨hg1,hg2,hg3⟩:=hg1)))|((refine qm (he2 g1 hg1 hg2 (by rw[hg3]) (by rw[hg3])) ?_ ?_ ?_ (fun g2 v hg2=> ?_);(exact(eC));(exact rfl);(exact rfl))))|(refine fL ?_)|(refine fN ?_))
   exact⟨g2,⟨hg2.1,hg2.2.1,by rw[hg2.2.2,hg3]⟩,Ent.refl⟩
  ·have hp:plE c s.n t 2 a= [⟨s.n,t,3,0,[],[]⟩]++ [⟨s.n,t,4,0,[],[(a:Int)]⟩]:=by unfold plE;rw[hs];rfl
   rw[hp,←qkH]
   repeat'((try(conv=>whnf));first|(refine qbq hsv ?_)|(refine qf (fun b8 hb8=> ?_);(apply Stop.h))|(refine fA ?_))
   refine Stop.mk ?_
   repeat'((try(conv=>whnf));first|(refine fD ?_)|(refine qf (fun b9 hb9=> ?_);(apply Stop.h))|(refine fM ?_))
   refine Stop.mk ?_;have hX:∀(X:Own),RdE qx 1 W0 ([(b9,fun o=>o=Obj.cells #[.int .i64 a] 3 (0,0))]++X) (some ⟨b9,0,none⟩) [(a:Int)]:=fun X=>q1A (List.Mem.head _) (fun _ _=>rfl) rfl
   have he1:=fun q=>q1j (q:=q) (c:=c) (g:={g with X:= [(b9,fun o=>o=Obj.cells #[.int .i64 a] 3 (0,0))]++g.X}) h.x hv.x (e:=⟨0,t,3,0,none,[],0,none,[],0⟩) RdE.nil RdE.nil Y6
   have hk1:=qL (E:= [(b8,fun o=>o=Obj.cells #[.int .i64 0, .int .i64 t, .int .i64 4, .int .i64 0,(.slice none 0 0),(.slice (some ⟨b9,0,none⟩) 1 1)] 84 (0,0))]) (q:=q) he1;have he2:=fun(g':GP) (h1:g'.ok W0 Kp ps (s.ev [⟨s.n,t,3,0,[],[]⟩])) (h2:g'.ev W0) (hx:g'.X= [(b9,fun o=>o=Obj.cells #[.int .i64 a] 3 (0,0))]++g.X) (hgb:g'.gb=g.gb)=>hgb ▸ q1j (c:=c) h1 h2 (e:=⟨0,t,4,0,none,[],0,some ⟨b9,0,none⟩,[(a:Int)],1⟩) RdE.nil (hx ▸ hX _) (by simp[GS.ev];omega) q
   repeat'((try(conv=>whnf));first|((apply qe);first|((refine qm hk1 ?_ ?_ ?_ (fun g1 v hg1=> ?_);(exact Ent.of_perm ((List.Perm.swap _ _ _).trans ((qh2 (D:= [_])).cons _)));(exact rfl);(exact rfl);(obtain⟨hg1,hg2,hg3⟩:=hg1)))|((refine qm (he2 g1 hg1 hg2 (by rw[hg3]) (by rw[hg3])) ?_ ?_ ?_ (fun g2 v hg2=> ?_);(exact(eC));(exact rfl);(exact rfl))))|(refine fL ?_)|(refine fN ?_))
   exact⟨g2,⟨hg2.1,hg2.2.1,by rw[hg2.2.2,hg3]⟩,Ent.refl⟩
end
open Go
section
variable{W0:World}{own own':Own}
theorem qfj{l:List Thr}{a:Option Addr}{j:Nat}{t:Thr}(hR:RdE Thr.enc 11 W0 own' a l)(hj:l[j]? =some t) [qv own own']{x:Ins}(hx:qS x=0)(hop:x.op=10∨x.op=11∨x.op=12∨x.op=13):
  qE Tryz.prog W0 137 [.pointer (some ⟨ab a,ao a+j*11,none⟩),x.v] own (.int .u64 (adr t.rg (if x.op=12∨x.op=10 then x.b else x.a) x.imm)):=by
 refine qg (sH [3,5,7,9,11,13,15,17,19,21,23,25,0,3,5,7,9,11,13,15,17,19,21,23,25,0] ?_);obtain⟨h0,hA,hB, -⟩:=q0T hx;clear hx;obtain⟨op,a0,b',c,imm⟩:=x;dsimp only[Ins.v] at*;have ha:=hA (by rcases hop with rfl|rfl|rfl|rfl <;>rfl);have hb:=hB (by rcases hop with rfl|rfl|rfl|rfl <;>rfl);have ha':a0.toNat<8:=Y6;have hb':b'.toNat<8:=Y6;clear hA hB;have hR':=RdE.up (own:=own) hR;have ga:=Thr.enc_get (t:=t) ha';have gb:=Thr.enc_get (t:=t) hb'
 rcases hop with rfl|rfl|rfl|rfl
 all_goals
  repeat'((try(conv=>whnf));first|(refine fH ?_)|(refine fI ?_)|(refine fE ?_)|(refine fD ?_)|(refine ldE (k:=1+a0.toNat) (RdE.up hR') hj ?_ ga ?_;omega)|(refine ldE (k:=1+b'.toNat) (RdE.up hR') hj ?_ gb ?_;omega)|(refine arw (k:= .u64) ?_)|(refine fP ?_)|(refine fA ?_)|(refine qf (fun bk hbk=> ?_)))
  exact⟨rfl,(eC)⟩
end
theorem GP.ev.of{W0:World}{g g':GP}(h:g.ev W0)(h1:g'.L=g.L)(h2:g'.X=g.X):g'.ev W0:=by
 unfold GP.ev at*;rw[h1,h2];exact h
abbrev chV(t f:Int)(a:Option Addr)(n cap:Nat):Value:= .agg #[.int .i64 t, .int .i64 f, .slice a n cap]
section
variable{W0:World}{Kp:Own}{g:GP}{c:Cfg}{ps:List PH}{s:GS}
structure qm5(c:Cfg)(ps:List PH)(s:GS)(t:Nat)(th:Thr)(ph:PH):Prop where
 hth:s.T[t]? =some th
 hph:ps[t]? =some ph
 c0:qH c=0
 rg:th.rg.ok
 dl:(s.d.length:Int)=c.words
 dr:∀x∈s.d,okU x
 tl:s.O.length=s.T.length
 ob:∀l∈s.O,l.length≤500000
 el:s.E.length≤500000
theorem q21{t:Nat}{th:Thr}{ph:PH}(hT:qm5 c ps s t th ph)(h:g.ok W0 Kp ps s)(hv:g.ev W0){x:Ins}(hx:qS x=0)(hop:x.op=12∨x.op=13)(hpc:th.pc<ph.p.length∧ph.p.length≤64)(f:Int)(aa:Option Addr)(al ac:Nat)(q:Own) [ek:qv q Kp]:
  qt Tryz.prog W0 97 [.pointer (some ⟨g.gb,0,none⟩),chV t f aa al ac,x.v] (g.O c ps.length s++q) fun v own'=>
   ((v= .bool false∧sgM c ph.p s th t f x=none)∧Ent W0 own' (g.O c ps.length s++q))∨
   ∃s':GS×GP,(v= .bool true∧sgM c ph.p s th t f x=some s'.1∧s'.2.ok W0 Kp ps s'.1∧s'.2.ev W0∧s'.2.gb=g.gb)∧Ent W0 own' (s'.2.O c ps.length s'.1++q):=by
 refine sC [5] [3,5,7,9,11,13,15,17,0,3,5,7,9,11,13,16,0,3,5,7,9,11,13,15,17,19,22,0,3,5,7,9,11,13,15,17,19,21,23,25,27,29,32,0,3,5,7,9,11,13,15,17,19,21,23,25,27,29,31,34,0,3,5,7,9,11,13,15,17,19,21,23,25,27,29,32,0,3,5,7,9,11,13,15,17,19,21,23,25,27,29,31,34,0,3,5,7,9,11,13,15,17,20,0] ?_;have hT0:=h.t;have hTR:=hT0.rd (W0:=W0);have hth:=hT.hth;have had:=fun(own':Own) [qv own' g.tD]=>qfj (own:=own') hTR hth hx Y6
 have hwd:=(q1g hT.c0).1;unfold okW at hwd;obtain⟨h0,hA,hB, -⟩:=q0T hx;clear hx;have hao:=q6R (r:=th.rg) (b:=if x.op=12∨x.op=10 then x.b else x.a) (imm:=x.imm);obtain⟨op,a,b',c',imm⟩:=x;dsimp only[Ins.v] at*;have ha:=hA (by rcases hop with rfl|rfl <;>rfl);have hb:=hB (by rcases hop with rfl|rfl <;>rfl);have ha':a.toNat<8:=Y6;have hb':b'.toNat<8:=Y6;clear hA hB;have hDR:=h.d.rd (W0:=W0);have hsg:sgM c ph.p s th t f ⟨op,a,b',c',imm⟩=(match adr th.rg (if op=12 then b' else a) imm with
  |z=>if f≠0 then(if f=6∧c.strong=true∧op=13∧z<c.words then some (s.fin t (th.nxt ph.p.length th.rg) [⟨th.pc,7,6⟩]) else none)
   else if c.words≤z then some (s.fin t (th.nxt ph.p.length (if op=12 then th.rg.set a.toNat 0 else th.rg)) [⟨th.pc,7,7⟩])
   else if op=12 then some ((s.ev (plE c s.n t 1 z)).fin t (th.nxt ph.p.length (th.rg.set a.toNat (s.d.getD z.toNat 0))) [⟨th.pc,4,s.d.getD z.toNat 0⟩])
   else some (((s.mem (s.d.set z.toNat (th.rg.get b'.toNat)) s.tk).ev (plE c s.n t 2 z)).fin t (th.nxt ph.p.length th.rg) [⟨th.pc,5,th.rg.get b'.toNat⟩])):=by
  unfold sgM;rw[if_pos hop]
 rw[hsg];clear hsg;have hif:(if op=12∨op=10 then b' else a)=if op=12 then b' else a:=by
  rcases hop with rfl|rfl <;>rfl
 rw[hif] at had hao;dsimp only;generalize adr th.rg (if op=12 then b' else a) imm=z at*
 repeat'((try(conv=>whnf));first|(refine qf (fun b4 h4=> ?_);(apply Stop.h)))
 refine Stop.mk ?_
 repeat'((try(conv=>whnf));first|(refine qf (fun b5 h5=> ?_);(apply Stop.h)))
 refine Stop.mk ?_
 by_cases hA2:f≠0∧¬(f=6∧c.strong=true∧op=13∧z<c.words)
 ·obtain⟨hf,hn⟩:=hA2;rw[if_pos hf,if_neg hn];have hq:f≠6∨(f=6∧(!c.strong)=true)∨(f=6∧(!c.strong)=false∧op=12)∨(f=6∧(!c.strong)=false∧op=13∧c.words≤z):=by
   cases hs:c.strong <;>simp[hs] at hn ⊢ <;>omega
  by_cases hz:c.words≤z
  all_goals
   rcases hq with h6|⟨h6,hns⟩|⟨h6,hns,h12⟩|⟨h6,hns,h13,hz2⟩
   all_goals first|(exfalso;omega)|skip
   all_goals(try subst h12)
   all_goals(try subst h13)
   all_goals
    repeat'((try(conv=>whnf));first|(refine fH ?_)|(refine fI ?_)|(refine fE ?_)|(refine fF ?_)|(refine fG ?_)|(refine fJ ?_)|(refine fK ?_)|(refine q8U hns ?_)|(refine qdT hns ?_)|((apply qJ);first|((refine ixE hTR hth ?_ ?_;(first|rfl|omega))))|((apply qe);first|((refine qd (had _) ?_)))|(refine fC ?_)|(refine fA ?_)|(refine fL ?_))
    all_goals exact .inl ⟨⟨rfl,rfl⟩,(eC)⟩
 ·have hcs:(f=6∧(!c.strong)=false∧op=13∧z<c.words)∨(f=0∧c.words≤z∧op=12)∨(f=0∧c.words≤z∧op=13)∨(f=0∧z<c.words∧op=12)∨(f=0∧z<c.words∧op=13):=by
   cases hs:c.strong <;>simp[hs] at hA2 ⊢ <;>omega
  have he1:((th.pc+1:Nat):Int)=(th.pc:Int)+1:=Y6;have htS:t<g.S.length:=by
   have h1:=congrArg List.length h.ol;rw[zk] at h1;have:=(z7.1 hth).1;have:=hT.tl;omega
  have hob9:∀l∈s.O,l.length≤1000000:=fun l hl=>by have:=hT.ob l hl;omega
  clear hA2
  rcases hcs with ⟨rfl,hns,rfl,hz⟩|⟨rfl,hz,rfl⟩|⟨rfl,hz,rfl⟩|⟨rfl,hz,rfl⟩|⟨rfl,hz,rfl⟩
  ·have hst:c.strong=true:=by simpa using hns
   rw[if_pos Y7,if_pos ⟨rfl,hst,rfl,hz⟩];obtain⟨X,hX⟩:∃X,X=s.fin t (th.nxt ph.p.length th.rg) [⟨th.pc,7,6⟩]:=⟨_,rfl⟩
   rw[←hX];have hob:=qL (E:= [(b5,fun o=>o=Obj.cells #[.int .i64 13, .int .i64 a, .int .i64 b', .int .i64 c', .int .i64 imm] 40 (0,0)),(b4,fun o=>o=Obj.cells #[.int .i64 t, .int .i64 6, .slice aa al ac] 101 (0,0))]) (q:=q) (q0U (c:=c) h htS hob9 th.pc 7 6)
   repeat'((try(conv=>whnf));first|(refine fH ?_)|(refine fE ?_)|(refine fD ?_)|(refine fG ?_)|(refine q8U hns ?_)|((apply qJ);first|((refine ixE hTR hth ?_ ?_;(first|rfl|omega))))|((apply qe);first|((refine qd (had _) ?_)))|(refine fC ?_)|(refine fA ?_)|(refine fL ?_))
   all_goals refine q3z (σ:=GS×GP×Rg) 1461501637330902918203684832716283019655932542720 (fun _=> []) (fun y=> [(b5,fun o=>o=Obj.cells #[.int .i64 13, .int .i64 a, .int .i64 b', .int .i64 c', .int .i64 imm] 40 (0,0)),(b4,fun o=>o=Obj.cells #[.int .i64 t, .int .i64 6, .slice aa al ac] 101 (0,0))]++(y.2.1.O c ps.length y.1++q)) (fun y=>y.2.1.ok W0 Kp ps y.1∧y.2.1.ev W0∧y.2.1.gb=g.gb∧y.2.1.ta=g.ta∧y.1.T[t]? =some {th with rg:=y.2.2}∧X={y.1 with T:=y.1.T.set t (th.nxt ph.p.length y.2.2)}) rfl ?_ ?_
   ·repeat'((try(conv=>whnf));first|(refine fE ?_)|(refine fD ?_)|(refine fC ?_)|((apply gLd);first|(refine q0r hTR hth rfl ?_))|((apply qe);first|((refine qm hob ?_ ?_ ?_ (fun g1 v hg1=> ?_);(exact(eC));(exact rfl);(exact rfl);(obtain⟨hg1,hg2,hg3⟩:=hg1))))|(refine fA ?_))
    all_goals exact⟨(_,g1,th.rg),⟨hg1,GP.ev.of hv (by rw[hg2]) (by rw[hg2]),by rw[hg2],by rw[hg2],hth,hX⟩,trivial,(eC)⟩
   ·rintro⟨s1,g1,r⟩ junk ⟨hk1,hv1,hgb1,hta1,hth1,hX1⟩;dsimp only at hk1 hv1 hgb1 hta1 hth1 hX1 ⊢;have hR1:RdE Thr.enc 11 W0 g1.tD g.ta s1.T:=hta1 ▸ (hk1.t.rd (W0:=W0));have hto:=q4v (c:=c) hk1 hth1 hT.hph (th.pc+1) q;rw[hgb1,he1] at hto
    repeat'((try(conv=>whnf));first|(refine ldE (k:=0) (v:= .int .i64 (th.pc:Int)) (RdE.up hR1) hth1 ?_ rfl ?_;omega)|((apply qe);first|((refine qm hto ?_ ?_ ?_ (fun g2 v hg2=> ?_);(exact(eC));(exact rfl);(exact rfl))))|(refine fB ?_)|(refine fA ?_))
    all_goals exact .inr ⟨({s1 with T:=s1.T.set t (th.nxt ph.p.length r)},g2),⟨rfl,by rw[hX1],hg2.1,GP.ev.of hv1 (by rw[hg2.2]) (by rw[hg2.2]),by rw[hg2.2]⟩,Ent.refl⟩
  ·rw[if_neg Y7,if_pos hz,if_pos rfl];obtain⟨X,hX⟩:∃X,X=s.fin t (th.nxt ph.p.length (th.rg.set a.toNat 0)) [⟨th.pc,7,7⟩]:=⟨_,rfl⟩
   rw[←hX];have hth2:(s.T.set t {th with rg:=th.rg.set a.toNat 0})[t]? =some {th with rg:=th.rg.set a.toNat 0}:=Ze (z7.1 hth).1;have hob:=fun(D1:Own) (hb1:qu Thr.enc 89 11 g.ta g.tc (s.T.set t {th with rg:=th.rg.set a.toNat 0}) D1)=>qL (E:= [(b5,fun o=>o=Obj.cells #[.int .i64 12, .int .i64 a, .int .i64 b', .int .i64 c', .int .i64 imm] 40 (0,0)),(b4,fun o=>o=Obj.cells #[.int .i64 t, .int .i64 0, .slice aa al ac] 101 (0,0))]) (q:=q) (q0U (c:=c) (g:={g with tD:=D1}) (s:={s with T:=s.T.set t {th with rg:=th.rg.set a.toNat 0}}) ⟨h.d,h.m,h.k,h.kp,hb1,h.e,h.em,h.o,h.os,h.ol⟩ htS hob9 th.pc 7 7)
   repeat'((try(conv=>whnf));first|(refine fD ?_)|(refine fF ?_)|((apply qJ);first|((refine ixE hTR hth ?_ ?_;(first|rfl|omega))))|((apply qe);first|((refine qd (had _) ?_)))|(refine fC ?_)|(refine fA ?_)|(refine fL ?_))
   all_goals refine q3z (σ:=GS×GP×Rg) 1461501637330902918203684832716283019655932542720 (fun _=> []) (fun y=> [(b5,fun o=>o=Obj.cells #[.int .i64 12, .int .i64 a, .int .i64 b', .int .i64 c', .int .i64 imm] 40 (0,0)),(b4,fun o=>o=Obj.cells #[.int .i64 t, .int .i64 0, .slice aa al ac] 101 (0,0))]++(y.2.1.O c ps.length y.1++q)) (fun y=>y.2.1.ok W0 Kp ps y.1∧y.2.1.ev W0∧y.2.1.gb=g.gb∧y.2.1.ta=g.ta∧y.1.T[t]? =some {th with rg:=y.2.2}∧X={y.1 with T:=y.1.T.set t (th.nxt ph.p.length y.2.2)}) rfl ?_ ?_
   ·repeat'((try(conv=>whnf));first|(refine fE ?_)|(refine fC ?_)|(apply q3o (enc:=Thr.enc) (T:=89) (j:=t) (k:=1+a.toNat) {th with rg:=th.rg.set a.toNat 0} hT0 hth;(omega);(omega);(exact(Thr.enc_set ha').symm);(exact rfl);intro D1 hb1)|(refine ldE (k:=0) (RdE.up (hb1.rd (W0:=W0))) hth2 ?_ rfl ?_;omega)|((apply qe);first|((refine qm (hob D1 hb1) ?_ ?_ ?_ (fun g1 v hg1=> ?_);(dsimp only[GP.O,GP.cells];rw[zj];exact(eC));(exact rfl);(exact rfl);(obtain⟨hg1,hg2,hg3⟩:=hg1))))|(refine fP ?_)|(refine fA ?_))
    all_goals exact⟨(_,g1,th.rg.set a.toNat 0),⟨hg1,GP.ev.of hv (by rw[hg2]) (by rw[hg2]),by rw[hg2],by rw[hg2],hth2,by rw[hX];simp[GS.fin,Thr.nxt]⟩,trivial,(eC)⟩
   ·rintro⟨s1,g1,r⟩ junk ⟨hk1,hv1,hgb1,hta1,hth1,hX1⟩;dsimp only at hk1 hv1 hgb1 hta1 hth1 hX1 ⊢;have hR1:RdE Thr.enc 11 W0 g1.tD g.ta s1.T:=hta1 ▸ (hk1.t.rd (W0:=W0));have hto:=q4v (c:=c) hk1 hth1 hT.hph (th.pc+1) q;rw[hgb1,he1] at hto
    repeat'((try(conv=>whnf));first|(refine ldE (k:=0) (v:= .int .i64 (th.pc:Int)) (RdE.up hR1) hth1 ?_ rfl ?_;omega)|((apply qe);first|((refine qm hto ?_ ?_ ?_ (fun g2 v hg2=> ?_);(exact(eC));(exact rfl);(exact rfl))))|(refine fB ?_)|(refine fA ?_))
    all_goals exact .inr ⟨({s1 with T:=s1.T.set t (th.nxt ph.p.length r)},g2),⟨rfl,by rw[hX1],hg2.1,GP.ev.of hv1 (by rw[hg2.2]) (by rw[hg2.2]),by rw[hg2.2]⟩,Ent.refl⟩
  ·rw[if_neg Y7,if_pos hz,if_neg Y7];obtain⟨X,hX⟩:∃X,X=s.fin t (th.nxt ph.p.length th.rg) [⟨th.pc,7,7⟩]:=⟨_,rfl⟩
   rw[←hX];have hob:=qL (E:= [(b5,fun o=>o=Obj.cells #[.int .i64 13, .int .i64 a, .int .i64 b', .int .i64 c', .int .i64 imm] 40 (0,0)),(b4,fun o=>o=Obj.cells #[.int .i64 t, .int .i64 0, .slice aa al ac] 101 (0,0))]) (q:=q) (q0U (c:=c) h htS hob9 th.pc 7 7)
   repeat'((try(conv=>whnf));first|(refine fD ?_)|(refine fF ?_)|((apply qJ);first|((refine ixE hTR hth ?_ ?_;(first|rfl|omega))))|((apply qe);first|((refine qd (had _) ?_)))|(refine fC ?_)|(refine fA ?_)|(refine fL ?_))
   all_goals refine q3z (σ:=GS×GP×Rg) 1461501637330902918203684832716283019655932542720 (fun _=> []) (fun y=> [(b5,fun o=>o=Obj.cells #[.int .i64 13, .int .i64 a, .int .i64 b', .int .i64 c', .int .i64 imm] 40 (0,0)),(b4,fun o=>o=Obj.cells #[.int .i64 t, .int .i64 0, .slice aa al ac] 101 (0,0))]++(y.2.1.O c ps.length y.1++q)) (fun y=>y.2.1.ok W0 Kp ps y.1∧y.2.1.ev W0∧y.2.1.gb=g.gb∧y.2.1.ta=g.ta∧y.1.T[t]? =some {th with rg:=y.2.2}∧X={y.1 with T:=y.1.T.set t (th.nxt ph.p.length y.2.2)}) rfl ?_ ?_
   ·repeat'((try(conv=>whnf));first|(refine fE ?_)|(refine fD ?_)|(refine fC ?_)|((apply gLd);first|(refine q0r hTR hth rfl ?_))|((apply qe);first|((refine qm hob ?_ ?_ ?_ (fun g1 v hg1=> ?_);(exact(eC));(exact rfl);(exact rfl);(obtain⟨hg1,hg2,hg3⟩:=hg1))))|(refine fA ?_))
    all_goals exact⟨(_,g1,th.rg),⟨hg1,GP.ev.of hv (by rw[hg2]) (by rw[hg2]),by rw[hg2],by rw[hg2],hth,hX⟩,trivial,(eC)⟩
   ·rintro⟨s1,g1,r⟩ junk ⟨hk1,hv1,hgb1,hta1,hth1,hX1⟩;dsimp only at hk1 hv1 hgb1 hta1 hth1 hX1 ⊢;have hR1:RdE Thr.enc 11 W0 g1.tD g.ta s1.T:=hta1 ▸ (hk1.t.rd (W0:=W0));have hto:=q4v (c:=c) hk1 hth1 hT.hph (th.pc+1) q;rw[hgb1,he1] at hto
    repeat'((try(conv=>whnf));first|(refine ldE (k:=0) (v:= .int .i64 (th.pc:Int)) (RdE.up hR1) hth1 ?_ rfl ?_;omega)|((apply qe);first|((refine qm hto ?_ ?_ ?_ (fun g2 v hg2=> ?_);(exact(eC));(exact rfl);(exact rfl))))|(refine fB ?_)|(refine fA ?_))
    all_goals exact .inr ⟨({s1 with T:=s1.T.set t (th.nxt ph.p.length r)},g2),⟨rfl,by rw[hX1],hg2.1,GP.ev.of hv1 (by rw[hg2.2]) (by rw[hg2.2]),by rw[hg2.2]⟩,Ent.refl⟩
  ·obtain⟨j,rfl⟩:=Z0 hao.1;have hj:j<s.d.length:=by have:=hT.dl;omega
   obtain⟨y,hy⟩:∃y,s.d[j]? =some y:=⟨_,z6 hj⟩
   have hgd:s.d.getD j 0=y:=by simp[List.getD,hy]
   have hel:=hT.el;rw[if_neg Y7,if_neg Y6,if_pos rfl,zB,hgd];obtain⟨X,hX⟩:∃X,X=(s.ev (plE c s.n t 1 j)).fin t (th.nxt ph.p.length (th.rg.set a.toNat y)) [⟨th.pc,4,y⟩]:=⟨_,rfl⟩
   rw[←hX];have hth2:(s.T.set t {th with rg:=th.rg.set a.toNat y})[t]? =some {th with rg:=th.rg.set a.toNat y}:=Ze (z7.1 hth).1;have hac:=qL (E:= [(b5,fun o=>o=Obj.cells #[.int .i64 12, .int .i64 a, .int .i64 b', .int .i64 c', .int .i64 imm] 40 (0,0)),(b4,fun o=>o=Obj.cells #[.int .i64 t, .int .i64 0, .slice aa al ac] 101 (0,0))]) (q:=q) (q5O (c:=c) h hv Y6 t j (.inl rfl));have hob:=fun(g1:GP) (D1:Own) (hS:t<g1.S.length) (h:g1.ok W0 Kp ps (s.ev (plE c s.n t 1 j))) (hb1:qu Thr.enc 89 11 g1.ta g1.tc (s.T.set t {th with rg:=th.rg.set a.toNat y}) D1)=>qL (E:= [(b5,fun o=>o=Obj.cells #[.int .i64 12, .int .i64 a, .int .i64 b', .int .i64 c', .int .i64 imm] 40 (0,0)),(b4,fun o=>o=Obj.cells #[.int .i64 t, .int .i64 0, .slice aa al ac] 101 (0,0))]) (q:=q) (q0U (c:=c) (g:={g1 with tD:=D1}) (s:={(s.ev (plE c s.n t 1 j)) with T:=s.T.set t {th with rg:=th.rg.set a.toNat y}}) ⟨h.d,h.m,h.k,h.kp,hb1,h.e,h.em,h.o,h.os,h.ol⟩ hS hob9 th.pc 4 y)
   repeat'((try(conv=>whnf));first|(refine fD ?_)|(refine fG ?_)|((apply qJ);first|((refine ixE hTR hth ?_ ?_;(first|rfl|omega))))|((apply qe);first|((refine qd (had _) ?_)))|(refine fC ?_)|(refine fA ?_)|(refine fL ?_))
   all_goals refine q3z (σ:=GS×GP×Rg) 1461501637330902918203684832716283019655932542720 (fun _=> []) (fun y=> [(b5,fun o=>o=Obj.cells #[.int .i64 12, .int .i64 a, .int .i64 b', .int .i64 c', .int .i64 imm] 40 (0,0)),(b4,fun o=>o=Obj.cells #[.int .i64 t, .int .i64 0, .slice aa al ac] 101 (0,0))]++(y.2.1.O c ps.length y.1++q)) (fun y=>y.2.1.ok W0 Kp ps y.1∧y.2.1.ev W0∧y.2.1.gb=g.gb∧y.2.1.ta=g.ta∧y.1.T[t]? =some {th with rg:=y.2.2}∧X={y.1 with T:=y.1.T.set t (th.nxt ph.p.length y.2.2)}) rfl ?_ ?_
   ·repeat'((try(conv=>whnf));first|(refine fE ?_)|(refine fD ?_)|(refine fB ?_)|(refine ixE (hk1.d.rd (W0:=W0)) hy rfl ?_)|(refine ldE (k:=0) (RdE.up (hk1.d.rd (W0:=W0))) hy ?_ rfl ?_;omega)|(apply q3o (enc:=Thr.enc) (T:=89) (j:=t) (k:=1+a.toNat) {th with rg:=th.rg.set a.toNat y} hk1.t hth;(omega);(omega);(exact(Thr.enc_set ha').symm);(exact rfl);intro D1 hb1)|(refine ldE (k:=0) (RdE.up (hb1.rd (W0:=W0))) hth2 ?_ rfl ?_;omega)|((apply qe);first|((refine qm hac ?_ ?_ ?_ (fun g1 v hg1=> ?_);(exact(eC));(exact rfl);(exact rfl);(obtain⟨hk1,hv1,hg1⟩:=hg1);(have hgb1:g1.gb=g.gb:=by rw[hg1]);(have hta1:g1.ta=g.ta:=by rw[hg1]);(have hS1:g1.S=g.S:=by rw[hg1]);(rw[←hgb1,←hta1])))|((refine qm (hob g1 D1 (by rw[hS1];exact htS) hk1 hb1) ?_ ?_ ?_ (fun g2 v hg2=> ?_);(dsimp only[GP.O,GP.cells,GS.ev];rw[zj];exact(eC));(exact rfl);(exact rfl);(obtain⟨hg2,hg3,hg4⟩:=hg2))))|(refine fP ?_)|(refine fA ?_))
    all_goals exact⟨(_,g2,th.rg.set a.toNat y),⟨hg2,GP.ev.of hv1 (by rw[hg3]) (by rw[hg3]),by rw[hg3],by rw[hg3],hth2,by rw[hX];simp[GS.fin,GS.ev,Thr.nxt]⟩,trivial,(eC)⟩
   ·rintro⟨s1,g1,r⟩ junk ⟨hk1,hv1,hgb1,hta1,hth1,hX1⟩;dsimp only at hk1 hv1 hgb1 hta1 hth1 hX1 ⊢;have hR1:RdE Thr.enc 11 W0 g1.tD g.ta s1.T:=hta1 ▸ (hk1.t.rd (W0:=W0));have hto:=q4v (c:=c) hk1 hth1 hT.hph (th.pc+1) q;rw[hgb1,he1] at hto
    repeat'((try(conv=>whnf));first|(refine ldE (k:=0) (v:= .int .i64 (th.pc:Int)) (RdE.up hR1) hth1 ?_ rfl ?_;omega)|((apply qe);first|((refine qm hto ?_ ?_ ?_ (fun g2 v hg2=> ?_);(exact(eC));(exact rfl);(exact rfl))))|(refine fB ?_)|(refine fA ?_))
    all_goals exact .inr ⟨({s1 with T:=s1.T.set t (th.nxt ph.p.length r)},g2),⟨rfl,by rw[hX1],hg2.1,GP.ev.of hv1 (by rw[hg2.2]) (by rw[hg2.2]),by rw[hg2.2]⟩,Ent.refl⟩
  ·obtain⟨j,rfl⟩:=Z0 hao.1;have hj:j<s.d.length:=by have:=hT.dl;omega
   obtain⟨y,hy⟩:∃y,s.d[j]? =some y:=⟨_,z6 hj⟩
   have hel:=hT.el;rw[if_neg Y7,if_neg Y6,if_neg Y7,zB];obtain⟨w,hw⟩:∃w,th.rg.get b'.toNat=w:=⟨_,rfl⟩
   have hgw:=Thr.enc_get (t:=th) hb';rw[hw] at hgw ⊢;obtain⟨X,hX⟩:∃X,X=((s.mem (s.d.set j w) s.tk).ev (plE c s.n t 2 j)).fin t (th.nxt ph.p.length th.rg) [⟨th.pc,5,w⟩]:=⟨_,rfl⟩
   rw[←hX];have hy2:(s.d.set j w)[j]? =some w:=Ze hj;have hdl:s.d.length=(s.d.set j w).length:=(zj ..).symm;have hac:=qL (E:= [(b5,fun o=>o=Obj.cells #[.int .i64 13, .int .i64 a, .int .i64 b', .int .i64 c', .int .i64 imm] 40 (0,0)),(b4,fun o=>o=Obj.cells #[.int .i64 t, .int .i64 0, .slice aa al ac] 101 (0,0))]) (q:=q) (q5O (c:=c) h hv Y6 t j (.inr rfl));have hob:=fun(g1:GP) (D1:Own) (hS:t<g1.S.length) (h:g1.ok W0 Kp ps (s.ev (plE c s.n t 2 j))) (hb1:qu q09 49 1 g1.da g1.dc (s.d.set j w) D1)=>qL (E:= [(b5,fun o=>o=Obj.cells #[.int .i64 13, .int .i64 a, .int .i64 b', .int .i64 c', .int .i64 imm] 40 (0,0)),(b4,fun o=>o=Obj.cells #[.int .i64 t, .int .i64 0, .slice aa al ac] 101 (0,0))]) (q:=q) (q0U (c:=c) (g:={g1 with dD:=D1}) (s:={(s.ev (plE c s.n t 2 j)) with d:=s.d.set j w}) ⟨hb1,h.m,h.k,h.kp,h.t,h.e,h.em,h.o,h.os,h.ol⟩ hS hob9 th.pc 5 w)
   repeat'((try(conv=>whnf));first|(refine fD ?_)|(refine fG ?_)|((apply qJ);first|((refine ixE hTR hth ?_ ?_;(first|rfl|omega))))|((apply qe);first|((refine qd (had _) ?_)))|(refine fC ?_)|(refine fA ?_)|(refine fL ?_))
   all_goals refine q3z (σ:=GS×GP×Rg) 1461501637330902918203684832716283019655932542720 (fun _=> []) (fun y=> [(b5,fun o=>o=Obj.cells #[.int .i64 13, .int .i64 a, .int .i64 b', .int .i64 c', .int .i64 imm] 40 (0,0)),(b4,fun o=>o=Obj.cells #[.int .i64 t, .int .i64 0, .slice aa al ac] 101 (0,0))]++(y.2.1.O c ps.length y.1++q)) (fun y=>y.2.1.ok W0 Kp ps y.1∧y.2.1.ev W0∧y.2.1.gb=g.gb∧y.2.1.ta=g.ta∧y.1.T[t]? =some {th with rg:=y.2.2}∧X={y.1 with T:=y.1.T.set t (th.nxt ph.p.length y.2.2)}) rfl ?_ ?_
   ·repeat'((try(conv=>whnf));first|(refine fD ?_)|(refine fB ?_)|(refine ldE (k:=0) (RdE.up (hb1.rd (W0:=W0))) hy2 ?_ rfl ?_;omega)|(refine ixE (hk1.d.rd (W0:=W0)) hy rfl ?_)|(refine ldE (k:=1+b'.toNat) (RdE.up (hk1.t.rd (W0:=W0))) hth ?_ hgw ?_;omega)|(apply q3o (enc:=q09) (T:=49) (j:=j) (k:=0) w hk1.d hy;(omega);(omega);(exact rfl);(exact rfl);intro D1 hb1)|(refine ldE (k:=0) (RdE.up (hk1.t.rd (W0:=W0))) hth ?_ rfl ?_;omega)|((apply qe);first|((refine qm hac ?_ ?_ ?_ (fun g1 v hg1=> ?_);(exact(eC));(exact rfl);(exact rfl);(obtain⟨hk1,hv1,hg1⟩:=hg1);(have hgb1:g1.gb=g.gb:=by rw[hg1]);(have hta1:g1.ta=g.ta:=by rw[hg1]);(have hS1:g1.S=g.S:=by rw[hg1]);(rw[←hgb1,←hta1])))|((refine qm (hob g1 D1 (by rw[hS1];exact htS) hk1 hb1) ?_ ?_ ?_ (fun g2 v hg2=> ?_);(dsimp only[GP.O,GP.cells,GS.ev];rw[zj];exact(eC));(exact rfl);(exact rfl);(obtain⟨hg2,hg3,hg4⟩:=hg2))))|(refine fP ?_)|(refine fA ?_))
    all_goals exact⟨(_,g2,th.rg),⟨hg2,GP.ev.of hv1 (by rw[hg3]) (by rw[hg3]),by rw[hg3],by rw[hg3],hth,by rw[hX];simp[GS.fin,GS.ev,GS.mem,Thr.nxt]⟩,trivial,(eC)⟩
   ·rintro⟨s1,g1,r⟩ junk ⟨hk1,hv1,hgb1,hta1,hth1,hX1⟩;dsimp only at hk1 hv1 hgb1 hta1 hth1 hX1 ⊢;have hR1:RdE Thr.enc 11 W0 g1.tD g.ta s1.T:=hta1 ▸ (hk1.t.rd (W0:=W0));have hto:=q4v (c:=c) hk1 hth1 hT.hph (th.pc+1) q;rw[hgb1,he1] at hto
    repeat'((try(conv=>whnf));first|(refine ldE (k:=0) (v:= .int .i64 (th.pc:Int)) (RdE.up hR1) hth1 ?_ rfl ?_;omega)|((apply qe);first|((refine qm hto ?_ ?_ ?_ (fun g2 v hg2=> ?_);(exact(eC));(exact rfl);(exact rfl))))|(refine fB ?_)|(refine fA ?_))
    all_goals exact .inr ⟨({s1 with T:=s1.T.set t (th.nxt ph.p.length r)},g2),⟨rfl,by rw[hX1],hg2.1,GP.ev.of hv1 (by rw[hg2.2]) (by rw[hg2.2]),by rw[hg2.2]⟩,Ent.refl⟩
end
open Go
theorem qbu{T:TypeId}{a:Option Addr}{cap:Nat}{l:List Thr}{D:Own}(h:qu Thr.enc T 11 a cap l D){j:Nat}{t:Thr}(hj:l[j]? =some t):∃b pre post,a=some ⟨b,0,none⟩∧D= [thB b T pre post t]∧List.length pre=j*11∧∀t':Thr,qu Thr.enc T 11 a cap (l.set j t') [thB b T pre post t']:=by
 have hjl:=(z7.1 hj).1
 rcases h.how with ⟨rfl,_,_⟩|⟨b,rest,ha,hD,hl,hle⟩
 ·simp at hj
 ·have hsp:∀y:Thr,l.set j y=l.take j++(y::l.drop (j+1)):=fun y=>by rw[Za,if_pos hjl]
  have hse:l.set j t=l:=by
   obtain⟨_,he⟩:=z7.1 hj;rw[←he];exact yH hjl
  have hfl:∀y:Thr,((l.set j y).map Thr.enc).flatten++rest=((l.take j).map Thr.enc).flatten++(y.enc++(((l.drop (j+1)).map Thr.enc).flatten++rest)):=fun y=>by
   rw[hsp y];simp only[zH,zF,zY,Z2,zd]
  refine⟨b,((l.take j).map Thr.enc).flatten,((l.drop (j+1)).map Thr.enc).flatten++rest,ha,?_,?_,fun t'=>⟨fun _ _=>rfl, .inr ⟨b,rest,ha,?_,?_,?_⟩⟩⟩
  ·have e:=hfl t;rw[hse] at e;rw[hD,e]
  ·rw[q06 (sz:=11) _ (fun _ _=>rfl),zU,yS Y6]
  ·rw[hfl t']
  ·rw[zj];exact hl
  ·rw[zj];exact hle
theorem qkq{W0:World}{D own r:Own} [m:qT D own r]:Ent W0 (D++r) own:=Ent.of_perm m.h.symm
theorem qjp{P:Program}{W0:World}{σ:Type}{own D r:Own}{k:FuncId}{args:List Value}{R:σ→Value→Prop}{O:σ→Own} [m:qT D own r](h:qt P W0 k args (D++r) fun v own'=>∃s,R s v∧Ent W0 own' (O s++r)):qt P W0 k args own fun v own'=>∃s,R s v∧Ent W0 own' (O s++r):=
 fun w hw=>h w (Ent.of_perm m.h w hw)
section
variable{W0:World}{Kp:Own}{g:GP}{c:Cfg}{ps:List PH}{s:GS}
theorem qd9{t:Nat}{th:Thr}(h:g.ok W0 Kp ps s)(hth:s.T[t]? =some th){x:Ins}(hx:qS x=0)(hrg:th.rg.ok)(hpc:th.pc≤64)(q:Own):
  qt Tryz.prog W0 98 [.pointer (some ⟨ab g.ta,ao g.ta+t*11,none⟩),x.v] (g.O c ps.length s++q) fun v own'=>∃g':GP,
   (v= .int .i64 (q1o th x)∧g'.ok W0 Kp ps {s with T:=s.T.set t {th with rg:=q3S th x}}∧g'={g with tD:=g'.tD})∧Ent W0 own' (g'.O c ps.length {s with T:=s.T.set t {th with rg:=q3S th x}}++q):=by
 obtain⟨tb,pre,post,hta,htD,hpl,hset⟩:=qbu h.t hth;obtain⟨gb,mb,ml,da,dc,dD,ka,kc,ta,tc,tD,ea,ec,eD,L,X,oa,oc,oD,S⟩:=g;dsimp only at hta htD hset;subst hta;subst htD;have hl:=qjp (own:=(GP.mk gb mb ml da dc dD ka kc (some ⟨tb,0,none⟩) tc [thB tb 89 pre post th] ea ec eD L X oa oc oD S).O c ps.length s++q) (qa3 (W0:=W0) (b:=tb) (T:=89) (pre:=pre) (post:=post) (t:=th) (o:=0+t*11) hx hrg hpc Y6 _);intro w hw;refine(hl w hw).mono fun _ _ ⟨v,o,a,b,_,hv,hE⟩=>⟨v,o,a,b,⟨gb,mb,ml,da,dc,dD,ka,kc,some ⟨tb,0,none⟩,tc,[thB tb 89 pre post {th with rg:=q3S th x}],ea,ec,eD,L,X,oa,oc,oD,S⟩,⟨hv,⟨h.d,h.m,h.k,h.kp,hset _,h.e,h.em,h.o,h.os,h.ol⟩,rfl⟩,hE.trans ?_⟩
 dsimp only[GP.O,GP.cells];rw[zj];exact qkq
theorem qbX{α:Type}{l:List (List α)}{t:Nat}(ht:t<l.length):l.set t (l.getD t []++ [])=l:=by
 rw[zC];simp[List.getD,ht]
theorem qdn{t:Nat}{th:Thr}{ph:PH}(hT:qm5 c ps s t th ph)(h:g.ok W0 Kp ps s)(hv:g.ev W0){x:Ins}(hx:qS x=0)(hpc:th.pc<ph.p.length∧ph.p.length≤64)(f:Int)(aa:Option Addr)(al ac:Nat)(q:Own) [ek:qv q Kp]:
  qt Tryz.prog W0 65 [.pointer (some ⟨g.gb,0,none⟩),chV t f aa al ac,x.v] (g.O c ps.length s++q) fun v own'=>
   ((v= .bool false∧sgM c ph.p s th t f x=none)∧Ent W0 own' (g.O c ps.length s++q))∨
   ∃s':GS×GP,(v= .bool true∧sgM c ph.p s th t f x=some s'.1∧s'.2.ok W0 Kp ps s'.1∧s'.2.ev W0∧s'.2.gb=g.gb)∧Ent W0 own' (s'.2.O c ps.length s'.1++q):=by
 refine sH [3,5,7,9,11,13,15,17,0,3,5,7,9,11,13,15,18,0,3,5,9,11,1,7,14,16,0,14,7,16,0] ?_
 by_cases hop:x.op=12∨x.op=13
 ·have hpl:=q21 (c:=c) hT h hv hx hop hpc f aa al ac q;obtain⟨op,a,b',c',imm⟩:=x;dsimp only[Ins.v] at*;clear hx
  rcases hop with rfl|rfl
  all_goals
   repeat'((try(conv=>whnf));first|(refine fH ?_)|(refine fI ?_)|(refine fE ?_)|((apply qe);first|((refine q2g hpl ?_ ?_ ?_ (fun v hv=> ?_) (fun s' v hv=> ?_);(exact(eC));(exact rfl);(exact rfl);(obtain⟨rfl,hv⟩:=hv);rotate_left;(obtain⟨rfl,hv⟩:=hv))))|(refine fA ?_)|(refine fL ?_)|(refine qf (fun bk hbk=> ?_)))
   ·exact .inr ⟨s',⟨rfl,hv⟩,Ent.refl⟩
   ·exact .inl ⟨⟨rfl,hv⟩,Ent.refl⟩
 have hsg:sgM c ph.p s th t f x=if f≠0 then none else some (s.fin t {q1q th x with dn:=decide ((q1q th x).pc=ph.p.length)} (if x.op=16 then [⟨th.pc,6,0⟩] else [])):=by
  unfold sgM;rw[if_neg hop]
 rw[hsg];clear hsg;have hop1:x.op≠12:=fun e=>hop (.inl e)
 have hop2:x.op≠13:=fun e=>hop (.inr e)
 clear hop
 by_cases hf:f≠0
 ·rw[if_pos hf];obtain⟨op,a,b',c',imm⟩:=x;dsimp only[Ins.v] at*
  repeat'((try(conv=>whnf));first|(refine fH ?_)|(refine fF ?_)|(refine fG ?_)|(refine fK ?_)|(refine fA ?_)|(refine qf (fun bk hbk=> ?_)))
  exact .inl ⟨⟨rfl,rfl⟩,(eC)⟩
 ·rw[if_neg hf];obtain rfl:f=0:=Y6;have hth:=hT.hth;have htl:=(z7.1 hth).1;have htO:t<s.O.length:=by rw[hT.tl];exact htl
  have htS:t<g.S.length:=by
   have h1:=congrArg List.length h.ol;rw[zk] at h1;omega
  have hob9:∀l∈s.O,l.length≤1000000:=fun l hl=>by have:=hT.ob l hl;omega
  have hTR:=h.t.rd (W0:=W0);have hth2:(s.T.set t {th with rg:=q3S th x})[t]? =some {th with rg:=q3S th x}:=Ze htl;have hlc0:=fun(g1:GP) (s1:GS) (h1:g1.ok W0 Kp ps s1) (hth:s1.T[t]? =some th)=>qd9 (c:=c) h1 hth hx hT.rg Y6
  have hto0:=fun(g1:GP) (s1:GS) (h1:g1.ok W0 Kp ps s1) (hs1:s1.T=s.T.set t {th with rg:=q3S th x})=>q4v (c:=c) h1 (hs1 ▸ hth2) hT.hph (q1o th x) q
  have hfin:∀l,({s with T:=(s.T.set t {th with rg:=q3S th x}).set t {th with rg:=q3S th x,pc:=q1o th x,dn:=decide (q1o th x=ph.p.length)},O:=s.O.set t (s.O.getD t []++l)}:GS)=s.fin t {q1q th x with dn:=decide ((q1q th x).pc=ph.p.length)} l:=fun l=>by
   rw[yc];rfl
  have hfin0:({s with T:=(s.T.set t {th with rg:=q3S th x}).set t {th with rg:=q3S th x,pc:=q1o th x,dn:=decide (q1o th x=ph.p.length)}}:GS)=s.fin t {q1q th x with dn:=decide ((q1q th x).pc=ph.p.length)} []:=by
   rw[←hfin [],qbX htO]
  obtain⟨X,hX⟩:∃X,X=s.fin t {q1q th x with dn:=decide ((q1q th x).pc=ph.p.length)} (if x.op=16 then [⟨th.pc,6,0⟩] else []):=⟨_,rfl⟩
  rw[←hX]
  by_cases h16:x.op=16
  ·rw[if_pos h16,←hfin] at hX;clear hfin hfin0;generalize q3S th x=R at*;generalize q1o th x=Pc at*;obtain⟨op,a,b',c',imm⟩:=x;dsimp only[Ins.v] at*;subst h16;clear hx
   repeat'((try(conv=>whnf));first|(refine qf (fun b4 h4=> ?_);(apply Stop.h)))
   refine Stop.mk ?_
   repeat'((try(conv=>whnf));first|(refine qf (fun b5 h5=> ?_);(apply Stop.h)))
   refine Stop.mk ?_;have hob:=qL (E:= [(b5,fun o=>o=Obj.cells #[.int .i64 16, .int .i64 a, .int .i64 b', .int .i64 c', .int .i64 imm] 40 (0,0)),(b4,fun o=>o=Obj.cells #[.int .i64 t, .int .i64 0, .slice aa al ac] 101 (0,0))]) (q:=q) (q0U (c:=c) h htS hob9 th.pc 6 0);have hlc:=fun(g1:GP) (s1:GS) (h1:g1.ok W0 Kp ps s1) (hth:s1.T[t]? =some th)=>qL (E:= [(b5,fun o=>o=Obj.cells #[.int .i64 16, .int .i64 a, .int .i64 b', .int .i64 c', .int .i64 imm] 40 (0,0)),(b4,fun o=>o=Obj.cells #[.int .i64 t, .int .i64 0, .slice aa al ac] 101 (0,0))]) (q:=q) (hlc0 g1 s1 h1 hth)
   repeat'((try(conv=>whnf));first|(refine fH ?_)|(refine fE ?_)|(refine fD ?_)|((apply gLd);first|(refine q0r hTR hth rfl ?_))|((apply qJ);first|((refine ixE hTR hth ?_ ?_;(first|rfl|omega))))|((apply qe);first|((refine qm hob ?_ ?_ ?_ (fun g0 v hg0=> ?_);(exact(eC));(exact rfl);(exact rfl);(obtain⟨hk0,hg0,hl0⟩:=hg0);(have hgb0:g0.gb=g.gb:=by rw[hg0]);(have hta0:g0.ta=g.ta:=by rw[hg0]);(rw[←hgb0,←hta0])))|((refine qm (hlc g0 _ hk0 hth) ?_ ?_ ?_ (fun g1 v hg1=> ?_);(exact(eC));(exact rfl);(exact rfl);(obtain⟨rfl,hk1,hg1⟩:=hg1);(have hgb1:g1.gb=g0.gb:=by rw[hg1]);(rw[←hgb1])))|((refine qm (hto0 g1 _ hk1 rfl) ?_ ?_ ?_ (fun g2 v hg2=> ?_);(exact(eC));(exact rfl);(exact rfl))))|(refine fA ?_)|(refine fL ?_)|(refine q1c.mk ?_ ?_))
   all_goals exact .inr ⟨(_,g2),⟨rfl,by rw[hX],hg2.1,GP.ev.of hv (by rw[hg2.2,hg1,hg0]) (by rw[hg2.2,hg1,hg0]),by rw[hg2.2]⟩,Ent.refl⟩
  ·rw[if_neg h16,←hfin0] at hX;clear hfin hfin0;generalize q3S th x=R at*;generalize q1o th x=Pc at*;obtain⟨op,a,b',c',imm⟩:=x;dsimp only[Ins.v] at*;clear hx
   repeat'((try(conv=>whnf));first|(refine qf (fun b4 h4=> ?_);(apply Stop.h)))
   refine Stop.mk ?_
   repeat'((try(conv=>whnf));first|(refine qf (fun b5 h5=> ?_);(apply Stop.h)))
   refine Stop.mk ?_;have hlc:=fun(g1:GP) (s1:GS) (h1:g1.ok W0 Kp ps s1) (hth:s1.T[t]? =some th)=>qL (E:= [(b5,fun o=>o=Obj.cells #[.int .i64 op, .int .i64 a, .int .i64 b', .int .i64 c', .int .i64 imm] 40 (0,0)),(b4,fun o=>o=Obj.cells #[.int .i64 t, .int .i64 0, .slice aa al ac] 101 (0,0))]) (q:=q) (hlc0 g1 s1 h1 hth)
   repeat'((try(conv=>whnf));first|(refine fH ?_)|(refine fD ?_)|(refine fG ?_)|(refine fK ?_)|((apply qJ);first|((refine ixE hTR hth ?_ ?_;(first|rfl|omega))))|((apply qe);first|((refine qm (hlc g s h hth) ?_ ?_ ?_ (fun g1 v hg1=> ?_);(exact(eC));(exact rfl);(exact rfl);(obtain⟨rfl,hk1,hg1⟩:=hg1);(have hgb1:g1.gb=g.gb:=by rw[hg1]);(rw[←hgb1])))|((refine qm (hto0 g1 _ hk1 rfl) ?_ ?_ ?_ (fun g2 v hg2=> ?_);(exact(eC));(exact rfl);(exact rfl))))|(refine fA ?_)|(refine fL ?_)|(refine q1c.mk ?_ ?_))
   all_goals exact .inr ⟨(_,g2),⟨rfl,by rw[hX],hg2.1,GP.ev.of hv (by rw[hg2.2,hg1]) (by rw[hg2.2,hg1]),by rw[hg2.2]⟩,Ent.refl⟩
end
open Go
section
variable{W0:World}{own:Own}
theorem q7y{da:Option Addr}{dc mb:Nat}{d:List Int}{ml:Mp}(hD:RdE q09 1 W0 own da d)(hd:d.length≤1000000) [m:qy mb (q2C (mpV ml)) own]:
  qt Tryz.prog W0 91 [.agg #[.slice da d.length dc, .map (some mb)]] own fun v own'=>∃s:(Option Addr×Nat×Own)×Nat,
   (v= .agg #[.slice s.1.1 d.length s.1.2.1, .map (some s.2)]∧qu q09 49 1 s.1.1 s.1.2.1 d s.1.2.2)∧Ent W0 own' (s.1.2.2++((s.2,q2C (mpV ml))::own)):=by
 refine sH [3,5,9,1,8,11,14,15,18,0,11,8,14,15,18,0] ?_;have hcl:=fun(own':Own) [qv own' own]=>qK (cap:=dc) (RdE.up (own:=own') hD) Y6
 have hml:=fun(own':Own) [qy mb (q2C (mpV ml)) own']=>qda (W0:=W0) (own:=own') (b:=mb) (l:=mpV ml)
 repeat'((try(conv=>whnf));first|(refine qf (fun b1 h1=> ?_);(apply Stop.h)))
 refine Stop.mk ?_
 repeat'((try(conv=>whnf));first|(refine qf (fun b2 h2=> ?_);(apply Stop.h)))
 refine Stop.mk ?_
 repeat'((try(conv=>whnf));first|((apply qe);first|((refine qi (hcl _) (fun y v hv=> ?_);(obtain⟨a1,c1,D1⟩:=y;obtain⟨rfl,hB⟩:=hv;dsimp only at hB)))|((refine qi (hml _) (fun b' v hv=> ?_);(subst hv))))|(refine fA ?_)|(refine fL ?_)|(refine fM ?_)|(refine q1c.mk ?_ ?_))
 all_goals exact⟨((a1,c1,D1),b'),⟨rfl,hB⟩,(Ent.of_perm Zb.symm).trans (Ent.of_sub ((((zT _ _).cons _).cons_cons _).append_left D1))⟩
theorem qju{T:TypeId}{a:Option Addr}{cap j off n:Nat}{l:List Thr}{D:Own}{C:Own→Own}{t:Thr}{vs:List Value}{K:Own→Prop}(r:Rg)(hB:qu Thr.enc T 11 a cap l D)(hx:l[j]? =some t) [m:AtC D own C](hn:8=n)(ho:off=ao a+j*11+1)(hvs:vs=r.enc)
  (hk:∀D',qu Thr.enc T 11 a cap (l.set j {t with rg:=r}) D'→K (C D')):vs.length=n∧StN W0 own ⟨ab a,off,none⟩ vs K:=by
 obtain⟨b,pre,post,rfl,rfl,hpl,hset⟩:=qbu hB hx;subst hvs;have hat:=m.h;have ho':off=pre.length+1:=by rw[ho,hpl];simp[ao]
 subst ho'
 haveI:UpC b (fun o=>o=Obj.cells (pre++(t.enc++post)).toArray T (0,0)) own (fun q=>C [(b,q)]):=⟨fun q=>hat.up q⟩
 have key:((pre++(t.enc++post)).toArray.toList.take (pre.length+1)++r.enc++(pre++(t.enc++post)).toArray.toList.drop (pre.length+1+8))=pre++(({t with rg:=r}:Thr).enc++post):=by
  rw[zL,List.take_append,yb Y6,Zn,yK,ZA Y6,show pre.length+1+8-pre.length=9 by omega];simp
 have hS:=qgb (W0:=W0) (own:=own) (b:=b) (off:=pre.length+1) (n:=8) (cs:=(pre++(t.enc++post)).toArray) (T:=T) (vs:=r.enc) (K:=K) (C:=fun q=>C [(b,q)]) rfl (by simp;omega) rfl (by rw[key];exact hk _ (hset _));subst hn;exact hS
end
theorem qhN{W0:World}{e0 e1 e2 m1 m2:Nat×(Obj→Prop)}{A R W O dG T E L S1 S2 S3 X q:Own}:Ent W0 (e0::((e1::(A++(m1::(R++(W++O)))))++((e2::(dG++(m2::(T++(E++(L++((S1++(S2++S3))++X)))))))++q))) ([e0,e1]++((e2::(A++(m1::(T++(E++(L++((S1++(S2++S3))++(R++(W++X)))))))))++q)):=
 q02 (O++(dG++ [m2]))
section
variable{W0:World}{Kp K:Own}{g:GP}{c:Cfg}{ps:List PH}{s:GS}{x:TxG}{b:BM}
theorem qaP{t:Nat}{th:Thr}(h:g.ok W0 Kp ps s)(hv:g.ev W0)(hth:s.T[t]? =some th)(hO:t<s.O.length)(hob:∀l∈s.O,l.length≤500000)(hE:s.E.length≤500000)(hx:x.ok W0 K b)(hxo:b.o.length≤500000)(q:Own):
  qt Tryz.prog W0 93 [.pointer (some ⟨g.gb,0,none⟩), .int .i64 t, .pointer (some ⟨x.xb,0,none⟩)] (x.O c b 1++(g.O c ps.length s++q)) fun _ own'=>∃g':GP,
   (g'.ok W0 Kp ps ((({s with d:=b.d,tk:=b.tk,T:=s.T.set t {th with rg:=b.t.rg},O:=s.O.set t (s.O.getD t []++b.o)}:GS).ev [⟨s.n,t,3,0,[],[]⟩]).ev [⟨s.n,t,4,0,b.r,b.w⟩])∧g'.ev W0∧g'.gb=g.gb∧g'.ta=g.ta)∧
   Ent W0 own' ([thB x.xb 216 (x.pre c b) (x.post b 1) b.t]++(g'.O c ps.length ((({s with d:=b.d,tk:=b.tk,T:=s.T.set t {th with rg:=b.t.rg},O:=s.O.set t (s.O.getD t []++b.o)}:GS).ev [⟨s.n,t,3,0,[],[]⟩]).ev [⟨s.n,t,4,0,b.r,b.w⟩])++q)):=by
 have htS:t<g.S.length:=by
  have h1:=congrArg List.length h.ol;rw[zk] at h1;omega
 obtain⟨xo,hxo1⟩:∃xo,g.S[t]? =some xo:=⟨_,z6 htS⟩
 have hxm:=zg hxo1;have hB:=h.os xo hxm;have hxl:xo.l.length≤500000:=hob xo.l (by rw[←h.ol];exact y2 hxm);have hOO:=h.o;have hOR:=hOO.rd (W0:=W0);have hTR:=h.t.rd (W0:=W0);have hoR:=hx.o.rd (W0:=W0);refine sH [3,5,7,9,11,13,15,17,19,21,23,25,28,0,3,5,7,11,13,15,17,19,21,23,25,27,29,31,33,1,9,36,37,40,0,36,9,37,40,0] ?_;have hok1:∀(a2:Option Addr) (c2:Nat) (D1 D2 D3:Own),qu Thr.enc 89 11 g.ta g.tc (s.T.set t {th with rg:=b.t.rg}) D1→qu ObM.enc 78 3 a2 c2 (xo.l++b.o) D2→qu ObS.enc 76 1 g.oa g.oc (g.S.set t ⟨a2,c2,xo.l++b.o,D2⟩) D3→
   ({g with mb:=x.mb,ml:=x.ml,da:=x.da,dc:=x.dc,dD:=x.dD,tD:=D1,oD:=D3,S:=g.S.set t ⟨a2,c2,xo.l++b.o,D2⟩,X:=x.rD++(x.wD++g.X)}:GP).ok W0 Kp ps ({s with d:=b.d,tk:=b.tk,T:=s.T.set t {th with rg:=b.t.rg},O:=s.O.set t (s.O.getD t []++b.o)}:GS)∧({g with mb:=x.mb,ml:=x.ml,da:=x.da,dc:=x.dc,dD:=x.dD,tD:=D1,oD:=D3,S:=g.S.set t ⟨a2,c2,xo.l++b.o,D2⟩,X:=x.rD++(x.wD++g.X)}:GP).ev W0:=fun a2 c2 D1 D2 D3 hb1 hb2 hb3=>by
  have ho:=h.obs hxo1 hb2 hb3;exact⟨⟨hx.d,hx.m,h.k,h.kp,hb1,h.e,h.em,ho.o,ho.os,ho.ol⟩,fun e he=>⟨(hv e he).1.up,(hv e he).2.up⟩⟩
 have hev1:=fun(be:Nat) (a2:Option Addr) (c2:Nat) (D1 D2 D3:Own) hb1 hb2 hb3=>qL (E:= [(be,fun o=>o=Obj.cells #[.int .i64 0, .int .i64 t, .int .i64 4, .int .i64 0, .slice x.ra b.r.length x.rc, .slice x.wa b.w.length x.wc] 84 (0,0)),thB x.xb 216 (x.pre c b) (x.post b 1) b.t]) (q:=q) (q1j (c:=c) (g:=({g with mb:=x.mb,ml:=x.ml,da:=x.da,dc:=x.dc,dD:=x.dD,tD:=D1,oD:=D3,S:=g.S.set t ⟨a2,c2,xo.l++b.o,D2⟩,X:=x.rD++(x.wD++g.X)}:GP)) (s:=({s with d:=b.d,tk:=b.tk,T:=s.T.set t {th with rg:=b.t.rg},O:=s.O.set t (s.O.getD t []++b.o)}:GS)) (hok1 a2 c2 D1 D2 D3 hb1 hb2 hb3).1 (hok1 a2 c2 D1 D2 D3 hb1 hb2 hb3).2 (e:=⟨0,t,3,0,none,[],0,none,[],0⟩) RdE.nil RdE.nil (by show s.E.length≤_;omega))
 have hev2:=fun(g1:GP) (h1:g1.ok W0 Kp ps (({s with d:=b.d,tk:=b.tk,T:=s.T.set t {th with rg:=b.t.rg},O:=s.O.set t (s.O.getD t []++b.o)}:GS).ev [⟨s.n,t,3,0,[],[]⟩])) (h2:g1.ev W0) (hX:g1.X=x.rD++(x.wD++g.X))=>qL (E:= [thB x.xb 216 (x.pre c b) (x.post b 1) b.t]) (q:=q) (q1j (c:=c) h1 h2 (e:=⟨0,t,4,0,x.ra,b.r,x.rc,x.wa,b.w,x.wc⟩) (hX ▸ (hx.r.rd (W0:=W0)).up) (hX ▸ (hx.w.rd (W0:=W0)).up) (by simp[GS.ev];omega))
 dsimp only[GP.O];rw[q3C hxo1]
 repeat'((try(conv=>whnf));first|(refine qf (fun be hbe=> ?_);(apply Stop.h))|(refine fA ?_))
 refine Stop.mk ?_
 repeat'((try(conv=>whnf));first|(refine fE ?_)|(refine qju b.t.rg h.t hth ?_ ?_ ?_ ?_;(exact rfl);omega;(exact rfl);intro D1 hb1)|(refine qht hB hoR rfl rfl Y6 (fun _ _=>rfl) (fun _=>by omega) (fun a2 c2 D2 hb2=> ?_))|(apply q3o (enc:=ObS.enc) (T:=76) (j:=t) (k:=0) ⟨a2,c2,xo.l++b.o,D2⟩ hOO hxo1;(exact rfl);(omega);(simp only[ObS.enc,z8];exact rfl);(exact rfl);intro D3 hb3)|((apply gLd);first|(refine q0r hOR hxo1 rfl ?_))|((apply qJ);first|((refine ixE hOR hxo1 ?_ ?_;(first|rfl|omega)))|((refine ixE hTR hth ?_ ?_;(first|rfl|omega))))|((apply qe);first|((refine qm (hev1 be a2 c2 D1 D2 D3 hb1 hb2 hb3) ?_ ?_ ?_ (fun g1 v hg1=> ?_);(dsimp only[GP.O,GP.cells];rw[q9N hxo1,zj,zj];exact qhN);(exact rfl);(exact rfl);(obtain⟨hk1,hv1,hg1⟩:=hg1);(have hgb1:g1.gb=g.gb:=by rw[hg1]);(have hta1:g1.ta=g.ta:=by rw[hg1]);(rw[←hgb1])))|((refine qm (hev2 g1 hk1 hv1 (by rw[hg1])) ?_ ?_ ?_ (fun g2 v hg2=> ?_);(exact(eC));(exact rfl);(exact rfl))))|(refine fA ?_)|(refine fL ?_)|(refine fQ ?_)|(refine fN ?_)|(refine fM ?_)|(refine q1c.mk ?_ ?_))
 all_goals exact⟨g2,⟨hg2.1,hg2.2.1,by rw[hg2.2.2],by rw[hg2.2.2,hg1]⟩,Ent.refl⟩
theorem qhM{e0 e1 e2 m1 m2:Nat×(Obj→Prop)}{A R W O dG T E L S X q:Own}:Ent W0 (e0::((e1::(A++(m1::(R++(W++O)))))++((e2::(dG++(m2::(T++(E++(L++(S++X)))))))++q))) ([e0,e1]++((e2::(dG++(m2::(T++(E++(L++(S++(R++X))))))))++q)):=
 q02 (A++(W++(O++ [m1])))
theorem qd1{t:Nat}{out:Int}(h:g.ok W0 Kp ps s)(hv:g.ev W0)(hE:s.E.length≤500000)(hx:x.ok W0 K b)(ho:out≠1)(q:Own):
  qt Tryz.prog W0 93 [.pointer (some ⟨g.gb,0,none⟩), .int .i64 t, .pointer (some ⟨x.xb,0,none⟩)] (x.O c b out++(g.O c ps.length s++q)) fun _ own'=>∃g':GP,
   (g'.ok W0 Kp ps ((s.ev [⟨s.n,t,3,0,[],[]⟩]).ev [⟨s.n,t,4,0,b.r,[]⟩])∧g'.ev W0∧g'.gb=g.gb∧g'.ta=g.ta)∧
   Ent W0 own' ([thB x.xb 216 (x.pre c b) (x.post b out) b.t]++(g'.O c ps.length ((s.ev [⟨s.n,t,3,0,[],[]⟩]).ev [⟨s.n,t,4,0,b.r,[]⟩])++q)):=by
 refine sH [3,5,7,9,11,13,15,17,19,21,23,25,28,0,3,5,7,11,13,15,17,19,21,23,25,27,29,31,33,1,9,36,37,40,0,36,9,37,40,0] ?_;have hev1:=fun(be:Nat)=>qL (E:= [(be,fun o=>o=Obj.cells #[.int .i64 0, .int .i64 t, .int .i64 4, .int .i64 0, .slice x.ra b.r.length x.rc, .slice none 0 0] 84 (0,0)),thB x.xb 216 (x.pre c b) (x.post b out) b.t]) (q:=q) (q1j (c:=c) (g:=({g with X:=x.rD++g.X}:GP)) (s:=s) h.x (GP.ev.x hv) (e:=⟨0,t,3,0,none,[],0,none,[],0⟩) RdE.nil RdE.nil Y6)
 have hev2:=fun(g1:GP) (h1:g1.ok W0 Kp ps (s.ev [⟨s.n,t,3,0,[],[]⟩])) (h2:g1.ev W0) (hX:g1.X=x.rD++g.X)=>qL (E:= [thB x.xb 216 (x.pre c b) (x.post b out) b.t]) (q:=q) (q1j (c:=c) h1 h2 (e:=⟨0,t,4,0,x.ra,b.r,x.rc,none,[],0⟩) (hX ▸ (hx.r.rd (W0:=W0)).up) RdE.nil (by simp[GS.ev];omega))
 repeat'((try(conv=>whnf));first|(refine qf (fun be hbe=> ?_);(apply Stop.h))|(refine fA ?_))
 refine Stop.mk ?_
 repeat'((try(conv=>whnf));first|(refine fG ?_)|((apply qe);first|((refine qm (hev1 be) ?_ ?_ ?_ (fun g1 v hg1=> ?_);(exact qhM);(exact rfl);(exact rfl);(obtain⟨hk1,hv1,hg1⟩:=hg1);(have hgb1:g1.gb=g.gb:=by rw[hg1]);(have hta1:g1.ta=g.ta:=by rw[hg1]);(rw[←hgb1])))|((refine qm (hev2 g1 hk1 hv1 (by rw[hg1])) ?_ ?_ ?_ (fun g2 v hg2=> ?_);(exact(eC));(exact rfl);(exact rfl))))|(refine fA ?_)|(refine fL ?_)|(refine fM ?_))
 all_goals exact⟨g2,⟨hg2.1,hg2.2.1,by rw[hg2.2.2],by rw[hg2.2.2,hg1]⟩,Ent.refl⟩
end
end Go.Proofs.YtbhbldllneadeaaGreatDoor
