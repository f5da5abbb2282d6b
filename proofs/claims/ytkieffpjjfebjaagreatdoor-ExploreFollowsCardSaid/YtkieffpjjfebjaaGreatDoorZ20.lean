/- What the laws share, part 20. No condition. -/
import Derived.Test.YtkieffpjjfebjaaGreatDoorZ19
set_option maxHeartbeats 4000000
set_option maxRecDepth 10000
namespace Go.Proofs.YtkieffpjjfebjaaGreatDoor
open Go
theorem qfF{a:Option Addr}{n c sz m:Nat}{K:Value→Prop}(hn:n=m+1)(h:K (.slice (slA a c 1 sz) m (c-1))):qiJ a n c sz (some 1) none none K:=by
 subst hn
 exact⟨1,m+1,c,rfl,rfl,rfl,by omega,by simp,by simp,by simp,h⟩
theorem qkV{m n:Int}{r:Int}{K:Int→Prop}(h1:0≤n∧n≤64)(hr:m*2 ^ n.toNat=r)(h2: -9223372036854775808≤r∧r≤9223372036854775807)(h:K r):Shl .i64 m n K:=by
 subst hr;exact qjL h1 h2 h
theorem qfZ(b:BM)(a:Nat):∀n,(wrL b a n).w.length≤b.w.length+n∧(wrL b a n).d.length=b.d.length∧(wrL b a n).o=b.o∧(wrL b a n).r=b.r∧(wrL b a n).t=b.t∧(wrL b a n).tk=b.tk∧(wrL b a n).ad=b.ad
 |0=>⟨Nat.le_refl _,rfl,rfl,rfl,rfl,rfl,rfl⟩
 |n+1=>by
  obtain⟨h1,h2,h3,h4,h5,h6,h7⟩:=qfZ b a n
  refine⟨?_,by simp[wrL,wrM,h2],h3,h4,h5,h6,h7⟩
  simp only[wrL,wrM,qbU]
  split
  ·omega
  ·simp;omega
theorem qG{P:Program}{W0:World}{σ:Type}{k:FuncId}{args:List Value}{E D:Own}{R:σ→Value→Prop}{O:σ→Own}{q:Own}(h:∀q,q0E P W0 k args (D++q) fun v own'=>∃s,R s v∧Ent W0 own' (O s++q)):q0E P W0 k args (E++(D++q)) fun v own'=>∃s,R s v∧Ent W0 own' (E++(O s++q)):=fun w hw=>
 (h (E++q) w (Ent.of_perm (by rw[←List.append_assoc,←List.append_assoc];exact List.perm_append_comm.append_right q) w hw)).mono fun _ _ ⟨v,o,a,b,s,c,d⟩=>⟨v,o,a,b,s,c,d.trans (Ent.of_perm (by rw[←List.append_assoc,←List.append_assoc];exact List.perm_append_comm.append_right q))⟩
section
variable{W0:World}{K:Own}{g:TxG}{c:Cfg}{b:BM}
theorem qfH(h:g.ok W0 K b)(hc:qL c=0){x:Ins}(hx:qv x=0)(hop:x.op=14)(hd:(b.d.length:Int)=c.words)(htk:b.tk.length=(qy c).toNat)(hw:b.w.length≤999000)(ho:b.o.length≤1000000)(had:∀a∈b.ad,a≤9223372036854775807)(q:Own) [ek:qt q K]:
  q0E Tryz.prog W0 147 [.pointer (some ⟨g.xb,0,none⟩),x.v] (g.O c b 0++q) fun v own'=>
   ((v= .bool false∧(q18 c b x).2= -1)∧Ent W0 own' q)∨∃g':TxG,(v= .bool true∧(q18 c b x).2=0∧g'.ok W0 K {(q18 c b x).1 with t:={(q18 c b x).1.t with pc:=b.t.pc}}∧g'.xb=g.xb)∧
   Ent W0 own' (g'.O c {(q18 c b x).1 with t:={(q18 c b x).1.t with pc:=b.t.pc}} 0++q):=by
 refine qa qj q3c (by simp[qN]) ?_
 obtain⟨h0,hA, -, -, -,hI⟩:=q2l hx
 clear hx
 obtain⟨op,a,b',c',imm⟩:=x
 dsimp only[Ins.v] at*
 subst hop
 have ha:=hA rfl
 have hi:=hI rfl
 clear hA hI
 have hst:q18 c b ⟨14,a,b',c',imm⟩=match alB c b.tk b.ad imm with
  |none=>(b, -1)
  |some (z,k)=>((wrL {b with ad:=b.ad.tail,tk:=b.tk.set k true} z (2 ^ imm.toNat)).put a 2 z,0):=rfl
 have hAR:=h.a
 have hwd:=(q1R hc).1
 unfold okW at hwd
 cases had0:b.ad with
 |nil=>
  have hn:alB c b.tk b.ad imm=none:=by unfold alB;rw[had0]
  rw[hst,hn]
  have hl:(b.ad.length:Int)=0:=by rw[had0];rfl
  repeat'((try(conv=>whnf));first|(refine fI ?_)|(refine fE ?_)|(refine fJ ?_)|(refine fA ?_)|(refine qc (fun bk hbk=> ?_)))
  exact .inl ⟨⟨rfl,rfl⟩,(eC)⟩
 |cons z ad'=>
  have hz:b.ad[0]? =some z:=by rw[had0];rfl
  have hzm:=had z (by rw[had0];exact List.mem_cons_self)
  have hl:¬(b.ad.length:Int)=0:=by rw[had0];simp;omega
  have hln:b.ad.length=ad'.length+1:=by rw[had0];rfl
  by_cases hz0:z<0
  ·have hn:alB c b.tk b.ad imm=none:=by unfold alB;rw[had0];simp only;rw[if_pos (.inl hz0)]
   rw[hst,hn]
   repeat'((try(conv=>whnf));first|(refine fH ?_)|(refine fF ?_)|(refine fK ?_)|((with_reducible show Ld _ _ _ _);first|(refine q1M hAR hz rfl ?_))|((with_reducible show IxS _ _ _ _ _);first|((refine ixE hAR hz ?_ ?_;(first|rfl|omega))))|(refine fA ?_)|(refine qc (fun bk hbk=> ?_)))
   exact .inl ⟨⟨rfl,rfl⟩,(eC)⟩
  ·have hfd:=fun own=>qdZ W0 own c z
   have hlf:=q8G c z
   have hbd:=q6w c
   have hn:alB c b.tk b.ad imm=if q0a c z<0∨q3K c (q0a c z)≠imm∨b.tk.getD (q0a c z).toNat false=true then none else some (z.toNat,(q0a c z).toNat):=by
    unfold alB;rw[had0];simp only[hz0,false_or]
   rw[hn] at hst
   clear hn
   generalize q0a c z=k at*
   by_cases hk:k<0
   ·rw[if_pos (.inl hk)] at hst
    rw[hst]
    repeat'((try(conv=>whnf));first|(refine fH ?_)|(refine fI ?_)|(refine fE ?_)|(refine fG ?_)|(refine fJ ?_)|(refine fK ?_)|(refine qfF hln ?_)|((with_reducible show Ld _ _ _ _);first|(refine q1M hAR hz rfl ?_))|((with_reducible show IxS _ _ _ _ _);first|((refine ixE hAR hz ?_ ?_;(first|rfl|omega))))|((with_reducible show qf _ _ _ _ _ _);first|((refine qh (hfd _) ?_ ?_ ?_;(exact rfl);exact rfl)))|(refine fC ?_)|(refine fA ?_)|(refine fQ ?_)|(refine fN ?_)|(refine qc (fun bk hbk=> ?_)))
    exact .inl ⟨⟨rfl,rfl⟩,(eC)⟩
   ·have hcl:=fun own=>qfJ W0 own c k (by omega)
    have hrm:=q7S (c:=c) (k:=k) (by omega) (by omega)
    have hfst:q2K c k=z:=by omega
    rw[hfst] at hrm
    obtain⟨j,rfl⟩:=Int.eq_ofNat_of_zero_le (by omega:0≤k)
    obtain⟨zn,rfl⟩:=Int.eq_ofNat_of_zero_le (by omega:0≤z)
    have hj:j<b.tk.length:=by omega
    have hm:=h.m j
    rw[Int.toNat_natCast,Int.toNat_natCast] at hst
    generalize q3K c j=cl at*
    by_cases hcl2:cl=imm
    ·subst hcl2
     cases hv:b.tk.getD j false with
     |true=>
      rw[hv] at hm hst
      rw[if_pos (.inr (.inr rfl))] at hst
      rw[hst]
      repeat'((try(conv=>whnf));first|(refine fH ?_)|(refine fE ?_)|(refine fD ?_)|(refine fK ?_)|(refine qfF hln ?_)|(refine qfk hm ?_ (fun e=>by cases e))|((with_reducible show Ld _ _ _ _);first|(refine q1M hAR hz rfl ?_))|((with_reducible show IxS _ _ _ _ _);first|((refine ixE hAR hz ?_ ?_;(first|rfl|omega))))|((with_reducible show qf _ _ _ _ _ _);first|((refine qh (hfd _) ?_ ?_ ?_;(exact rfl);exact rfl)))|((with_reducible show q0b _ _ _ _ _ _);first|((refine q4G (fun _=>hcl _) ?_ ?_ ?_;(exact rfl);exact rfl)))|(refine fC ?_)|(refine fA ?_)|(refine fQ ?_)|(refine fN ?_)|(refine qc (fun bk hbk=> ?_)))
      exact .inl ⟨⟨rfl,rfl⟩,(eC)⟩
     |false=>
      rw[hv] at hm hst
      rw[if_neg (by simp)] at hst
      have hst2:q18 c b ⟨14,a,b',c',cl⟩=((wrL {b with ad:=ad',tk:=b.tk.set j true} zn (2 ^ cl.toNat)).put a 2 zn,0):=by rw[hst,had0];rfl
      rw[hst2]
      clear hst hst2
      have hM8:(2:Nat) ^ cl.toNat≤8:=by
       have:cl.toNat=0∨cl.toNat=1∨cl.toNat=2∨cl.toNat=3:=by omega
       rcases this with e|e|e|e <;>rw[e] <;>decide
      have hM:(1:Int)*2 ^ cl.toNat=((2 ^ cl.toNat:Nat):Int):=by simp
      have hM2:(2:Int) ^ cl.toNat=((2 ^ cl.toNat:Nat):Int):=by simp
      rw[hM2] at hrm
      generalize 2 ^ cl.toNat=M at hM8 hM hrm ⊢
      have hok1:({g with aa:=slA g.aa g.ac 1 1,ac:=g.ac-1,ml:=mpU g.ml j true}:TxG).ok W0 K {b with ad:=ad',tk:=b.tk.set j true}:=by
       refine⟨h.d,h.m.set hj,?_,?_,h.r,h.w,h.o⟩
       ·have:=hAR.sl (c:=1) (r:=b.ad.length) (m:=g.ac) (Nat.le_refl _) h.al
        have e:(b.ad.drop 1).take (b.ad.length-1)=ad':=by rw[had0];simp
        rw[e] at this
        exact this
       ·have:=h.al
        show ad'.length≤g.ac-1
        omega
      obtain⟨b1,hb1⟩:∃b1:BM,b1={b with ad:=ad',tk:=b.tk.set j true}:=⟨_,rfl⟩
      rw[←hb1] at hok1 ⊢
      have hwl:=qfZ b1 zn
      have hb1w:b1.w=b.w∧b1.d=b.d∧b1.o=b.o∧b1.t=b.t:=by rw[hb1];exact⟨rfl,rfl,rfl,rfl⟩
      repeat'((try(conv=>whnf));first|(refine fH ?_)|(refine fD ?_)|(refine fK ?_)|(refine qfF hln ?_)|(refine qfk hm ?_ ?_)|(intro _)|(refine qjz ?_)|(refine qkV ?_ hM ?_ ?_;omega;omega)|((with_reducible show Ld _ _ _ _);first|(refine q1M hAR hz rfl ?_))|((with_reducible show IxS _ _ _ _ _);first|((refine ixE hAR hz ?_ ?_;(first|rfl|omega))))|((with_reducible show qf _ _ _ _ _ _);first|((refine qh (hfd _) ?_ ?_ ?_;(exact rfl);exact rfl)))|((with_reducible show q0b _ _ _ _ _ _);first|((refine q4G (fun _=>hcl _) ?_ ?_ ?_;(exact rfl);exact rfl)))|(refine fC ?_)|(refine fA ?_)|(refine fQ ?_)|(refine fN ?_)|(refine qc (fun bk hbk=> ?_)))
      all_goals
       refine q0Z (σ:=Nat×TxG) (fun s=> [(75, .int .i64 s.1)]) (fun s=>(bk,fun o=>o=Obj.cells #[.int .i64 14, .int .i64 a, .int .i64 b', .int .i64 c', .int .i64 cl] 69 (0,0))::(s.2.O c (wrL b1 zn s.1) 0++q)) (fun s=>s.1≤M∧s.2.ok W0 K (wrL b1 zn s.1)∧s.2.xb=g.xb) (fun s=>M-s.1) (0,{g with aa:=slA g.aa g.ac 1 1,ac:=g.ac-1,ml:=mpU g.ml j true}) ⟨Nat.zero_le _,hok1,rfl⟩ (eF) ?_ rfl ?_
       ·subst hb1
        exact(eC)
       rintro⟨n,g'⟩ junk ⟨hn,hok,hxb⟩
       dsimp only at hn hok hxb ⊢
       obtain⟨w1,w2,w3,w4,w5,w6,w7⟩:=hwl n
       rw[hb1w.1] at w1
       by_cases hlt:n<M
       ·have hlt':(n:Int)<M:=by omega
        have hwr:=qbK (out:=0) (c:=c) (a:=zn+n) hok (by rw[w2,hb1w.2.1];omega) (by omega) 0
        rw[Int.natCast_add,hxb] at hwr
        have hwk:=qG (E:= [(bk,fun o=>o=Obj.cells #[.int .i64 14, .int .i64 a, .int .i64 b', .int .i64 c', .int .i64 cl] 69 (0,0))]) (q:=q) hwr
        repeat'((try(conv=>whnf));first|(refine fF ?_)|((with_reducible show qf _ _ _ _ _ _);first|((refine qm hwk ?_ ?_ ?_ (fun s v hv=> ?_);(exact(eC));(exact rfl);(exact rfl))))|(refine fB ?_))
        exact⟨(n+1,s),⟨by dsimp only;omega,hv.1,hv.2⟩,by dsimp only;omega,(eF),(eC)⟩
       ·have hlt':¬(n:Int)<M:=by omega
        obtain rfl:n=M:=by omega
        have hgot:=qbE (out:=0) (c:=c) hok (by rw[w3,hb1w.2.2.1];exact ho) ha 2 zn q
        rw[hxb] at hgot
        repeat'((try(conv=>whnf));first|(refine fG ?_)|((with_reducible show qf _ _ _ _ _ _);first|((refine qm hgot ?_ ?_ ?_ (fun s v hv=> ?_);(exact(eC));(exact rfl);(exact rfl))))|(refine fC ?_)|(refine fA ?_))
        have hbt:(wrL b1 zn n).t=b.t:=w5.trans hb1w.2.2.2
        simp only[BM.put,hbt] at hv ⊢
        exact .inr ⟨s,⟨rfl,trivial,hv.1,hv.2⟩,Ent.refl⟩
    ·rw[if_pos (.inr (.inl hcl2))] at hst
     rw[hst]
     repeat'((try(conv=>whnf));first|(refine fH ?_)|(refine fI ?_)|(refine fE ?_)|(refine fD ?_)|(refine fJ ?_)|(refine fK ?_)|(refine qfF hln ?_)|((with_reducible show Ld _ _ _ _);first|(refine q1M hAR hz rfl ?_))|((with_reducible show IxS _ _ _ _ _);first|((refine ixE hAR hz ?_ ?_;(first|rfl|omega))))|((with_reducible show qf _ _ _ _ _ _);first|((refine qh (hfd _) ?_ ?_ ?_;(exact rfl);exact rfl)))|((with_reducible show q0b _ _ _ _ _ _);first|((refine q4G (fun _=>hcl _) ?_ ?_ ?_;(exact rfl);exact rfl)))|(refine fC ?_)|(refine fA ?_)|(refine fQ ?_)|(refine fN ?_)|(refine qc (fun bk hbk=> ?_)))
     exact .inl ⟨⟨rfl,rfl⟩,(eC)⟩
end
open Go
theorem qem{c:Cfg}{b:BM}{x:Ins}(h:x.op=10∨x.op=11):(q18 c b x).1.t.pc=b.t.pc+1∧((q18 c b x).2=0∨(q18 c b x).2=7):=by
 unfold q18
 rcases h with h|h
 ·rw[if_pos h]
  split
  ·exact⟨rfl, .inr rfl⟩
  ·exact⟨rfl, .inl rfl⟩
 ·rw[if_neg (by omega),if_pos h]
  split
  ·exact⟨rfl, .inr rfl⟩
  ·refine⟨rfl, .inl rfl⟩
theorem qbP{c:Cfg}{b:BM}{x:Ins}(h:x.op=15):(q18 c b x).1.t={b.t with pc:=b.t.pc+1}∧((q18 c b x).2=0∨(q18 c b x).2=8):=by
 unfold q18
 rw[if_neg (by omega),if_neg (by omega),if_neg (by omega),if_pos h]
 split
 ·exact⟨rfl, .inr rfl⟩
 ·exact⟨rfl, .inl rfl⟩
theorem qen{c:Cfg}{b:BM}{x:Ins}(h:x.op=14)(h0:(q18 c b x).2=0):(q18 c b x).1.t.pc=b.t.pc+1:=by
 unfold q18 at h0 ⊢
 rw[if_neg (by omega),if_neg (by omega),if_pos h] at h0 ⊢
 split at h0
 ·cases h0
 ·rename_i a k _
  show(wrL _ _ _).t.pc+1=_
  rw[(qfZ _ _ _).2.2.2.2.1]
theorem qk4{t t':Thr}{n:Int}(h1:t'.rg=t.rg)(h2:t'.oc=t.oc)(h3:t'.dn=t.dn)(hn:n=t'.pc):t.enc.set 0 (.int .i64 n)=t'.enc:=by
 subst hn
 obtain⟨pc,rg,oc,dn⟩:=t'
 simp only at h1 h2 h3
 subst h1;subst h2;subst h3
 rfl
theorem qfU{W0:World}{own:Own}(g:TxG)(c:Cfg)(b:BM)(out:Int)(t':Thr){n:Int}{off:Nat}{T:TypeId}{K:Own→Prop}{C:(Obj→Prop)→Own} [m:UpC g.xb (fun o=>o=Obj.cells (g.pre c b++(b.t.enc++g.post b out)).toArray T (0,0)) own C]
  (h1:t'.rg=b.t.rg) (h2:t'.oc=b.t.oc) (h3:t'.dn=b.t.dn) (hn:n=t'.pc) (ho:off=15) (h:K (C fun o=>o=Obj.cells (g.pre c b++(t'.enc++g.post b out)).toArray T (0,0))):StT W0 own ⟨g.xb,off,none⟩ (.int .i64 n) K:=
 qjZ t' (k:=0) (by omega) (qk4 h1 h2 h3 hn) rfl (by rw[ho];rfl) h
section
variable{W0:World}{K:Own}{g:TxG}{c:Cfg}{b:BM}
theorem qid(h:g.ok W0 K b)(hc:qL c=0){x:Ins}(hx:qv x=0)(hrg:b.t.rg.ok)(hpc:b.t.pc≤64)(hd:(b.d.length:Int)=c.words)(htk:b.tk.length=(qy c).toNat)(hr:b.r.length≤900000)(hw:b.w.length≤900000)(ho:b.o.length≤900000)(had:∀a∈b.ad,a≤9223372036854775807)(q:Own) [ek:qt q K]:
  q0E Tryz.prog W0 121 [.pointer (some ⟨g.xb,0,none⟩),x.v] (g.O c b 0++q) fun v own'=>
   ((v= .bool false∧(q18 c b x).2= -1)∧Ent W0 own' q)∨∃g':TxG,(v= .bool true∧(q18 c b x).2≠ -1∧g'.ok W0 K (q18 c b x).1∧g'.xb=g.xb)∧Ent W0 own' (g'.O c (q18 c b x).1 (q18 c b x).2++q):=by
 refine qa qj q3i (by simp[qU]) ?_
 by_cases h1:x.op=10∨x.op=11
 ·have hacc:=qcv h hc hx h1 hd (by omega) (by omega) (by omega) q
  obtain⟨hp1,hp2⟩:=qem (c:=c) (b:=b) h1
  generalize q18 c b x=z at*
  obtain⟨op,a,b',c',imm⟩:=x
  dsimp only[Ins.v] at*
  clear hx
  rcases h1 with rfl|rfl
  all_goals
   repeat'((try(conv=>whnf));first|(refine fE ?_)|(refine fD ?_)|(refine qfU s c {z.1 with t:={z.1.t with pc:=b.t.pc}} z.2 z.1.t rfl rfl rfl ?_ rfl ?_;omega)|((with_reducible show qf _ _ _ _ _ _);first|((refine qm hacc ?_ ?_ ?_ (fun s v hv=> ?_);(exact(eC));(exact rfl);(exact rfl);(obtain⟨hv,hxb⟩:=hv);(rw[←hxb]))))|(refine fB ?_)|(refine fA ?_)|(refine fL ?_)|(refine qc (fun bk hbk=> ?_)))
   exact .inr ⟨s,⟨rfl,by omega,⟨hv.d,hv.m,hv.a,hv.al,hv.r,hv.w,hv.o⟩,rfl⟩,(eC)⟩
 by_cases h2:x.op=14
 ·have hal:=qfH h hc hx h2 hd htk (by omega) (by omega) had q
  have hp:=qen (c:=c) (b:=b) h2
  generalize q18 c b x=z at*
  obtain⟨op,a,b',c',imm⟩:=x
  dsimp only[Ins.v] at*
  clear hx h1
  subst h2
  repeat'((try(conv=>whnf));first|(refine fE ?_)|(refine fD ?_)|(refine qfU s c {z.1 with t:={z.1.t with pc:=b.t.pc}} 0 z.1.t rfl rfl rfl ?_ rfl ?_;omega)|((with_reducible show qf _ _ _ _ _ _);first|((refine q3r hal ?_ ?_ ?_ (fun v hv=> ?_) (fun s v hv=> ?_);(exact(eC));(exact rfl);(exact rfl);(obtain⟨rfl,hv⟩:=hv);rotate_left;(obtain⟨rfl,hz,hv,hxb⟩:=hv);(rw[←hxb]))))|(refine fB ?_)|(refine fA ?_)|(refine fL ?_)|(refine qc (fun bk hbk=> ?_)))
  ·exact .inr ⟨s,⟨rfl,by omega,⟨hv.d,hv.m,hv.a,hv.al,hv.r,hv.w,hv.o⟩,rfl⟩,by rw[hz];exact(eC)⟩
  ·exact .inl ⟨⟨rfl,hv⟩,Ent.refl⟩
 by_cases h3:x.op=15
 ·have hfr:=qi5 h hx h3 htk q
  obtain⟨hp1,hp2⟩:=qbP (c:=c) (b:=b) h3
  generalize q18 c b x=z at*
  obtain⟨op,a,b',c',imm⟩:=x
  dsimp only[Ins.v] at*
  clear hx h1 h2
  subst h3
  have hp3:z.1.t.rg=b.t.rg∧z.1.t.oc=b.t.oc∧z.1.t.dn=b.t.dn∧z.1.t.pc=b.t.pc+1:=by rw[hp1];exact⟨rfl,rfl,rfl,rfl⟩
  clear hp1
  repeat'((try(conv=>whnf));first|(refine fE ?_)|(refine fD ?_)|(refine qfU s c {z.1 with t:=b.t} z.2 z.1.t hp3.1 hp3.2.1 hp3.2.2.1 ?_ rfl ?_;omega)|((with_reducible show qf _ _ _ _ _ _);first|((refine qm hfr ?_ ?_ ?_ (fun s v hv=> ?_);(exact(eC));(exact rfl);(exact rfl);(obtain⟨hv,hxb⟩:=hv);(rw[←hxb]))))|(refine fB ?_)|(refine fA ?_)|(refine fL ?_)|(refine qc (fun bk hbk=> ?_)))
  exact .inr ⟨s,⟨rfl,by omega,⟨hv.d,hv.m,hv.a,hv.al,hv.r,hv.w,hv.o⟩,rfl⟩,(eC)⟩
 have hst:q18 c b x=if x.op=8 then(b.go,1) else if x.op=9 then(b.go,2) else({b with t:=q6a b.t x},0):=by
  unfold q18
  rw[if_neg (by omega),if_neg (by omega),if_neg h2,if_neg h3]
 rw[hst]
 clear hst
 by_cases h4:x.op=8∨x.op=9
 ·obtain⟨op,a,b',c',imm⟩:=x
  dsimp only[Ins.v] at*
  clear hx h1 h2 h3
  rcases h4 with rfl|rfl
  all_goals
   repeat'((try(conv=>whnf));first|(refine fE ?_)|(refine fD ?_)|(refine fB ?_)|(refine fA ?_)|(refine fN ?_)|(refine qc (fun bk hbk=> ?_)))
   exact .inr ⟨g,⟨rfl,by simp,⟨h.d,h.m,h.a,h.al,h.r,h.w,h.o⟩,rfl⟩,(eC)⟩
 ·rw[if_neg (by omega),if_neg (by omega)]
  have hlc:=fun r=>qbF (W0:=W0) (b:=g.xb) (T:=158) (pre:=g.pre c b) (post:=g.post b 0) (t:=b.t) (o:=15) hx hrg hpc rfl r
  have h0:=(q2l hx).1
  have hP:({b.t with rg:=q85 b.t x}:Thr).enc.set 0 (.int .i64 (q60 b.t x))=(q6a b.t x).enc:=rfl
  unfold q6a at hP ⊢
  generalize q85 b.t x=R at*
  generalize q60 b.t x=P at*
  obtain⟨op,a,b',c',imm⟩:=x
  dsimp only[Ins.v] at*
  clear hx
  repeat'((try(conv=>whnf));first|(refine fG ?_)|(refine qfU g c {b with t:={b.t with rg:=R}} 0 {b.t with rg:=R,pc:=P} rfl rfl rfl rfl rfl ?_)|((with_reducible show qf _ _ _ _ _ _);first|((refine qgV (hlc _) ?_ ?_ (fun s v hv=> ?_);(exact rfl);(exact rfl);(subst hv))))|(refine fB ?_)|(refine fA ?_)|(refine fL ?_)|(refine qc (fun bk hbk=> ?_)))
  exact .inr ⟨g,⟨rfl,by simp,⟨h.d,h.m,h.a,h.al,h.r,h.w,h.o⟩,rfl⟩,Ent.of_sub ((List.sublist_cons_self _ _).cons_cons _)⟩
end
open Go
structure BI(c:Cfg)(b:BM):Prop where
 dl:(b.d.length:Int)=c.words
 dr:∀x∈b.d,okU x
 tl:b.tk.length=(qy c).toNat
 rg:b.t.rg.ok
 rl:b.r.length≤b.t.pc
 ol:b.o.length≤b.t.pc
 wl:b.w.length≤8*b.t.pc
 rr:∀x∈b.r,0≤x∧x<c.words
 wr:∀x∈b.w,0≤x∧x<c.words
 ad:∀a∈b.ad,a≤9223372036854775807
theorem q5M{P:Int→Prop}{l:List Int}{a:Nat}{v:Int}(h:∀x∈l,P x)(hv:P v):∀x∈l.set a v,P x:=fun x hx=>by
 rcases List.mem_or_eq_of_mem_set hx with hx|rfl
 ·exact h x hx
 ·exact hv
theorem BI.next{c:Cfg}{b b':BM}(h:BI c b)(hp:b.t.pc+1≤b'.t.pc)(h1:b'.d.length=b.d.length)(h2:∀x∈b'.d,okU x)(h3:b'.tk.length=b.tk.length)(h4:b'.t.rg.ok)(h5:b'.r.length≤b.r.length+1)(h6:b'.o.length≤b.o.length+1)(h7:b'.w.length≤b.w.length+8)
  (h8:∀x∈b'.r,0≤x∧x<c.words) (h9:∀x∈b'.w,0≤x∧x<c.words) (h10:∀a∈b'.ad,a∈b.ad):BI c b':=by
 have e1:=h.rl
 have e2:=h.ol
 have e3:=h.wl
 exact⟨by rw[h1];exact h.dl,h2,by rw[h3];exact h.tl,h4,by omega,by omega,by omega,h8,h9,fun a ha=>h.ad a (h10 a ha)⟩
theorem BI.go{c:Cfg}{b:BM}(h:BI c b):BI c b.go:=h.next (Nat.le_refl _) rfl h.dr rfl h.rg (Nat.le_succ _) (Nat.le_succ _) (Nat.le_add_right _ 8) h.rr h.wr (fun _ h=>h)
theorem qdv{t:Thr}{x:Ins}:t.pc+1≤q60 t x:=by unfold q60;split <;>omega
theorem BI.loc{c:Cfg}{b:BM}(h:BI c b){x:Ins}:BI c {b with t:=q6a b.t x}:=
 h.next qdv rfl h.dr rfl (qdw h.rg) (Nat.le_succ _) (Nat.le_succ _) (Nat.le_add_right _ 8) h.rr h.wr (fun _ h=>h)
theorem qcH{P:Int→Prop}{l:List Int}{a:Int}(h:∀x∈l,P x)(ha:P a):∀x∈qbU l a,P x:=fun x hx=>by
 unfold qbU at hx
 split at hx
 ·exact h x hx
 ·rcases List.mem_append.1 hx with hx|hx
  ·exact h x hx
  ·rw[List.mem_singleton.1 hx];exact ha
theorem qeJ(l:List Int)(a:Int):(qbU l a).length≤l.length+1:=by unfold qbU;split <;>simp
theorem qgM{c:Cfg}{b:BM}{a:Nat}(hd:∀x∈b.d,okU x)(hw:∀x∈b.w,0≤x∧x<c.words):∀n,((a+n:Nat):Int)≤c.words→(∀x∈(wrL b a n).d,okU x)∧∀x∈(wrL b a n).w,0≤x∧x<c.words
 |0,_=>⟨hd,hw⟩
 |n+1,h=>by
  obtain⟨h1,h2⟩:=qgM (a:=a) hd hw n (by omega)
  exact⟨q5M h1 ⟨by decide,by decide⟩,qcH (P:=fun x=>0≤x∧x<c.words) h2 (by omega)⟩
theorem qdm{l:List Int}(h:∀x∈l,okU x)(j:Nat):okU (l.getD j 0):=by
 rw[List.getD_eq_getElem?_getD]
 cases hj:l[j]? with
 |none=>exact⟨by decide,by decide⟩
 |some y=>exact h y (List.mem_of_getElem? hj)
theorem qiN{c:Cfg}{tk:List Bool}{ad:List Int}{imm:Int}{a k:Nat}(h:alB c tk ad imm=some (a,k)):∃ad',ad=(a:Int)::ad'∧(k:Int)<qy c∧q2K c k=a∧q3K c k=imm∧tk.getD k false=false∧((a+2 ^ imm.toNat:Nat):Int)≤c.words:=by
 unfold alB at h
 split at h
 ·cases h
 ·rename_i z ad'
  split at h
  ·cases h
  ·rename_i hn
   have h1:0≤z∧0≤q0a c z∧q3K c (q0a c z)=imm∧¬tk.getD (q0a c z).toNat false=true:=⟨by omega,by omega,by
    by_cases e:q3K c (q0a c z)=imm
    ·exact e
    ·exact absurd (.inr (.inr (.inl e))) hn,fun e=>hn (.inr (.inr (.inr e)))⟩
   simp only[Option.some.injEq,Prod.mk.injEq] at h
   obtain⟨rfl,rfl⟩:=h
   rcases q8G c z with hl|⟨hl0,hl1,hl2⟩
   ·omega
   ·have hr:=q7S hl0 hl1
    have e1:((q0a c z).toNat:Int)=q0a c z:=by omega
    have e2:(z.toNat:Int)=z:=by omega
    rw[e1,e2]
    refine⟨ad',rfl,hl1,hl2,h1.2.2.1,by simpa using h1.2.2.2,?_⟩
    rw[h1.2.2.1,hl2] at hr
    have e3:((2 ^ imm.toNat:Nat):Int)=2 ^ imm.toNat:=by simp
    rw[Int.natCast_add,e2,e3]
    omega
theorem qeo{c:Cfg}{b:BM}{x:Ins}(hx:qv x=0)(h:BI c b)(hne:(q18 c b x).2≠ -1):BI c (q18 c b x).1:=by
 have hi:=(q2l hx).2.2.2.2.2
 unfold q18 at hne ⊢
 by_cases h10:x.op=10
 ·rw[if_pos h10]
  split
  ·exact h.go
  ·rename_i hz
   have ha:=q9l (r:=b.t.rg) (b:=x.b) (imm:=x.imm)
   generalize adr b.t.rg x.b x.imm=z at*
   have hzn:(z.toNat:Int)=z:=by omega
   refine h.next (Nat.le_refl _) rfl h.dr rfl (Rg.ok_set h.rg (qdm h.dr _)) ?_ (by simp[BM.put,rdM]) (Nat.le_add_right _ 8) ?_ h.wr (fun _ h=>h)
   ·show(rdM b z.toNat).r.length≤_
    unfold rdM
    dsimp only
    split <;>simp
   ·show ∀x∈(rdM b z.toNat).r,_
    unfold rdM
    dsimp only
    split
    ·exact h.rr
    ·intro y hy
     rcases List.mem_append.1 hy with hy|hy
     ·exact h.rr y hy
     ·rw[List.mem_singleton.1 hy];omega
 rw[if_neg h10] at hne ⊢
 by_cases h11:x.op=11
 ·rw[if_pos h11]
  split
  ·exact h.go
  ·rename_i hz
   have ha:=q9l (r:=b.t.rg) (b:=x.a) (imm:=x.imm)
   generalize adr b.t.rg x.a x.imm=z at*
   have hzn:(z.toNat:Int)=z:=by omega
   refine h.next (Nat.le_refl _) (List.length_set ..) (q5M h.dr (h.rg _)) rfl h.rg (Nat.le_succ _) (Nat.le_succ _) ?_ h.rr (qcH (P:=fun x=>0≤x∧x<c.words) h.wr (by omega)) (fun _ h=>h)
   have:=qeJ b.w z.toNat
   show(qbU b.w z.toNat).length≤_
   omega
 rw[if_neg h11] at hne ⊢
 by_cases h14:x.op=14
 ·rw[if_pos h14] at hne ⊢
  cases hal:alB c b.tk b.ad x.imm with
  |none=>rw[hal] at hne;exact absurd rfl hne
  |some ak=>
   obtain⟨a,k⟩:=ak
   obtain⟨ad',had,hk,_,_,_,hroom⟩:=qiN hal
   simp only
   have hM8:(2:Nat) ^ x.imm.toNat≤8:=by
    have h4:=hi h14
    have:x.imm.toNat=0∨x.imm.toNat=1∨x.imm.toNat=2∨x.imm.toNat=3:=by omega
    rcases this with e|e|e|e <;>rw[e] <;>decide
   generalize 2 ^ x.imm.toNat=M at*
   obtain⟨w1,w2,w3,w4,w5,w6,w7⟩:=qfZ {b with ad:=b.ad.tail,tk:=b.tk.set k true} a M
   obtain⟨w8,w9⟩:=qgM (c:=c) (b:={b with ad:=b.ad.tail,tk:=b.tk.set k true}) (a:=a) h.dr h.wr M hroom
   generalize wrL {b with ad:=b.ad.tail,tk:=b.tk.set k true} a M=b1 at*
   dsimp only at w1 w2 w3 w4 w5 w6 w7
   refine h.next (by show _≤b1.t.pc+1;rw[w5];exact Nat.le_refl _) w2 w8 (by show b1.tk.length=_;rw[w6,List.length_set]) ?_ (by show b1.r.length≤_;rw[w4];exact Nat.le_succ _) (by show(b1.o++ [_]).length≤_;rw[w3];simp) (by show b1.w.length≤_;omega) (by show ∀x∈b1.r,_;rw[w4];exact h.rr) w9 (by show ∀x∈b1.ad,_;rw[w7];exact fun x hx=>List.mem_of_mem_tail hx)
   show(b1.t.rg.set x.a.toNat a).ok
   rw[w5]
   have h1:=h.ad a (by rw[had];exact List.mem_cons_self)
   exact Rg.ok_set h.rg ⟨by omega,by omega⟩
 rw[if_neg h14] at hne ⊢
 split
 ·split
  ·exact h.go
  ·exact h.next (Nat.le_refl _) rfl h.dr (List.length_set ..) h.rg (Nat.le_succ _) (Nat.le_succ _) (Nat.le_add_right _ 8) h.rr h.wr (fun _ h=>h)
 ·split
  ·exact h.go
  ·split
   ·exact h.go
   ·exact h.loc
theorem qk1{c:Cfg}{b:BM}{x:Ins}(hx:qv x=0)(h0:(q18 c b x).2=0):x.op≠8∧x.op≠9∧∀p:List Ins,((q18 c b x).1.t.pc:Int)∈q5W p b.t.pc x:=by
 have hI:=(q2l hx).2.2.2.2.1
 have h8:x.op≠8:=fun e=>by
  unfold q18 at h0
  rw[if_neg (by omega),if_neg (by omega),if_neg (by omega),if_neg (by omega),if_pos e] at h0
  cases h0
 have h9:x.op≠9:=fun e=>by
  unfold q18 at h0
  rw[if_neg (by omega),if_neg (by omega),if_neg (by omega),if_neg (by omega),if_neg (by omega),if_pos e] at h0
  cases h0
 refine⟨h8,h9,fun p=> ?_⟩
 have key:(q18 c b x).1.t.pc=q60 b.t x:=by
  by_cases h14:x.op=14
  ·rw[qen h14 h0];unfold q60;rw[if_neg (by omega)]
  ·by_cases h1:x.op=10∨x.op=11
   ·rw[(qem h1).1];unfold q60;rw[if_neg (by omega)]
   ·by_cases h15:x.op=15
    ·rw[(qbP h15).1];unfold q60;rw[if_neg (by omega)]
    ·unfold q18
     rw[if_neg (by omega),if_neg (by omega),if_neg h14,if_neg h15,if_neg h8,if_neg h9]
     rfl
 rw[key]
 unfold q60 q5W
 by_cases h4:x.op=4
 ·rw[if_pos h4,if_pos (Or.inl h4),List.mem_singleton]
  have:=hI (.inl h4)
  omega
 ·rw[if_neg h4]
  by_cases h56:x.op=5∨x.op=6
  ·rw[if_pos h56]
   have:=hI (.inr h56)
   split
   ·simp;omega
   ·simp
  ·rw[if_neg h56,if_neg h9,if_neg (by omega)]
   simp
theorem qaC{p:List Ins}(h:qx p=(0,0)){k j:Nat}{x0 x:Ins}(hx0:p[k]? =some x0)(h7:x0.op=7)(hkj:k<j)(hje:j≤q40 p k)(hx:p[j]? =some x){c:Cfg}{b:BM}(hb:b.t.pc=j)(h0:(q18 c b x).2=0):
  j<(q18 c b x).1.t.pc∧(q18 c b x).1.t.pc≤q40 p k:=by
 obtain⟨e,he,hke,hel,_,_,hall⟩:=q3G h hx0 h7
 rw[he] at hje ⊢
 obtain⟨h1,h2,_⟩:=hall j hkj hje
 obtain⟨h8,h9,haf⟩:=qk1 (q9v h hx).1 h0
 obtain⟨j',hj',hlt,_,h3,_⟩:=qaM h hx _ (hb ▸ haf p)
 have:=(h3 (by rw[h1];omega) h8).1 h9
 rw[h2] at this
 omega
theorem qiu{p:List Ins}(h:qx p=(0,0)){k j:Nat}{x0:Ins}(hx0:p[k]? =some x0)(h7:x0.op=7)(hkj:k<j)(hje:j≤q40 p k):∃x,p[j]? =some x∧qv x=0∧(x.op=8↔j=q40 p k)∧x.op≠7∧x.op≠12∧x.op≠13∧x.op≠16∧x.op≠17:=by
 obtain⟨e,he,hke,hel,⟨y,hy,hy8⟩,_,hall⟩:=q3G h hx0 h7
 rw[he] at hje ⊢
 obtain⟨x,hx⟩:∃x,p[j]? =some x:=⟨_,List.getElem?_eq_getElem (by omega)⟩
 obtain⟨h1,_,h3⟩:=hall j hkj hje
 have hi:=q9v h hx
 have h0:=qgc h hx
 refine⟨x,hx,hi.1,?_,fun e7=>by have:=hi.2.1 e7;rw[h1] at this;omega,?_⟩
 ·by_cases hje2:j=e
  ·subst hje2
   rw[hx] at hy
   obtain rfl:=Option.some.inj hy
   exact⟨fun _=>rfl,fun _=>hy8⟩
  ·exact⟨fun e8=>absurd e8 (h3 (by omega) x hx).2,fun e=>absurd e hje2⟩
 ·have hpl:∀o,x.op=o→(o=12∨o=13∨o=16∨o=17)→False:=fun o ho hoo=>by
   unfold qa5 at h0
   rw[if_neg (by simpa using hi.1)] at h0
   split at h0
   ·omega
   ·split at h0
    ·omega
    ·rename_i hp
     have hp2:q2Y x=2:=by unfold q2Y;rw[if_pos hi.1,if_neg (by omega),if_pos (by omega)]
     exact hp (.inr ⟨hp2,by rw[h1];omega⟩)
  exact⟨fun e=>hpl 12 e (by decide),fun e=>hpl 13 e (by decide),fun e=>hpl 16 e (by decide),fun e=>hpl 17 e (by decide)⟩
theorem qip{c:Cfg}{b:BM}{x:Ins}(h0:(q18 c b x).2≠0)(h1:(q18 c b x).2≠ -1):(q18 c b x).1=b.go∧0<(q18 c b x).2∧(q18 c b x).2≤8:=by
 unfold q18 at h0 h1 ⊢
 by_cases h10:x.op=10
 ·rw[if_pos h10] at h0 ⊢
  split at h0
  ·rw[if_pos (by assumption)];exact⟨rfl,by simp,by simp⟩
  ·exact absurd rfl h0
 rw[if_neg h10] at h0 h1 ⊢
 by_cases h11:x.op=11
 ·rw[if_pos h11] at h0 ⊢
  split at h0
  ·rw[if_pos (by assumption)];exact⟨rfl,by simp,by simp⟩
  ·exact absurd rfl h0
 rw[if_neg h11] at h0 h1 ⊢
 by_cases h14:x.op=14
 ·rw[if_pos h14] at h0 h1
  split at h0
  ·rename_i hal
   rw[hal] at h1
   exact absurd rfl h1
  ·exact absurd rfl h0
 rw[if_neg h14] at h0 h1 ⊢
 by_cases h15:x.op=15
 ·rw[if_pos h15] at h0 ⊢
  split at h0
  ·rw[if_pos (by assumption)];exact⟨rfl,by simp,by simp⟩
  ·exact absurd rfl h0
 rw[if_neg h15] at h0 ⊢
 by_cases h8:x.op=8
 ·rw[if_pos h8];exact⟨rfl,by simp,by simp⟩
 rw[if_neg h8] at h0 ⊢
 by_cases h9:x.op=9
 ·rw[if_pos h9];exact⟨rfl,by simp,by simp⟩
 ·rw[if_neg h9] at h0
  exact absurd rfl h0
theorem qdO{p:List Ins}(h:qx p=(0,0)){k:Nat}{x0:Ins}(hx0:p[k]? =some x0)(h7:x0.op=7){c:Cfg}:∀(n:Nat) (b:BM),k<b.t.pc→b.t.pc≤q40 p k→BI c b→(q5e c p n b).2≠ -1→BI c (q5e c p n b).1∧(0<(q5e c p n b).2∧(q5e c p n b).2≤8)∧(q5e c p n b).1.t.pc≤q40 p k+1
 |0,_,_,_,_,hn=>absurd rfl hn
 |n+1,b,h1,h2,hb,hn=>by
  obtain⟨x,hx,hi, -⟩:=qiu h hx0 h7 h1 h2
  unfold q5e at hn ⊢
  rw[hx] at hn ⊢
  simp only at hn ⊢
  by_cases h0:(q18 c b x).2=0
  ·rw[if_pos h0] at hn ⊢
   obtain⟨h3,h4⟩:=qaC h hx0 h7 h1 h2 hx (c:=c) (b:=b) rfl h0
   exact qdO h hx0 h7 n _ (by omega) h4 (qeo hi hb (by omega)) hn
  ·rw[if_neg h0] at hn ⊢
   obtain⟨h3,h4⟩:=qip h0 hn
   exact⟨qeo hi hb hn,h4,by rw[h3];show b.t.pc+1≤_;omega⟩
section
variable{W0:World}{K Kp:Own}{g:TxG}{c:Cfg}{b:BM}{p:List Ins}{pa:Option Addr}{pcap:Nat}
theorem qjT(h:g.ok W0 K b)(hc:qL c=0)(hp:qx p=(0,0)){x0:Ins}(hx0:p[b.t.pc]? =some x0)(h7:x0.op=7)(hB:BI c {b with t:={b.t with pc:=b.t.pc+1}})(hR:RdE Ins.enc 5 W0 Kp pa p)(q:Own) [ek:qt q K] [ekp:qt q Kp]:
  q0E Tryz.prog W0 89 [.pointer (some ⟨g.xb,0,none⟩), .slice pa p.length pcap] (g.O c b 0++q) fun v own'=>
   ((v= .bool false∧((q5e c p p.length {b with t:={b.t with pc:=b.t.pc+1}}).2= -1∨(q5e c p p.length {b with t:={b.t with pc:=b.t.pc+1}}).1.ad≠ []))∧Ent W0 own' q)∨
   ∃g':TxG,(v= .bool true∧(q5e c p p.length {b with t:={b.t with pc:=b.t.pc+1}}).2≠ -1∧(q5e c p p.length {b with t:={b.t with pc:=b.t.pc+1}}).1.ad= []∧g'.ok W0 K (q5e c p p.length {b with t:={b.t with pc:=b.t.pc+1}}).1∧g'.xb=g.xb)∧
    Ent W0 own' (g'.O c (q5e c p p.length {b with t:={b.t with pc:=b.t.pc+1}}).1 (q5e c p p.length {b with t:={b.t with pc:=b.t.pc+1}}).2++q):=by
 refine qa qj q3C (by simp[q06]) ?_
 generalize hz:q5e c p p.length {b with t:={b.t with pc:=b.t.pc+1}}=z
 obtain⟨e,he,hke,hel, -⟩:=q3G hp hx0 h7
 have h64:=q6A hp
 generalize hk:b.t.pc=k at*
 repeat'((try(conv=>whnf));first|(refine fB ?_)|(refine fA ?_)|(refine fN ?_))
 refine q0Z (σ:=Nat×BM×Int×TxG) (fun _=> []) (fun s=>s.2.2.2.O c s.2.1 s.2.2.1++q) (fun s=>(s.2.2.2.ok W0 K s.2.1∧s.2.2.2.xb=g.xb∧BI c s.2.1)∧((s.2.2.1=0∧q5e c p s.1 s.2.1=z∧k<s.2.1.t.pc∧s.2.1.t.pc≤e∧e<s.1+s.2.1.t.pc)∨(s.2.2.1≠0∧s.2.2.1≠ -1∧(s.2.1,s.2.2.1)=z)))
  (fun s=>if s.2.2.1=0 then s.1+1 else 0) (p.length,{b with t:={b.t with pc:=b.t.pc+1}},0,g) ⟨⟨⟨h.d,h.m,h.a,h.al,h.r,h.w,h.o⟩,rfl,hk ▸ hB⟩, .inl ⟨rfl,by rw[hk];exact hz,by simp only;omega,by simp only;omega,by simp only;omega⟩⟩ trivial (eC) rfl ?_
 rintro⟨n,b1,out,g1⟩ junk ⟨⟨hok,hxb,hBI⟩,hI⟩
 dsimp only at hok hxb hBI hI ⊢
 rw[←hxb]
 rcases hI with ⟨rfl,hrun,hk1,hk2,hk3⟩|⟨ho1,ho2,hrun⟩
 ·obtain⟨x,hx,hi, -⟩:=qiu hp hx0 h7 hk1 (by rw[he];exact hk2)
  obtain⟨m,rfl⟩:∃m,n=m+1:=⟨n-1,by omega⟩
  have hst:=qaC hp hx0 h7 hk1 (by rw[he];exact hk2) hx (c:=c) (b:=b1) rfl
  have hso:=qeo (c:=c) (b:=b1) hi hBI
  rw[q5e,hx] at hrun
  simp only at hrun
  have h1:=hBI.rl
  have h2:=hBI.ol
  have h3:=hBI.wl
  have hsp:=qid hok hc hi hBI.rg (by omega) hBI.dl hBI.tl (by omega) (by omega) (by omega) hBI.ad q
  generalize q18 c b1 x=y at*
  repeat'((try(conv=>whnf));first|(refine fE ?_)|(refine fD ?_)|((with_reducible show IxS _ _ _ _ _);first|((refine ixE hR hx ?_ ?_;(first|rfl|omega))))|((with_reducible show LdN _ _ _ _ _);first|(refine q2e hR hx rfl ?_))|((with_reducible show qf _ _ _ _ _ _);first|((refine q3r hsp ?_ ?_ ?_ (fun v hv=> ?_) (fun s v hv=> ?_);(exact(eC));(exact rfl);(exact rfl);(obtain⟨rfl,hv⟩:=hv);rotate_left;(obtain⟨rfl,hne,hv,hxb2⟩:=hv))))|(refine fA ?_))
  ·refine⟨(m,y.1,y.2,s),⟨⟨hv,hxb2,hso hne⟩,?_⟩,?_,trivial,Ent.refl⟩
   ·by_cases h0:y.2=0
    ·rw[if_pos h0] at hrun
     have:=hst h0
     exact .inl ⟨h0,hrun,by simp only;omega,by simp only;omega,by simp only;omega⟩
    ·rw[if_neg h0] at hrun
     exact .inr ⟨h0,hne,hrun⟩
   ·simp only
    split <;>simp
  ·rw[if_neg (by omega)] at hrun
   exact .inl ⟨⟨rfl, .inl (by rw[←hrun];exact hv)⟩,Ent.refl⟩
 ·subst hrun
  by_cases had:b1.ad= []
  ·have hl:(b1.ad.length:Int)=0:=by rw[had];rfl
   repeat'((try(conv=>whnf));first|(refine fG ?_)|(refine fA ?_))
   exact .inr ⟨g1,⟨q0N (vb (decide_eq_true hl)),ho2,had,hok,rfl⟩,Ent.refl⟩
  ·have hl:¬(b1.ad.length:Int)=0:=fun e=>had (List.eq_nil_of_length_eq_zero (by omega))
   repeat'((try(conv=>whnf));first|(refine fG ?_)|(refine fA ?_))
   exact .inl ⟨⟨q0N (vb (decide_eq_false hl)), .inr had⟩,(eC)⟩
end
open Go
structure ObS where
 a:Option Addr
 cap:Nat
 l:List ObM
 D:Own
abbrev ObS.enc(x:ObS):List Value:= [.slice x.a x.l.length x.cap]
def q5q(S:List ObS):Own:=(S.map ObS.D).flatten
theorem q3k{S:List ObS}{t:Nat}{x:ObS}(hx:S[t]? =some x):q5q S=q5q (S.take t)++(x.D++q5q (S.drop (t+1))):=by
 have h:S=S.take t++(x::S.drop (t+1)):=by
  have:=q4I hx
  conv=>lhs;rw[←List.take_append_drop t S,this]
 conv=>lhs;rw[h]
 simp[q5q]
theorem qbr{S:List ObS}{t:Nat}{x:ObS}(hx:S[t]? =some x)(x':ObS):q5q (S.set t x')=q5q (S.take t)++(x'.D++q5q (S.drop (t+1))):=by
 have ht:=(List.getElem?_eq_some_iff.1 hx).1
 rw[List.set_eq_take_append_cons_drop,if_pos ht]
 simp[q5q]
structure GP where
 gb:Nat
 mb:Nat
 ml:Mp
 da:Option Addr
 dc:Nat
 dD:Own
 ka:Option Addr
 kc:Nat
 ta:Option Addr
 tc:Nat
 tD:Own
 ea:Option Addr
 ec:Nat
 eD:Own
 L:List EH
 X:Own
 oa:Option Addr
 oc:Nat
 oD:Own
 S:List ObS
abbrev GP.cells(g:GP)(c:Cfg)(np:Nat)(s:GS):List Value:= .slice g.da s.d.length g.dc:: .map (some g.mb)::cfL c [.slice g.ka np g.kc, .slice g.ta s.T.length g.tc, .slice g.ea g.L.length g.ec, .slice g.oa g.S.length g.oc, .int .i64 s.n]
abbrev GP.O(g:GP)(c:Cfg)(np:Nat)(s:GS):Own:=(g.gb,fun o=>o=Obj.cells (g.cells c np s).toArray 122 (0,0))::(g.dD++((g.mb,q70 (mpV g.ml))::(g.tD++(g.eD++(g.oD++(q5q g.S++g.X))))))
structure GP.ok(g:GP)(W0:World)(Kp:Own)(ps:List PH)(s:GS):Prop where
 d:qr q7j 58 1 g.da g.dc s.d g.dD
 m:mpR g.ml s.tk
 k:RdE PH.enc 1 W0 Kp g.ka ps
 kp:∀h∈ps,RdE Ins.enc 5 W0 Kp h.a h.p
 t:qr Thr.enc 61 11 g.ta g.tc s.T g.tD
 e:qr EH.enc 116 6 g.ea g.ec g.L g.eD
 em:g.L.map EH.m=s.E
 o:qr ObS.enc 124 1 g.oa g.oc g.S g.oD
 os:∀x∈g.S,qr ObM.enc 127 3 x.a x.cap x.l x.D
 ol:g.S.map ObS.l=s.O
def GP.ev(g:GP)(W0:World)(Y:Own):Prop:=(∀e∈g.L,RdE qM 1 W0 g.X e.ra e.rl∧RdE qM 1 W0 g.X e.wa e.wl)∧∃Z,g.X=Z++Y
theorem GP.ok.ot{g:GP}{W0:World}{Kp:Own}{ps:List PH}{s:GS}(h:g.ok W0 Kp ps s){t:Nat}{x:ObS}(hx:g.S[t]? =some x):s.O.getD t []=x.l:=by
 rw[←h.ol]
 simp[List.getD,hx]
theorem GP.ok.obs{g:GP}{W0:World}{Kp:Own}{ps:List PH}{s:GS}(h:g.ok W0 Kp ps s){t:Nat}{x:ObS}(hx:g.S[t]? =some x){a:Option Addr}{cap:Nat}{D D':Own}{l:List ObM}(hb:qr ObM.enc 127 3 a cap (x.l++l) D)(hb2:qr ObS.enc 124 1 g.oa g.oc (g.S.set t ⟨a,cap,x.l++l,D⟩) D'):
  ({g with oD:=D',S:=g.S.set t ⟨a,cap,x.l++l,D⟩}:GP).ok W0 Kp ps {s with O:=s.O.set t (s.O.getD t []++l)}:=by
 refine⟨h.d,h.m,h.k,h.kp,h.t,h.e,h.em,hb2,fun y hy=> ?_,?_⟩
 ·rcases List.mem_or_eq_of_mem_set hy with hy|rfl
  ·exact h.os y hy
  ·exact hb
 ·rw[h.ot hx,←h.ol,List.map_set]
section
variable{W0:World}{Kp:Own}{g:GP}{c:Cfg}{ps:List PH}{s:GS}
theorem q1O(h:g.ok W0 Kp ps s){t:Nat}(ht:t<g.S.length)(hl:∀l∈s.O,l.length≤1000000)(pc:Nat)(k v:Int)(q:Own):
  q0E Tryz.prog W0 91 [.pointer (some ⟨g.gb,0,none⟩), .int .i64 t, .int .i64 pc, .int .i64 k, .int .u64 v] (g.O c ps.length s++q) fun _ own'=>∃g':GP,
   (g'.ok W0 Kp ps {s with O:=s.O.set t (s.O.getD t []++ [⟨pc,k,v⟩])}∧g'={g with oD:=g'.oD,S:=g'.S}∧g'.S.length=g.S.length)∧Ent W0 own' (g'.O c ps.length {s with O:=s.O.set t (s.O.getD t []++ [⟨pc,k,v⟩])}++q):=by
 obtain⟨x,hx⟩:∃x,g.S[t]? =some x:=⟨_,List.getElem?_eq_getElem ht⟩
 have hxm:=List.mem_of_getElem? hx
 have hB:=h.os x hxm
 have hxl:x.l.length≤1000000:=hl x.l (by rw[←h.ol];exact List.mem_map_of_mem hxm)
 have hO:=h.o
 have hOR:=hO.rd (W0:=W0)
 refine qa qj q3O (by simp[q0h]) ?_
 dsimp only[GP.O]
 rw[q3k hx]
 repeat'((try(conv=>whnf));first|(apply q69 (enc:=ObM.enc) (T:=127) ⟨pc,k,v⟩ hB;(exact rfl);(exact rfl);(omega);(exact rfl);(exact rfl);(omega);intro a1 c1 D1 hb1)|(apply q5Q (enc:=ObS.enc) (T:=124) (j:=t) (k:=0) ⟨a1,c1,x.l++ [⟨pc,k,v⟩],D1⟩ hO hx;(exact rfl);(omega);(simp only[ObS.enc,List.length_append,List.length_cons,List.length_nil,Nat.zero_add];exact rfl);(exact rfl);intro D2 hb2)|((with_reducible show Ld _ _ _ _);first|(refine q1M hOR hx rfl ?_))|((with_reducible show IxS _ _ _ _ _);first|((refine ixE hOR hx ?_ ?_;(first|rfl|omega))))|(refine fA ?_)|(refine qc (fun bk hbk=> ?_))|(refine q4T.mk ?_ ?_))
 all_goals
  refine⟨{g with oD:=D2,S:=g.S.set t ⟨a1,c1,x.l++ [⟨pc,k,v⟩],D1⟩},⟨h.obs hx hb1 hb2,rfl,List.length_set ..⟩,?_⟩
  dsimp only[GP.O,GP.cells]
  rw[qbr hx,List.length_set]
  exact(eC)
end
open Go
section
variable{W0:World}{Kp Y:Own}{g:GP}{c:Cfg}{ps:List PH}{s:GS}
theorem qaB(h:g.ok W0 Kp ps s){t:Nat}{th:Thr}(hth:s.T[t]? =some th){ph:PH}(hph:ps[t]? =some ph)(pc:Nat)(q:Own) [ek:qt q Kp]:
  q0E Tryz.prog W0 92 [.pointer (some ⟨g.gb,0,none⟩), .int .i64 t, .int .i64 pc] (g.O c ps.length s++q) fun _ own'=>∃g':GP,
   (g'.ok W0 Kp ps {s with T:=s.T.set t {th with pc:=pc,dn:=decide (pc=ph.p.length)}}∧g'={g with tD:=g'.tD})∧Ent W0 own' (g'.O c ps.length {s with T:=s.T.set t {th with pc:=pc,dn:=decide (pc=ph.p.length)}}++q):=by
 refine qa qj q5J (by simp[q1j]) ?_
 have hT:=h.t
 have hTR:=hT.rd (W0:=W0)
 have hK:=h.k
 have ht:=(List.getElem?_eq_some_iff.1 hth).1
 have hth2:(s.T.set t {th with pc:=pc})[t]? =some {th with pc:=pc}:=List.getElem?_set_self ht
 have hlen:s.T.length=(s.T.set t {th with pc:=pc}).length:=(List.length_set ..).symm
 have hdn:(decide ((pc:Int)=ph.p.length))=decide (pc=ph.p.length):=dd (by omega)
 dsimp only[GP.O]
 repeat'((try(conv=>whnf));first|(apply q5Q (enc:=Thr.enc) (T:=61) (j:=t) (k:=10) {th with pc:=pc,dn:=decide (pc=ph.p.length)} hb1 hth2;(exact rfl);(omega);(rw[hdn];exact rfl);(exact rfl);intro D2 hb2)|(apply q5Q (enc:=Thr.enc) (T:=61) (j:=t) (k:=0) {th with pc:=pc} hT hth;(exact rfl);(omega);(exact rfl);(exact rfl);intro D1 hb1)|((with_reducible show Ld _ _ _ _);first|(refine q1M hK hph rfl ?_))|((with_reducible show IxS _ _ _ _ _);first|((refine ixE hTR hth ?_ ?_;(first|rfl|omega)))|((refine ixE hK hph ?_ ?_;(first|rfl|omega))))|(refine fA ?_))
 all_goals
  rw[List.set_set] at hb2
  refine⟨{g with tD:=D2},⟨⟨h.d,h.m,h.k,h.kp,hb2,h.e,h.em,h.o,h.os,h.ol⟩,rfl⟩,?_⟩
  dsimp only[GP.O,GP.cells]
  rw[List.length_set]
  exact(eC)
theorem perm_X{D:Own}{q:Own}:(D++(g.O c ps.length s++q)).Perm (({g with X:=D++g.X}:GP).O c ps.length s++q):=by
 have h:∀(Y:Own),(D++(Y++(g.X++q))).Perm (Y++((D++g.X)++q)):=fun Y=>by
  rw[←List.append_assoc,List.append_assoc D g.X q]
  exact(List.perm_append_comm.append_right _).trans (by rw[List.append_assoc])
 have:=h ((g.gb,fun o=>o=Obj.cells (g.cells c ps.length s).toArray 122 (0,0))::(g.dD++((g.mb,q70 (mpV g.ml))::(g.tD++(g.eD++(g.oD++q5q g.S))))))
 simpa [GP.O] using this
theorem GP.ok.x{X:Own}(h:g.ok W0 Kp ps s):({g with X:=X}:GP).ok W0 Kp ps s:=⟨h.d,h.m,h.k,h.kp,h.t,h.e,h.em,h.o,h.os,h.ol⟩
theorem GP.ev.x{D:Own}(h:g.ev W0 Y):({g with X:=D++g.X}:GP).ev W0 Y:=⟨fun e he=>⟨(h.1 e he).1.ent (Ent.app Ent.refl),(h.1 e he).2.ent (Ent.app Ent.refl)⟩,by obtain⟨Z,hZ⟩:=h.2;exact⟨D++Z,by show D++g.X=_;rw[hZ,List.append_assoc]⟩⟩
theorem q2H(h:g.ok W0 Kp ps s)(hv:g.ev W0 Y){e:EH}(h1:RdE qM 1 W0 g.X e.ra e.rl)(h2:RdE qM 1 W0 g.X e.wa e.wl)(hl:s.E.length≤1000000)(q:Own):
  q0E Tryz.prog W0 122 [.pointer (some ⟨g.gb,0,none⟩),e.v] (g.O c ps.length s++q) fun _ own'=>∃g':GP,
   (g'.ok W0 Kp ps (s.ev [⟨s.n,e.t,e.k,e.w,e.rl,e.wl⟩])∧g'.ev W0 Y∧g'={g with ea:=g'.ea,ec:=g'.ec,eD:=g'.eD,L:=g'.L})∧Ent W0 own' (g'.O c ps.length (s.ev [⟨s.n,e.t,e.k,e.w,e.rl,e.wl⟩])++q):=by
 refine qa qj q4w (by simp[q0J]) ?_
 have hE:=h.e
 have hLl:g.L.length≤1000000:=by rw[←h.em,List.length_map] at hl;exact hl
 obtain⟨ev,t,k,w,ra,rl,rc,wa,wl,wc⟩:=e
 dsimp only[EH.v] at*
 dsimp only[GP.O]
 repeat'((try(conv=>whnf));first|(apply q69 (enc:=EH.enc) (T:=116) ⟨s.n,t,k,w,ra,rl,rc,wa,wl,wc⟩ hE;(exact rfl);(exact rfl);(omega);(exact rfl);(exact rfl);(omega);intro a1 c1 D1 hb1)|(refine fA ?_)|(refine fL ?_)|(refine fN ?_)|(refine qc (fun bk hbk=> ?_)))
 refine⟨{g with ea:=a1,ec:=c1,eD:=D1,L:=g.L++ [⟨s.n,t,k,w,ra,rl,rc,wa,wl,wc⟩]},⟨⟨h.d,h.m,h.k,h.kp,h.t,hb1,?_,h.o,h.os,h.ol⟩,⟨fun y hy=> ?_,hv.2⟩,rfl⟩,?_⟩
 ·rw[List.map_append,h.em];rfl
 ·rcases List.mem_append.1 hy with hy|hy
  ·exact hv.1 y hy
  ·rw[List.mem_singleton.1 hy];exact⟨h1,h2⟩
 ·dsimp only[GP.O,GP.cells,GS.ev]
  simp only[List.length_append,List.length_cons,List.length_nil,Nat.zero_add]
  exact(eC)
theorem qjl{s:GS}{a b:List EvM}:(s.ev a).ev b=s.ev (a++b):=by unfold GS.ev;rw[List.append_assoc]
theorem q8d(h:g.ok W0 Kp ps s)(hv:g.ev W0 Y)(hl:s.E.length≤900000)(t a:Nat){k:Int}(hk:k=1∨k=2)(q:Own):
  q0E Tryz.prog W0 126 [.pointer (some ⟨g.gb,0,none⟩), .int .i64 t, .int .i64 a, .int .i64 k] (g.O c ps.length s++q) fun _ own'=>∃g':GP,
   (g'.ok W0 Kp ps (s.ev (plE c s.n t k a))∧g'.ev W0 Y∧g'={g with ea:=g'.ea,ec:=g'.ec,eD:=g'.eD,L:=g'.L,X:=g'.X})∧Ent W0 own' (g'.O c ps.length (s.ev (plE c s.n t k a))++q):=by
 refine qa qj q47 (by simp[q0r]) ?_
 cases hs:c.strong with
 |false=>
  have he:=q2H (c:=c) h hv (e:=⟨0,t,k,a,none,[],0,none,[],0⟩) RdE.nil RdE.nil (by omega) q
  have hp:plE c s.n t k a= [⟨s.n,t,k,a,[],[]⟩]:=by unfold plE;rw[hs];rfl
  rw[hp]
  have hsv:(!c.strong)=true:=by rw[hs];rfl
  repeat'((try(conv=>whnf));first|(refine q5s hsv ?_)|((with_reducible show qf _ _ _ _ _ _);first|((refine qm he ?_ ?_ ?_ (fun g' v hg=> ?_);(exact(eC));(exact rfl);(exact rfl))))|(refine fA ?_))
  exact⟨g',⟨hg.1,hg.2.1,by rw[hg.2.2]⟩,Ent.refl⟩
 |true=>
  have hsv:(!c.strong)=false:=by rw[hs];rfl
  rcases hk with rfl|rfl
  ·have hp:plE c s.n t 1 a= [⟨s.n,t,3,0,[],[]⟩]++ [⟨s.n,t,4,0,[(a:Int)],[]⟩]:=by unfold plE;rw[hs];rfl
   rw[hp,←qjl]
   repeat'((try(conv=>whnf));first|(refine qgU hsv ?_)|(refine qc (fun b8 hb8=> ?_);(apply Stop.h))|(refine fA ?_))
   refine Stop.mk ?_
   repeat'((try(conv=>whnf));first|(refine fE ?_)|(refine qc (fun b9 hb9=> ?_);(apply Stop.h))|(refine fM ?_))
   refine Stop.mk ?_
   have hX:∀(X:Own),RdE qM 1 W0 ([(b9,fun o=>o=Obj.cells #[.int .i64 a] 3 (0,0))]++X) (some ⟨b9,0,none⟩) [(a:Int)]:=fun X=>q4E (List.Mem.head _) (fun _ _=>rfl) rfl
   have he1:=fun q=>q2H (q:=q) (c:=c) (g:={g with X:= [(b9,fun o=>o=Obj.cells #[.int .i64 a] 3 (0,0))]++g.X}) h.x hv.x (e:=⟨0,t,3,0,none,[],0,none,[],0⟩) RdE.nil RdE.nil (by omega)
   have hk1:=qG (E:= [(b8,fun o=>o=Obj.cells #[.int .i64 0, .int .i64 t, .int .i64 4, .int .i64 0,(.slice (some ⟨b9,0,none⟩) 1 1),(.slice none 0 0)] 116 (0,0))]) (q:=q) he1
   have he2:=fun(g':GP) (h1:g'.ok W0 Kp ps (s.ev [⟨s.n,t,3,0,[],[]⟩])) (h2:g'.ev W0 Y) (hx:g'.X= [(b9,fun o=>o=Obj.cells #[.int .i64 a] 3 (0,0))]++g.X) (hgb:g'.gb=g.gb)=>hgb ▸ q2H (c:=c) h1 h2 (e:=⟨0,t,4,0,some ⟨b9,0,none⟩,[(a:Int)],1,none,[],0⟩) (hx ▸ hX _) RdE.nil (by simp[GS.ev];omega) q
   repeat'((try(conv=>whnf));first|((with_reducible show qf _ _ _ _ _ _);first|((refine qm hk1 ?_ ?_ ?_ (fun g1 v hg1=> ?_);(exact Ent.of_perm ((List.Perm.swap _ _ _).trans ((perm_X (D:= [_])).cons _)));(exact rfl);(exact rfl);(obtain⟨hg1,hg2,hg3⟩:=hg1)))|((refine qm (he2 g1 hg1 hg2 (by rw[hg3]) (by rw[hg3])) ?_ ?_ ?_ (fun g2 v hg2=> ?_);(exact(eC));(exact rfl);(exact rfl))))|(refine fL ?_)|(refine fN ?_))
   exact⟨g2,⟨hg2.1,hg2.2.1,by rw[hg2.2.2,hg3]⟩,Ent.refl⟩
  ·have hp:plE c s.n t 2 a= [⟨s.n,t,3,0,[],[]⟩]++ [⟨s.n,t,4,0,[],[(a:Int)]⟩]:=by unfold plE;rw[hs];rfl
   rw[hp,←qjl]
   repeat'((try(conv=>whnf));first|(refine qgU hsv ?_)|(refine qc (fun b8 hb8=> ?_);(apply Stop.h))|(refine fA ?_))
   refine Stop.mk ?_
   repeat'((try(conv=>whnf));first|(refine fD ?_)|(refine qc (fun b9 hb9=> ?_);(apply Stop.h))|(refine fM ?_))
   refine Stop.mk ?_
   have hX:∀(X:Own),RdE qM 1 W0 ([(b9,fun o=>o=Obj.cells #[.int .i64 a] 3 (0,0))]++X) (some ⟨b9,0,none⟩) [(a:Int)]:=fun X=>q4E (List.Mem.head _) (fun _ _=>rfl) rfl
   have he1:=fun q=>q2H (q:=q) (c:=c) (g:={g with X:= [(b9,fun o=>o=Obj.cells #[.int .i64 a] 3 (0,0))]++g.X}) h.x hv.x (e:=⟨0,t,3,0,none,[],0,none,[],0⟩) RdE.nil RdE.nil (by omega)
   have hk1:=qG (E:= [(b8,fun o=>o=Obj.cells #[.int .i64 0, .int .i64 t, .int .i64 4, .int .i64 0,(.slice none 0 0),(.slice (some ⟨b9,0,none⟩) 1 1)] 116 (0,0))]) (q:=q) he1
   have he2:=fun(g':GP) (h1:g'.ok W0 Kp ps (s.ev [⟨s.n,t,3,0,[],[]⟩])) (h2:g'.ev W0 Y) (hx:g'.X= [(b9,fun o=>o=Obj.cells #[.int .i64 a] 3 (0,0))]++g.X) (hgb:g'.gb=g.gb)=>hgb ▸ q2H (c:=c) h1 h2 (e:=⟨0,t,4,0,none,[],0,some ⟨b9,0,none⟩,[(a:Int)],1⟩) RdE.nil (hx ▸ hX _) (by simp[GS.ev];omega) q
   repeat'((try(conv=>whnf));first|((with_reducible show qf _ _ _ _ _ _);first|((refine qm hk1 ?_ ?_ ?_ (fun g1 v hg1=> ?_);(exact Ent.of_perm ((List.Perm.swap _ _ _).trans ((perm_X (D:= [_])).cons _)));(exact rfl);(exact rfl);(obtain⟨hg1,hg2,hg3⟩:=hg1)))|((refine qm (he2 g1 hg1 hg2 (by rw[hg3]) (by rw[hg3])) ?_ ?_ ?_ (fun g2 v hg2=> ?_);(exact(eC));(exact rfl);(exact rfl))))|(refine fL ?_)|(refine fN ?_))
   exact⟨g2,⟨hg2.1,hg2.2.1,by rw[hg2.2.2,hg3]⟩,Ent.refl⟩
end
end Go.Proofs.YtkieffpjjfebjaaGreatDoor
