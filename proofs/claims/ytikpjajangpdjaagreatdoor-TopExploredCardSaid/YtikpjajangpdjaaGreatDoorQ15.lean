/- What the laws share, part 15. No condition. -/
import Derived.Test.YtikpjajangpdjaaGreatDoorQ14
set_option maxHeartbeats 8000000
set_option maxRecDepth 10000
namespace Go.Proofs.YtikpjajangpdjaaGreatDoor
open Go
theorem qk9{c:Cfg}{p:jg}{t:Int}{m:MS}{x:GT}{a:AT}{i:Ins}(h:(q0H c p t m x a i).2.2.1.ph=16):∃d,(q0H c p t m x a i).2.1.at'=some d:=by
 have hb:=q9M (c:=c) (t:=t) (m:=m) (x:=a) (.inr h);unfold q0H;dsimp only;rw[if_pos hb];exact⟨_,rfl⟩
theorem qpt{c:Cfg}{p:jg}{t:Int}{m:MS}{x:GT}{i:Ins}(h:(q1f c p t m x i).2.2.1.ph=16):(∃a,x.at'=some a)/\∃j,(q1f c p t m x i).2.1.at'=some j:=by
 unfold q1f at h ⊢
 split
 ·rename_i d;rw[if_pos d] at h;exact absurd h (by show(2:Int)≠16;decide)
 ·rename_i d;rw[if_neg d] at h
  split
  ·rename_i e;rw[if_pos e] at h;cases f:x.at' with
   |none=>rw[f] at h;exact absurd h (by show(0:Int)≠16;decide)
   |some a=>
    rw[f] at h;exact⟨⟨a,rfl⟩,qk9 h⟩
  ·rename_i e;rw[if_neg e] at h;exact absurd h (by show(0:Int)≠16;decide)
theorem qjW{c:Cfg}{p:jg}{n:Nat}{t:Int}{m:MS}{x:GT}(h:(qH c p n t m x).2.2.1.ph=16):(∃a,x.at'=some a)/\∃e,(qH c p n t m x).2.1.at'=some e:=by
 have hw:∀f,(q0x n p t m x f).2.2.1.ph≠16:=fun f=>by
  show(q3q t m f).2.2≠16;unfold q3q
  split
  ·show(25:Int)≠16;decide
  ·show(26:Int)≠16;decide
 have he:∀i,(q2I c p n t m x i).2.2.1.ph=16->(∃a,x.at'=some a)/\∃e,(q2I c p n t m x i).2.1.at'=some e:=fun i h=>by
  unfold q2I at h ⊢
  split at h
  ·exfalso;unfold q04 at h
   split at h
   ·exact absurd h (by show(0:Int)≠16;decide)
   ·split at h
    ·exact absurd h (by show(1:Int)≠16;decide)
    ·exact absurd h (by show(1:Int)≠16;decide)
  ·rename_i o;rw[if_neg o]
   split at h
   ·exact absurd h (hw _)
   ·rename_i v;rw[if_neg v];exact qpt h
 unfold qH at h ⊢;cases l:p[x.th.pc]? with
 |none=>rw[l] at h;exact absurd h (by show(0:Int)≠16;decide)
 |some i=>
  rw[l] at h;dsimp only at h ⊢;cases j:x.fn with
  |some f=>rw[j] at h;exact absurd h (hw f)
  |none=>
   rw[j] at h;dsimp only at h ⊢;cases d:x.at' with
   |none=>rw[d] at h;dsimp only at h ⊢;have:=he i h;rw[d] at this;exact this
   |some a=>
    rw[d] at h;dsimp only at h ⊢
    split at h
    ·rename_i hb;rw[if_pos hb];exact⟨⟨a,rfl⟩,qk9 h⟩
    ·rename_i hb;rw[if_neg hb];have:=he i h;rw[d] at this;exact this
abbrev qbV(x:ChM):CH:=⟨x.t,x.f,none,[],0⟩
abbrev xP(b:Nat)(ca:j9)(k cc:Nat):Obj->Prop:=fun z=>z=Obj.cells #[ptr b, .slice ca k cc] 90 (0,0)
section
variable{W0:World}{own:Own}{c:Cfg}{n:Nat}{ps:List (jg)}{M:MQ}{m:MS}{S:List StM}{ev:jl}{r:RM}{t:Nat}{y:TW}{p:jg}{h:TH}{x:GT}{b:Nat}
theorem q7n(e:RdE qrg 1 W0 M.tD M.ta (M.L.map fun y=>y.h.b))(f:M.L[t]? =some y)(l:M.L.length<=16) [o:qy M.b (maP M S) own] [m2:qr own M.tD]:jo W0 58 [ptr M.b,j5 t] own (ptr y.h.b):=by
 refine qg (sH [] ?_);have d:=qk0 f;have hlt:=(z7.1 f).1;have hti:(t:Int)<(M.L.map fun y=>y.h.b).length:=by rw[zi];omega
 have hn2:(M.L.map fun y=>y.h.b).length<=16:=by rw[zi];exact l
 have j:Cl W0 own M.b 1 (.slice M.ta (M.L.map fun y=>y.h.b).length M.tc):=qk o rfl
 repeat'((try conv=>whnf);first|refine fH ?_|refine fG ?_|refine q0m j ?_|apply gLd;refine q0l e d rfl ?_|(apply qF;first|refine ixE e d ?_ ?_;(first|rfl|omega)))
 all_goals exact⟨rfl,(eC)⟩
theorem q6n{o:j9}(j:h.ap= .pointer o) [e:qy b (thP c t n p h x) own]:jo W0 59 [ptr b] own (.tuple #[.pointer o, .bool false]):=by
 refine qg (sH (jq 12 3 [0]) ?_);have d:Cl W0 own b 0 h.ap:=qk e rfl;have f:Cl W0 own b 12 (.bool false):=qk e rfl;rw[j] at d
 repeat'((try conv=>whnf);first|refine fD ?_|refine q0m d ?_|refine q0m f ?_)
 all_goals exact⟨rfl,(eC)⟩
theorem qjJ{A:Own} [z:qy b (thP c t n p h x) own](e:AtO W0 c t h x A){F:Own}(j:FeO h.lb t n x.fn F):jo W0 89 [ptr b] own (.bool x.rest):=by
 refine qg (sH [] ?_);have d:Cl W0 own b 0 h.ap:=qk z rfl;have o:Cl W0 own b 14 h.lb.fp:=qk z rfl;have C:Cl W0 own b 10 (j5 x.tr):=qk z rfl;unfold GT.rest;rw[show decide (x.tr=0)=decide ((x.tr:Int)=0) from decide_eq_decide.2 Yu];unfold AtO at e;unfold FeO at j;cases B:x.at' with
 |some a=>
  rw[B] at e;obtain⟨ah,E,v, -⟩:=e;rw[v] at d;rw[show((some a:Option AT).isNone&&x.fn.isNone&&decide ((x.tr:Int)=0))=false from rfl]
  repeat'((try conv=>whnf);first|refine fH ?_|refine fI ?_|refine q0m d ?_)
  all_goals exact⟨rfl,(eC)⟩
 |none=>
  rw[B] at e;rw[e.1] at d;cases l:x.fn with
  |some f=>
   rw[l] at j;obtain⟨fb,w, -⟩:=j;rw[w] at o;rw[show((none:Option AT).isNone&&(some f:Option FT).isNone&&decide ((x.tr:Int)=0))=false from rfl]
   repeat'((try conv=>whnf);first|refine fH ?_|refine fI ?_|refine q0m d ?_|refine q0m o ?_)
   all_goals exact⟨rfl,(eC)⟩
  |none=>
   rw[l] at j;rw[j.1] at o;rw[show((none:Option AT).isNone&&(none:Option FT).isNone&&decide ((x.tr:Int)=0))=decide ((x.tr:Int)=0) from rfl]
   repeat'((try conv=>whnf);first|refine fH ?_|refine q0m d ?_|refine q0m o ?_|refine q0m C ?_)
   all_goals exact⟨rfl,(eC)⟩
theorem qjj{s:StM}(j:qo StM.enc 138 9 M.sa M.sc (S++ [s]) M.sD)(hS:S.length<=1000) [l:qy M.b (maP M (S++ [s])) own] [m2:qr own M.sD]:jo W0 86 [ptr M.b] own (stV s):=by
 refine qg (sH (jq 12 3 [28,0]) ?_);have hl:(S++ [s]).length=S.length+1:=Yw;have f:(S++ [s])[S.length]? =some s:=Yw;have e:=j.rd (W0:=W0);have d:Cl W0 own M.b 2 (.slice M.sa (S++ [s]).length M.sc):=qk l rfl
 repeat'((try conv=>whnf);first|refine fH ?_|refine fG ?_|refine q0m d ?_|(apply qF;first|refine ixE e f ?_ ?_;(first|rfl|omega))|apply q24;refine q0C e f rfl ?_|refine fB ?_|refine fL ?_|refine fM ?_|refine qf fun bk hbk=>?_)
 all_goals exact⟨rfl,(eC)⟩
theorem qdk(f:Cl W0 own b 3 (j7)):jn W0 87 [ptr b] own fun v own'=>∃s:j9×Nat,v= .slice s.1 0 s.2/\Ent W0 own' own:=by
 refine sH [] ?_;have e:=qL (W0:=W0) (own:=own) (a:=none) (l:= []) (cap:=0) RdE.nil Yv
 repeat'((try conv=>whnf);first|refine q0m f ?_|(apply qe;first|refine qi e fun y v j=>?_;obtain⟨a2,c2,D2⟩:=y;obtain⟨rfl,d⟩:=j;dsimp only at d))
 exact⟨(a2,c2),rfl,sbE⟩
end
open Go
section
variable{W0:World}{own:Own}{c:Cfg}{n:Nat}{ps:List (jg)}{M:MQ}{m:MS}{S:List StM}{ev:jl}{r:RM}{t:Nat}{y:TW}{p:jg}{h:TH}{x:GT}{b:Nat}{L:List TW}
theorem MK.x_at{xs:List GT}{E:jl}(e:MK W0 c n ps M ⟨m,xs.set t x,S,E⟩)(f:M.L[t]? =some y):y.x=x:=by
 have d:(M.L.map TW.x)[t]? =some y.x:=by rw[zI,f];rfl
 rw[e.x] at d;dsimp only at d;rw[zx,if_pos rfl] at d
 split at d
 ·exact(Option.some.inj d).symm
 ·cases d
theorem qo7{t:Int}:(qH c p n t m x).2.2.1.t=t:=by
 have he:∀i,(q2I c p n t m x i).2.2.1.t=t:=fun i=>by
  unfold q2I
  split
  ·exact qc9.1
  ·split
   ·rfl
   ·exact qeO.1
 unfold qH
 split
 ·rfl
 ·split
  ·rfl
  ·split
   ·split
    ·rfl
    ·exact he _
   ·exact he _
theorem qdI [mm:qy b (thP c t n p h x) own]:jo W0 56 [ptr b] own (.agg x.th.enc.toArray):=by
 refine qg (sH [] ?_);have l:∀{own':Own} {K:jh->Prop},Ent W0 own' own->K x.th.enc.toArray->LdN W0 own' ⟨b,0+32,none⟩ 11 K:=fun he j=>by
  obtain⟨vs,d,e,f⟩:=q2m (W0:=W0) (own:=own) (n:=11) (off:=0+32) (K:=fun v=>v=x.th.enc.toArray) x.th.enc mm.h rfl rfl rfl;subst f;exact⟨_,d,fun w hw=>e w (he w hw),j⟩
 repeat'((try conv=>whnf);first|refine fD ?_|refine l ?_ ?_;exact sbE|refine fL ?_|refine fM ?_|refine qf fun bk hbk=>?_)
 all_goals exact⟨rfl,(eC)⟩
theorem q9V(e:L[t]? =some y){ah:AH}{a:AT}{E:Own}(d:y.A=ah.O c t a a.ph.no a.ph.en E):qy ah.b (atP c t ah a a.ph.no) (TsO c n 0 L):=by
 refine⟨?_⟩;rw[q4L L 0 t y e,zA,ThO,d];exact zJ _ (zP _ (zl _ (zP _ zj)))
theorem qpO{z:TW}{x':GT}{A:AT}{ah:AH}(o:y.h.ap=ptr ah.b)(v:y.h.ap≠ .pointer none->z.x.at'≠none->z.h.ap=y.h.ap)(E:z.x=x')(l:x'.at'=some A)(w:z.ok W0 c n t)(F:L[t]? =some z):∃d:AH,qy ah.b (atP c t d A A.ph.no) (TsO c n 0 L):=by
 subst E;have D:=v (by rw[o];exact fun e=>by cases e) (by rw[l];exact fun e=>by cases e);have f:=w.at';unfold AtO at f;rw[l] at f;obtain⟨d,E3,j, -, -,B⟩:=f;have C:d.b=ah.b:=by rw[D,o] at j;simpa using j.symm
 exact⟨d,⟨by rw[<-C];exact(q9V F B).h⟩⟩
theorem qjT{xb:Nat}{cl:List CH}{ca:j9}{cc:Nat}{cD:Own}(hF:qz W0)(hk:MK W0 c n ps M r)(ht:t<ps.length)(hn:ps.length<=16)(hg:StG c ps n r t)(hB:qo CH.enc 61 3 ca cc cl cD)(hcl:cl.length<=5000)(Q:Own):
  jn W0 53 [ptr xb,c.v,j5 t] ((xb,xP M.b ca cl.length cc)::(cD++M.O c n r.m r.S Q)) fun v own'=>
   ∃s:MQ×j9×Nat×Own,(v= .tuple #[]/\s.1.b=M.b/\MK W0 c n ps s.1 (q0E c ps n r t)/\qo CH.enc 61 3 s.2.1 s.2.2.1 (cl++(chR c ps n r t).map qbV) s.2.2.2)/\
    Ent W0 own' ((xb,xP M.b s.2.1 (cl++(chR c ps n r t).map qbV).length s.2.2.1)::(s.2.2.2++s.1.O c n (q0E c ps n r t).m (q0E c ps n r t).S Q)):=by
 refine sH [3,5,7,9,11,14,16,17,20,0,3,5,7,9,11,13,16,18,19,21,24,0] ?_;obtain⟨y,hy,hx,hp⟩:=hk.at ht;have hML:=hk.len;have aO:=hk.ok.hL t y hy;have hm1:qy y.h.b (thP c t n y.p y.h y.x) (TsO c n 0 M.L):=⟨q5s hy⟩
 have Z:=fun(own':Own) (N:qy M.b (maP M r.S) own') (m2:qr own' M.tD)=>q7n (W0:=W0) (own:=own') (S:=r.S) hk.ok.ht hy Yu
 have j:=fun(o:j9) (ho:y.h.ap= .pointer o) (own':Own) (N:qy y.h.b (thP c t n y.p y.h y.x) own')=>q6n (W0:=W0) (own:=own') (c:=c) (t:=t) (n:=n) (p:=y.p) (h:=y.h) (x:=y.x) (b:=y.h.b) ho
 have A:=fun Q=>qcr (W0:=W0) (n:=n) hF hk ht hn hg Q
 have aH:goM r t= !y.x.th.dn:=by unfold goM;rw[hx]
 have I:chR c ps n r t=if y.x.th.dn then [] else chN y.x (qH c y.p n t r.m y.x).2.1 (qH c y.p n t r.m y.x).2.2.1:=by unfold chR;simp only[hx,hp]
 have C:q0E c ps n r t=if y.x.th.dn then r else⟨(qH c y.p n t r.m y.x).1,r.xs.set t (qH c y.p n t r.m y.x).2.1,r.S++ [(qH c y.p n t r.m y.x).2.2.1],r.E++(qH c y.p n t r.m y.x).2.2.2.map (q77 r.S.length)⟩:=by unfold q0E;simp only[hx,hp]
 --what was decided before
 have W:y.h.ap= .pointer none/\y.x.dec=false\/∃(ah:AH) (a:AT),y.h.ap=ptr ah.b/\y.x.at'=some a/\y.x.dec=a.dn/\qy ah.b (atP c t ah a a.ph.no) (TsO c n 0 M.L):=by
  have:=aO.at';unfold AtO at this;unfold GT.dec;cases e:y.x.at' with
  |none=>rw[e] at this;exact .inl ⟨this.1,rfl⟩
  |some a=>
   rw[e] at this;obtain⟨ah,E,h1,_,_,h2⟩:=this;exact .inr ⟨ah,a,h1,rfl,rfl,q9V hy h2⟩
 rw[aH] at A;cases hd:y.x.th.dn with
 |true=>
  rw[hd] at A I C;rw[if_pos rfl] at I C;rw[I,C];rw[C] at A;rw[Z5,zz]
  rcases W with ⟨w, -⟩|⟨ah,a,w, -, -,aJ⟩
  ·have j:=j _ w
   repeat'((try conv=>whnf);first|refine fI ?_|refine fE ?_|(apply qe;first|refine qd (Z _ Yx Yx) ?_|refine qd (j _ Yx) ?_|refine qx (b:=M.b) (D:=M.mh.O r.m++(M.tD++(M.sD++(M.eD++(M.gD++(TsO c n 0 M.L++ [])))))) A (fun Q=>sbE) fun R v hv=>?_;obtain⟨rfl,H,f, -⟩:=hv)|refine fO ?_|refine fA ?_|refine qf fun bk ax=>?_)
   all_goals exact⟨(R,ca,cc,cD),⟨rfl,H,f,hB⟩,sbE⟩
  ·have j:=j _ w;have J:=fun(own':Own) (N:qy ah.b (atP c t ah a a.ph.no) own')=>q0P (W0:=W0) (own:=own') (b:=ah.b) (d:=a.dn) (qk N rfl)
   repeat'((try conv=>whnf);first|refine fH ?_|refine fE ?_|(apply qe;first|refine qd (Z _ Yx Yx) ?_|refine qd (j _ Yx) ?_|refine qd (J _ Yx) ?_|refine qx (b:=M.b) (D:=M.mh.O r.m++(M.tD++(M.sD++(M.eD++(M.gD++(TsO c n 0 M.L++ [])))))) A (fun Q=>sbE) fun R v hv=>?_;obtain⟨rfl,H,f, -⟩:=hv)|refine fO ?_|refine fA ?_|refine qf fun bk ax=>?_)
   all_goals exact⟨(R,ca,cc,cD),⟨rfl,H,f,hB⟩,sbE⟩
 |false=>
  rw[hd] at A I C;rw[if_neg Yv] at I C;rw[C] at A ⊢;rw[I];have aB:=qjW (c:=c) (p:=y.p) (n:=n) (t:=t) (m:=r.m) (x:=y.x);have aN:=qo7 (c:=c) (p:=y.p) (n:=n) (t:=t) (m:=r.m) (x:=y.x);have hS:=hg.S;clear I C aH hg;generalize qH c y.p n t r.m y.x=z at*;obtain⟨m',x',⟨st,ae,sat,aP⟩,evs⟩:=z;dsimp only at aB aN A ⊢;subst aN;have aI:=fun(R:MQ) (hs:qo StM.enc 138 9 R.sa R.sc (r.S++ [⟨t,ae,sat,aP⟩]) R.sD) (own':Own) (N:qy R.b (maP R (r.S++ [⟨t,ae,sat,aP⟩])) own') (m2:qr own' R.sD)=>qjj (W0:=W0) (own:=own') hs hS
  have aA:=fun(l:TW) (h1:AtO W0 c t l.h x' l.A) (h2:FeO l.h.lb t n x'.fn l.F) (own':Own) (N:qy y.h.b (thP c t n l.p l.h x') own')=>qjJ (W0:=W0) (own:=own') (n:=n) (p:=l.p) (h:=l.h) (x:=x') (b:=y.h.b) h1 h2
  have aL:=fun(l:TW) (own':Own) (N:qy y.h.b (thP c t n l.p l.h x') own')=>qdI (W0:=W0) (own:=own') (c:=c) (t:=t) (n:=n) (p:=l.p) (h:=l.h) (x:=x') (b:=y.h.b)
  unfold chN;dsimp only
  by_cases V:ae=16
  ·rw[if_pos V];obtain⟨⟨a0,aQ⟩,⟨a',aC⟩⟩:=aB V;have U:x'.dec=a'.dn:=by unfold GT.dec;rw[aC]
   rw[U]
   rcases W with ⟨w,hw⟩|⟨ah,a,w,haa, -,aJ⟩
   ·exfalso;have:=aO.at';unfold AtO at this;rw[aQ] at this;obtain⟨ah,E,h1,_⟩:=this;rw[w] at h1;cases h1
   have j:=j _ w;have J:=fun(own':Own) (N:qy ah.b (atP c t ah a a.ph.no) own')=>q0P (W0:=W0) (own:=own') (b:=ah.b) (d:=a.dn) (qk N rfl)
   have aF:=fun(O:AH) (own':Own) (N:qy ah.b (atP c t O a' a'.ph.no) own')=>q0P (W0:=W0) (own:=own') (b:=ah.b) (d:=a'.dn) (qk N rfl)
   have aR:=fun(O:AH) (own':Own) (N:qy ah.b (atP c t O a' a'.ph.no) own')=>qdk (W0:=W0) (own:=own') (b:=ah.b) (qk N rfl)
   cases P:a'.dn
   all_goals
    rw[P] at aF
    first
     |rw[if_pos rfl]
     |rw[if_neg Yv,Z5,zz]
    repeat'((try conv=>whnf);first|refine fH ?_|refine fE ?_|refine fD ?_|refine fF ?_|refine q1y 1 ?_|refine qf fun bk ax=>?_|apply q0z (enc:=CH.enc) (T:=61) (⟨t,0,none,[],0⟩:CH) hB;exact rfl;exact rfl;omega;exact rfl;exact rfl;omega;intro a5 c5 D5 Y|(apply qe;first|refine qd (Z _ Yx Yx) ?_|refine qd (j _ Yx) ?_|refine qd (J _ Yx) ?_|refine qd (az _ Yx Yx) ?_|refine qd (aG _ Yx) ?_|refine qi (aS _ Yx) fun y v hv=>?_;obtain⟨a9,c9⟩:=y;subst hv|refine qx (b:=M.b) (D:=M.mh.O r.m++(M.tD++(M.sD++(M.eD++(M.gD++(TsO c n 0 M.L++ [])))))) A (fun Q=>sbE) fun R v hv=>?_;(obtain⟨rfl,H,f,ay⟩:=hv;obtain⟨X,rfl⟩:=MQ.b_eq H;obtain⟨l,G,aw,af⟩:=ay y hy;have F:=f.x_at G;have B:=f.ok.hL t l G;have aU:qy y.h.b (thP c t n l.p l.h x') (TsO c n 0 X.L):=⟨by rw[<-aw,<-F];exact q5s G⟩;have az:=aI {X with b:=M.b} f.ok.hs;have aK:=aA l (F ▸ B.at') (F ▸ B.fe);have aM:=aL l;obtain⟨O,hm4⟩:=qpO w af F aC B G;have aG:=aF O;have aS:=aR O))|refine fO ?_|refine fA ?_|refine fL ?_|refine fN ?_|refine fM ?_)
    all_goals first|exact⟨({X with b:=M.b},ca,cc,cD),⟨rfl,rfl,f,hB⟩,sbE⟩|exact⟨({X with b:=M.b},a5,c5,D5),⟨rfl,rfl,f,Y⟩,by dsimp only;rw[z8];exact sbE⟩
  ·rw[if_neg V];have U:y.h.ap= .pointer none/\y.x.dec=false\/∃(ah:AH) (a:AT),y.h.ap=ptr ah.b/\y.x.dec=a.dn/\qy ah.b (atP c t ah a a.ph.no) (TsO c n 0 M.L):=W.imp id fun⟨ah,a,h1,_,h2,h3⟩=>⟨ah,a,h1,h2,h3⟩
   have aT:=fun(ah:AH) (a:AT) (own':Own) (N:qy ah.b (atP c t ah a a.ph.no) own')=>q0P (W0:=W0) (own:=own') (b:=ah.b) (d:=a.dn) (qk N rfl)
   have c1:∀q:Prop,true=true\/q:=fun _=> .inl rfl
   have c2:∀q:Prop,q\/false=false:=fun _=> .inr rfl
   have c3:¬(false=true\/true=false):=Yw
   rcases U with ⟨w,P⟩|⟨ah,a,w,P,aJ⟩
   rotate_left
   focus
    have J:=aT ah a;rw[<-P] at J
   all_goals
    have j:=j _ w
    by_cases aq:ae=24
    all_goals
     by_cases K:sat=0
     rotate_left
     focus
      have aE:sat≠0:=K;have c4:∀q:Prop,sat≠0\/q:=fun _=> .inl K
      cases au:x'.rest
     rotate_left 2;have aE:¬sat≠0:=fun h=>h K
     have c5:¬(sat≠0\/true=false):=by simp[K]
     cases au:x'.rest
   all_goals first
    |rw[if_neg aq]
    |(rw[if_pos aq];cases aj:y.x.dec)
   all_goals
    try rw[aj] at P
    try rw[aj] at J
    try cases P
   all_goals
    rw[au] at aA
    first
     |rw[if_pos (c1 _),Z5,zz]
     |rw[if_pos (c2 _),Z5,zz]
     |rw[if_neg c3]
     |rw[if_pos (c4 _),Z5,zz]
     |rw[if_neg c5]
    repeat'((try conv=>whnf);first|refine fH ?_|refine fI ?_|refine fE ?_|refine fD ?_|refine fF ?_|refine fG ?_|refine fJ ?_|refine fK ?_|refine qf fun bk ax=>?_|apply q0z (enc:=CH.enc) (T:=61) (⟨t,x'.th.oc,none,[],0⟩:CH) hB;exact rfl;exact rfl;omega;exact rfl;exact rfl;omega;intro a5 c5 D5 Y|apply q0z (enc:=CH.enc) (T:=61) (⟨t,0,none,[],0⟩:CH) hB;exact rfl;exact rfl;omega;exact rfl;exact rfl;omega;intro a5 c5 D5 Y|(apply qe;first|refine qd (Z _ Yx Yx) ?_|refine qd (j _ Yx) ?_|refine qd (J _ Yx) ?_|refine qd (az _ Yx Yx) ?_|refine qd (aK _ Yx) ?_|refine qd (aM _ Yx) ?_|refine qx (b:=M.b) (D:=M.mh.O r.m++(M.tD++(M.sD++(M.eD++(M.gD++(TsO c n 0 M.L++ [])))))) A (fun Q=>sbE) fun R v hv=>?_;(obtain⟨rfl,H,f,ay⟩:=hv;obtain⟨X,rfl⟩:=MQ.b_eq H;obtain⟨l,G,aw,af⟩:=ay y hy;have F:=f.x_at G;have B:=f.ok.hL t l G;have aU:qy y.h.b (thP c t n l.p l.h x') (TsO c n 0 X.L):=⟨by rw[<-aw,<-F];exact q5s G⟩;have az:=aI {X with b:=M.b} f.ok.hs;have aK:=aA l (F ▸ B.at') (F ▸ B.fe);have aM:=aL l))|refine fO ?_|refine fA ?_|refine fL ?_|refine fN ?_|refine fM ?_)
    all_goals first|exact⟨({X with b:=M.b},ca,cc,cD),⟨rfl,rfl,f,hB⟩,sbE⟩|exact⟨({X with b:=M.b},a5,c5,D5),⟨rfl,rfl,f,Y⟩,by dsimp only;rw[z8];exact sbE⟩
end
open Go
instance qr.blk{own:Own}{b:Nat}{q:Obj->Prop} [m:qy b q own]:qr own [(b,q)]:=⟨fun _=>Ent.of_sub (List.singleton_sublist.2 m.h)⟩
section
variable{W0:World}{own:Own}{c:Cfg}{n t:Nat}{p:jg}{h:TH}{x:GT}{a:AT}{ah:AH}{b:Nat}{L:List TW}{y:TW}
def AT.stor(a:AT):Bool:=a.dn&&a.sto&&(match a.ph with
  | .wr _ _=>true
  | .rl _ _=>true
  | .sp=>true
  |_=>false)
theorem qaK(w:0<=a.ck/\a.ck<=1099511627776) [o:qy ah.b (atP c t ah a a.ph.no) own] [A:qy ah.g.b (lgP c.writes ah.g.aa a.ad.length ah.g.ca ah.g.va a.vl.length ah.g.cv ah.g.ib ah.g.P) own]:
  jo W0 60 [ptr ah.b] own (.bool a.stor):=by
 refine qg (sH [] ?_);have v:=q3D (W0:=W0) (own:=own) (b:=ah.b) (d:=a.dn) (ck:=a.ck) (k:=a.code) (qk o rfl) (qk o rfl) w (qk o rfl) (qk o rfl) (qk A rfl);have f:Cl W0 own ah.b 31 (j5 a.ph.no):=qk o rfl;have j:=qaY (x:=a);unfold AT.stor
 by_cases l:a.dn=true/\a.sto=true
 ·rw[if_pos (j.1 l)] at v;rw[l.1,l.2];clear o A j l;generalize a.ph=z at f ⊢;cases z
  all_goals
   dsimp only[AP.no] at f
   repeat'((try conv=>whnf);first|refine fH ?_|refine fI ?_|refine fJ ?_|refine q0m f ?_|apply qe;refine qd (v) ?_)
  all_goals exact⟨rfl,(eC)⟩
 ·rw[if_neg (fun e=>l (j.2 e))] at v;have e:(a.dn&&a.sto)=false:=by
   cases B:a.dn with
   |false=>rfl
   |true=>cases C:a.sto with
    |false=>rfl
    |true=>exact absurd ⟨B,C⟩ l
  rw[e,yV]
  repeat'((try conv=>whnf);first|refine fI ?_|apply qe;refine qd (v) ?_)
  all_goals exact⟨rfl,(eC)⟩
theorem qln(d:L[t]? =some y):qy y.h.b (thP c t n y.p y.h y.x) (TsO c n 0 L):=⟨q5s d⟩
theorem qlk(e:L[t]? =some y){E:Own}(d:y.A=ah.O c t a a.ph.no a.ph.en E):qy ah.g.b (lgP c.writes ah.g.aa a.ad.length ah.g.ca ah.g.va a.vl.length ah.g.cv ah.g.ib ah.g.P) (TsO c n 0 L):=by
 refine⟨?_⟩;rw[q4L L 0 t y e,zA,ThO,d];refine zJ _ (zP _ (zl _ (zP _ (zl _ ?_))));refine zl _ (zl _ (zJ _ (zJ _ (zJ _ ?_))));exact zj
theorem qhL{l:List GT}{f:GT->Bool}{i:Nat}{z:GT}(d:l[i]? =some z):(l.take (i+1)).any f=((l.take i).any f||f z):=by
 rw[zZ,d,List.any_append];simp
variable{ps:List (jg)}{M:MQ}{r:RM}
theorem qhb:x.stor=match x.at' with
  |some a=>a.stor
  |none=>false:=rfl
theorem qdF{xb:Nat}{ca:j9}{k cc:Nat}(F:MK W0 c n ps M r)(hn:ps.length<=16)(R:∀(u:Nat) x a,r.xs[u]? =some x->x.at'=some a->0<=a.ck/\a.ck<=1099511627776)(Q:Own) [K:qr Q [(xb,xP M.b ca k cc)]]:
  jn W0 32 [ptr xb,j5 ps.length] (M.O c n r.m r.S Q) fun v own'=>∃_:Unit,v= .bool (r.xs.any GT.stor)/\Ent W0 own' (M.O c n r.m r.S Q):=by
 refine qE (sH [] ?_);have O:=F.len;have U:r.xs.length=ps.length:=by rw[<-F.x,zi];exact O
 have N:Cl W0 Q xb 0 (ptr M.b):=(qk (own:= [(xb,xP M.b ca k cc)]) ⟨zj⟩ rfl).ent (K.h W0);refine qK (σ:=Nat) (fun s=> [(9,j5 s)]) (fun _=>M.O c n r.m r.S Q) (fun s=>s<=ps.length/\(r.xs.take s).any GT.stor=false) (fun s=>ps.length-s) 0 ⟨zv _,rfl⟩ (eF) sbE rfl ?_;rintro i junk ⟨hi,j⟩
 by_cases w:i<ps.length
 ·have G:(i:Int)<ps.length:=Yu;obtain⟨y,J,T,hp⟩:=F.at w;have V:=F.ok.hL i y J;have hm1:=qln (c:=c) (n:=n) J;have z:=fun(own':Own) (K:qy M.b (maP M r.S) own') (X:qr own' M.tD)=>q7n (W0:=W0) (own:=own') (S:=r.S) F.ok.ht J Yu
  have d:=fun(o:j9) (W:y.h.ap= .pointer o) (own':Own) (K:qy y.h.b (thP c i n y.p y.h y.x) own')=>q6n (W0:=W0) (own:=own') (c:=c) (t:=i) (n:=n) (p:=y.p) (h:=y.h) (x:=y.x) (b:=y.h.b) W
  have e:=qhL (f:=GT.stor) T;rw[j,yP] at e;have A:=V.at';unfold AtO at A;cases C:y.x.at' with
  |none=>
   rw[C] at A;have d:=d _ A.1;have H:y.x.stor=false:=by rw[qhb,C]
   rw[H] at e
   repeat'((try conv=>whnf);first|refine fI ?_|refine fD ?_|refine fF ?_|refine q0m N ?_|(apply qe;first|refine qd (z _ Yx Yx) ?_|refine qd (d _ Yx) ?_)|refine fB ?_|refine fO ?_)
   all_goals exact⟨i+1,⟨w,e⟩,Yu,(eF),sbE⟩
  |some a=>
   rw[C] at A;obtain⟨ah,E,P,hok,hP,B⟩:=A;have d:=d _ P;have hm2:=q9V (c:=c) (n:=n) J B;have hm3:=qlk (c:=c) (n:=n) J B;have l:=fun(own':Own) (K:qy ah.b (atP c i ah a a.ph.no) own') (X:qy ah.g.b (lgP c.writes ah.g.aa a.ad.length ah.g.ca ah.g.va a.vl.length ah.g.cv ah.g.ib ah.g.P) own')=>qaK (W0:=W0) (own:=own') (c:=c) (t:=i) (ah:=ah) (R i y.x a T C)
   have H:y.x.stor=a.stor:=by rw[qhb,C]
   rw[H] at e;cases I:a.stor with
   |false=>
    rw[I] at e l
    repeat'((try conv=>whnf);first|refine fH ?_|refine fD ?_|refine fF ?_|refine q0m N ?_|(apply qe;first|refine qd (z _ Yx Yx) ?_|refine qd (d _ Yx) ?_|refine qd (l _ Yx Yx) ?_)|refine fB ?_|refine fO ?_)
    all_goals exact⟨i+1,⟨w,e⟩,Yu,(eF),sbE⟩
   |true=>
    rw[I] at l H;have D:r.xs.any GT.stor=true:=yj.2 ⟨y.x,zg T,H⟩;rw[D]
    repeat'((try conv=>whnf);first|refine fH ?_|refine fE ?_|refine fF ?_|refine q0m N ?_|(apply qe;first|refine qd (z _ Yx Yx) ?_|refine qd (d _ Yx) ?_|refine qd (l _ Yx Yx) ?_)|refine fO ?_)
    all_goals exact⟨rfl,sbE⟩
 ·obtain rfl:i=ps.length:=Yu;have G:¬(ps.length:Int)<ps.length:=Yu;rw[<-U,Z4] at j;rw[j]
  repeat'((try conv=>whnf);first|refine fG ?_)
  all_goals exact⟨rfl,sbE⟩
theorem qnZ{ia pa ka:j9}{il ks:je}{ic pc kc O:Nat}{ps:jk}{l:jj}(hF:qz W0)(aq:csM c il.length ps ks=(0,0,0))(hc:qG c=0)(h0:c.c0=0/\c.c1=0/\c.c2=0/\c.c3=0)(hb:qT c=0)(hI:RdE q05 1 W0 own ia il)(ax:(il.length:Int)=c.words)(au:il≠ [])(aw:il.length<=1000)(hO:c.orecs=(O:Int))(af:O<=1000)
  (hP:RdE PH.enc 1 W0 own pa ps) (hQ:∀h∈ps,RdE Ins.enc 5 W0 own h.a h.p) (Z:RdE qv 1 W0 own ka ks) (az:1<=ps.length) (hn:ps.length<=16) (aj:∀h∈ps,qw h.p=(0,0)) (aA:∀h∈ps,h.p.length<=100000)
  (P:ks=l.map fun t=>((t:Nat):Int)) (hkb:l.length<=1000) (ay:∀t∈l,t<ps.length) (hg:∀k t,l[k]? =some t->StG c (ps.map PH.p) ps.length (q16 c il O (ps.map PH.p) (l.take k)) t) (N:∀k,((q6y c (ps.map PH.p) (ps.map PH.p).length ⟨ms0 il O (ps.map PH.p).length,(ps.map PH.p).map q3c,[],[]⟩ (l.take k)).length)<=k):
  jn W0 29 [q9i c ia il.length ic pa ps.length pc ka ks.length kc] own fun v own'=>
   ∃y:Nat×MQ×j9×Nat×Own,(v= .tuple #[ptr y.1,j5 0,j5 0,j5 0]/\MK W0 c ps.length (ps.map PH.p) y.2.1 (q16 c il O (ps.map PH.p) l)/\qo CH.enc 61 3 y.2.2.1 y.2.2.2.1 ((q6y c (ps.map PH.p) (ps.map PH.p).length ⟨ms0 il O (ps.map PH.p).length,(ps.map PH.p).map q3c,[],[]⟩ l).map qbV) y.2.2.2.2)/\
    Ent W0 own' ((y.1,xP y.2.1.b y.2.2.1 ((q6y c (ps.map PH.p) (ps.map PH.p).length ⟨ms0 il O (ps.map PH.p).length,(ps.map PH.p).map q3c,[],[]⟩ l).map qbV).length y.2.2.2.1)::(y.2.2.2.2++y.2.1.O c ps.length (q16 c il O (ps.map PH.p) l).m (q16 c il O (ps.map PH.p) l).S own)):=by
 refine sH [] ?_;have e:=fun(own':Own) (m:qr own' own)=>qsG (W0:=W0) (own:=own') (c:=c) (ic:=ic) (pc:=pc) (kc:=kc) hF aq hc h0 hb hI.up ax au aw hO af hP.up (fun h hh=>(hQ h hh).up) Z.up az hn aj aA
 have V:q16 c il O (ps.map PH.p) []=⟨ms0 il O ps.length,ps.map fun h=>q3c h.p,[],[]⟩:=by
  show(⟨ms0 il O (ps.map PH.p).length,(ps.map PH.p).map q3c,[],[]⟩:RM)=_;rw[zi,ya];rfl
 have hlen:(ps.map PH.p).length=ps.length:=zi ..;have E:∀k t,l[k]? =some t->q16 c il O (ps.map PH.p) (l.take (k+1))=q0E c (ps.map PH.p) ps.length (q16 c il O (ps.map PH.p) (l.take k)) t:=fun k t A=>by
  rw[zZ,A];show qiU _ _ _ _ _=_;rw[show(some t).toList= [t] from rfl,q65];show q0E _ _ (ps.map PH.p).length _ _=_
  congr 1
 have d:∀k t,l[k]? =some t->q6y c (ps.map PH.p) (ps.map PH.p).length ⟨ms0 il O (ps.map PH.p).length,(ps.map PH.p).map q3c,[],[]⟩ (l.take (k+1))=q6y c (ps.map PH.p) (ps.map PH.p).length ⟨ms0 il O (ps.map PH.p).length,(ps.map PH.p).map q3c,[],[]⟩ (l.take k)++chR c (ps.map PH.p) ps.length (q16 c il O (ps.map PH.p) (l.take k)) t:=fun k t A=>by
  rw[zZ,A,show(some t).toList= [t] from rfl,q8S]
  congr 1
  show chR _ _ (ps.map PH.p).length _ _=_
  congr 1
 generalize hR:(fun k=>q16 c il O (ps.map PH.p) (l.take k))=R;have j:∀k,q16 c il O (ps.map PH.p) (l.take k)=R k:=fun k=>congrFun hR k
 have J:q16 c il O (ps.map PH.p) l=R l.length:=by rw[<-j,Z4]
 generalize hC:(fun k=>q6y c (ps.map PH.p) (ps.map PH.p).length ⟨ms0 il O (ps.map PH.p).length,(ps.map PH.p).map q3c,[],[]⟩ (l.take k))=C at*;have f:∀k,q6y c (ps.map PH.p) (ps.map PH.p).length ⟨ms0 il O (ps.map PH.p).length,(ps.map PH.p).map q3c,[],[]⟩ (l.take k)=C k:=fun k=>congrFun hC k
 have I:q6y c (ps.map PH.p) (ps.map PH.p).length ⟨ms0 il O (ps.map PH.p).length,(ps.map PH.p).map q3c,[],[]⟩ l=C l.length:=by rw[<-f,Z4]
 rw[J,I];simp only[j] at hg E d;simp only[f] at d N;have w:R 0=⟨ms0 il O ps.length,ps.map fun h=>q3c h.p,[],[]⟩:=by rw[<-j,Yp];exact V
 have z:C 0= []:=by rw[<-f,Yp];rfl
 rw[<-w] at e;have hkl2:ks.length=l.length:=by rw[P,zi]
 rw[show ms0 il O ps.length=(R 0).m by rw[w]] at e;rw[show([]:List StM)=(R 0).S by rw[w]] at e;clear V hR j J w hC f I
 repeat'((try conv=>whnf);first|refine fD ?_|refine qf fun X hbk=>?_|(apply qe;first|refine qi (e _ Yx) fun M v hv=>?_;obtain⟨rfl,ae⟩:=hv)|refine fO ?_|refine fA ?_|refine fL ?_|refine fN ?_)
 rename_i b1 hb1;refine qK (σ:=Nat×MQ×j9×Nat×Own) (fun s=> [(28,j5 s.1)]) (fun s=>(X,xP M.b s.2.2.1 ((C s.1).map qbV).length s.2.2.2.1)::(s.2.2.2.2++s.2.1.O c ps.length (R s.1).m (R s.1).S ((b1,j8 (qdU c (.slice ia il.length ic) (.slice pa ps.length pc) (.slice ka ks.length kc)) 32 (0,0))::own)))
  (fun s=>s.1<=l.length/\s.2.1.b=M.b/\MK W0 c ps.length (ps.map PH.p) s.2.1 (R s.1)/\qo CH.enc 61 3 s.2.2.1 s.2.2.2.1 ((C s.1).map qbV) s.2.2.2.2) (fun s=>l.length-s.1) (0,M,none,0,[])
  ⟨zv _,rfl,ae,by dsimp only;rw[z];exact qo.nil⟩ (eF) (by dsimp only;rw[z];simp only[zk];exact sbE) rfl ?_
 rintro⟨i,M1,ca,cc,cD⟩ junk ⟨hi,K,A,Y⟩;dsimp only at hi K A Y ⊢;obtain⟨M2,rfl⟩:=MQ.b_eq K;have hCi:=N i
 by_cases T:i<l.length
 ·obtain⟨t,W⟩:∃t,l[i]? =some t:=⟨_,z6 T⟩
  have hz:ks[i]? =some ((t:Nat):Int):=by rw[P,zI,W];rfl
  have U:(i:Int)<ks.length:=Yu;have aB:=ay t (zg W);have B:=fun Q=>qjT (W0:=W0) (n:=ps.length) (xb:=X) hF A (by rw[hlen];exact aB) (by rw[hlen];exact hn) (hg i t W) Y (by rw[zi];omega) Q
  rw[<-E i t W,<-zB,<-d i t W] at B;clear z E d hg e;dsimp only[Cfg.v,Cfg.cs] at B
  repeat'((try conv=>whnf);first|refine fF ?_|apply gLd;refine q0l Z hz rfl ?_|(apply qF;first|refine ixE Z hz ?_ ?_;(first|rfl|omega))|(apply qe;first|refine qx (b:=X) (D:=cD++((M.b,maP {M2 with b:=M.b} (R i).S)::(M2.mh.O (R i).m++(M2.tD++(M2.sD++(M2.eD++(M2.gD++(TsO c ps.length 0 M2.L++ [])))))))) B (fun Q=>sbE) fun s v hv=>?_;obtain⟨M3,a5,c5,D5⟩:=s;obtain⟨rfl,G,H,F⟩:=hv;dsimp only at G H F)|refine fB ?_|refine fQ ?_)
  all_goals exact⟨(i+1,M3,a5,c5,D5),⟨T,G,H,F⟩,by simp only;omega,(eF),sbE⟩
 ·obtain rfl:i=l.length:=Yu;have U:¬(l.length:Int)<ks.length:=Yu
  repeat'((try conv=>whnf);first|refine fG ?_)
  all_goals exact⟨(X,{M2 with b:=M.b},ca,cc,cD),⟨rfl,A,Y⟩,sbE⟩
end
open Go
def AP.tick:AP->Bool
 | .tn b=>b
 | .ck _=>true
 | .dc=>true
 | .wr _ _=>true
 | .rl _ _=>true
 | .sp=>true
 | .ps=>true
 |_=>false
def AP.hold:AP->Bool
 | .ck _=>true
 | .dc=>true
 | .wr _ _=>true
 | .rl _ _=>true
 | .sp=>true
 | .ps=>true
 |_=>false
def AT.held(a:AT):je:=match a.ph with
 | .lk _ _=>a.oc.take a.old.length
 | .tn _=>a.oc
 | .ck _=>a.oc
 | .dc=>a.oc
 | .wr _ _=>a.oc
 | .rl l _=>l
 |_=> []
def q17(m:MS)(o:Int):Int:=q7B (m.o.getD o.toNat 0)
def qmy(m:MS)(o:Int):Int:=q4R (m.o.getD o.toNat 0)
def qcN(m:MS)(l w:je):Prop:=∀j,j<w.length->q7B (w.getD j 0)=q17 m (l.getD j 0)/\q4R (w.getD j 0)<0/\okU (w.getD j 0)
def AT.fresh(a:AT):Prop:=a.dn=false/\a.oc= []/\a.old= []
def PhA(c:Cfg)(m:MS)(a:AT):Prop:=
 match a.ph with
 | .idle=>a.fresh
 | .loc k=>a.fresh/\∀w v,k= .wr w v->0<=w
 | .ent n=>a.fresh/\n<=2
 | .rd n _ _=>a.fresh/\n<=2/\0<=a.addr/\a.addr<c.words
 | .lk s ld=>a.dn=false/\a.code=1/\a.ad≠ []/\a.old.length<a.oc.length/\(∀w∈a.ad,qB c w∈a.oc)/\qcN m a.oc a.old/\(ld=true->q4R s<0/\okU s)
 | .tn _=>a.dn=false/\a.old.length=a.oc.length/\((a.code=1->∀w∈a.ad,qB c w∈a.oc)/\(a.oc≠ []->a.code=1/\a.ad≠ []))/\qcN m a.oc a.old
 | .ck l=>a.dn=false/\a.old.length=a.oc.length/\((a.code=1->∀w∈a.ad,qB c w∈a.oc)/\(a.oc≠ []->a.code=1/\a.ad≠ []))/\qcN m a.oc a.old/\l≠ []/\(∀o∈l,o∈a.set)/\∀o∈a.set,o∈l\/q17 m o<=a.rv
 | .dc=>a.dn=false/\a.old.length=a.oc.length/\((a.code=1->∀w∈a.ad,qB c w∈a.oc)/\(a.oc≠ []->a.code=1/\a.ad≠ []))/\qcN m a.oc a.old/\∀o∈a.set,q17 m o<=a.rv
 | .wr A V=>a.dn=true/\a.code=1/\a.ad≠ []/\a.ck=m.ck/\A≠ []/\A.length=V.length/\A.Nodup/\(∀w∈A,w∈a.ad)/\∀w∈a.ad,qB c w∈a.oc
 | .rl l w=>l≠ []/\(∀o∈l,o∈a.oc)/\l.length=w.length/\l.Nodup/\((a.dn=true/\a.code=1/\a.ad≠ []/\a.ck=m.ck/\∀z∈w,z=(m.ck+1)*64)\/(a.dn=false/\qcN m l w))
 | .sp=>a.dn=true/\a.code=1/\a.ad≠ []/\a.ck=m.ck
 | .ps=>True
 | .lv=>True
def AP.past:AP->Bool
 | .ent n=>decide (2<=n)
 |_=>true
structure AI(c:Cfg)(t:Nat)(m:MS)(a:AT):Prop where
 ph:PhA c m a
 rv:a.ph.past=true->0<=a.rv/\a.rv<=m.ck
 tk:a.ph.tick=true->m.sv<=a.tk/\a.tk<m.tk
 ho:a.ph.hold=true->a.tk=m.sv
 hl:∀o∈a.held,qmy m o=t
 oc:∀o∈a.oc,0<=o/\o.toNat<m.o.length
 nd:a.oc.Nodup
 an:a.ad.Nodup
 ar:∀w∈a.ad,0<=w/\w<c.words
 al:a.ad.length=a.vl.length
 st:∀o∈a.set,0<=o/\o.toNat<m.o.length
structure GM(c:Cfg)(n k:Nat)(m:MS):Prop where
 o:∀j,okU (m.o.getD j 0)
 ol:(m.o.length:Int)=c.orecs
 dl:(m.d.length:Int)=c.words
 sl:m.sl.length=n
 sv:0<=m.sv/\m.sv<=m.tk
 tk:m.tk<=k
 ck:0<=m.ck/\m.ck<=k
structure FrM(t:Nat)(a:AT)(m m':MS):Prop where
 ck:m'.ck=m.ck\/(a.ph.hold=true/\m.ck<=m'.ck)
 sv:m'.sv=m.sv\/(a.ph.hold=true/\m'.sv=m.sv+1)
 tk:m.tk<=m'.tk
 ol:m'.o.length=m.o.length
 o:∀k,0<=q4R (m.o.getD k 0)->q4R (m.o.getD k 0)≠t->m'.o.getD k 0=m.o.getD k 0
 ver:∀o,q17 m' o=q17 m o\/(a.dn=true/\(∃l w,a.ph= .rl l w/\o.toNat=(l.headD 0).toNat)/\q17 m' o=m.ck+1)
theorem FrM.same{t:Nat}{a:AT}{m m':MS}(e:m'.ck=m.ck)(f:m'.sv=m.sv)(j:m.tk<=m'.tk)(d:m'.o=m.o):FrM t a m m':=
 ⟨.inl e, .inl f,j,by rw[d],fun k _ _=>by rw[d],fun o=> .inl (by unfold q17;rw[d])⟩
section
variable{c:Cfg}{t u n k:Nat}{m m':MS}{a b:AT}
theorem qcN.same{l w:je}(h:qcN m l w)(o:∀j,j<w.length->q17 m' (l.getD j 0)=q17 m (l.getD j 0)):qcN m' l w:=fun j d=>by
 obtain⟨e,f⟩:=h j d;exact⟨by rw[o j d];exact e,f⟩
theorem q33(h:m'.o=m.o)(o:Int):q17 m' o=q17 m o:=by unfold q17;rw[h]
theorem qcN.cong{l w:je}(h:qcN m l w)(d:m'.o=m.o):qcN m' l w:=h.same fun _ _=>q33 d _
theorem AI.frame(hu:u≠t)(E:FrM t a m m')(hd:a.ph.tick=true->b.ph.tick=true->a.tk≠b.tk)(P:a.ph.hold=true->a.ph.tick=true/\a.tk=m.sv)(hb:AI c u m b):AI c u m' b:=by
 have T:b.ph.hold=true->b.ph.tick=true:=fun h=>by
  cases e:b.ph <;>rw[e] at h <;>first|rfl|cases h
 have G:b.ph.hold=true->a.ph.hold=true->False:=fun v D=>by
  obtain⟨B,C⟩:=P D;exact hd B (T v) (C.trans (hb.ho v).symm)
 have F:b.ph.hold=true->m'.ck=m.ck:=fun h=>by
  rcases E.ck with e|⟨e,_⟩
  ·exact e
  ·exact absurd e (fun e=>G h e)
 have I:b.ph.hold=true->∀o,q17 m' o=q17 m o:=fun h o=>by
  rcases E.ver o with e|⟨_,⟨l,w,e,_⟩,_⟩
  ·exact e
  ·exact(G h (by rw[e];rfl)).elim
 have O:∀o∈b.held,m'.o.getD o.toNat 0=m.o.getD o.toNat 0:=fun o z=>by
  have v:=hb.hl o z;unfold qmy at v;exact E.o _ Yu Yu
 have f:∀o∈b.held,q17 m' o=q17 m o:=fun o z=>by unfold q17;rw[O o z]
 have hck2:m.ck<=m'.ck:=by rcases E.ck with e|⟨_,e⟩ <;>omega
 refine⟨?_,fun h=>⟨(hb.rv h).1,by have:=(hb.rv h).2;omega⟩,fun h=>?_,fun h=>?_,fun o z=>?_,fun o z=>by rw[E.ol];exact hb.oc o z,hb.nd,hb.an,hb.ar,hb.al,fun o z=>by rw[E.ol];exact hb.st o z⟩
 ·have d:=hb.ph;unfold PhA at d ⊢;unfold AT.held at f;have R:∀(l:je) (j:Nat),j<l.length->l.getD j 0∈l:=fun l j J=>by rw[zh,z6 J];exact ZO _
  cases e:b.ph with
  |idle=>rw[e] at d;exact d
  |loc _=>rw[e] at d;exact d
  |ent _=>rw[e] at d;exact d
  |rd _ _ _=>rw[e] at d;exact d
  |lk s ld=>
   rw[e] at d f;dsimp only at d f ⊢;obtain⟨v,D,B,C,K,N,Q⟩:=d;refine⟨v,D,B,C,K,N.same fun j J=>f _ ?_,Q⟩;refine List.mem_iff_getElem?.2 ⟨j,?_⟩;rw[Yo,if_pos J,zh,z6 Yu];rfl
  |tn _=>
   rw[e] at d f;dsimp only at d f ⊢;obtain⟨v,D,B,C⟩:=d;exact⟨v,D,B,C.same fun j J=>f _ (R _ _ Yu)⟩
  |ck l=>
   rw[e] at d f;dsimp only at d f ⊢;have H:=I (by rw[e];rfl);obtain⟨v,D,B,C,K,Q,N⟩:=d;exact⟨v,D,B,C.same fun j J=>H _,K,Q,fun o z=>by rw[H];exact N o z⟩
  |dc=>
   rw[e] at d f;dsimp only at d f ⊢;have H:=I (by rw[e];rfl);obtain⟨v,D,B,C,N⟩:=d;exact⟨v,D,B,C.same fun j J=>H _,fun o z=>by rw[H];exact N o z⟩
  |wr A V=>
   rw[e] at d;dsimp only at d ⊢;rw[F (by rw[e];rfl)];exact d
  |rl l w=>
   rw[e] at d;dsimp only at d ⊢;have H:=I (by rw[e];rfl);rw[F (by rw[e];rfl)];obtain⟨v,K,D,B,C⟩:=d;exact⟨v,K,D,B,C.imp id fun h=>⟨h.1,h.2.same fun j _=>H _⟩⟩
  |sp=>
   rw[e] at d;dsimp only at d ⊢;rw[F (by rw[e];rfl)];exact d
  |ps=>trivial
  |lv=>trivial
 ·have v:=hb.tk h;have:=E.tk;refine⟨?_,Yu⟩
  rcases E.sv with e|⟨e,e2⟩
  ·omega
  ·obtain⟨B,C⟩:=P e;have:=hd B h;omega
 ·rcases E.sv with e|⟨e,_⟩
  ·rw[e];exact hb.ho h
  ·exact(G h e).elim
 ·unfold qmy;rw[O o z];exact hb.hl o z
end
open Go
theorem q92{l:je}{i j:Nat}{v:Int}(h:i≠j):(l.set i v).getD j 0=l.getD j 0:=by
 rw[zh,zx,if_neg h,zh]
theorem q91{l:je}{i:Nat}{v:Int}(h:i<l.length):(l.set i v).getD i 0=v:=by
 rw[zh,zx,if_pos rfl,if_pos h];rfl
theorem qkw{l:je}{j:Nat}(h:j<l.length):l.getD j 0∈l:=by
 rw[zh,z6 h];exact ZO _
theorem qkx{l:je}{i:Nat}{v:Int}(h:∀j,okU (l.getD j 0))(f:okU v)(j:Nat):okU ((l.set i v).getD j 0):=by
 by_cases e:i=j
 ·subst e
  by_cases d:i<l.length
  ·rw[q91 d];exact f
  ·rw[List.set_eq_of_length_le Yu];exact h i
 ·rw[q92 e];exact h j
theorem qpE{l:je}{j:Nat}{v:Int}(h:j<l.length):(l++ [v]).getD j 0=l.getD j 0:=by
 rw[zh,zG h,zh]
theorem qms{l:je}{v:Int}:(l++ [v]).getD l.length 0=v:=by
 rw[zh,zT (zq _),yd];rfl
theorem q5L{l:je}(h:l≠ []):l.headD 0∈l:=by
 cases l with
 |nil=>exact absurd rfl h
 |cons x r=>exact zj
theorem q84{l:je}(h:l≠ []):l.headD 0::l.tail=l:=by
 cases l with
 |nil=>exact absurd rfl h
 |cons x r=>rfl
theorem qpV{s:Int}{t:Nat}(h:q4R s<0)(d:okU s)(ht:t<16):qQ (s+t+1)=s+t+1/\q7B (s+t+1)=q7B s/\q4R (s+t+1)=t/\okU (s+t+1):=by
 unfold q4R at h;unfold okU at d;have hw:okU (s+t+1):=by unfold okU;omega
 refine⟨q4k hw,?_,?_,hw⟩
 ·unfold q7B;omega
 ·unfold q4R;omega
theorem qf2(z:Int):q7B (z*64)=z/\q4R (z*64)<0:=by
 unfold q7B q4R;omega
structure COk(c:Cfg):Prop where
 or:∀w,0<=w->w<c.words->0<=qB c w/\qB c w<c.orecs
section
variable{c:Cfg}{t u n k:Nat}{m m':MS}{a b:AT}
theorem GM.mono(h:GM c n k m):GM c n (k+1) m:=⟨h.o,h.ol,h.dl,h.sl,h.sv,by have:=h.tk;omega,by have:=h.ck;omega⟩
theorem GM.len(h:GM c n k m){o:Int}(h0:0<=o/\o<c.orecs):0<=o/\o.toNat<m.o.length:=by
 have:=h.ol;omega
theorem AI.to(d:AI c t m a)(E:PhA c m b)(v:b.rv=a.rv)(l:b.oc=a.oc)(f:b.ad=a.ad)(w:b.vl=a.vl)(z:b.set=a.set)(j:a.ph.past=true)(A:b.ph.tick=true->b.tk=a.tk/\a.ph.tick=true)(B:b.ph.hold=true->b.tk=m.sv)(C:∀o∈b.held,o∈a.held):AI c t m b:=
 ⟨E,fun _=>by rw[v];exact d.rv j,fun h=>by obtain⟨e,h⟩:=A h;rw[e];exact d.tk h,B,fun o D=>d.hl o (C o D),by rw[l];exact d.oc,by rw[l];exact d.nd,by rw[f];exact d.an,by rw[f];exact d.ar,by rw[f,w];exact d.al,by rw[z];exact d.st⟩
theorem AI.end(G:COk c)(H:GM c n k m)(d:AI c t m a)(I:a.fresh)(C:a.ph.past=true)(code:Int):AI c t m (a.endA c code):=by
 obtain⟨A,v,hold⟩:=I;unfold AT.endA
 split
 ·rename_i z;obtain⟨F,E,hs3⟩:=q8t (a.ad.map (qB c));have f:∀w∈a.ad,qB c w∈q9I (a.ad.map (qB c)):=fun w hw=>(E _).2 (Zi hw)
  have D:0<(q9I (a.ad.map (qB c))).length:=by
   obtain⟨w,hw⟩:=y8 _ z.2;exact List.length_pos_of_mem (f w hw)
  refine⟨⟨A,z.1,z.2,D,f,fun j B=>absurd B (Yh _),fun h=>by cases h⟩,fun _=>d.rv C,fun h=>(by cases h),fun h=>(by cases h),fun o l=>(by simp[AT.held] at l),fun o l=>?_,F.imp fun h=>by omega,d.an,d.ar,d.al,d.st⟩;obtain⟨w,hw,rfl⟩:=zM.1 ((E o).1 l);have:=d.ar w hw;exact H.len (G.or w this.1 this.2)
 ·rename_i z;refine⟨⟨A,by rw[v,hold],⟨fun h w hw=>absurd ⟨h,fun e=>by rw[e] at hw;cases hw⟩ z,fun h=>absurd v h⟩,fun j B=>?_⟩,fun _=>d.rv C,fun h=>(by cases h),fun h=>(by cases h),fun o l=>?_,d.oc,d.nd,d.an,d.ar,d.al,d.st⟩
  ·dsimp only at B;rw[hold] at B;exact absurd B (Yh _)
  ·unfold AT.held at l;dsimp only at l;rw[v] at l;cases l
theorem AI.undo(d:AI c t m a)(e:a.ph.past=true)(code:Int):AI c t m (a.undo code):=
 ⟨trivial,fun _=>d.rv e,fun h=>(by cases h),fun h=>(by cases h),fun o f=>(by cases f),d.oc,d.nd,d.an,d.ar,d.al,d.st⟩
theorem AI.rest(d:AI c t m a)(B:a.held=a.oc)(w:a.ph.past=true)(z:a.ph.tick=true)(j:a.tk=m.sv)(b:AT)(C:b.rv=a.rv)(e:b.oc=a.oc)(f:b.ad=a.ad)(D:b.vl=a.vl)(E:b.set=a.set)(A:b.tk=a.tk)(G:b.old.length=b.oc.length)(H:b.oc≠ []->b.dn=false/\qcN m b.oc b.old):AI c t m b.rest:=by
 unfold AT.rest
 split
 ·exact⟨trivial,fun _=>by(try dsimp only);rw[C];exact d.rv w,fun _=>by(try dsimp only);rw[A];exact d.tk z,fun _=>by(try dsimp only);rw[A];exact j,fun o v=>(by cases v),by(try dsimp only);rw[e];exact d.oc,by(try dsimp only);rw[e];exact d.nd,by(try dsimp only);rw[f];exact d.an,by(try dsimp only);rw[f];exact d.ar,by(try dsimp only);rw[f,D];exact d.al,by(try dsimp only);rw[E];exact d.st⟩
 ·rename_i l;obtain⟨hd,F⟩:=H l;exact⟨⟨l,fun o v=>v,G.symm,by(try dsimp only);rw[e];exact d.nd, .inr ⟨hd,F⟩⟩,fun _=>by(try dsimp only);rw[C];exact d.rv w,fun _=>by(try dsimp only);rw[A];exact d.tk z,fun _=>by(try dsimp only);rw[A];exact j,fun o v=>d.hl o (by rw[B,<-e];exact v),by(try dsimp only);rw[e];exact d.oc,by(try dsimp only);rw[e];exact d.nd,by(try dsimp only);rw[f];exact d.an,by(try dsimp only);rw[f];exact d.ar,by(try dsimp only);rw[f,D];exact d.al,by(try dsimp only);rw[E];exact d.st⟩
theorem qlq{l:je}{x:Int}(h:l.Nodup):(q1Y l x).Nodup:=by
 unfold q1Y
 split
 ·exact h
 ·rename_i d;exact List.nodup_append.2 ⟨h,Yw,fun y f z j e=>by rw[zf.1 j] at e;exact d (e ▸ f)⟩
theorem qhH{l:je}{x y:Int}:y∈q1Y l x↔y∈l\/y=x:=by
 unfold q1Y
 split
 ·rename_i d;exact⟨.inl,fun h=>h.elim id fun e=>e ▸ d⟩
 ·rw[zy,zf]
theorem q7F{cap:Int}{l s:je}{o y:Int}(h:q6D cap l o=some s):y∈s↔y∈l\/y=o:=by
 unfold q6D at h
 split at h
 ·rename_i d;cases h;exact⟨.inl,fun h=>h.elim id fun e=>e ▸ d⟩
 ·split at h
  ·cases h
  ·cases h;rw[zy,zf]
theorem AI.loc(D:COk c)(E:GM c n k m)(d:AI c t m a){q:Ko}(he:a.ph= .loc q):AI c t m ({a with ph:= .idle}.kont c q):=by
 have z:=d.ph;unfold PhA at z;rw[he] at z;dsimp only at z;obtain⟨f,hw⟩:=z;have e:a.ph.past=true:=by rw[he];rfl
 have A:AI c t m {a with ph:= .idle}:=⟨f,fun _=>d.rv e,fun h=>(by cases h),fun h=>(by cases h),fun o j=>(by cases j),d.oc,d.nd,d.an,d.ar,d.al,d.st⟩
 cases q with
 |en code=>exact A.end D E f rfl code
 |tk v=>exact⟨f,fun _=>d.rv e,fun h=>(by cases h),fun h=>(by cases h),fun o j=>(by cases j),d.oc,d.nd,d.an,d.ar,d.al,d.st⟩
 |wr w v=>
  unfold AT.kont;dsimp only
  split
  ·exact A.end D E f rfl 7
  ·rename_i hlt
   split
   ·rename_i ad vl B;obtain⟨F,C,h3⟩:=qfO d.al B;refine⟨f,fun _=>d.rv e,fun h=>(by cases h),fun h=>(by cases h),fun o j=>(by cases j),d.oc,d.nd,?_,fun y l=>?_,F,d.st⟩
    ·dsimp only;rw[C];exact qlq d.an
    ·dsimp only at l;rw[C] at l
     rcases qhH.1 l with l|rfl
     ·exact d.ar y l
     ·exact⟨hw _ v rfl,Yu⟩
   ·exact A.undo rfl 3
end
open Go
section
variable{c:Cfg}{t u n k:Nat}{m m':MS}{a b:AT}
abbrev StI(c:Cfg)(t n k:Nat)(m:MS)(a:AT):Prop:=
 (a.ph≠ .lv->AI c t (qh c t m a).1 (qh c t m a).2.1)/\GM c n (k+1) (qh c t m a).1/\FrM t a m (qh c t m a).1
theorem AI.cong(f:AI c t m a)(j:m'.o=m.o)(v:m'.ck=m.ck)(w:m'.sv=m.sv)(A:m'.tk=m.tk):AI c t m' a:=by
 have z:∀o,q17 m' o=q17 m o:=q33 j
 refine⟨?_,by rw[v];exact f.rv,by rw[w,A];exact f.tk,by rw[w];exact f.ho,fun o l=>by unfold qmy;rw[j];exact f.hl o l,by rw[j];exact f.oc,f.nd,f.an,f.ar,f.al,by rw[j];exact f.st⟩;have d:=f.ph;unfold PhA at d ⊢;cases e:a.ph <;>rw[e] at d <;>dsimp only at d ⊢
 case lk=>exact⟨d.1,d.2.1,d.2.2.1,d.2.2.2.1,d.2.2.2.2.1,d.2.2.2.2.2.1.cong j,d.2.2.2.2.2.2⟩
 case tn=>exact⟨d.1,d.2.1,d.2.2.1,d.2.2.2.cong j⟩
 case ck=>exact⟨d.1,d.2.1,d.2.2.1,d.2.2.2.1.cong j,d.2.2.2.2.1,d.2.2.2.2.2.1,fun o l=>by rw[z];exact d.2.2.2.2.2.2 o l⟩
 case dc=>exact⟨d.1,d.2.1,d.2.2.1,d.2.2.2.1.cong j,fun o l=>by rw[z];exact d.2.2.2.2 o l⟩
 case rl=>
  rw[v];exact⟨d.1,d.2.1,d.2.2.1,d.2.2.2.1,d.2.2.2.2.imp id fun h=>⟨h.1,h.2.cong j⟩⟩
 all_goals first|exact d|rw[v];exact d
theorem StI.ent(d:GM c n k m)(e:AI c t m a){j:Nat}(he:a.ph= .ent j):StI c t n k m a:=by
 have z:=e.ph;unfold PhA at z;rw[he] at z;dsimp only at z;obtain⟨D,hj⟩:=z;have A:∀v,GM c n (k+1) {m with sl:=m.sl.set t v}:=fun v=>⟨d.o,d.ol,d.dl,by(try dsimp only);rw[zn];exact d.sl,d.sv,d.mono.tk,d.mono.ck⟩
 unfold StI qh;rw[he];dsimp only;have l:∀m',m'.o=m.o->m'.ck=m.ck->m'.sv=m.sv->m'.tk=m.tk->FrM t a m m':=fun m' f C H N=>FrM.same C H Yu f
 have w:∀(b:AT) (m':MS),m'.o=m.o->m'.ck=m.ck->m'.sv=m.sv->m'.tk=m.tk->b.oc=a.oc->b.ad=a.ad->b.vl=a.vl->b.set=a.set->PhA c m' b->(b.ph.past=true->0<=b.rv/\b.rv<=m.ck)->b.ph.tick=false->b.ph.hold=false->b.held= []->AI c t m' b:=
  fun b m' f C H N F B J K z E P O hd=>⟨z,by rw[C];exact E,fun h=>(by rw[P] at h;cases h),fun h=>(by rw[O] at h;cases h),fun o I=>(by rw[hd] at I;cases I),by rw[F,f];exact e.oc,by rw[F];exact e.nd,by rw[B];exact e.an,by rw[B];exact e.ar,by rw[B,J];exact e.al,by rw[K,f];exact e.st⟩
 by_cases G:j=0
 ·rw[if_pos G];exact⟨fun _=>w _ _ rfl rfl rfl rfl rfl rfl rfl rfl ⟨D,Yv⟩ (fun h=>by cases h) rfl rfl rfl,A _,l _ rfl rfl rfl rfl⟩
 ·rw[if_neg G]
  by_cases f:j=1
  ·rw[if_pos f];exact⟨fun _=>w _ _ rfl rfl rfl rfl rfl rfl rfl rfl ⟨D,Yv⟩ (fun _=>⟨d.ck.1,zW _⟩) rfl rfl rfl,d.mono,l _ rfl rfl rfl rfl⟩
  ·rw[if_neg f];have E:=e.rv (by rw[he];exact decide_eq_true Yu);exact⟨fun _=>w _ _ rfl rfl rfl rfl rfl rfl rfl rfl D (fun _=>E) rfl rfl rfl,A _,l _ rfl rfl rfl rfl⟩
theorem StI.rd(K:COk c)(A:GM c n k m)(d:AI c t m a){j:Nat}{bf v:Int}(he:a.ph= .rd j bf v):StI c t n k m a:=by
 have z:=d.ph;unfold PhA at z;rw[he] at z;dsimp only at z;obtain⟨D,hj,l,w⟩:=z;have f:a.ph.past=true:=by rw[he];rfl
 have e:∀(b:AT),b.rv=a.rv->b.oc=a.oc->b.ad=a.ad->b.vl=a.vl->(∀o∈b.set,0<=o/\o.toNat<m.o.length)->PhA c m b->b.ph.tick=false->b.ph.hold=false->b.held= []->AI c t m b:=
  fun b H E C I J z P N hd=>⟨z,fun _=>by rw[H];exact d.rv f,fun h=>(by rw[P] at h;cases h),fun h=>(by rw[N] at h;cases h),fun o B=>(by rw[hd] at B;cases B),by rw[E];exact d.oc,by rw[E];exact d.nd,by rw[C];exact d.an,by rw[C];exact d.ar,by rw[C,I];exact d.al,J⟩
 unfold StI qh;rw[he];dsimp only
 by_cases F:j=0
 ·rw[if_pos F];refine⟨fun _=>?_,A.mono,FrM.same rfl rfl (zW _) rfl⟩;dsimp only
  split
  ·exact d.undo f 9
  ·exact e _ rfl rfl rfl rfl d.st ⟨D,Yu,l,w⟩ rfl rfl rfl
 ·rw[if_neg F]
  by_cases G:j=1
  ·rw[if_pos G];refine⟨fun _=>e _ rfl rfl rfl rfl d.st ⟨D,Yu,l,w⟩ rfl rfl rfl,A.mono,FrM.same rfl rfl (zW _) rfl⟩
  ·rw[if_neg G];refine⟨fun _=>?_,A.mono,FrM.same rfl rfl (zW _) rfl⟩;dsimp only
   split
   ·exact d.undo f 9
   ·split
    ·exact e _ rfl rfl rfl rfl d.st trivial rfl rfl rfl
    ·rename_i s O;refine e _ rfl rfl rfl rfl (fun o B=>?_) D rfl rfl rfl
     rcases (q7F O).1 B with h|rfl
     ·exact d.st o h
     ·exact A.len (K.or _ l w)
theorem StI.lk(hn:n<=16)(ht:t<n)(z:GM c n k m)(d:AI c t m a){s:Int}{ld:Bool}(he:a.ph= .lk s ld):StI c t n k m a:=by
 have N:=d.ph;unfold PhA at N;rw[he] at N;dsimp only at N;obtain⟨C,B,A,v,D,P,W⟩:=N;have E:a.ph.past=true:=by rw[he];rfl
 unfold StI;rw[q7w he];have Q:=qkw v;have I:=d.oc _ Q;cases ld with
 |false=>
  rw[if_pos rfl];refine⟨fun _=>d.to ⟨C,B,A,v,D,P,fun h=>⟨by simpa using h,z.o _⟩⟩ rfl rfl rfl rfl rfl E (fun h=>by cases h) (fun h=>by cases h) fun o f=>?_,z.mono,FrM.same rfl rfl (zW _) rfl⟩;unfold AT.held at f ⊢;rw[he];exact f
 |true=>
  rw[if_neg Yv];obtain⟨J,K⟩:=W rfl
  by_cases hw:m.o.getD (a.oc.getD a.old.length 0).toNat 0=s
  ·rw[if_pos hw];obtain⟨R,X,Y,Z⟩:=qpV (t:=t) J K Yu;have hix:∀o,0<=o->(a.oc.getD a.old.length 0).toNat=o.toNat->o=a.oc.getD a.old.length 0:=fun o h0 e=>by omega
   have w:∀o,q17 {m with o:=m.o.set (a.oc.getD a.old.length 0).toNat (qQ (s+t+1))} o=q17 m o:=fun o=>by
    unfold q17;dsimp only
    by_cases e:(a.oc.getD a.old.length 0).toNat=o.toNat
    ·rw[<-e,q91 I.2,R,X,hw]
    ·rw[q92 e]
   have l:∀o∈a.oc.take (a.old.length+1),qmy {m with o:=m.o.set (a.oc.getD a.old.length 0).toNat (qQ (s+t+1))} o=t:=fun o f=>by
    have hoc:=d.oc o (yC f);unfold qmy;dsimp only
    by_cases e:(a.oc.getD a.old.length 0).toNat=o.toNat
    ·rw[<-e,q91 I.2,R,Y]
    ·rw[q92 e];refine d.hl o ?_;unfold AT.held;rw[he];dsimp only;rw[zZ,zy] at f
     rcases f with f|f
     ·exact f
     ·exfalso;rw[z6 v,Option.toList_some,zf] at f;apply e;rw[f,zh,z6 v];rfl
   have G:qcN {m with o:=m.o.set (a.oc.getD a.old.length 0).toNat (qQ (s+t+1))} a.oc (a.old++ [s]):=fun j V=>by
    rw[w];rw[z8,zH] at V
    by_cases H:j<a.old.length
    ·rw[qpE H];exact P j H
    ·obtain rfl:j=a.old.length:=Yu;rw[qms];exact⟨by unfold q17;rw[hw],J,K⟩
   have F:(a.old++ [s]).length=a.old.length+1:=Yw;have O:GM c n (k+1) {m with o:=m.o.set (a.oc.getD a.old.length 0).toNat (qQ (s+t+1))}:=
    ⟨fun j=>qkx z.o (by rw[R];exact Z) j,by(try dsimp only);rw[zn];exact z.ol,z.dl,z.sl,z.sv,z.mono.tk,z.mono.ck⟩
   have U:FrM t a m {m with o:=m.o.set (a.oc.getD a.old.length 0).toNat (qQ (s+t+1))}:=
    ⟨.inl rfl, .inl rfl,zW _,by(try dsimp only);rw[zn],fun j T h2=>by(try dsimp only);rw[q92];rintro rfl;rw[hw] at T;omega,fun o=> .inl (w o)⟩
   have hst:=d.st;refine⟨fun _=>?_,O,U⟩;dsimp only
   by_cases hd:a.old.length+1=a.oc.length
   ·rw[if_pos hd];refine⟨⟨C,by(try dsimp only);rw[F];exact hd,⟨fun _=>D,fun _=>⟨B,A⟩⟩,G⟩,fun _=>d.rv E,fun h=>(by cases h),fun h=>(by cases h),fun o f=>l o ?_,by(try dsimp only);rw[zn];exact d.oc,d.nd,d.an,d.ar,d.al,by(try dsimp only);rw[zn];exact d.st⟩;rw[hd,Z4];exact f
   ·rw[if_neg hd];refine⟨⟨C,B,A,by(try dsimp only);rw[F];omega,D,G,fun h=>(by cases h)⟩,fun _=>d.rv E,fun h=>(by cases h),fun h=>(by cases h),fun o f=>l o ?_,by(try dsimp only);rw[zn];exact d.oc,d.nd,d.an,d.ar,d.al,by(try dsimp only);rw[zn];exact d.st⟩;unfold AT.held at f;dsimp only at f;rw[F] at f;exact f
  ·rw[if_neg hw];refine⟨fun _=>d.to ⟨C,B,A,v,D,P,fun h=>by cases h⟩ rfl rfl rfl rfl rfl E (fun h=>by cases h) (fun h=>by cases h) fun o f=>?_,z.mono,FrM.same rfl rfl (zW _) rfl⟩;unfold AT.held at f ⊢;rw[he];exact f
theorem q85{p:AP}(h:a.ph=p)(d:(∃b,p= .tn b)\/(∃l,p= .ck l)\/p= .dc\/∃A V,p= .wr A V):a.held=a.oc:=by
 unfold AT.held;rw[h]
 rcases d with ⟨b,rfl⟩|⟨l,rfl⟩|rfl|⟨A,V,rfl⟩ <;>rfl
theorem StI.tn(hk:k<=100000)(f:GM c n k m)(e:AI c t m a){b:Bool}(he:a.ph= .tn b):StI c t n k m a:=by
 have B:=e.ph;unfold PhA at B;rw[he] at B;dsimp only at B;obtain⟨j,w,v,D⟩:=B;have z:a.ph.past=true:=by rw[he];rfl
 have l:=q85 he (.inl ⟨b,rfl⟩);unfold StI;cases b with
 |false=>
  rw[qaU he];have htk:=f.tk;have A:=f.sv;have hw:qQ (m.tk+1)=m.tk+1:=q4k ⟨Yu,Yu⟩;rw[hw];refine⟨fun _=>⟨⟨j,w,v,D⟩,fun _=>e.rv z,fun _=>⟨A.2,by(try dsimp only);omega⟩,fun h=>(by cases h),fun o d=>e.hl o (by rw[l];exact d),e.oc,e.nd,e.an,e.ar,e.al,e.st⟩,
   ⟨f.o,f.ol,f.dl,f.sl,⟨A.1,by(try dsimp only);omega⟩,by(try dsimp only);omega,f.mono.ck⟩,FrM.same rfl rfl (by(try dsimp only);omega) rfl⟩
 |true=>
  rw[q8u he];refine⟨fun _=>?_,f.mono,FrM.same rfl rfl (zW _) rfl⟩;dsimp only
  split
  ·rename_i E
   split
   ·rename_i C;exact e.to ⟨j,w,v,D,fun o d=>by dsimp only at d;rw[C] at d;cases d⟩ rfl rfl rfl rfl rfl z (fun _=>⟨rfl,by rw[he];rfl⟩) (fun _=>E.symm) fun o d=>by rw[l];exact d
   ·rename_i C;exact e.to ⟨j,w,v,D,C,fun o d=>d,fun o d=> .inl d⟩ rfl rfl rfl rfl rfl z (fun _=>⟨rfl,by rw[he];rfl⟩) (fun _=>E.symm) fun o d=>by rw[l];exact d
  ·exact e
theorem StI.ck(I:GM c n k m)(B:AI c t m a){l:je}(he:a.ph= .ck l):StI c t n k m a:=by
 have E:=B.ph;unfold PhA at E;rw[he] at E;dsimp only at E;obtain⟨e,v,D,F,J,G,H⟩:=E;have w:a.ph.past=true:=by rw[he];rfl
 have z:a.ph.tick=true:=by rw[he];rfl
 have j:=B.ho (by rw[he];rfl);have f:=q85 he (.inr (.inl ⟨l,rfl⟩));unfold StI;rw[qh3 he];refine⟨fun _=>?_,I.mono,FrM.same rfl rfl (zW _) rfl⟩;dsimp only;have C:=q84 J
 split
 ·exact B.rest f w z j {a with code:=9} rfl rfl rfl rfl rfl rfl v fun _=>⟨e,F⟩
 ·rename_i hle;have hle:q17 m (l.headD 0)<=a.rv:=by unfold q17;omega
  split
  ·rename_i A;refine B.to ⟨e,v,D,F,fun o d=>?_⟩ rfl rfl rfl rfl rfl w (fun _=>⟨rfl,z⟩) (fun _=>j) fun o d=>by rw[f];exact d
   rcases H o d with h|h
   ·rw[<-C,A,zf] at h;rw[h];exact hle
   ·exact h
  ·rename_i A;refine B.to ⟨e,v,D,F,A,fun o d=>G o (ZP d),fun o d=>?_⟩ rfl rfl rfl rfl rfl w (fun _=>⟨rfl,z⟩) (fun _=>j) fun o d=>by rw[f];exact d
   rcases H o d with h|h
   ·rw[<-C,zN] at h
    rcases h with rfl|h
    ·exact .inr hle
    ·exact .inl h
   ·exact .inr h
theorem StI.dc(D:GM c n k m)(e:AI c t m a)(he:a.ph= .dc):StI c t n k m a:=by
 have B:=e.ph;unfold PhA at B;rw[he] at B;dsimp only at B;obtain⟨C,A,z,E,hv⟩:=B;have l:a.ph.past=true:=by rw[he];rfl
 have v:a.ph.tick=true:=by rw[he];rfl
 have j:=e.ho (by rw[he];rfl);have f:=q85 he (.inr (.inr (.inl rfl)));unfold StI;rw[q3u he];refine⟨fun _=>?_,D.mono,FrM.same rfl rfl (zW _) rfl⟩;dsimp only
 split
 ·exact e.rest f l v j {a with ck:=m.ck,code:=6} rfl rfl rfl rfl rfl rfl A fun _=>⟨C,E⟩
 ·split
  ·rename_i d;have d:a.code=1/\a.ad≠ []:=by simpa [AT.sto] using d
   exact e.to ⟨rfl,d.1,d.2,rfl,d.2,e.al,e.an,fun w hw=>hw,z.1 d.1⟩ rfl rfl rfl rfl rfl l (fun _=>⟨rfl,v⟩) (fun _=>j) fun o F=>by rw[f];exact F
  ·rename_i d;have d:¬(a.code=1/\a.ad≠ []):=by simpa [AT.sto] using d
   exact e.rest f l v j {a with ck:=m.ck,dn:=true} rfl rfl rfl rfl rfl rfl A fun h=>absurd (z.2 h) d
end
open Go
section
variable{c:Cfg}{t u n k:Nat}{m m':MS}{a b:AT}
theorem StI.wr(e:GM c n k m)(l:AI c t m a){A V:je}(he:a.ph= .wr A V):StI c t n k m a:=by
 have I:=l.ph;unfold PhA at I;rw[he] at I;dsimp only at I;obtain⟨B,v,f,j,hA0,J,O,K,F⟩:=I;have G:a.ph.past=true:=by rw[he];rfl
 have H:a.ph.tick=true:=by rw[he];rfl
 have D:=l.ho (by rw[he];rfl);have C:=q85 he (.inr (.inr (.inr ⟨A,V,rfl⟩)));have N:GM c n (k+1) {m with d:=m.d.set (A.headD 0).toNat (V.headD 0)}:=⟨e.o,e.ol,by(try dsimp only);rw[zn];exact e.dl,e.sl,e.sv,e.mono.tk,e.mono.ck⟩
 unfold StI qh;rw[he];dsimp only;refine⟨fun _=>AI.cong (m:=m) ?_ rfl rfl rfl rfl,N,FrM.same rfl rfl (zW _) rfl⟩
 split
 ·have P:a.oc≠ []:=by
   obtain⟨w,hw⟩:=y8 _ f;exact yr (F w hw)
  refine l.to ⟨P,fun o E=>E,by rw[zi],l.nd, .inl ⟨B,v,f,j,fun z R=>?_⟩⟩ rfl rfl rfl rfl rfl G (fun _=>⟨rfl,H⟩) (fun _=>D) fun o E=>by rw[C];exact E
  obtain⟨_,_,rfl⟩:=zM.1 R;rw[j]
 ·rename_i Q;refine l.to ⟨B,v,f,j,Q,by rw[ym,ym,J],O.sublist (List.tail_sublist A),fun w hw=>K w (ZP hw),F⟩ rfl rfl rfl rfl rfl G (fun _=>⟨rfl,H⟩) (fun _=>D) fun o E=>by rw[C];exact E
theorem StI.rl(hk:k<=100000)(C:GM c n k m)(f:AI c t m a){l w:je}(he:a.ph= .rl l w):StI c t n k m a:=by
 have H:=f.ph;unfold PhA at H;rw[he] at H;dsimp only at H;obtain⟨hl,N,O,G,A⟩:=H;have P:∀o∈l,0<=o/\o.toNat<m.o.length:=fun o d=>f.oc o (N o d)
 have aj:a.ph.past=true:=by rw[he];rfl
 have aq:a.ph.tick=true:=by rw[he];rfl
 have af:=f.ho (by rw[he];rfl);have J:a.held=l:=by unfold AT.held;rw[he]
 have K:=q5L hl;have F:=P _ K;have ae:q4R (m.o.getD (l.headD 0).toNat 0)=t:=f.hl _ (by rw[J];exact K);have B:w≠ []:=fun e=>hl (zC.1 (by rw[O,e];rfl))
 have I:w.getD 0 0=w.headD 0:=by cases w with
  |nil=>rfl
  |cons x r=>rfl
 have Z:l.getD 0 0=l.headD 0:=by cases l with
  |nil=>rfl
  |cons x r=>rfl
 have hkk:=C.ck;have U:okU (w.headD 0):=by
  rcases A with ⟨_,_,_,_,h⟩|⟨_,h⟩
  ·rw[h _ (q5L B)];unfold okU;omega
  ·have:=(h 0 (List.length_pos_iff.2 B)).2.2;rw[I] at this;exact this
 have hve:q17 {m with o:=m.o.set (l.headD 0).toNat (w.headD 0)} (l.headD 0)=q7B (w.headD 0):=by
  unfold q17;dsimp only;rw[q91 F.2]
 have T:∀o:Int,(l.headD 0).toNat≠o.toNat->q17 {m with o:=m.o.set (l.headD 0).toNat (w.headD 0)} o=q17 m o:=fun o e=>by
  unfold q17;dsimp only;rw[q92 e]
 have R:∀o∈l.tail,(l.headD 0).toNat≠o.toNat:=fun o d e=>by
  have h0:=P o (ZP d);have e2:l.headD 0=o:=Yu;have:=q84 hl;rw[<-this,yt] at G;exact G.1 (e2 ▸ d)
 have Y:GM c n (k+1) {m with o:=m.o.set (l.headD 0).toNat (w.headD 0)}:=⟨fun j=>qkx C.o U j,by(try dsimp only);rw[zn];exact C.ol,C.dl,C.sl,C.sv,C.mono.tk,C.mono.ck⟩
 have hF:FrM t a m {m with o:=m.o.set (l.headD 0).toNat (w.headD 0)}:=by
  refine⟨.inl rfl, .inl rfl,zW _,by(try dsimp only);rw[zn],fun j V W=>?_,fun o=>?_⟩
  ·dsimp only;rw[q92];rintro rfl;exact W ae
  ·by_cases e:(l.headD 0).toNat=o.toNat
   ·rcases A with ⟨V,_,_,_,h⟩|⟨_,h⟩
    ·right;refine⟨V,⟨l,w,he,e.symm⟩,?_⟩;unfold q17;dsimp only;rw[<-e,q91 F.2,h _ (q5L B)];exact(qf2 _).1
    ·left;have:=(h 0 (List.length_pos_iff.2 B)).1;rw[I,Z] at this;unfold q17 at this ⊢;dsimp only;rw[<-e,q91 F.2];exact this
   ·exact .inl (T o e)
 have D:∀b:AT,PhA c {m with o:=m.o.set (l.headD 0).toNat (w.headD 0)} b->b.rv=a.rv->b.oc=a.oc->b.ad=a.ad->b.vl=a.vl->b.set=a.set->b.tk=a.tk->(∀o∈b.held,o∈l.tail)->AI c t {m with o:=m.o.set (l.headD 0).toNat (w.headD 0)} b:=
  fun b H V W X h4 h5 h6 h7=>⟨H,fun _=>by rw[V];exact f.rv aj,fun _=>by rw[h6];exact f.tk aq,fun _=>by rw[h6];exact af,fun o d=>by
   unfold qmy;dsimp only;rw[q92 (R o (h7 o d))];exact f.hl o (by rw[J];exact ZP (h7 o d)),by rw[W];dsimp only;rw[zn];exact f.oc,by rw[W];exact f.nd,by rw[X];exact f.an,by rw[X];exact f.ar,by rw[X,h4];exact f.al,by rw[h5];dsimp only;rw[zn];exact f.st⟩
 unfold StI qh;rw[he];dsimp only;refine⟨fun _=>?_,Y,hF⟩
 split
 ·rename_i Q
  split
  ·rename_i v;have v:a.dn=true/\a.code=1/\a.ad≠ []:=by simpa [AT.sto] using v
   refine D _ ⟨v.1,v.2.1,v.2.2,?_⟩ rfl rfl rfl rfl rfl rfl fun o d=>by cases d
   rcases A with ⟨_,_,_,h,_⟩|⟨h,_⟩
   ·exact h
   ·rw[v.1] at h;cases h
  ·exact D _ trivial rfl rfl rfl rfl rfl rfl fun o d=>by cases d
 ·rename_i Q;refine D _ ⟨Q,fun o d=>N o (ZP d),by rw[ym,ym,O],G.sublist (List.tail_sublist l),A.imp (fun h=>⟨h.1,h.2.1,h.2.2.1,h.2.2.2.1,fun z hz=>h.2.2.2.2 z (ZP hz)⟩) fun h=>⟨h.1,fun j hj=>?_⟩⟩ rfl rfl rfl rfl rfl rfl fun o d=>d
  rw[ym] at hj;have E:∀(z:je) (i:Nat),z.tail.getD i 0=z.getD (i+1) 0:=fun z i=>by
   cases z with
   |nil=>rfl
   |cons x r=>rfl
  have:=h.2 (j+1) Yu;rw[E,E,T]
  ·exact this
  ·have hm:=qkw (l:=l.tail) (j:=j) (by rw[ym];omega);rw[E] at hm;exact R _ hm
theorem StI.sp(hk:k<=100000)(e:GM c n k m)(d:AI c t m a)(he:a.ph= .sp):StI c t n k m a:=by
 have j:=d.ph;unfold PhA at j;rw[he] at j;dsimp only at j;obtain⟨hdn,hcd,had,l⟩:=j;have w:a.ph.past=true:=by rw[he];rfl
 have z:a.ph.tick=true:=by rw[he];rfl
 have v:=d.ho (by rw[he];rfl);have hkk:=e.ck;have hw:qQ (a.ck+1)=m.ck+1:=by rw[l];exact q4k ⟨Yu,Yu⟩
 have f:=d.rv w;unfold StI qh;rw[he];dsimp only;rw[hw];exact⟨fun _=>⟨trivial,fun _=>⟨f.1,by have:=f.2;dsimp only;omega⟩,fun _=>d.tk z,fun _=>v,fun o A=>(by cases A),d.oc,d.nd,d.an,d.ar,d.al,d.st⟩,
  ⟨e.o,e.ol,e.dl,e.sl,e.sv,e.mono.tk,by(try dsimp only);omega⟩,⟨.inr ⟨by rw[he];rfl,by(try dsimp only);omega⟩, .inl rfl,zW _,rfl,fun _ _ _=>rfl,fun _=> .inl rfl⟩⟩
theorem StI.ps(hk:k<=100000)(e:GM c n k m)(d:AI c t m a)(he:a.ph= .ps):StI c t n k m a:=by
 have j:a.ph.past=true:=by rw[he];rfl
 have l:a.ph.tick=true:=by rw[he];rfl
 have f:=d.ho (by rw[he];rfl);have htk:=d.tk l;have hsv:=e.sv;have hgt:=e.tk;have hw:qQ (a.tk+1)=m.sv+1:=by rw[f];exact q4k ⟨Yu,Yu⟩
 unfold StI qh;rw[he];dsimp only;rw[hw];exact⟨fun _=>⟨trivial,fun _=>d.rv j,fun h=>(by cases h),fun h=>(by cases h),fun o v=>(by cases v),d.oc,d.nd,d.an,d.ar,d.al,d.st⟩,
  ⟨e.o,e.ol,e.dl,e.sl,⟨by(try dsimp only);omega,by(try dsimp only);omega⟩,e.mono.tk,e.mono.ck⟩,⟨.inl rfl, .inr ⟨by rw[he];rfl,rfl⟩,zW _,rfl,fun _ _ _=>rfl,fun _=> .inl rfl⟩⟩
theorem AI.step(o:COk c)(z:n<=16)(B:t<n)(f:k<=100000)(d:GM c n k m)(e:AI c t m a):StI c t n k m a:=by
 cases he:a.ph with
 |idle=>
  unfold StI qh;rw[he];exact⟨fun _=>e,d.mono,FrM.same rfl rfl (zW _) rfl⟩
 |loc q=>
  unfold StI qh;rw[he];exact⟨fun _=>e.loc o d he,d.mono,FrM.same rfl rfl (zW _) rfl⟩
 |ent j=>exact StI.ent d e he
 |rd j b v=>exact StI.rd o d e he
 |lk s ld=>exact StI.lk z B d e he
 |tn b=>exact StI.tn f d e he
 |ck l=>exact StI.ck d e he
 |dc=>exact StI.dc d e he
 |wr A V=>exact StI.wr d e he
 |rl l w=>exact StI.rl f d e he
 |sp=>exact StI.sp f d e he
 |ps=>exact StI.ps f d e he
 |lv=>
  unfold StI qh;rw[he];exact⟨fun h=>absurd rfl h,⟨d.o,d.ol,d.dl,by(try dsimp only);rw[zn];exact d.sl,d.sv,d.mono.tk,d.mono.ck⟩,FrM.same rfl rfl (zW _) rfl⟩
end
open Go
def q2x(x:GT)(a:AT)(tk:List Bool)(d:je):BM:=⟨lay a.ad a.vl d,tk,x.th,a.seen,a.ad,x.seen,[]⟩
def q6H(x:GT)(tk:List Bool)(d:je):BM:=⟨d,tk,⟨x.bg+1,x.sv,x.th.oc,false⟩,[],[],[],[]⟩
def Agr(r:List (Int×Int))(d:je):Prop:=∀q∈r,d.getD q.1.toNat 0=q.2
def Rep(c:Cfg)(p:jg)(x:GT)(a:AT)(r:List (Int×Int)):Prop:=∀(tk:List Bool) (d:je),(d.length:Int)=c.words->Agr r d->Rn c p (q6H x tk d) (q2x x a tk d)
def q2K(c:Cfg)(x:GT)(a:AT)(i:Ins):Prop:=
 match a.ph with
 | .idle=>a.code=0
 | .loc (.en k)=>a.code=0/\k=q6A c x.th.rg i/\k≠0
 | .loc (.tk v)=>a.code=0/\i.op=10/\adr x.th.rg i.b i.imm<c.words/\q54 a.ad a.vl (adr x.th.rg i.b i.imm)=some v
 | .loc (.wr w v)=>a.code=0/\i.op=11/\w=adr x.th.rg i.a i.imm/\v=x.th.rg.get i.b.toNat
 | .rd _ _ _=>a.code=0/\i.op=10/\a.addr=adr x.th.rg i.b i.imm/\a.addr<c.words/\q54 a.ad a.vl a.addr=none
 | .lk _ _=>a.code=q6A c x.th.rg i/\a.code≠0
 | .tn _=>a.code=q6A c x.th.rg i/\a.code≠0
 | .ck _=>a.code=q6A c x.th.rg i/\a.code≠0
 | .dc=>a.code=q6A c x.th.rg i/\a.code≠0
 |_=>False
def AP.back:AP->Bool
 | .rl _ _=>true
 | .ps=>true
 | .lv=>true
 |_=>false
structure TL(c:Cfg)(p:jg)(x:GT)(a:AT)(r:List (Int×Int)):Prop where
 bg:∃ib,p[x.bg]? =some ib/\ib.op=7
 dn:x.th.dn=false
 fn:x.fn=none
 tr:x.tr≠0
 len:a.ad.length=a.vl.length
 st:a.st=1
 rr:∀q∈r,0<=q.1/\q.1<c.words/\qB c q.1∈a.set
 ph:(∃k,a.ph= .ent k/\r= []/\a.ad= []/\a.vl= []/\a.seen= []/\x.seen= []/\x.th.pc=x.bg/\x.th.rg=x.sv/\a.code=0)\/
  (x.bg<x.th.pc/\x.th.pc<=q0v p x.bg/\Rep c p x a r/\∃i,p[x.th.pc]? =some i/\q2K c x a i)\/
  (a.ph.back=true/\(a.code=3\/a.code=6\/a.code=9))
 pl:x.th.pc<p.length
def fl(a:AT):List (Int×Int):=match a.ph with
 | .rd n _ v=>if n=0\/n=1 then [] else [(a.addr,v)]
 |_=> []
structure q3K(x x':GT):Prop where
 bg:x'.bg=x.bg
 sv:x'.sv=x.sv
 oc:x'.th.oc=x.th.oc
 obs:x'.obs=x.obs
 tr:x'.tr=x.tr
 fn:x'.fn=x.fn
 dn:x'.th.dn=x.th.dn
theorem q3K.at{x:GT}{z:Option AT}:q3K x {x with at':=z}:=⟨rfl,rfl,rfl,rfl,rfl,rfl,rfl⟩
section
variable{c:Cfg}{p:jg}{x x':GT}{a b:AT}{r r':List (Int×Int)}{i:Ins}{t:Nat}{m:MS}
theorem TL.at(h:TL c p x a r)(z:Option AT):TL c p {x with at':=z} a r:=⟨h.bg,h.dn,h.fn,h.tr,h.len,h.st,h.rr,h.ph,h.pl⟩
theorem TL.to(d:TL c p x a r)(j:∀k,a.ph≠ .ent k)(f:a.ph.back=false)(o:b.ad=a.ad)(v:b.vl=a.vl)(C:b.seen=a.seen)(D:b.set=a.set)(E:b.st=a.st)(F:∀i,p[x.th.pc]? =some i->q2K c x a i->q2K c x b i):TL c p x b r:=by
 refine⟨d.bg,d.dn,d.fn,d.tr,by rw[o,v];exact d.len,by rw[E];exact d.st,by rw[D];exact d.rr,?_,d.pl⟩
 rcases d.ph with ⟨k,e,_⟩|⟨z,A,l,i,w,B⟩|⟨e,_⟩
 ·exact absurd e (j k)
 ·refine .inr (.inl ⟨z,A,?_,i,w,F i w B⟩);unfold Rep q2x at l ⊢;rw[o,v,C];exact l
 ·rw[f] at e;cases e
theorem TL.off(d:TL c p x a r)(e:b.ad=a.ad)(f:b.vl=a.vl)(j:b.set=a.set)(l:b.st=a.st)(hb:b.ph.back=true)(o:b.code=3\/b.code=6\/b.code=9):TL c p x b r:=
 ⟨d.bg,d.dn,d.fn,d.tr,by rw[e,f];exact d.len,by rw[l];exact d.st,by rw[j];exact d.rr, .inr (.inr ⟨hb,o⟩),d.pl⟩
theorem TL.req(j:TL c p x a r)(f:∀k,a.ph≠ .ent k)(d:a.ph.back=false):x.bg<x.th.pc/\x.th.pc<=q0v p x.bg/\Rep c p x a r/\∃i,p[x.th.pc]? =some i/\q2K c x a i:=by
 rcases j.ph with ⟨k,e,_⟩|h|⟨e,_⟩
 ·exact absurd e (f k)
 ·exact h
 ·rw[d] at e;cases e
theorem Rep.snoc(h:Rep c p x a r)(w:p[x.th.pc]? =some i)(B:∀(tk:List Bool) (d:je),(d.length:Int)=c.words->Agr r' d->q0M c (q2x x a tk d) i=(q2x x' b tk d,0))(A:∀q∈r,q∈r')(f:q3K x x'):Rep c p x' b r':=fun tk d hd o=>by
 have v:=h tk d hd fun q z=>o q (A q z)
 have j:=B tk d hd o;have l:=Rn.snoc v w (by rw[j]);rw[j] at l;have e:q6H x' tk d=q6H x tk d:=by unfold q6H;rw[f.bg,f.sv,f.oc]
 rw[e];exact l
theorem q2n{y:AT}(h:y.ph= .idle):¬y.busy=true:=by unfold AT.busy;rw[h];decide
theorem q4N(r:Rg)(b imm:Int):0<=adr r b imm:=(q0u _).1
theorem q8y{k:Nat}(d:q3K x x')(e:k≠p.length)(hd:x.th.dn=false):q3K x (x'.to p.length k):=⟨d.bg,d.sv,d.oc,d.obs,d.tr,d.fn,by unfold GT.to;dsimp only;rw[hd];exact decide_eq_false e⟩
theorem TL.next(G:PrO p)(v:TL c p x a r)(E:∀k,a.ph≠ .ent k)(D:a.ph.back=false)(z:p[x.th.pc]? =some i)(F:i.op≠8)(o:q3K x x')(H:x'.th.pc=x.th.pc+1\/(x.th.pc<x'.th.pc/\x'.th.pc<=q0v p x.bg))(C:b.ph= .idle)(B:b.code=0)(J:b.st=1)(hlen:b.ad.length=b.vl.length)
  (I:∀q∈r',0<=q.1/\q.1<c.words/\qB c q.1∈b.set) (R:∀q∈r,q∈r') (T:∀(tk:List Bool) (d:je),(d.length:Int)=c.words->Agr r' d->q0M c (q2x x a tk d) i=(q2x x' b tk d,0)):TL c p x' b r':=by
 obtain⟨N,O,P,_⟩:=v.req E D;obtain⟨ib,l,w⟩:=v.bg;obtain⟨e1,e2,e3,j,A,e4,e5⟩:=q93 G l w N O;rw[z] at A;cases A;have hlt:x.th.pc<q0v p x.bg:=by
  refine yS O fun e=>?_
  obtain⟨c',Q,_,_,⟨y,U,K⟩,_⟩:=q0g G.ck l w;rw[e,Q,U] at z;cases z;exact F K
 have f:x.th.pc<x'.th.pc/\x'.th.pc<=q0v p x.bg:=by rcases H with e|e <;>omega
 obtain⟨f1,f2,f3,j,A,f4,_⟩:=q93 G l w (Nat.lt_trans N f.1) f.2;refine⟨⟨ib,by rw[o.bg];exact l,w⟩,by rw[o.dn];exact v.dn,by rw[o.fn];exact v.fn,by rw[o.tr];exact v.tr,hlen,J,I, .inr (.inl ⟨by rw[o.bg];omega,by rw[o.bg];exact f.2,P.snoc z T R o,j,A,?_⟩),f3⟩;unfold q2K;rw[C];exact B
theorem TL.lt(B:PrO p)(z:TL c p x a r)(l:∀k,a.ph≠ .ent k)(f:a.ph.back=false):x.th.pc<p.length/\∀i,p[x.th.pc]? =some i->i.op≠8->x.th.pc+1<p.length:=by
 obtain⟨D,E,h3,_⟩:=z.req l f;obtain⟨ib,d,w⟩:=z.bg;obtain⟨e1,e2,C,j,hj,e4,e5⟩:=q93 B d w D E;obtain⟨c',F,_,hl,⟨y,G,v⟩,_⟩:=q0g B.ck d w;refine⟨C,fun i A o=>?_⟩;have:x.th.pc≠q0v p x.bg:=fun e=>by
  rw[e,F,G] at A;cases A;exact o v
 omega
end
open Go
section
variable{c:Cfg}{p:jg}{x x':GT}{a b:AT}{r r':List (Int×Int)}{i:Ins}{t:Nat}{m:MS}
theorem q5u:(q0H c p t m x a i).2.1=if(qh c t m a).2.1.busy then{x with at':=some (qh c t m a).2.1} else x.ans p (qh c t m a).2.1 i:=rfl
def q0W(c:Cfg)(p:jg)(t:Nat)(m:MS)(x:GT)(a:AT)(r:List (Int×Int))(i:Ins):Prop:=
 ∃r',r'=(if(qh c t m a).2.1.busy then r else r++fl a)/\q3K x (q0H c p t m x a i).2.1/\(q0H c p t m x a i).2.1.at'=some (qh c t m a).2.1/\
  ((qh c t m a).2.1.dn=false->TL c p (q0H c p t m x a i).2.1 (qh c t m a).2.1 r')/\((qh c t m a).2.1.dn=true->a.ph= .dc/\(q0H c p t m x a i).2.1={x with at':=some (qh c t m a).2.1})
theorem q0W.busy{y:AT}(e:(qh c t m a).2.1=y)(hb:y.busy=true)(d:y.dn=false->TL c p x y r)(hd:y.dn=true->a.ph= .dc):q0W c p t m x a r i:=by
 unfold q0W;rw[q5u,e,if_pos hb,if_pos hb];exact⟨r,rfl,q3K.at,rfl,fun h=>(d h).at _,fun h=>⟨hd h,rfl⟩⟩
theorem qk1{X:GT}{k:Nat}(d:k≠p.length)(hd:X.th.dn=false):(X.to p.length k).th={X.th with pc:=k}:=by
 unfold GT.to;dsimp only;rw[decide_eq_false d,<-hd]
theorem q0W.ent(Q:PrO p)(f:TL c p x a r)(O:p[x.th.pc]? =some i)(l:a.dn=false){k:Nat}(he:a.ph= .ent k):q0W c p t m x a r i:=by
 rcases f.ph with ⟨k',e,K,C,D,E,F,A,G,H⟩|⟨_,_,_,i,_,e⟩|⟨e,_⟩
 ·by_cases B:k=0
  ·refine q0W.busy (y:={a with ph:= .ent 1}) (by unfold qh;rw[he];dsimp only;rw[if_pos B]) rfl (fun _=>?_) (fun h=>by rw[l] at h;cases h);exact⟨f.bg,f.dn,f.fn,f.tr,f.len,f.st,f.rr, .inl ⟨1,rfl,K,C,D,E,F,A,G,H⟩,f.pl⟩
  ·by_cases P:k=1
   ·refine q0W.busy (y:={a with rv:=m.ck,ph:= .ent 2}) (by unfold qh;rw[he];dsimp only;rw[if_neg B,if_pos P]) rfl (fun _=>?_) (fun h=>by rw[l] at h;cases h);exact⟨f.bg,f.dn,f.fn,f.tr,f.len,f.st,f.rr, .inl ⟨2,rfl,K,C,D,E,F,A,G,H⟩,f.pl⟩
   ·obtain⟨ib,o,w⟩:=f.bg;have J:i=ib:=by rw[A,o] at O;exact(Option.some.inj O).symm
    subst J;obtain⟨c',N,h9,h10,_⟩:=q0g Q.ck o w;have U:(qh c t m a).2.1={a with ph:= .idle}:=by unfold qh;rw[he];dsimp only;rw[if_neg B,if_neg P]
    have z:x.th.pc+1≠p.length:=Yu;have R:fl a= []:=by unfold fl;rw[he]
    unfold q0W;rw[q5u,U,if_neg (q2n rfl),if_neg (q2n rfl),qlw (by show a.st≠2;rw[f.st];decide) Yu];have v:=qk1 (p:=p) (X:={x with at':=some {a with ph:= .idle}}) z f.dn;have I:q3K x (({x with at':=some {a with ph:= .idle}}:GT).to p.length (x.th.pc+1)):=q8y q3K.at z f.dn;refine⟨r,by rw[R,zz],I,rfl,fun _=>⟨f.bg,by rw[v];exact f.dn,f.fn,f.tr,f.len,f.st,f.rr, .inr (.inl ⟨?_,?_,fun tk d _ _=>?_,?_⟩),by rw[v];show x.th.pc+1<p.length;omega⟩,fun h=>?_⟩
    ·show x.bg<x.th.pc+1;omega
    ·show x.th.pc+1<=q0v p x.bg;rw[N];omega
    ·have:q6H (({x with at':=some {a with ph:= .idle}}:GT).to p.length (x.th.pc+1)) tk d=q2x (({x with at':=some {a with ph:= .idle}}:GT).to p.length (x.th.pc+1)) {a with ph:= .idle} tk d:=by
      unfold q6H q2x;rw[v,I.bg,I.sv];dsimp only;rw[C,D,E,qar,A,G,f.dn];show _=BM.mk _ _ _ _ _ x.seen _;rw[F]
     rw[this];exact Rn.nil
    ·obtain⟨_,_,_,j,T,_⟩:=q93 (k:=x.th.pc+1) Q o w Yu (by rw[N];omega);exact⟨j,T,H⟩
    ·rw[show({a with ph:= .idle}:AT).dn=a.dn from rfl,l] at h;cases h
 ·unfold q2K at e;rw[he] at e;exact e.elim
 ·rw[he] at e;cases e
theorem TL.endA(l:TL c p x a r)(e:∀k,a.ph≠ .ent k)(d:a.ph.back=false){k:Int}(o:∀i,p[x.th.pc]? =some i->q2K c x a i->k=q6A c x.th.rg i/\k≠0):TL c p x ({a with ph:= .idle}.endA c k) r/\({a with ph:= .idle}.endA c k).busy=true/\({a with ph:= .idle}.endA c k).dn=a.dn:=by
 unfold AT.endA
 split
 ·refine⟨l.to e d rfl rfl rfl rfl rfl fun i f j=>?_,rfl,rfl⟩;exact o i f j
 ·refine⟨l.to e d rfl rfl rfl rfl rfl fun i f j=>?_,rfl,rfl⟩;exact o i f j
theorem qqW{d:BM}(e:i.op=11)(hlt:adr d.t.rg i.a i.imm<c.words):q0M c d i=((wrM d (adr d.t.rg i.a i.imm).toNat (d.t.rg.get i.b.toNat)).go,0):=by
 unfold q0M;rw[if_neg Yu,if_pos e,if_neg Yu]
theorem qhe{d:BM}(e:i.op=10)(hlt:adr d.t.rg i.b i.imm<c.words):q0M c d i=((rdM d (adr d.t.rg i.b i.imm).toNat).put i.a 1 (d.d.getD (adr d.t.rg i.b i.imm).toNat 0),0):=by
 unfold q0M;rw[if_pos e,if_neg Yu]
theorem toN(r:Rg)(b imm:Int):((adr r b imm).toNat:Int)=adr r b imm:=Z2 (q4N r b imm)
theorem q0W.loc(R:PrO p)(f:TL c p x a r)(H:p[x.th.pc]? =some i)(E:a.dn=false){q:Ko}(he:a.ph= .loc q):q0W c p t m x a r i:=by
 have C:∀k,a.ph≠ .ent k:=fun k e=>by rw[he] at e;cases e
 have B:a.ph.back=false:=by rw[he];rfl
 have O:=(f.lt R C B).2 i H;obtain⟨_,_,_,j,N,o⟩:=f.req C B;rw[H] at N;cases N;have T:fl a= []:=by unfold fl;rw[he]
 have l:(qh c t m a).2.1={a with ph:= .idle}.kont c q:=by unfold qh;rw[he]
 have A:∀k,(∀i,p[x.th.pc]? =some i->q2K c x a i->k=q6A c x.th.rg i/\k≠0)->(qh c t m a).2.1={a with ph:= .idle}.endA c k->q0W c p t m x a r i:=fun k X l=>by
  obtain⟨U,V,W⟩:=f.endA C B X;exact q0W.busy l V (fun _=>U) (fun h=>by rw[W,E] at h;cases h)
 unfold q2K at o;rw[he] at o;cases q with
 |en k=>exact A k (fun i H o=>by unfold q2K at o;rw[he] at o;exact o.2) l
 |tk v=>
  dsimp only at o;obtain⟨F,I,hw,P⟩:=o;have D:x.th.pc+1≠p.length:=by have:=O Yu;omega
  have l:(qh c t m a).2.1={a with ph:= .idle,val:=v}:=l;unfold q0W;rw[q5u,l,if_neg (q2n rfl),if_neg (q2n rfl),qlx (by show a.st≠2;rw[f.st];decide) I];have K:q3K x (({x with at':=some {a with ph:= .idle,val:=v},th:={x.th with rg:=x.th.rg.set i.a.toNat v},seen:=x.seen++ [⟨x.th.pc,1,v⟩]}:GT).to p.length (x.th.pc+1)):=q8y ⟨rfl,rfl,rfl,rfl,rfl,rfl,rfl⟩ D f.dn;refine⟨r,by rw[T,zz],K,rfl,fun _=>f.next R C B H Yu K (.inl rfl) rfl ?_ f.st f.len f.rr (fun q o=>o) fun tk d hd _=>?_,fun h=>?_⟩
  ·exact F
  ·rw[qhe I (by exact hw)];unfold q2x;rw[qk1 D (by exact f.dn)];have hm:adr x.th.rg i.b i.imm∈a.ad:=by
    refine Decidable.byContradiction fun e=>?_
    rw[(q0I f.len).2 e] at P;cases P
   have Q:(lay a.ad a.vl d).getD (adr x.th.rg i.b i.imm).toNat 0=v:=by
    have:=toN x.th.rg i.b i.imm;rw[q4S Yu,this,P];rfl
   dsimp only;rw[Q];unfold rdM BM.put;dsimp only;rw[toN,if_pos (.inl hm)];rfl
  ·rw[show({a with ph:= .idle,val:=v}:AT).dn=a.dn from rfl,E] at h;cases h
 |wr w v=>
  dsimp only at o;obtain⟨F,J,rfl,rfl⟩:=o;have D:x.th.pc+1≠p.length:=by have:=O Yu;omega
  unfold AT.kont at l;dsimp only at l
  by_cases hw:c.words<=adr x.th.rg i.a i.imm
  ·rw[if_pos hw] at l;refine A 7 (fun j N o=>?_) l;rw[H] at N;cases N;refine⟨?_,Yv⟩;unfold q6A;rw[if_neg Yu,if_pos J,if_pos hw]
  ·rw[if_neg hw] at l;cases G:q5Y c.writes a.ad a.vl (adr x.th.rg i.a i.imm) (x.th.rg.get i.b.toNat) with
   |none=>
    rw[G] at l;exact q0W.busy l rfl (fun _=>f.off rfl rfl rfl rfl rfl (.inl rfl)) (fun h=>by rw[show(AT.undo {a with ph:= .idle} 3).dn=a.dn from rfl,E] at h;cases h)
   |some z=>
    obtain⟨ad,vl⟩:=z;rw[G] at l;dsimp only at l;obtain⟨g1,g2,g3⟩:=qfO f.len G;unfold q0W;rw[q5u,l,if_neg (q2n rfl),if_neg (q2n rfl),qlw (by show a.st≠2;rw[f.st];decide) Yu];have K:q3K x (({x with at':=some {a with ph:= .idle,ad:=ad,vl:=vl}}:GT).to p.length (x.th.pc+1)):=q8y q3K.at D f.dn;refine⟨r,by rw[T,zz],K,rfl,fun _=>f.next R C B H Yu K (.inl rfl) rfl ?_ f.st g1 f.rr (fun q o=>o) fun tk d hd _=>?_,fun h=>?_⟩
    ·exact F
    ·rw[qqW J (by show adr x.th.rg i.a i.imm<_;omega)];unfold q2x;rw[qk1 D (by exact f.dn)];unfold wrM BM.go;dsimp only;rw[toN,g2,<-qmH (ad':=ad) (vl':=vl) (a:=(adr x.th.rg i.a i.imm).toNat) (v:=x.th.rg.get i.b.toNat) (fun k=>by rw[toN];exact g3 k),g2];rfl
    ·rw[show({a with ph:= .idle,ad:=ad,vl:=vl}:AT).dn=a.dn from rfl,E] at h;cases h
end
open Go
section
variable{c:Cfg}{p:jg}{x x':GT}{a b:AT}{r r':List (Int×Int)}{i:Ins}{t n k:Nat}{m:MS}
theorem q0W.b2{z:MS×AT×AcM×Int}(d:qh c t m a=z)(hb:z.2.1.busy=true)(e:z.2.1.dn=false->TL c p x z.2.1 r)(hd:z.2.1.dn=true->a.ph= .dc):q0W c p t m x a r i:=
 q0W.busy (congrArg (fun z=>z.2.1) d) hb e hd
theorem q0W.rd(W:PrO p)(l:TL c p x a r)(X:AI c t m a)(I:p[x.th.pc]? =some i){j:Nat}{bf v:Int}(he:a.ph= .rd j bf v):q0W c p t m x a r i:=by
 have A:∀k,a.ph≠ .ent k:=fun k e=>by rw[he] at e;cases e
 have z:a.ph.back=false:=by rw[he];rfl
 have R:=(l.lt W A z).2 i I;have C:=X.ph;unfold PhA at C;rw[he] at C;dsimp only at C;obtain⟨⟨G,_⟩,hj,_⟩:=C;obtain⟨_,_,_,i',J,f⟩:=l.req A z;rw[I] at J;cases J;unfold q2K at f;rw[he] at f;dsimp only at f;obtain⟨P,E,w,hw,V⟩:=f;have B:∀(y:AT),y.dn=a.dn->y.dn=true->a.ph= .dc:=fun y e h=>by rw[e,G] at h;cases h
 by_cases O:j=0
 ·have o:(qh c t m a).2.1=if q4R (m.o.getD (qB c a.addr).toNat 0)>=0\/q7B (m.o.getD (qB c a.addr).toNat 0)>a.rv then a.undo 9 else{a with ph:= .rd 1 (m.o.getD (qB c a.addr).toNat 0) 0}:=by
   unfold qh;rw[he];dsimp only;rw[if_pos O]
  split at o
  ·exact q0W.busy o rfl (fun _=>l.off rfl rfl rfl rfl rfl (.inr (.inr rfl))) (B _ rfl)
  ·exact q0W.busy o rfl (fun _=>l.to A z rfl rfl rfl rfl rfl fun i I f=>by unfold q2K at f;rw[he] at f;exact f) (B _ rfl)
 ·by_cases T:j=1
  ·have o:(qh c t m a).2.1={a with ph:= .rd 2 bf (m.d.getD a.addr.toNat 0)}:=by unfold qh;rw[he];dsimp only;rw[if_neg O,if_pos T]
   exact q0W.busy o rfl (fun _=>l.to A z rfl rfl rfl rfl rfl fun i I f=>by unfold q2K at f;rw[he] at f;exact f) (B _ rfl)
  ·have H:fl a= [(a.addr,v)]:=by unfold fl;rw[he];dsimp only;rw[if_neg Yu]
   have o:(qh c t m a).2.1=if m.o.getD (qB c a.addr).toNat 0≠bf then a.undo 9 else match q6D c.reads a.set (qB c a.addr) with
    |none=>{a with seen:=q1Y a.seen a.addr}.undo 3
    |some s=>{a with seen:=q1Y a.seen a.addr,set:=s,val:=v,ph:= .idle}:=by
    unfold qh;rw[he];dsimp only;rw[if_neg O,if_neg T];rfl
   split at o
   ·exact q0W.busy o rfl (fun _=>l.off rfl rfl rfl rfl rfl (.inr (.inr rfl))) (B _ rfl)
   ·cases N:q6D c.reads a.set (qB c a.addr) with
    |none=>
     rw[N] at o;exact q0W.busy o rfl (fun _=>l.off rfl rfl rfl rfl rfl (.inl rfl)) (B _ rfl)
    |some s=>
     rw[N] at o;dsimp only at o;have K:x.th.pc+1≠p.length:=by have:=R Yu;omega
     unfold q0W;rw[q5u,o,if_neg (q2n rfl),if_neg (q2n rfl),qlx (by show a.st≠2;rw[l.st];decide) E];have U:q3K x (({x with at':=some {a with seen:=q1Y a.seen a.addr,set:=s,val:=v,ph:= .idle},th:={x.th with rg:=x.th.rg.set i.a.toNat v},seen:=x.seen++ [⟨x.th.pc,1,v⟩]}:GT).to p.length (x.th.pc+1)):=q8y ⟨rfl,rfl,rfl,rfl,rfl,rfl,rfl⟩ K l.dn;refine⟨r++fl a,rfl,U,rfl,fun _=>l.next W A z I Yu U (.inl rfl) rfl P l.st l.len (fun q f=>?_) (fun q f=>zP _ f) fun tk d hd Y=>?_,fun h=>?_⟩
     ·rw[H,zy,zf] at f
      rcases f with f|rfl
      ·have:=l.rr q f;exact⟨this.1,this.2.1,(q7F N).2 (.inl this.2.2)⟩
      ·exact⟨by rw[w];exact q4N _ _ _,hw,(q7F N).2 (.inr rfl)⟩
     ·rw[qhe E (by show adr x.th.rg i.b i.imm<_;rw[<-w];exact hw)];unfold q2x;rw[qk1 K (by exact l.dn)];have hm:adr x.th.rg i.b i.imm∉a.ad:=by rw[<-w];exact(q0I l.len).1 V
      have F:=Y (a.addr,v) (by rw[H];exact zJ _ (zf.2 rfl));dsimp only at F;have Q:(lay a.ad a.vl d).getD (adr x.th.rg i.b i.imm).toNat 0=v:=by
       have:=toN x.th.rg i.b i.imm;rw[q4S Yu,this,<-w,V];exact F
      dsimp only;rw[Q];unfold rdM BM.put;dsimp only;rw[toN,w];unfold q1Y
      by_cases D:adr x.th.rg i.b i.imm∈a.seen
      ·rw[if_pos (.inr D),if_pos D];rfl
      ·rw[if_neg (fun h=>h.elim hm D),if_neg D];rfl
     ·rw[show({a with seen:=q1Y a.seen a.addr,set:=s,val:=v,ph:= .idle}:AT).dn=a.dn from rfl,G] at h;cases h
theorem TL.rest(l:TL c p x a r){b:AT}(d:b.ad=a.ad)(e:b.vl=a.vl)(f:b.set=a.set)(j:b.st=a.st)(o:b.code=3\/b.code=6\/b.code=9):TL c p x b.rest r/\b.rest.busy=true:=by
 unfold AT.rest
 split
 ·exact⟨l.off d e f j rfl o,rfl⟩
 ·exact⟨l.off d e f j rfl o,rfl⟩
theorem q60(b:AT):b.rest.dn=b.dn/\b.rest.code=b.code/\b.rest.busy=true:=by
 unfold AT.rest
 split <;>exact⟨rfl,rfl,rfl⟩
theorem q0W.lk(v:TL c p x a r)(z:a.dn=false){s:Int}{ld:Bool}(he:a.ph= .lk s ld):q0W c p t m x a r i:=by
 have j:∀k,a.ph≠ .ent k:=fun k e=>by rw[he] at e;cases e
 have f:a.ph.back=false:=by rw[he];rfl
 have o:∀(y:AT),y.dn=a.dn->y.dn=true->a.ph= .dc:=fun y e h=>by rw[e,z] at h;cases h
 have l:∀(y:AT),(∃s ld,y.ph= .lk s ld)\/(∃b,y.ph= .tn b)->y.code=a.code->∀i,p[x.th.pc]? =some i->q2K c x a i->q2K c x y i:=fun y w e i _ l=>by
  unfold q2K at l ⊢;rw[he] at l
  rcases w with ⟨s,ld,w⟩|⟨b,w⟩ <;>rw[w] <;>dsimp only at l ⊢ <;>rw[e] <;>exact l
 have d:=q7w (c:=c) (t:=t) (m:=m) he;cases ld with
 |false=>
  rw[if_pos rfl] at d;exact q0W.b2 d rfl (fun _=>v.to j f rfl rfl rfl rfl rfl (l _ (.inl ⟨_,_,rfl⟩) rfl)) (o _ rfl)
 |true=>
  rw[if_neg Yv] at d
  by_cases hw:m.o.getD (a.oc.getD a.old.length 0).toNat 0=s
  ·rw[if_pos hw] at d
   by_cases hd:a.old.length+1=a.oc.length
   ·rw[if_pos hd] at d;exact q0W.b2 d rfl (fun _=>v.to j f rfl rfl rfl rfl rfl (l _ (.inr ⟨_,rfl⟩) rfl)) (o _ rfl)
   ·rw[if_neg hd] at d;exact q0W.b2 d rfl (fun _=>v.to j f rfl rfl rfl rfl rfl (l _ (.inl ⟨_,_,rfl⟩) rfl)) (o _ rfl)
  ·rw[if_neg hw] at d;exact q0W.b2 d rfl (fun _=>v.to j f rfl rfl rfl rfl rfl (l _ (.inl ⟨_,_,rfl⟩) rfl)) (o _ rfl)
theorem q0W.tnk(w:TL c p x a r)(B:a.dn=false)(he:(∃b,a.ph= .tn b)\/(∃l,a.ph= .ck l)\/a.ph= .dc):q0W c p t m x a r i:=by
 have o:∀k,a.ph≠ .ent k:=fun k e=>by rcases he with ⟨b,h⟩|⟨l,h⟩|h <;>rw[h] at e <;>cases e
 have j:a.ph.back=false:=by rcases he with ⟨b,h⟩|⟨l,h⟩|h <;>rw[h] <;>rfl
 have f:∀(y:AT),y.dn=a.dn->y.dn=true->a.ph= .dc:=fun y e h=>by rw[e,B] at h;cases h
 have C:∀i,q2K c x a i->a.code=q6A c x.th.rg i/\a.code≠0:=fun i v=>by
  unfold q2K at v
  rcases he with ⟨b,h⟩|⟨l,h⟩|h <;>rw[h] at v <;>exact v
 have v:∀(y:AT),(∃b,y.ph= .tn b)\/(∃l,y.ph= .ck l)\/y.ph= .dc->y.code=a.code->∀i,p[x.th.pc]? =some i->q2K c x a i->q2K c x y i:=fun y D e i _ v=>by
  have:=C i v;unfold q2K
  rcases D with ⟨b,h⟩|⟨l,h⟩|h <;>rw[h] <;>dsimp only <;>rw[e] <;>exact this
 have A:∀(y:AT),(qh c t m a).2.1=y.rest->y.ad=a.ad->y.vl=a.vl->y.set=a.set->y.st=a.st->y.dn=a.dn->(y.code=3\/y.code=6\/y.code=9)->q0W c p t m x a r i:=fun y D E F G H I J=>by
  have h:=w.rest E F G H J;exact q0W.busy D h.2 (fun _=>h.1) (f _ ((q60 y).1.trans I))
 rcases he with ⟨b,he⟩|⟨l,he⟩|he
 ·cases b with
  |false=>
   have d:=qaU (c:=c) (t:=t) (m:=m) he;exact q0W.b2 d rfl (fun _=>w.to o j rfl rfl rfl rfl rfl (v _ (.inl ⟨_,rfl⟩) rfl)) (f _ rfl)
  |true=>
   have d:=q8u (c:=c) (t:=t) (m:=m) he
   split at d
   ·split at d
    ·exact q0W.b2 d rfl (fun _=>w.to o j rfl rfl rfl rfl rfl (v _ (.inr (.inr rfl)) rfl)) (f _ rfl)
    ·exact q0W.b2 d rfl (fun _=>w.to o j rfl rfl rfl rfl rfl (v _ (.inr (.inl ⟨_,rfl⟩)) rfl)) (f _ rfl)
   ·exact q0W.b2 d (by unfold AT.busy;rw[he]) (fun _=>w) (f _ rfl)
 ·have d:=qh3 (c:=c) (t:=t) (m:=m) he
  split at d
  ·exact A {a with code:=9} (congrArg (fun z=>z.2.1) d) rfl rfl rfl rfl rfl (.inr (.inr rfl))
  ·split at d
   ·exact q0W.b2 d rfl (fun _=>w.to o j rfl rfl rfl rfl rfl (v _ (.inr (.inr rfl)) rfl)) (f _ rfl)
   ·exact q0W.b2 d rfl (fun _=>w.to o j rfl rfl rfl rfl rfl (v _ (.inr (.inl ⟨_,rfl⟩)) rfl)) (f _ rfl)
 ·have d:=q3u (c:=c) (t:=t) (m:=m) he
  split at d
  ·exact A {a with ck:=m.ck,code:=6} (congrArg (fun z=>z.2.1) d) rfl rfl rfl rfl rfl (.inr (.inl rfl))
  ·split at d
   ·exact q0W.b2 d rfl (fun h=>by cases h) (fun _=>he)
   ·refine q0W.b2 d (q60 _).2.2 (fun h=>?_) (fun _=>he);rw[(q60 _).1] at h;cases h
theorem q0W.back(v:TL c p x a r)(o:a.dn=false)(he:(∃l w,a.ph= .rl l w)\/a.ph= .ps):q0W c p t m x a r i:=by
 have j:∀(y:AT),y.dn=a.dn->y.dn=true->a.ph= .dc:=fun y e h=>by rw[e,o] at h;cases h
 have f:a.code=3\/a.code=6\/a.code=9:=by
  rcases v.ph with ⟨k,e,_⟩|⟨_,_,_,i,_,e⟩|⟨_,e⟩
  ·rcases he with ⟨l,w,h⟩|h <;>rw[h] at e <;>cases e
  ·unfold q2K at e
   rcases he with ⟨l,w,h⟩|h <;>rw[h] at e <;>exact e.elim
  ·exact e
 rcases he with ⟨l,w,he⟩|he
 ·have d:(qh c t m a).2.1=if l.tail= [] then{a with ph:=if a.dn/\a.sto then .sp else .ps} else{a with ph:= .rl l.tail w.tail}:=by unfold qh;rw[he]
  have e:(if a.dn=true/\a.sto=true then AP.sp else AP.ps)=AP.ps:=if_neg (fun h=>by rw[o] at h;cases h.1);rw[e] at d
  split at d
  ·exact q0W.busy d rfl (fun _=>v.off rfl rfl rfl rfl rfl f) (j _ rfl)
  ·exact q0W.busy d rfl (fun _=>v.off rfl rfl rfl rfl rfl f) (j _ rfl)
 ·have d:(qh c t m a).2.1={a with ph:= .lv}:=by unfold qh;rw[he]
  exact q0W.busy d rfl (fun _=>v.off rfl rfl rfl rfl rfl f) (j _ rfl)
theorem TL.adv(B:PrO p)(e:TL c p x a r)(f:AI c t m a)(o:p[x.th.pc]? =some i)(hb:a.busy=true)(d:a.dn=false)(z:a.ph≠ .lv):q0W c p t m x a r i:=by
 cases he:a.ph with
 |idle=>unfold AT.busy at hb;rw[he] at hb;cases hb
 |loc q=>exact q0W.loc B e o d he
 |ent j=>exact q0W.ent B e o d he
 |rd j b v=>exact q0W.rd B e f o he
 |lk s ld=>exact q0W.lk e d he
 |tn b=>exact q0W.tnk e d (.inl ⟨b,he⟩)
 |ck l=>exact q0W.tnk e d (.inr (.inl ⟨l,he⟩))
 |dc=>exact q0W.tnk e d (.inr (.inr he))
 |wr A V=>
  have:=f.ph;unfold PhA at this;rw[he] at this;rw[this.1] at d;cases d
 |rl l w=>exact q0W.back e d (.inl ⟨l,w,he⟩)
 |sp=>
  have:=f.ph;unfold PhA at this;rw[he] at this;rw[this.1] at d;cases d
 |ps=>exact q0W.back e d (.inr he)
 |lv=>exact absurd he z
end
open Go
section
variable{c:Cfg}{p:jg}{x x':GT}{a b:AT}{r r':List (Int×Int)}{i:Ins}{t n k:Nat}{m:MS}
theorem AI.idle(d:AI c t m a)(f:a.ph= .idle){y:AT}(j:y.oc=a.oc)(e:y.ad=a.ad)(v:y.vl=a.vl)(w:y.set=a.set)(z:y.rv=a.rv)(B:PhA c m y)(C:y.ph.tick=false)(A:y.ph.hold=false)(hd:y.held= []):AI c t m y:=
 ⟨B,fun _=>by rw[z];exact d.rv (by rw[f];rfl),fun h=>(by rw[C] at h;cases h),fun h=>(by rw[A] at h;cases h),fun o l=>(by rw[hd] at l;cases l),by rw[j];exact d.oc,by rw[j];exact d.nd,by rw[e];exact d.an,by rw[e];exact d.ar,by rw[e,v];exact d.al,by rw[w];exact d.st⟩
theorem qcf(Q:TL c p x a r)(O:AI c t m a)(o:a.ph= .idle)(Y:p[x.th.pc]? =some i)(hop:8<=i.op/\i.op<=11):
  TL c p x (q1D c x.th.rg a i) r/\AI c t m (q1D c x.th.rg a i)/\(q1D c x.th.rg a i).busy=true/\(q1D c x.th.rg a i).dn=a.dn/\(q1D c x.th.rg a i).rv=a.rv/\(∀q,q∈fl (q1D c x.th.rg a i)->False)/\(q1D c x.th.rg a i).ph.tick=false/\(q1D c x.th.rg a i).ph≠ .lv/\∀A V,(q1D c x.th.rg a i).ph≠ .wr A V:=by
 have F:∀k,a.ph≠ .ent k:=fun k e=>by rw[o] at e;cases e
 have E:a.ph.back=false:=by rw[o];rfl
 have R:a.fresh:=by have:=O.ph;unfold PhA at this;rw[o] at this;exact this
 have l:a.code=0:=by
  obtain⟨_,_,_,j,_,f⟩:=Q.req F E;unfold q2K at f;rw[o] at f;exact f
 have key:∀(y:AT),y.oc=a.oc->y.old=a.old->y.ad=a.ad->y.vl=a.vl->y.set=a.set->y.rv=a.rv->y.seen=a.seen->y.st=a.st->y.dn=a.dn->y.code=a.code->(∃q,y.ph= .loc q/\∀w v,q= .wr w v->0<=w)\/(y.ph= .rd 0 0 0/\0<=y.addr/\y.addr<c.words)->(q2K c x y i)->
   TL c p x y r/\AI c t m y/\y.busy=true/\y.dn=a.dn/\y.rv=a.rv/\(∀q,q∈fl y->False)/\y.ph.tick=false/\y.ph≠ .lv/\∀A V,y.ph≠ .wr A V:=by
  intro y H W I J K G X B N d P f;have D:y.fresh:=by unfold AT.fresh at R ⊢;rw[N,H,W];exact R
  have C:TL c p x y r:=Q.to F E I J X K B fun j U _=>by rw[Y] at U;cases U;exact f
  rcases P with ⟨q,e,hw⟩|⟨e,Z⟩
  ·refine⟨C,O.idle o H I J K G (by unfold PhA;rw[e];exact⟨D,hw⟩) (by rw[e];rfl) (by rw[e];rfl) (by unfold AT.held;rw[e]),by unfold AT.busy;rw[e],N,G,fun q f=>?_,by rw[e];rfl,fun h=>(by rw[e] at h;cases h),fun A V h=>(by rw[e] at h;cases h)⟩;unfold fl at f;rw[e] at f;cases f
  ·refine⟨C,O.idle o H I J K G (by unfold PhA;rw[e];exact⟨D,Yu,Z⟩) (by rw[e];rfl) (by rw[e];rfl) (by unfold AT.held;rw[e]),by unfold AT.busy;rw[e],N,G,fun q f=>?_,by rw[e];rfl,fun h=>(by rw[e] at h;cases h),fun A V h=>(by rw[e] at h;cases h)⟩;unfold fl at f;rw[e] at f;dsimp only at f;rw[if_pos (.inl rfl)] at f;cases f
 unfold q1D
 by_cases d:i.op=10
 ·rw[if_pos d];unfold AT.read
  by_cases hw:c.words<=adr x.th.rg i.b i.imm
  ·rw[if_pos hw];refine key _ rfl rfl rfl rfl rfl rfl rfl rfl rfl rfl (.inl ⟨_,rfl,fun _ _ e=>by cases e⟩) ⟨l,?_,Yv⟩;unfold q6A;rw[if_pos d,if_pos hw]
  ·rw[if_neg hw];cases T:q54 a.ad a.vl (adr x.th.rg i.b i.imm) with
   |some v=>exact key _ rfl rfl rfl rfl rfl rfl rfl rfl rfl rfl (.inl ⟨_,rfl,fun _ _ e=>by cases e⟩) ⟨l,d,Yu,T⟩
   |none=>exact key _ rfl rfl rfl rfl rfl rfl rfl rfl rfl rfl (.inr ⟨rfl,q4N _ _ _,by dsimp only;omega⟩) ⟨l,d,rfl,by dsimp only;omega,T⟩
 ·rw[if_neg d]
  by_cases z:i.op=11
  ·rw[if_pos z];exact key _ rfl rfl rfl rfl rfl rfl rfl rfl rfl rfl (.inl ⟨_,rfl,fun w v e=>by cases e;exact q4N _ _ _⟩) ⟨l,z,rfl,rfl⟩
  ·rw[if_neg z]
   by_cases B:i.op=8
   ·rw[if_pos B];refine key _ rfl rfl rfl rfl rfl rfl rfl rfl rfl rfl (.inl ⟨_,rfl,fun _ _ e=>by cases e⟩) ⟨l,?_,Yv⟩;unfold q6A;rw[if_neg d,if_neg z,if_pos B]
   ·rw[if_neg B];refine key _ rfl rfl rfl rfl rfl rfl rfl rfl rfl rfl (.inl ⟨_,rfl,fun _ _ e=>by cases e⟩) ⟨l,?_,Yv⟩;unfold q6A;rw[if_neg d,if_neg z,if_neg B,if_pos Yu]
theorem TL.locI(B:PrO p)(l:TL c p x a r)(f:a.ph= .idle)(D:p[x.th.pc]? =some i)(hop:0<=i.op/\i.op<=6):
  TL c p {x with th:={q1h x.th i with dn:=decide ((q1h x.th i).pc=p.length)}} a r:=by
 have z:∀k,a.ph≠ .ent k:=fun k e=>by rw[f] at e;cases e
 have w:a.ph.back=false:=by rw[f];rfl
 obtain⟨J,K,h3,j,G,A⟩:=l.req z w;rw[D] at G;cases G;obtain⟨ib,v,F⟩:=l.bg;obtain⟨H,I,e3,_⟩:=q93 B v F J K;obtain⟨c',hc,_,hl,_⟩:=q0g B.ck v F;obtain⟨N,l2,C,_⟩:=qfs B.ck D Yu;have C:=C (by rw[H];omega) Yu;rw[I] at C;have o:decide ((q1h x.th i).pc=p.length)=false:=decide_eq_false (by show q1L x.th i≠_;omega);have E:({q1h x.th i with dn:=decide ((q1h x.th i).pc=p.length)}:Thr)=q1h x.th i:=by
  rw[o];unfold q1h;rw[l.dn]
 unfold q2K at A;rw[f] at A;refine l.next B z w D Yu ⟨rfl,rfl,rfl,rfl,rfl,rfl,by dsimp only;rw[o];exact l.dn.symm⟩ (.inr ⟨N,C⟩) f A l.st l.len l.rr (fun q A=>A) fun tk d _ _=>?_
 unfold q0M q2x;rw[if_neg Yu,if_neg Yu,if_neg Yu,if_neg Yu,if_neg Yu,if_neg Yu];dsimp only;rw[E]
theorem TL.start(f:p[x.th.pc]? =some i)(j:i.op=7)(d:x.th.dn=false)(e:x.fn=none):TL c p {x with bg:=x.th.pc,sv:=x.th.rg,tr:=x.tr+1,seen:= [],ct:=x.ct+1} {AT.new with st:=1,ph:= .ent 0} []:=
 ⟨⟨i,f,j⟩,d,e,Nat.succ_ne_zero _,rfl,rfl,fun q l=>(by cases l), .inl ⟨0,rfl,rfl,rfl,rfl,rfl,rfl,rfl,rfl,rfl⟩,(z7.1 f).1⟩
theorem AI.start:AI c t m {AT.new with st:=1,ph:= .ent 0}:=
 ⟨⟨⟨rfl,rfl,rfl⟩,Yv⟩,fun h=>(by cases h),fun h=>(by cases h),fun h=>(by cases h),fun o d=>(by cases d),fun o d=>(by cases d),Y0,Y0,fun o d=>(by cases d),rfl,fun o d=>(by cases d)⟩
end
open Go
def pnd(b:AT):je:=match b.ph with
 | .wr _ _=>b.oc
 | .rl l _=>l
 |_=> []
def Pd(xs:List GT)(o:Int):Prop:=∃(u:Nat) (y:GT) (b:AT),xs[u]? =some y/\y.at'=some b/\b.dn=true/\o∈pnd b
def qhC(c:Cfg)(m:MS)(xs:List GT)(a:AT)(r:List (Int×Int)):Prop:=a.ph.back=true\/∃q∈r,a.rv<q17 m (qB c q.1)\/Pd xs (qB c q.1)
def VAq(c:Cfg)(m:MS)(xs:List GT)(d:je)(a:AT)(q:Int×Int):Prop:=q17 m (qB c q.1)<=a.rv->Pd xs (qB c q.1)\/d.getD q.1.toNat 0=q.2
def VA(c:Cfg)(m:MS)(xs:List GT)(d:je)(a:AT)(r:List (Int×Int)):Prop:=qhC c m xs a r\/∀q∈r++fl a,VAq c m xs d a q
structure TD(c:Cfg)(p:jg)(x:GT)(a:AT):Prop where
 bg:∃ib,p[x.bg]? =some ib/\ib.op=7
 fn:x.fn=none
 tr:x.tr≠0
 st:a.st=1
 cd:a.code=1\/a.code=2\/a.code=7
 dn:x.th.dn=false
 pl:x.th.pc<p.length
def qht(p:jg)(x:GT)(a:AT):Thr:=⟨q0v p x.bg+1,if a.code=1 then x.th.rg else x.sv,a.code,decide (q0v p x.bg+1=p.length)⟩
def qi4(x:GT)(a:AT):List ObM:=(if a.code=1 then x.obs++x.seen else x.obs)++ [⟨x.bg,3,a.code⟩]
def ThR(c:Cfg)(p:jg)(gt:Option Thr)(go:List ObM)(x:GT)(r:List (Int×Int)):Prop:=
 match x.at' with
 |none=>gt=some x.th/\go=x.obs/\x.th.pc<=p.length/\stB p x.th.pc<0/\x.th.dn=decide (x.th.pc=p.length)/\(x.fn≠none->x.tr=0/\∃i,p[x.th.pc]? =some i/\i.op=16)/\(x.tr≠0->∃i,p[x.th.pc]? =some i/\i.op=7)
 |some a=>if a.dn=true then gt=some (qht p x a)/\go=qi4 x a/\TD c p x a else gt=some ⟨x.bg,x.sv,x.th.oc,false⟩/\go=x.obs/\TL c p x a r
def MR(xs:List GT)(md d:je):Prop:=
 (∃(u:Nat) (y:GT) (b:AT) (A V:je),xs[u]? =some y/\y.at'=some b/\b.ph= .wr A V/\d=lay A V md)\/
 ((∀(u:Nat) (y:GT) (b:AT),xs[u]? =some y->y.at'=some b->∀A V,b.ph≠ .wr A V)/\d=md)
structure q0d(c:Cfg)(ps:List (jg))(n k:Nat)(m:MS)(xs:List GT)(g:GS)(r:Nat->List (Int×Int)):Prop where
 gm:GM c n k m
 xl:xs.length=n
 pl:ps.length=n
 tl:g.T.length=n
 ol:g.O.length=n
 dl:(g.d.length:Int)=c.words
 ai:∀(t:Nat) x a,xs[t]? =some x->x.at'=some a->AI c t m a
 ds:∀(u v:Nat) y z a b,xs[u]? =some y->xs[v]? =some z->y.at'=some a->z.at'=some b->u≠v->a.ph.tick=true->b.ph.tick=true->a.tk≠b.tk
 th:∀(t:Nat) x p,xs[t]? =some x->ps[t]? =some p->ThR c p g.T[t]? (g.O.getD t []) x (r t)
 va:∀(t:Nat) x a,xs[t]? =some x->x.at'=some a->a.dn=false->VA c m xs g.d a (r t)
 mr:MR xs m.d g.d
theorem q5M{a:AP}(h:a.hold=true):a.tick=true:=by
 cases a <;>first|rfl|cases h
section
variable{c:Cfg}{ps:List (jg)}{n k:Nat}{m m':MS}{xs:List GT}{g g':GS}{r r':Nat->List (Int×Int)}{t u:Nat}{x x':GT}{a b:AT}
theorem q0d.one(h:q0d c ps n k m xs g r)(l:xs[t]? =some x)(j:x.at'=some a)(d:a.ph.hold=true){y:GT}(o:xs[u]? =some y)(hb:y.at'=some b)(f:b.ph.hold=true):u=t:=by
 refine Decidable.byContradiction fun e=>?_
 have v:=(h.ai t x a l j).ho d;have w:=(h.ai u y b o hb).ho f;exact h.ds t u x y a b l o j hb (fun e'=>e e'.symm) (q5M d) (q5M f) (v.trans w.symm)
theorem q8h{o:Int}(h:o∈pnd b):b.ph.hold=true:=by
 unfold pnd at h;cases e:b.ph <;>rw[e] at h <;>first|rfl|cases h
theorem q0t{l:List GT}{z:GT}(h:u≠t):(l.set t z)[u]? =l[u]? :=by rw[zx,if_neg (fun e=>h e.symm)]
theorem q0c{l:List GT}{z:GT}(h:l[t]? =some x):(l.set t z)[t]? =some z:=by
 rw[zx,if_pos rfl,if_pos (z7.1 h).1]
theorem qhC.step(v:FrM t a m m'){l:List (Int×Int)}{d:List GT}(hb:b.rv<=m.ck)(w:∀o,Pd xs o->Pd d o\/m.ck<q17 m' o)(h:qhC c m xs b l):qhC c m' d b l:=by
 rcases h with h|⟨q,f,j|j⟩
 ·exact .inl h
 ·refine .inr ⟨q,f, .inl ?_⟩
  rcases v.ver (qB c q.1) with e|⟨_,_,e⟩ <;>rw[e] <;>omega
 ·rcases w _ j with h|h
  ·exact .inr ⟨q,f, .inr h⟩
  ·exact .inr ⟨q,f, .inl Yu⟩
theorem VA.step(z:FrM t a m m'){v:List (Int×Int)}{f:List GT}{w j:je}(hb:b.rv<=m.ck)(A:∀o,Pd xs o->Pd f o\/m.ck<q17 m' o)(hd:∀q∈v++fl b,j.getD q.1.toNat 0=w.getD q.1.toNat 0\/Pd f (qB c q.1))(h:VA c m xs w b v):VA c m' f j b v:=by
 rcases h with h|h
 ·exact .inl (h.step z hb A)
 ·refine .inr fun q B C=>?_
  rcases z.ver (qB c q.1) with e|⟨_,_,e⟩
  ·rw[e] at C
   rcases h q B C with l|l
   ·rcases A _ l with d|d
    ·exact .inl d
    ·rw[e] at d;omega
   ·rcases hd q B with d|d
    ·exact .inr (d.trans l)
    ·exact .inl d
  ·omega
end
open Go
def upR(r:Nat->List (Int×Int))(t:Nat)(l:List (Int×Int)):Nat->List (Int×Int):=fun u=>if u=t then l else r u
section
variable{c:Cfg}{ps:List (jg)}{n k:Nat}{m m':MS}{xs:List GT}{g g':GS}{r r':Nat->List (Int×Int)}{t u:Nat}{x x':GT}{a b:AT}{p:jg}{i:Ins}
theorem q7A{l:List (Int×Int)}:upR r t l t=l:=if_pos rfl
theorem qcJ{l:List (Int×Int)}(h:u≠t):upR r t l u=r u:=if_neg h
theorem qaE(b:AT):b.rest.tk=b.tk:=by unfold AT.rest;split <;>rfl
theorem qo9(h:(qh c t m a).2.1.ph.tick=true):(a.ph.tick=true/\(qh c t m a).2.1.tk=a.tk)\/(qh c t m a).2.1.tk=m.tk:=by
 unfold qh at h ⊢;cases e:a.ph with
 |idle=>rw[e] at h;dsimp only at h;rw[e] at h;cases h
 |loc q=>
  rw[e] at h;dsimp only at h;exfalso;have he:∀(y:AT) k,y.ph= .idle->(y.endA c k).ph.tick=true->False:=fun y k _ h=>by
   unfold AT.endA at h
   split at h <;>cases h
  cases q with
  |en k=>exact he _ _ rfl h
  |tk v=>cases h
  |wr w v=>
   unfold AT.kont at h;dsimp only at h
   split at h
   ·exact he _ _ rfl h
   ·split at h <;>cases h
 |ent j=>
  rw[e] at h;dsimp only at h;exfalso
  split at h
  ·cases h
  ·split at h <;>cases h
 |rd j b v=>
  rw[e] at h;dsimp only at h;exfalso
  split at h
  ·dsimp only at h
   split at h <;>cases h
  ·split at h
   ·cases h
   ·dsimp only at h
    split at h
    ·cases h
    ·split at h <;>cases h
 |lk s ld=>
  rw[e] at h;dsimp only at h;exfalso
  split at h
  ·cases h
  ·split at h
   ·dsimp only at h
    split at h <;>cases h
   ·cases h
 |tn b=>
  cases b with
  |false=>exact .inr rfl
  |true=>
   left;refine⟨rfl,?_⟩;dsimp only;rw[if_neg Yv];dsimp only
   split
   ·split <;>rfl
   ·rfl
 |ck l=>
  left;refine⟨rfl,?_⟩;dsimp only
  split
  ·rw[qaE]
  ·split <;>rfl
 |dc=>
  left;refine⟨rfl,?_⟩;dsimp only
  split
  ·rw[qaE]
  ·split
   ·rfl
   ·rw[qaE]
 |wr A V=>left;refine⟨rfl,?_⟩;dsimp only;split <;>rfl
 |rl l w=>left;refine⟨rfl,?_⟩;dsimp only;split <;>rfl
 |sp=>exact .inl ⟨rfl,rfl⟩
 |ps=>exact .inl ⟨rfl,rfl⟩
 |lv=>rw[e] at h;cases h
theorem Pd.set{o:Int}(l:xs[t]? =some x)(A:∀a,x.at'=some a->a.dn=true->o∈pnd a->(∃d,x'.at'=some d/\d.dn=true/\o∈pnd d)\/m.ck<q17 m' o)(h:Pd xs o):Pd (xs.set t x') o\/m.ck<q17 m' o:=by
 obtain⟨u,y,b,f,hb,hd,j⟩:=h
 by_cases e:u=t
 ·subst e;rw[l] at f;cases f
  rcases A b hb hd j with ⟨d,v,w,z⟩|h
  ·exact .inl ⟨u,x',d,q0c l,v,w,z⟩
  ·exact .inr h
 ·exact .inl ⟨u,y,b,by rw[q0t e];exact f,hb,hd,j⟩
theorem q0d.put(hC:COk c)(hn:n<=16)(hk:k<=100000)(h:q0d c ps n k m xs g r)(C:xs[t]? =some x)(U:x.at'=some a)
  (T:∀A,x'.at'=some A->A=(qh c t m a).2.1/\a.ph≠ .lv) (h1:g'.T.length=n) (h2:g'.O.length=n) (h3:(g'.d.length:Int)=c.words) (hu:∀u,u≠t->g'.T[u]? =g.T[u]? /\g'.O.getD u []=g.O.getD u []/\r' u=r u)
  (aj:∀p,ps[t]? =some p->ThR c p g'.T[t]? (g'.O.getD t []) x' (r' t)) (au:∀A,x'.at'=some A->A.dn=false->VA c (qh c t m a).1 (xs.set t x') g'.d A (r' t))
  (hP:a.dn=true->∀o∈pnd a,(∃A,x'.at'=some A/\A.dn=true/\o∈pnd A)\/m.ck<q17 (qh c t m a).1 o)
  (hd:∀(q:Int×Int),0<=q.1->q.1<c.words->g'.d.getD q.1.toNat 0=g.d.getD q.1.toNat 0\/Pd (xs.set t x') (qB c q.1)) (Z:MR (xs.set t x') (qh c t m a).1.d g'.d):q0d c ps n (k+1) (qh c t m a).1 (xs.set t x') g' r':=by
 have aq:t<n:=by rw[<-h.xl];exact(z7.1 C).1
 have hA:=h.ai t x a C U;obtain⟨s1,s2,s3⟩:=hA.step hC hn aq hk h.gm;have af:a.ph.hold=true->a.ph.tick=true/\a.tk=m.sv:=fun e=>⟨q5M e,hA.ho e⟩
 have W:∀o,Pd xs o->Pd (xs.set t x') o\/m.ck<q17 (qh c t m a).1 o:=fun o ho=>Pd.set C (fun b hb hd hm=>by rw[U] at hb;cases hb;exact hP hd o hm) ho
 refine⟨s2,by rw[zn];exact h.xl,h.pl,h1,h2,h3,fun u y b f hb=>?_,fun u v y z b d f J hb E R K I=>?_,fun u y p f hp=>?_,fun u y b f hb F=>?_,Z⟩
 ·by_cases e:u=t
  ·subst e;rw[q0c C] at f;cases f;obtain⟨rfl,Q⟩:=T b hb;exact s1 Q
  ·rw[q0t e] at f;exact(h.ai u y b f hb).frame e s3 (fun f1 f2=>h.ds t u x y a b C f U hb (fun e'=>e e'.symm) f1 f2) af
 ·have own:∀(w:Nat) (q:GT) (d:AT),w≠t->xs[w]? =some q->q.at'=some d->d.ph.tick=true->∀A,x'.at'=some A->A.ph.tick=true->A.tk≠d.tk:=fun w q d hw l hd I A X K=>by
   obtain⟨rfl,Q⟩:=T A X
   rcases qo9 K with ⟨f1,f2⟩|f2
   ·rw[f2];exact h.ds t w x q a d C l U hd (fun e'=>hw e'.symm) f1 I
   ·rw[f2];have:=((h.ai w q d l hd).tk I).2;omega
  by_cases V:u=t
  ·subst V;rw[q0c C] at f;cases f;have hv:v≠u:=fun e=>R e.symm
   rw[q0t hv] at J;exact own v z d hv J E I b hb K
  ·rw[q0t V] at f
   by_cases ev:v=t
   ·subst ev;rw[q0c C] at J;cases J;exact fun e=>own u y b V f hb K d E I e.symm
   ·rw[q0t ev] at J;exact h.ds u v y z b d f J hb E R K I
 ·by_cases e:u=t
  ·subst e;rw[q0c C] at f;cases f;exact aj p hp
  ·rw[q0t e] at f;obtain⟨f1,f2,f3⟩:=hu u e;rw[f1,f2,f3];exact h.th u y p f hp
 ·by_cases e:u=t
  ·subst e;rw[q0c C] at f;cases f;exact au b hb F
  ·rw[q0t e] at f;obtain⟨f1,f2,f3⟩:=hu u e;rw[f3];have O:=h.ai u y b f hb;have ae:u<ps.length:=by rw[h.pl,<-h.xl];exact(z7.1 f).1
   have N:=h.th u y _ f (z6 ae);unfold ThR at N;rw[hb] at N;dsimp only at N;rw[if_neg (by rw[F];decide)] at N;have H:=N.2.2
   by_cases G:b.ph.past=true
   ·refine(h.va u y b f hb F).step s3 (O.rv G).2 W fun q l=>?_
    rcases zy.1 l with l|l
    ·exact hd q (H.rr q l).1 (H.rr q l).2.1
    ·unfold fl at l;have B:=O.ph;unfold PhA at B;cases eb:b.ph <;>rw[eb] at l B <;>dsimp only at l B <;>first|cases l|skip
     split at l
     ·cases l
     ·rw[zf.1 l];exact hd _ B.2.2.1 B.2.2.2
   ·right;intro q l;exfalso;have P:∃j,b.ph= .ent j:=by
     cases eb:b.ph <;>rw[eb] at G <;>first|exact⟨_,rfl⟩|exact absurd rfl G
    obtain⟨j,Y⟩:=P
    rcases H.ph with ⟨_,_,D,_⟩|⟨_,_,_,i,_,D⟩|⟨D,_⟩
    ·rw[D] at l;unfold fl at l;rw[Y] at l;cases l
    ·unfold q2K at D;rw[Y] at D;exact D
    ·rw[Y] at D;cases D
end
open Go
section
variable{c:Cfg}{ps:List (jg)}{n k:Nat}{m m':MS}{xs:List GT}{g g':GS}{r r':Nat->List (Int×Int)}{t u:Nat}{x x':GT}{a b:AT}{p:jg}{i:Ins}
theorem q7U(y:AT)(k:Int):fl (y.endA c k)= []/\(y.endA c k).rv=y.rv:=by
 unfold AT.endA
 split <;>exact⟨rfl,rfl⟩
theorem q4y(y:AT):fl y.rest= []/\y.rest.rv=y.rv:=by
 unfold AT.rest
 split <;>exact⟨rfl,rfl⟩
theorem qha{q:Int×Int}(h:q∈fl (qh c t m a).2.1):q∈fl a\/((∃bf v,a.ph= .rd 1 bf v)/\q=(a.addr,m.d.getD a.addr.toNat 0)):=by
 unfold qh at h;cases e:a.ph with
 |idle=>rw[e] at h;exact .inl h
 |loc q=>
  rw[e] at h;dsimp only at h;exfalso;cases q with
  |en k=>rw[show AT.kont c {a with ph:= .idle} (.en k)=AT.endA c {a with ph:= .idle} k from rfl,(q7U _ _).1] at h;cases h
  |tk v=>cases h
  |wr w v=>
   unfold AT.kont at h;dsimp only at h
   split at h
   ·rw[(q7U _ _).1] at h;cases h
   ·split at h <;>cases h
 |ent j=>
  rw[e] at h;dsimp only at h;exfalso
  split at h
  ·cases h
  ·split at h <;>cases h
 |rd j b v=>
  rw[e] at h;dsimp only at h
  split at h
  ·exfalso;dsimp only at h
   split at h
   ·cases h
   ·unfold fl at h;dsimp only at h;rw[if_pos (.inr rfl)] at h;cases h
  ·split at h
   ·rename_i f;right;subst f;refine⟨⟨b,v,rfl⟩,?_⟩;unfold fl at h;dsimp only at h;rw[if_neg Yv] at h;exact zf.1 h
   ·exfalso;dsimp only at h
    split at h
    ·cases h
    ·split at h <;>cases h
 |lk s ld=>
  rw[e] at h;dsimp only at h;exfalso
  split at h
  ·cases h
  ·split at h
   ·unfold fl at h;dsimp only at h
    split at h
    ·rename_i d
     split at d <;>cases d
    ·cases h
   ·cases h
 |tn b=>
  rw[e] at h;dsimp only at h;exfalso
  split at h
  ·cases h
  ·dsimp only at h
   split at h
   ·split at h <;>cases h
   ·unfold fl at h;rw[e] at h;cases h
 |ck l=>
  rw[e] at h;dsimp only at h;exfalso
  split at h
  ·rw[(q4y _).1] at h;cases h
  ·split at h <;>cases h
 |dc=>
  rw[e] at h;dsimp only at h;exfalso
  split at h
  ·rw[(q4y _).1] at h;cases h
  ·split at h
   ·cases h
   ·rw[(q4y _).1] at h;cases h
 |wr A V=>rw[e] at h;dsimp only at h;exfalso;split at h <;>cases h
 |rl l w=>
  rw[e] at h;dsimp only at h;exfalso
  split at h
  ·unfold fl at h;dsimp only at h
   split at h
   ·rename_i d
    split at d <;>cases d
   ·cases h
  ·cases h
 |sp=>rw[e] at h;cases h
 |ps=>rw[e] at h;cases h
 |lv=>rw[e] at h;cases h
theorem qaX:(qh c t m a).2.1.rv=a.rv\/a.ph= .ent 1:=by
 unfold qh;cases e:a.ph with
 |loc q=>
  left;dsimp only;cases q with
  |en k=>rw[show AT.kont c {a with ph:= .idle} (.en k)=AT.endA c {a with ph:= .idle} k from rfl,(q7U _ _).2]
  |tk v=>rfl
  |wr w v=>
   unfold AT.kont;dsimp only
   split
   ·rw[(q7U _ _).2]
   ·split <;>rfl
 |ent j=>
  dsimp only
  split
  ·exact .inl rfl
  ·split
   ·rename_i h;subst h;exact .inr rfl
   ·exact .inl rfl
 |rd j b v=>
  left;dsimp only
  split
  ·dsimp only;split <;>rfl
  ·split
   ·rfl
   ·dsimp only
    split
    ·rfl
    ·split <;>rfl
 |lk s ld=>
  left;dsimp only
  split
  ·rfl
  ·split <;>rfl
 |tn b=>
  left;dsimp only
  split
  ·rfl
  ·dsimp only
   split
   ·split <;>rfl
   ·rfl
 |ck l=>
  left;dsimp only
  split
  ·rw[(q4y _).2]
  ·split <;>rfl
 |dc=>
  left;dsimp only
  split
  ·rw[(q4y _).2]
  ·split
   ·rfl
   ·rw[(q4y _).2]
 |wr A V=>left;dsimp only;split <;>rfl
 |rl l w=>left;dsimp only;split <;>rfl
 |_=>exact .inl rfl
theorem qcC(h:∀A V,a.ph≠ .wr A V):(qh c t m a).1.d=m.d:=by
 unfold qh;cases e:a.ph with
 |wr A V=>exact absurd e (h A V)
 |ent j=>
  dsimp only
  split
  ·rfl
  ·split <;>rfl
 |rd j b v=>
  dsimp only
  split
  ·rfl
  ·split <;>rfl
 |lk s ld=>
  dsimp only
  split
  ·rfl
  ·split <;>rfl
 |tn b=>
  dsimp only
  split <;>rfl
 |_=>rfl
theorem Pd.keep{o:Int}(l:xs[t]? =some x)(j:∀a,x.at'=some a->a.dn=true->o∈pnd a->False)(h:Pd xs o):Pd (xs.set t x') o:=by
 obtain⟨u,y,b,d,hb,hd,f⟩:=h
 by_cases e:u=t
 ·subst e;rw[l] at d;cases d;exact(j b hb hd f).elim
 ·exact⟨u,y,b,by rw[q0t e];exact d,hb,hd,f⟩
theorem MR.keep{md j:je}(l:xs[t]? =some x)(o:∀a,x.at'=some a->∀A V,a.ph≠ .wr A V)(v:∀a,x'.at'=some a->∀A V,a.ph≠ .wr A V)(h:MR xs md j):MR (xs.set t x') md j:=by
 rcases h with ⟨u,y,b,A,V,d,hb,he,f⟩|⟨h,f⟩
 ·by_cases e:u=t
  ·subst e;rw[l] at d;cases d;exact absurd he (o b hb A V)
  ·exact .inl ⟨u,y,b,A,V,by rw[q0t e];exact d,hb,he,f⟩
 ·refine .inr ⟨fun u y b d hb=>?_,f⟩
  by_cases e:u=t
  ·subst e;rw[q0c l] at d;cases d;exact v b hb
  ·rw[q0t e] at d;exact h u y b d hb
theorem AI.nwr(d:AI c t m a)(hd:a.dn=false):∀A V,a.ph≠ .wr A V:=fun A V e=>by
 have:=d.ph;unfold PhA at this;rw[e] at this;rw[this.1] at hd;cases hd
theorem q0d.word(h:q0d c ps n k m xs g r)(j:Int)(o:0<=j)(h1:j<c.words):Pd xs (qB c j)\/g.d.getD j.toNat 0=m.d.getD j.toNat 0:=by
 rcases h.mr with ⟨u,y,b,A,V,f,hb,he,d⟩|⟨_,d⟩
 ·have e:=(h.ai u y b f hb).ph;unfold PhA at e;rw[he] at e;obtain⟨v,q2,q3,q4,q5,w,q7,z,B⟩:=e;have hdl:=h.gm.dl
  by_cases hm:j∈A
  ·exact .inl ⟨u,y,b,f,hb,v,by unfold pnd;rw[he];exact B _ (z _ hm)⟩
  ·right;have l:((j.toNat:Nat):Int)=j:=Z2 o;rw[d,q4S Yu,l,(q0I w).2 hm];rfl
 ·exact .inr (by rw[d])
theorem qee(h:a.ph.back=true)(hd:a.dn=false)(d:a.ph≠ .lv):(qh c t m a).2.1.ph.back=true:=by
 unfold qh;cases e:a.ph with
 |rl l w=>
  dsimp only
  split
  ·dsimp only;rw[if_neg (by rw[hd];simp)];rfl
  ·rfl
 |ps=>rfl
 |lv=>exact absurd e d
 |_=>rw[e] at h;cases h
theorem q0d.advA(hC:COk c)(hn:n<=16)(hk:k<=100000)(h:q0d c ps n k m xs g r)(G:xs[t]? =some x)(H:x.at'=some a)(hb:a.busy=true)(hp:ps[t]? =some p)(X:PrO p)(hi:p[x.th.pc]? =some i)(f:a.dn=false)(A:a.ph≠ .lv)(j:(qh c t m a).2.1.dn=false):
  ∃rt,rt=(if(qh c t m a).2.1.busy then r t else r t++fl a)/\q0d c ps n (k+1) (q0H c p t m x a i).1 (xs.set t (q0H c p t m x a i).2.1) g (upR r t rt)/\(∃I,(q0H c p t m x a i).2.1.at'=some I/\I.dn=false):=by
 have Z:t<n:=by rw[<-h.xl];exact(z7.1 G).1
 have K:=h.ai t x a G H;obtain⟨s1,s2,s3⟩:=K.step hC hn Z hk h.gm;have N:=h.th t x p G hp;unfold ThR at N;rw[H] at N;dsimp only at N;rw[if_neg (by rw[f];decide)] at N;obtain⟨U,V,hT⟩:=N;obtain⟨rt,l,T,w,F,_⟩:=hT.adv (t:=t) (m:=m) X K hi hb f A;have F:=F j;have D:∀o,q17 (qh c t m a).1 o=q17 m o:=fun o=>by
  rcases s3.ver o with e|⟨e,_⟩
  ·exact e
  ·rw[f] at e;cases e
 have E:∀o,Pd xs o->Pd (xs.set t (q0H c p t m x a i).2.1) o:=fun o ho=>ho.keep G fun b hb hd _=>by rw[H] at hb;cases hb;rw[f] at hd;cases hd
 refine⟨rt,l,?_,_,w,j⟩;have l:rt=r t\/rt=r t++fl a:=by rw[l];split;exact .inl rfl;exact .inr rfl
 refine h.put hC hn hk G H (fun I J=>⟨by rw[w] at J;exact(Option.some.inj J).symm,A⟩) h.tl h.ol h.dl (fun u hu=>⟨rfl,rfl,qcJ hu⟩) (fun p' P=>?_) (fun I J h2=>?_) (fun e=>by rw[f] at e;cases e) (fun q _ _=> .inl rfl) ?_
 ·rw[hp] at P;cases P;unfold ThR;rw[w];dsimp only;rw[if_neg (by rw[j];decide),q7A,T.bg,T.sv,T.oc,T.obs];exact⟨U,V,F⟩
 ·have ea:I=(qh c t m a).2.1:=by rw[w] at J;exact(Option.some.inj J).symm
  subst ea;rw[q7A]
  by_cases z:a.ph= .ent 1
  ·right;intro q d;exfalso;have Y:r t= []:=by
    rcases hT.ph with ⟨_,_,C,_⟩|⟨_,_,_,i,_,C⟩|⟨C,_⟩
    ·exact C
    ·unfold q2K at C;rw[z] at C;exact C.elim
    ·rw[z] at C;cases C
   have O:fl a= []:=by unfold fl;rw[z]
   rcases zy.1 d with d|d
   ·rcases l with e|e <;>rw[e,Y] at d
    ·cases d
    ·rw[O] at d;cases d
   ·rcases qha d with d|⟨⟨_,_,e⟩,_⟩
    ·rw[O] at d;cases d
    ·rw[z] at e;cases e
  ·have Q:(qh c t m a).2.1.rv=a.rv:=by rcases qaX (c:=c) (t:=t) (m:=m) (a:=a) with e|e;exact e;exact absurd e z
   have R:∀q∈r t,q∈rt:=fun q d=>by rcases l with e|e <;>rw[e];exact d;exact zP _ d
   rcases h.va t x a G H f with (W|⟨q,d,hv⟩)|hv
   ·exact .inl (.inl (qee W f A))
   ·exact .inl (.inr ⟨q,R q d,hv.imp (fun h=>by rw[Q,D];exact h) (E _)⟩)
   ·right;intro q d hle;rw[Q,D] at hle;have hold:q∈r t++fl a->Pd (xs.set t (q0H c p t m x a i).2.1) (qB c q.1)\/g.d.getD q.1.toNat 0=q.2:=fun d=>(hv q d hle).imp (E _) id
    rcases zy.1 d with d|d
    ·rcases l with e|e <;>rw[e] at d
     ·exact hold (zP _ d)
     ·exact hold d
    ·rcases qha d with d|⟨⟨bf,v,e⟩,rfl⟩
     ·exact hold (zJ _ d)
     ·have B:=K.ph;unfold PhA at B;rw[e] at B;exact(h.word a.addr B.2.2.1 B.2.2.2).imp (E _) id
 ·rw[qcC (K.nwr f)];refine h.mr.keep G (fun b hb=>by rw[H] at hb;cases hb;exact K.nwr f) fun b hb=>?_
  rw[w] at hb;cases hb;exact(s1 A).nwr j
end
open Go
def q4o(c:Cfg)(ps:List (jg)):GS->List ChM->Option GS
 |g,[]=>some g
 |g,ch::l=>match chM c ps g ch with
  |some g'=>q4o c ps {g' with n:=g.n+1} l
  |none=>none
section
variable{c:Cfg}{ps:List (jg)}{n k:Nat}{m m':MS}{xs:List GT}{g g':GS}{r r':Nat->List (Int×Int)}{t u:Nat}{x x':GT}{a b:AT}{p:jg}{i:Ins}
theorem q40{ch:ChM}(h:chM c ps g ch=some g'):q4o c ps g [ch]=some {g' with n:=g.n+1}:=by
 unfold q4o;rw[h];rfl
theorem qc1{rg:Rg}(h:q6A c rg i≠0):q6A c rg i=1\/q6A c rg i=2\/q6A c rg i=7:=by
 unfold q6A at h ⊢
 (repeat' split) <;>simp_all
theorem qoa{b:BM}(h:q6A c b.t.rg i≠0):q0M c b i=(b.go,q6A c b.t.rg i):=by
 unfold q6A at h ⊢;unfold q0M
 by_cases d:i.op=10
 ·rw[if_pos d] at h ⊢;rw[if_pos d]
  split
  ·rename_i hw;rfl
  ·rename_i hw;rw[if_neg hw] at h;exact absurd rfl h
 ·rw[if_neg d] at h ⊢;rw[if_neg d]
  by_cases e:i.op=11
  ·rw[if_pos e] at h ⊢;rw[if_pos e]
   split
   ·rename_i hw;rfl
   ·rename_i hw;rw[if_neg hw] at h;exact absurd rfl h
  ·rw[if_neg e] at h ⊢;rw[if_neg e]
   by_cases f:i.op=8
   ·rw[if_pos f] at h ⊢;rw[if_neg Yu,if_neg Yu,if_pos f]
   ·rw[if_neg f] at h ⊢
    by_cases j:i.op=9
    ·rw[if_pos j] at h ⊢;rw[if_neg Yu,if_neg Yu,if_neg f,if_pos j]
    ·rw[if_neg j] at h;exact absurd rfl h
def q5d(p:jg)(g:GS)(x:GT)(a:AT)(t:Nat):GS:=
 if a.code=1 then((g.mem (lay a.ad a.vl g.d) g.tk).ev [⟨g.n,t,3,0,[],[]⟩,⟨g.n,t,4,0,a.seen,a.ad⟩]).fin t (qht p x a) (x.seen++ [⟨x.bg,3,a.code⟩])
 else(g.ev [⟨g.n,t,3,0,[],[]⟩,⟨g.n,t,4,0,a.seen,[]⟩]).fin t (qht p x a) [⟨x.bg,3,a.code⟩]
theorem qkg(E:TL c p x a (r t))(v:g.T[t]? =some ⟨x.bg,x.sv,x.th.oc,false⟩)(J:ps[t]? =some p)(hd:(g.d.length:Int)=c.words)(G:Agr (r t) g.d)(l:a.ph= .dc):
  chM c ps g ⟨(t:Int),0,[]⟩=some (q5d p g x a t):=by
 have z:∀k,a.ph≠ .ent k:=fun k e=>by rw[l] at e;cases e
 obtain⟨_,_,H,i,I,B⟩:=E.req z (by rw[l];rfl);unfold q2K at B;rw[l] at B;obtain⟨C,D⟩:=B;have A:q6A c (q2x x a g.tk g.d).t.rg i=a.code:=C.symm;have d:q6A c (q2x x a g.tk g.d).t.rg i≠0:=by rw[A];exact D
 have o:=qoa d;have f:=(H g.tk g.d hd G).fin I (by rw[o];exact d);rw[o,A] at f;obtain⟨ib,w,F⟩:=E.bg;unfold chM;rw[if_neg (by dsimp only;omega),zD,v,J];dsimp only;rw[if_neg Yv,w];dsimp only;rw[if_pos F];unfold txM;rw[if_neg Yv];have e:(⟨g.d,g.tk,⟨x.bg+1,x.sv,x.th.oc,false⟩,[],[],[],[]⟩:BM)=q6H x g.tk g.d:=rfl;rw[e,f];dsimp only;have K:=qc1 d;rw[A] at K;rw[if_neg (fun h=>by rcases h with h|h;omega;exact h rfl)];unfold q5d qht
 by_cases j:a.code=1
 ·rw[if_pos j,if_pos j,if_pos j,j];rfl
 ·rw[if_neg j,if_neg j,if_neg j];rfl
theorem qp1(d:t<g.T.length):(q5d p g x a t).T[t]? =some (qht p x a)/\(∀u,u≠t->(q5d p g x a t).T[u]? =g.T[u]?)/\(q5d p g x a t).T.length=g.T.length:=by
 have e:(q5d p g x a t).T=g.T.set t (qht p x a):=by unfold q5d;split <;>rfl
 rw[e];exact⟨by rw[zx,if_pos rfl,if_pos d],fun u hu=>by rw[zx,if_neg (fun e=>hu e.symm)],zn⟩
theorem qp0(j:t<g.O.length)(f:g.O.getD t []=x.obs):(q5d p g x a t).O.getD t []=qi4 x a/\(∀u,u≠t->(q5d p g x a t).O.getD u []=g.O.getD u [])/\(q5d p g x a t).O.length=g.O.length:=by
 have e:(q5d p g x a t).O=g.O.set t (qi4 x a):=by
  unfold q5d qi4
  by_cases d:a.code=1
  ·rw[if_pos d,if_pos d,<-f,zd];rfl
  ·rw[if_neg d,if_neg d,<-f];rfl
 rw[e];refine⟨by rw[zh,zx,if_pos rfl,if_pos j];rfl,fun u hu=>by rw[zh,zx,if_neg (fun e=>hu e.symm),zh],zn⟩
theorem qbs:(q5d p g x a t).d=if a.code=1 then lay a.ad a.vl g.d else g.d:=by
 unfold q5d
 split <;>rfl
theorem qfV(b:AT):(∀A V,b.rest.ph≠ .wr A V)/\b.rest.st=b.st:=by
 unfold AT.rest
 split
 ·exact⟨fun A V h=>(by cases h),rfl⟩
 ·exact⟨fun A V h=>(by cases h),rfl⟩
theorem q0d.quiet(h:q0d c ps n k m xs g r)(j:xs[t]? =some x)(f:x.at'=some a)(l:a.ph.hold=true)(o:∀A V,a.ph≠ .wr A V):g.d=m.d:=by
 rcases h.mr with ⟨u,y,b,A,V,d,hb,he,_⟩|⟨_,e⟩
 ·have e:=h.one j f l d hb (by rw[he];rfl);subst e;rw[j] at d;cases d;rw[f] at hb;cases hb;exact absurd he (o A V)
 ·exact e
theorem q0d.agr(h:q0d c ps n k m xs g r)(v:xs[t]? =some x)(l:x.at'=some a)(B:TL c p x a (r t))(f:a.dn=false)(d:a.ph= .dc):Agr (r t) g.d:=by
 have F:=h.ai t x a v l;have j:=F.ph;unfold PhA at j;rw[d] at j;obtain⟨_,_,_,_,D⟩:=j;intro q C;have hle:=D _ (B.rr q C).2.2;have E:∀o,¬Pd xs o:=fun o ⟨u,y,b,A,hb,hd,G⟩=>by
  have e:=h.one v l (by rw[d];rfl) A hb (q8h G);subst e;rw[v] at A;cases A;rw[l] at hb;cases hb;rw[f] at hd;cases hd
 rcases h.va t x a v l f with (hb|⟨H,w,hlt|j⟩)|z
 ·rw[d] at hb;cases hb
 ·have:=D _ (B.rr H w).2.2;omega
 ·exact absurd j (E _)
 ·exact(z q (zP _ C) hle).resolve_left (E _)
theorem q0d.advB(hC:COk c)(hn:n<=16)(hk:k<=100000)(h:q0d c ps n k m xs g r)(z:xs[t]? =some x)(D:x.at'=some a)(hb:a.busy=true)(X:ps[t]? =some p)(Z:PrO p)(hi:p[x.th.pc]? =some i)(l:a.dn=false)(G:a.ph≠ .lv)(d:(qh c t m a).2.1.dn=true):
  a.ph= .dc/\(q0H c p t m x a i).2.1={x with at':=some (qh c t m a).2.1}/\q4o c ps g [⟨t,0,[]⟩]=some {q5d p g x a t with n:=g.n+1}/\
   q0d c ps n (k+1) (q0H c p t m x a i).1 (xs.set t (q0H c p t m x a i).2.1) {q5d p g x a t with n:=g.n+1} r:=by
 have K:t<n:=by rw[<-h.xl];exact(z7.1 z).1
 have E:=h.ai t x a z D;have F:=h.th t x p z X;unfold ThR at F;rw[D] at F;dsimp only at F;rw[if_neg (by rw[l];decide)] at F;obtain⟨O,P,o⟩:=F;obtain⟨_,_,_,_,_,hD⟩:=o.adv (t:=t) (m:=m) Z E hi hb l G;obtain⟨f,hX⟩:=hD d;have V:=h.agr z D o l f;have hq:=h.quiet z D (by rw[f];rfl) (E.nwr l);have T:=qkg o O X h.dl V f;have B:=E.ph;unfold PhA at B;rw[f] at B;obtain⟨_,hol,W,_,_⟩:=B;obtain⟨i',hi',v⟩:∃i,p[x.th.pc]? =some i/\q2K c x a i:=(o.req (fun k e=>by rw[f] at e;cases e) (by rw[f];rfl)).2.2.2
 unfold q2K at v;rw[f] at v;have R:a.code=1\/a.code=2\/a.code=7:=by rw[v.1];exact qc1 (by rw[<-v.1];exact v.2)
 --what the step leaves
 have J:=q3u (c:=c) (t:=t) (m:=m) f;have N:(qh c t m a).2.1=(if a.sto then{a with ck:=m.ck,dn:=true,ph:= .wr a.ad a.vl} else({a with ck:=m.ck,dn:=true}:AT).rest):=by
  rw[J];dsimp only
  split
  ·rename_i U;rw[J] at d;dsimp only at d;rw[if_pos U,(q60 _).1] at d;rw[show({a with ck:=m.ck,code:=6}:AT).dn=a.dn from rfl,l] at d;cases d
  ·rfl
 have A:(qh c t m a).2.1.code=a.code/\(qh c t m a).2.1.st=a.st:=by
  rw[N]
  split
  ·exact⟨rfl,rfl⟩
  ·exact⟨(q60 _).2.1,(qfV _).2⟩
 refine⟨f,hX,q40 T,?_⟩;obtain⟨t1,t2,t3⟩:=qp1 (p:=p) (x:=x) (a:=a) (g:=g) (t:=t) (by rw[h.tl];exact K);obtain⟨o1,o2,o3⟩:=qp0 (p:=p) (x:=x) (a:=a) (g:=g) (t:=t) (by rw[h.ol];exact K) P;have Y:∀j∈a.ad,a.code=1->Pd (xs.set t {x with at':=some (qh c t m a).2.1}) (qB c j):=fun j hj w=>by
  refine⟨t,_,(qh c t m a).2.1,q0c z,rfl,d,?_⟩;rw[N,if_pos (by unfold AT.sto;exact decide_eq_true ⟨w,yr hj⟩)];exact W.1 w j hj
 rw[hX];refine h.put hC hn hk z D (fun a' w=>⟨(Option.some.inj w).symm,G⟩) (by dsimp only;rw[t3,h.tl]) (by dsimp only;rw[o3,h.ol]) ?_ (fun u hu=>⟨t2 u hu,o2 u hu,rfl⟩) (fun p' H=>?_) (fun a' w h2=>?_) (fun e=>by rw[l] at e;cases e) (fun q h0 w=>?_) ?_
 ·dsimp only;rw[qbs]
  split
  ·rw[qmG];exact h.dl
  ·exact h.dl
 ·rw[X] at H;cases H;unfold ThR;dsimp only;rw[if_pos d];refine⟨?_,?_,o.bg,o.fn,o.tr,A.2.trans o.st,by rw[A.1];exact R,o.dn,o.pl⟩
  ·rw[t1];unfold qht;dsimp only;rw[A.1]
  ·rw[o1];unfold qi4;dsimp only;rw[A.1]
 ·cases w;rw[d] at h2;cases h2
 ·dsimp only;rw[qbs];have e2:((q.1.toNat:Nat):Int)=q.1:=Z2 h0;have hdl:=h.dl
  split
  ·rename_i Q
   by_cases hm:q.1∈a.ad
   ·exact .inr (Y _ hm Q)
   ·left;rw[q4S Yu,e2,(q0I o.len).2 hm];rfl
  ·exact .inl rfl
 ·dsimp only;rw[qbs,qcC (E.nwr l)]
  by_cases I:a.sto=true
  ·left;have C:a.code=1/\a.ad≠ []:=by unfold AT.sto at I;exact of_decide_eq_true I
   refine⟨t,_,(qh c t m a).2.1,a.ad,a.vl,q0c z,rfl,by rw[N,if_pos I],?_⟩;rw[if_pos C.1,hq]
  ·have C:¬(a.code=1/\a.ad≠ []):=fun e=>I (by unfold AT.sto;exact decide_eq_true e)
   have e:(if a.code=1 then lay a.ad a.vl g.d else g.d)=g.d:=by
    split
    ·rename_i w;have:a.ad= []:=Decidable.byContradiction fun e=>C ⟨w,e⟩
     rw[this,qar]
    ·rfl
   rw[e];refine h.mr.keep z (fun b hb=>by rw[D] at hb;cases hb;exact E.nwr l) fun b hb=>?_
   cases hb;rw[N,if_neg I];exact(qfV _).1
end
open Go
section
variable{c:Cfg}{ps:List (jg)}{n k:Nat}{m m':MS}{xs:List GT}{g g':GS}{r r':Nat->List (Int×Int)}{t u:Nat}{x x':GT}{a b:AT}{p:jg}{i:Ins}
theorem AI.dec_ph(f:AI c t m a)(hd:a.dn=true):(∃A V,a.ph= .wr A V)\/(∃l w,a.ph= .rl l w)\/a.ph= .sp\/a.ph= .ps\/a.ph= .lv:=by
 have d:=f.ph;unfold PhA at d;cases e:a.ph with
 |wr A V=>exact .inl ⟨A,V,rfl⟩
 |rl l w=>exact .inr (.inl ⟨l,w,rfl⟩)
 |sp=>exact .inr (.inr (.inl rfl))
 |ps=>exact .inr (.inr (.inr (.inl rfl)))
 |lv=>exact .inr (.inr (.inr (.inr rfl)))
 |idle=>rw[e] at d;have:=d.1;rw[hd] at this;cases this
 |loc q=>rw[e] at d;have:=d.1.1;rw[hd] at this;cases this
 |ent j=>rw[e] at d;have:=d.1.1;rw[hd] at this;cases this
 |rd j b v=>rw[e] at d;have:=d.1.1;rw[hd] at this;cases this
 |lk s l=>rw[e] at d;have:=d.1;rw[hd] at this;cases this
 |tn b=>rw[e] at d;have:=d.1;rw[hd] at this;cases this
 |ck l=>rw[e] at d;have:=d.1;rw[hd] at this;cases this
 |dc=>rw[e] at d;have:=d.1;rw[hd] at this;cases this
theorem qqR{A V:je}(h:a.ph= .wr A V)(e:A.tail= []):qh c t m a=({m with d:=m.d.set (A.headD 0).toNat (V.headD 0)},{a with ph:= .rl a.oc (a.oc.map fun _=>(a.ck+1)*64)},acS 1 (A.headD 0) (m.d.getD (A.headD 0).toNat 0) (V.headD 0),17):=by
 unfold qh;simp only[h,e,if_true]
theorem qqS{A V:je}(h:a.ph= .wr A V)(e:A.tail≠ []):qh c t m a=({m with d:=m.d.set (A.headD 0).toNat (V.headD 0)},{a with ph:= .wr A.tail V.tail},acS 1 (A.headD 0) (m.d.getD (A.headD 0).toNat 0) (V.headD 0),17):=by
 unfold qh;simp only[h,e,if_false]
theorem q0d.advD(hC:COk c)(hn:n<=16)(hk:k<=100000)(h:q0d c ps n k m xs g r)(C:xs[t]? =some x)(E:x.at'=some a)(hp:ps[t]? =some p)(z:a.dn=true)(Q:a.ph≠ .lv):
  (qh c t m a).2.1.dn=true/\(qh c t m a).2.1.busy=true/\q0d c ps n (k+1) (qh c t m a).1 (xs.set t {x with at':=some (qh c t m a).2.1}) g r:=by
 have htn:t<n:=by rw[<-h.xl];exact(z7.1 C).1
 have X:=h.ai t x a C E;have P:=h.th t x p C hp;unfold ThR at P;rw[E] at P;dsimp only at P;rw[if_pos z] at P;obtain⟨aj,aq,I⟩:=P;have B:=X.ph;unfold PhA at B;have main:∀(y:AT) (m':MS),qh c t m a=(m',y,(qh c t m a).2.2)->y.dn=true->y.busy=true->y.code=a.code->y.st=a.st->(∀o∈pnd a,o∈pnd y\/m.ck<q17 m' o)->
   MR (xs.set t {x with at':=some y}) m'.d g.d->(qh c t m a).2.1.dn=true/\(qh c t m a).2.1.busy=true/\q0d c ps n (k+1) (qh c t m a).1 (xs.set t {x with at':=some (qh c t m a).2.1}) g r:=by
  intro y m' T N h2 h3 h4 h5 h6;have W:(qh c t m a).2.1=y:=by rw[T]
  have e2:(qh c t m a).1=m':=by rw[T]
  rw[W];refine⟨N,h2,?_⟩;refine h.put hC hn hk C E (fun a' h=>⟨by rw[W];exact(Option.some.inj h).symm,Q⟩) h.tl h.ol h.dl (fun u _=>⟨rfl,rfl,rfl⟩) (fun p' R=>?_) (fun a' ae O=>?_) (fun _ o f=>?_) (fun q _ _=> .inl rfl) (by rw[e2];exact h6)
  ·rw[hp] at R;cases R;unfold ThR;dsimp only;rw[if_pos N];refine⟨?_,?_,I.bg,I.fn,I.tr,h4.trans I.st,by rw[h3];exact I.cd,I.dn,I.pl⟩
   ·rw[aj];unfold qht;dsimp only;rw[h3]
   ·rw[aq];unfold qi4;dsimp only;rw[h3]
  ·cases ae;rw[N] at O;cases O
  ·rw[e2]
   rcases h5 o f with h|h
   ·exact .inl ⟨y,rfl,N,h⟩
   ·exact .inr h
 have D:∀(y:AT),(∀A V,a.ph≠ .wr A V)->(∀A V,y.ph≠ .wr A V)->MR (xs.set t {x with at':=some y}) m.d g.d:=fun y N h2=>
  h.mr.keep C (fun b hb=>by rw[E] at hb;cases hb;exact N) fun b hb=>by cases hb;exact h2
 rcases X.dec_ph z with ⟨A,V,e⟩|⟨l,w,e⟩|e|e|e
 ·rw[e] at B;obtain⟨_,Y,q2,q3,q4,U,J,q7,q8⟩:=B;have af:∀w∈A,0<=w/\w<c.words:=fun w hw=>X.ar w (q7 w hw)
  --the only writer
  have ax:g.d=lay A V m.d:=by
   rcases h.mr with ⟨u,y,b,A',V',G,hb,he,hg⟩|⟨ay,_⟩
   ·have e':=h.one C E (by rw[e];rfl) G hb (by rw[he];rfl);subst e';rw[C] at G;cases G;rw[E] at hb;cases hb;rw[e] at he;cases he;exact hg
   ·exact absurd e (ay t x a C E A V)
  obtain⟨j,K,rfl⟩:=yI q4;obtain⟨v,V2,rfl⟩:∃v V2,V=v::V2:=yI (fun e=>by rw[e] at U;cases U)
  have au:=af j zj;have ej:((j.toNat:Nat):Int)=j:=Z2 au.1;rw[yt] at J;have aw:K.length=V2.length:=by simpa using U
  have F:g.d=lay K V2 (m.d.set j.toNat v):=by
   rw[ax];have:=qit (a:=j.toNat) (v:=v) (ad:=K) (vl:=V2) (d:=m.d) aw (by rw[ej];exact J.1);rw[ej] at this;exact this
  by_cases H:K= []
  ·refine main {a with ph:= .rl a.oc (a.oc.map fun _=>(a.ck+1)*64)} {m with d:=m.d.set j.toNat v} (by rw[qqR e H];rfl) z rfl rfl rfl (fun o f=> .inl ?_) ?_
   ·unfold pnd at f ⊢;rw[e] at f;exact f
   ·right;refine⟨fun u y b G hb A V he=>?_,by rw[F,H,qar]⟩
    by_cases Z:u=t
    ·subst Z;rw[q0c C] at G;cases G;cases hb;cases he
    ·rw[q0t Z] at G;exact Z (h.one C E (by rw[e];rfl) G hb (by rw[he];rfl))
  ·refine main {a with ph:= .wr K V2} {m with d:=m.d.set j.toNat v} (by rw[qqS e H];rfl) z rfl rfl rfl (fun o f=> .inl ?_) ?_
   ·unfold pnd at f ⊢;rw[e] at f;exact f
   ·exact .inl ⟨t,_,_,K,V2,q0c C,rfl,rfl,F⟩
 ·rw[e] at B;obtain⟨Y,q2,q3,q4,U⟩:=B
  rcases U with ⟨_,J,q7,q8,q9⟩|⟨J,_⟩
  ·have aA:w≠ []:=fun e=>Y (zC.1 (by rw[q3,e];rfl))
   have hv:∀o∈l,o∉l.tail->m.ck<q17 {m with o:=m.o.set (l.headD 0).toNat (w.headD 0)} o:=fun o f az=>by
    have W:o=l.headD 0:=by
     rw[<-q84 Y,zN] at f
     rcases f with f|f
     ·exact f
     ·exact absurd f az
    subst W;have hlen:=X.oc _ (q2 _ (q5L Y));unfold q17;dsimp only;rw[q91 hlen.2,q9 _ (q5L aA),(qf2 _).1];omega
   by_cases ht:l.tail= []
   ·have hs:a.dn=true/\a.sto=true:=⟨z,by unfold AT.sto;exact decide_eq_true ⟨J,q7⟩⟩
    refine main {a with ph:= .sp} {m with o:=m.o.set (l.headD 0).toNat (w.headD 0)} (by unfold qh;rw[e];dsimp only;rw[if_pos ht,if_pos hs]) z rfl rfl rfl (fun o f=> .inr (hv o ?_ ?_)) (D _ (fun A V h=>by rw[e] at h;cases h) fun A V h=>by cases h)
    ·unfold pnd at f;rw[e] at f;exact f
    ·rw[ht];exact List.not_mem_nil
   ·refine main {a with ph:= .rl l.tail w.tail} {m with o:=m.o.set (l.headD 0).toNat (w.headD 0)} (by unfold qh;rw[e];dsimp only;rw[if_neg ht]) z rfl rfl rfl (fun o f=>?_) (D _ (fun A V h=>by rw[e] at h;cases h) fun A V h=>by cases h);unfold pnd at f;rw[e] at f
    by_cases hm:o∈l.tail
    ·exact .inl hm
    ·exact .inr (hv o f hm)
  ·rw[z] at J;cases J
 ·exact main {a with ph:= .ps} {m with ck:=qQ (a.ck+1)} (by unfold qh;rw[e]) z rfl rfl rfl (fun o f=>by unfold pnd at f;rw[e] at f;cases f) (D _ (fun A V h=>by rw[e] at h;cases h) fun A V h=>by cases h)
 ·exact main {a with ph:= .lv} {m with sv:=qQ (a.tk+1)} (by unfold qh;rw[e]) z rfl rfl rfl (fun o f=>by unfold pnd at f;rw[e] at f;cases f) (D _ (fun A V h=>by rw[e] at h;cases h) fun A V h=>by cases h)
 ·exact absurd e Q
end
open Go
section
variable{c:Cfg}{ps:List (jg)}{n k:Nat}{m m':MS}{xs:List GT}{g g':GS}{r r':Nat->List (Int×Int)}{t u:Nat}{x x':GT}{a b:AT}{p:jg}{i:Ins}
def qot(a:AT):Int:=if a.code=9 then 5 else a.code
theorem qlU(d:a.code≠1)(e:¬(a.code=9/\(x.tr:Int)<((p[x.bg]?).map (·.imm)).getD 0)):x.endG p a=({x with at':=none,th:={x.th with rg:=x.sv,oc:=qot a},tr:=0,obs:=x.obs++ [⟨x.bg,3,qot a⟩]}:GT).to p.length (q0v p x.bg+1):=by
 unfold GT.endG;rw[if_neg d,if_neg e];rfl
theorem q7W:(x.endG p a).at'=none:=by
 unfold GT.endG;dsimp only
 split
 ·split <;>rfl
 ·split <;>rfl
theorem qe8(he:a.ph= .lv):q0H c p t m x a i=((qh c t m a).1,x.endG p {a with ph:= .idle,st:=2},⟨t,24,x.ct,(qh c t m a).2.2.1⟩,[]):=by
 have d:qh c t m a=({m with sl:=m.sl.set (t:Int).toNat 0},{a with ph:= .idle,st:=2},acS 6 t (m.sl.getD (t:Int).toNat 0) 0,24):=by unfold qh;rw[he]
 unfold q0H;rw[d];dsimp only;rw[if_neg (q2n rfl),qlv rfl];rfl
theorem qeF(f:PrO p)(hb:∃ib,p[x.bg]? =some ib/\ib.op=7):stB p (q0v p x.bg+1)<0/\q0v p x.bg+1<=p.length/\stB p x.bg<0/\x.bg<p.length:=by
 obtain⟨ib,d,e⟩:=hb;obtain⟨c',l,h1,h2,_,j,_⟩:=q0g f.ck d e;rw[l];refine⟨by rw[j];decide,Yu,(q3P f.ck d).2.1 e,(z7.1 d).1⟩
theorem q0d.gone(z:COk c)(E:n<=16)(D:k<=100000)(h:q0d c ps n k m xs g r)(v:xs[t]? =some x)(l:x.at'=some a)(he:a.ph= .lv)(d:x'.at'=none)(C:g'.T.length=n)(B:g'.O.length=n)(hd:g'.d=g.d)
  (hu:∀u,u≠t->g'.T[u]? =g.T[u]? /\g'.O.getD u []=g.O.getD u []) (j:∀p,ps[t]? =some p->ThR c p g'.T[t]? (g'.O.getD t []) x' (r t)):q0d c ps n (k+1) (qh c t m a).1 (xs.set t x') g' r:=by
 refine h.put z E D v l (fun w h=>by rw[d] at h;cases h) C B (by rw[hd];exact h.dl) (fun u e=>⟨(hu u e).1,(hu u e).2,rfl⟩) j (fun w h=>by rw[d] at h;cases h) (fun _ o f=>by unfold pnd at f;rw[he] at f;cases f) (fun q _ _=> .inl (by rw[hd])) ?_;rw[qcC (fun A V e=>by rw[he] at e;cases e),hd];exact h.mr.keep v (fun b hb A V e=>by rw[l] at hb;cases hb;rw[he] at e;cases e) fun b hb=>by rw[d] at hb;cases hb
theorem q0d.advE(G:COk c)(J:n<=16)(I:k<=100000)(h:q0d c ps n k m xs g r)(D:xs[t]? =some x)(B:x.at'=some a)(C:ps[t]? =some p)(z:PrO p)(w:a.dn=true)(he:a.ph= .lv):
  q0d c ps n (k+1) (qh c t m a).1 (xs.set t (x.endG p {a with ph:= .idle,st:=2})) g r:=by
 have f:=h.th t x p D C;unfold ThR at f;rw[B] at f;dsimp only at f;rw[if_pos w] at f;obtain⟨o,v,l⟩:=f;obtain⟨E,F,_,_⟩:=qeF z l.bg;refine h.gone G J I D B he q7W h.tl h.ol rfl (fun u _=>⟨rfl,rfl⟩) fun p' j=>?_
 rw[C] at j;cases j;rw[o,v]
 by_cases d:a.code=1
 ·rw[qlT (a:={a with ph:= .idle,st:=2}) d];unfold ThR GT.to qht qi4;dsimp only;rw[if_pos d,if_pos d,d];exact⟨rfl,rfl,F,E,rfl,fun e=>absurd l.fn e,fun e=>absurd rfl e⟩
 ·have A:a.code≠9:=by have:=l.cd;omega
  rw[qlU (a:={a with ph:= .idle,st:=2}) d (fun e=>A e.1)];have H:qot {a with ph:= .idle,st:=2}=a.code:=if_neg A;rw[H];unfold ThR GT.to qht qi4;dsimp only;rw[if_neg d,if_neg d];exact⟨rfl,rfl,F,E,rfl,fun e=>absurd l.fn e,fun e=>absurd rfl e⟩
theorem q74(d:g.T[t]? =some ⟨x.bg,x.sv,x.th.oc,false⟩)(o:ps[t]? =some p)(hb:∃ib,p[x.bg]? =some ib/\ib.op=7){f:Int}(l:3<=f/\f<=6):
  chM c ps g ⟨(t:Int),f,[]⟩=some (g.fin t ⟨q0v p x.bg+1,x.sv,f,decide (q0v p x.bg+1=p.length)⟩ [⟨x.bg,3,f⟩]):=by
 obtain⟨ib,e,j⟩:=hb;unfold chM;rw[if_neg (by dsimp only;omega),zD,d,o];dsimp only;rw[if_neg Yv,e];dsimp only;rw[if_pos j];unfold txM;rw[if_pos Yu,if_pos ⟨l,rfl⟩]
theorem q0d.advC(N:COk c)(P:n<=16)(O:k<=100000)(h:q0d c ps n k m xs g r)(C:xs[t]? =some x)(D:x.at'=some a)(B:ps[t]? =some p)(J:PrO p)(F:a.dn=false)(he:a.ph= .lv):
  ((x.endG p {a with ph:= .idle,st:=2}).rest=false/\q0d c ps n (k+1) (qh c t m a).1 (xs.set t (x.endG p {a with ph:= .idle,st:=2})) g r)\/
  ((x.endG p {a with ph:= .idle,st:=2}).rest=true/\∃g',q4o c ps g [⟨t,(x.endG p {a with ph:= .idle,st:=2}).th.oc,[]⟩]=some g'/\q0d c ps n (k+1) (qh c t m a).1 (xs.set t (x.endG p {a with ph:= .idle,st:=2})) g' r):=by
 have A:t<n:=by rw[<-h.xl];exact(z7.1 C).1
 have v:=h.th t x p C B;unfold ThR at v;rw[D] at v;dsimp only at v;rw[if_neg (by rw[F];decide)] at v;obtain⟨w,z,l⟩:=v;obtain⟨U,V,W,o4⟩:=qeF J l.bg;have hcd:a.code=3\/a.code=6\/a.code=9:=by
  rcases l.ph with ⟨j,e,_⟩|⟨_,_,_,i,_,e⟩|⟨_,e⟩
  ·rw[he] at e;cases e
  ·unfold q2K at e;rw[he] at e;exact e.elim
  ·exact e
 by_cases K:a.code=9/\(x.tr:Int)<((p[x.bg]?).map (·.imm)).getD 0
 ·left;rw[qi5 (a:={a with ph:= .idle,st:=2}) K.1 K.2];have o:(({x with at':=none,th:={x.th with rg:=x.sv}}:GT).to p.length x.bg).rest=false:=by
   unfold GT.rest GT.to;dsimp only;rw[decide_eq_false l.tr,Y1]
  refine⟨o,h.gone N P O C D he rfl h.tl h.ol rfl (fun u _=>⟨rfl,rfl⟩) fun X d=>?_⟩;rw[B] at d;cases d;rw[w,z];unfold ThR GT.to;dsimp only;have I:decide (x.bg=p.length)=false:=decide_eq_false Yu;rw[I];exact⟨rfl,rfl,Yu,W,rfl,fun e=>absurd l.fn e,fun _=>l.bg⟩
 ·right;rw[qlU (a:={a with ph:= .idle,st:=2}) (by show a.code≠1;omega) K];have T:qot {a with ph:= .idle,st:=2}=if a.code=9 then 5 else a.code:=rfl
  rw[T];generalize G:(if a.code=9 then(5:Int) else a.code)=f;have H:3<=f/\f<=6:=by rw[<-G];split <;>omega
  have E:=q74 (c:=c) (x:=x) w B l.bg H;refine⟨by unfold GT.rest GT.to;dsimp only;rw[l.fn];rfl,_,q40 E,?_⟩;refine h.gone N P O C D he rfl ?_ ?_ rfl (fun u hu=>⟨?_,?_⟩) fun X d=>?_
  ·show(g.T.set t _).length=n;rw[zn];exact h.tl
  ·show(g.O.set t _).length=n;rw[zn];exact h.ol
  ·show(g.T.set t _)[u]? =_;rw[zx,if_neg (fun e=>hu e.symm)]
  ·show(g.O.set t _).getD u []=_;rw[zh,zx,if_neg (fun e=>hu e.symm),zh]
  ·rw[B] at d;cases d;have Q:(g.T.set t ⟨q0v p x.bg+1,x.sv,f,decide (q0v p x.bg+1=p.length)⟩)[t]? =some ⟨q0v p x.bg+1,x.sv,f,decide (q0v p x.bg+1=p.length)⟩:=by
    rw[zx,if_pos rfl,if_pos (by rw[h.tl];exact A)]
   have R:(g.O.set t (g.O.getD t []++ [⟨x.bg,3,f⟩])).getD t []=x.obs++ [⟨x.bg,3,f⟩]:=by
    rw[zh,zx,if_pos rfl,if_pos (by rw[h.ol];exact A),<-z];rfl
   show ThR c p (g.T.set t _)[t]? ((g.O.set t _).getD t []) _ _;rw[Q,R];unfold ThR GT.to;dsimp only;exact⟨rfl,rfl,V,U,rfl,fun e=>absurd l.fn e,fun e=>absurd rfl e⟩
end
open Go
section
variable{c:Cfg}{ps:List (jg)}{n k:Nat}{m m':MS}{xs:List GT}{g g':GS}{r r':Nat->List (Int×Int)}{t u:Nat}{x x':GT}{a b:AT}{p:jg}{i:Ins}
theorem q0d.mono(h:q0d c ps n k m xs g r):q0d c ps n (k+1) m xs g r:=⟨h.gm.mono,h.xl,h.pl,h.tl,h.ol,h.dl,h.ai,h.ds,h.th,h.va,h.mr⟩
theorem q0d.calm(h:q0d c ps n k m xs g r)(A:xs[t]? =some x)(B:m'.o=m.o)(G:m'.ck=m.ck)(H:m'.sv=m.sv)(C:m'.tk=m.tk)(R:m'.sl=m.sl)(T:m'.d.length=m.d.length)
  (l:∀j,x'.at'=some j->AI c t m j/\j.ph.tick=false) (V:g'.T.length=n) (U:g'.O.length=n) (hd:(g'.d.length:Int)=c.words) (hu:∀u,u≠t->g'.T[u]? =g.T[u]? /\g'.O.getD u []=g.O.getD u []/\r' u=r u)
  (J:∀p,ps[t]? =some p->ThR c p g'.T[t]? (g'.O.getD t []) x' (r' t)) (N:∀j,x'.at'=some j->j.dn=false->VA c m' (xs.set t x') g'.d j (r' t))
  (O:∀(u:Nat) y b,u≠t->xs[u]? =some y->y.at'=some b->b.dn=false->VA c m xs g.d b (r u)->VA c m' (xs.set t x') g'.d b (r u)) (I:MR (xs.set t x') m'.d g'.d):q0d c ps n k m' (xs.set t x') g' r':=by
 refine⟨⟨by rw[B];exact h.gm.o,by rw[B];exact h.gm.ol,by rw[T];exact h.gm.dl,by rw[R];exact h.gm.sl,by rw[H,C];exact h.gm.sv,by rw[C];exact h.gm.tk,by rw[G];exact h.gm.ck⟩,by rw[zn];exact h.xl,h.pl,V,U,hd,fun u y b f hb=>?_,fun u v y z b d f D hb w K E F=>?_,fun u y p f Q=>?_,fun u y b f hb o=>?_,I⟩
 ·by_cases e:u=t
  ·subst e;rw[q0c A] at f;cases f;exact(l b hb).1.cong B G H C
  ·rw[q0t e] at f;exact(h.ai u y b f hb).cong B G H C
 ·by_cases P:u=t
  ·subst P;rw[q0c A] at f;cases f;rw[(l b hb).2] at E;cases E
  ·by_cases ev:v=t
   ·subst ev;rw[q0c A] at D;cases D;rw[(l d w).2] at F;cases F
   ·rw[q0t P] at f;rw[q0t ev] at D;exact h.ds u v y z b d f D hb w K E F
 ·by_cases e:u=t
  ·subst e;rw[q0c A] at f;cases f;exact J p Q
  ·rw[q0t e] at f;obtain⟨f1,f2,f3⟩:=hu u e;rw[f1,f2,f3];exact h.th u y p f Q
 ·by_cases e:u=t
  ·subst e;rw[q0c A] at f;cases f;exact N b hb o
  ·rw[q0t e] at f;rw[(hu u e).2.2];exact O u y b e f hb o (h.va u y b f hb o)
theorem VA.calm{z:List (Int×Int)}{o:je}(w:xs[t]? =some x)(v:m'.o=m.o)(d:∀a,x.at'=some a->a.dn=false)(h:VA c m xs o b z):VA c m' (xs.set t x') o b z:=by
 rcases h with (h|⟨q,l,e⟩)|h
 ·exact .inl (.inl h)
 ·exact .inl (.inr ⟨q,l,e.imp (fun h=>by rw[q33 v];exact h) fun j=>j.keep w fun a f hd _=>by rw[d a f] at hd;cases hd⟩)
 ·exact .inr fun q l e=>by
   rw[q33 v] at e;exact(h q l e).imp (fun j=>j.keep w fun a f hd _=>by rw[d a f] at hd;cases hd) id
theorem q0d.still(h:q0d c ps n k m xs g r)(j:xs[t]? =some x)(l:x.at'=none)(d:x'.at'=none)(f:∀p,ps[t]? =some p->ThR c p g.T[t]? (g.O.getD t []) x' (r t)):q0d c ps n k m (xs.set t x') g r:=
 h.calm j rfl rfl rfl rfl rfl rfl (fun o e=>by rw[d] at e;cases e) h.tl h.ol h.dl (fun u _=>⟨rfl,rfl,rfl⟩) f (fun o e=>by rw[d] at e;cases e) (fun u y b _ _ _ _ v=>v.calm j rfl fun a e=>by rw[l] at e;cases e) (h.mr.keep j (fun b hb=>by rw[l] at hb;cases hb) fun b hb=>by rw[d] at hb;cases hb)
theorem q0d.solo(h:q0d c ps n k m xs g r)(j:xs[t]? =some x)(w:x.at'=none)(d:x'.at'=none)(l:List ObM)(th:Thr)(v:∀p,ps[t]? =some p->ThR c p (some th) (g.O.getD t []++l) x' (r t)):q0d c ps n k m (xs.set t x') (g.fin t th l) r:=by
 have f:t<n:=by rw[<-h.xl];exact(z7.1 j).1
 have o:∀a,x.at'=some a->a.dn=false:=fun a e=>by rw[w] at e;cases e
 have hm:MR (xs.set t x') m.d g.d:=h.mr.keep j (fun b hb=>by rw[w] at hb;cases hb) fun b hb=>by rw[d] at hb;cases hb
 refine h.calm j rfl rfl rfl rfl rfl rfl (fun z e=>by rw[d] at e;cases e) ?_ ?_ h.dl (fun u hu=>⟨?_,?_,rfl⟩) (fun p C=>?_) (fun z e=>by rw[d] at e;cases e) (fun u y b _ _ _ _ D=>D.calm j rfl o) hm
 ·show(g.T.set t _).length=n;rw[zn];exact h.tl
 ·show(g.O.set t _).length=n;rw[zn];exact h.ol
 ·show(g.T.set t _)[u]? =_;rw[zx,if_neg (fun e=>hu e.symm)]
 ·show(g.O.set t _).getD u []=_;rw[zh,zx,if_neg (fun e=>hu e.symm),zh]
 ·have A:(g.T.set t th)[t]? =some th:=by rw[zx,if_pos rfl,if_pos (by rw[h.tl];exact f)]
  have B:(g.O.set t (g.O.getD t []++l)).getD t []=g.O.getD t []++l:=by
   rw[zh,zx,if_pos rfl,if_pos (by rw[h.ol];exact f)];rfl
  show ThR c p (g.T.set t _)[t]? ((g.O.set t _).getD t []) _ _;rw[A,B];exact v p C
theorem q0d.ask(h:q0d c ps n k m xs g r)(w:xs[t]? =some x)(f:∀a,x.at'=some a->a.dn=false/\∀A V,a.ph≠ .wr A V)(d:x'.at'=some a)(j:a.dn=false)(o:a.ph.tick=false)(z:AI c t m a)(rt:List (Int×Int))
  (l:∀p,ps[t]? =some p->ThR c p g.T[t]? (g.O.getD t []) x' rt) (v:VA c m (xs.set t x') g.d a rt):q0d c ps n k m (xs.set t x') g (upR r t rt):=by
 refine h.calm w rfl rfl rfl rfl rfl rfl (fun B e=>by rw[d] at e;cases e;exact⟨z,o⟩) h.tl h.ol h.dl (fun u hu=>⟨rfl,rfl,qcJ hu⟩) (fun p D=>by rw[q7A];exact l p D) (fun B e _=>by rw[d] at e;cases e;rw[q7A];exact v) (fun u y b _ _ _ _ E=>E.calm w rfl fun a C=>(f a C).1) ?_;exact h.mr.keep w (fun b hb=>(f b hb).2) fun b hb=>by rw[d] at hb;cases hb;exact z.nwr j
end
open Go
def RdN(x x':GT)(l l':List (Int×Int)):Prop:=∀d,x'.at'=some d->d.dn=false->l'=match x.at' with
 |none=> []
 |some a=>if d.busy then l else l++fl a
section
variable{c:Cfg}{ps:List (jg)}{n k:Nat}{m m':MS}{xs:List GT}{g g':GS}{r r':Nat->List (Int×Int)}{t u:Nat}{x x':GT}{a b:AT}{p:jg}{i:Ins}{s:StM}
theorem q4Q(h:x'.at'=some a)(hd:a.dn=false):chN x x' s= []:=by
 have d:x'.dec=false:=by unfold GT.dec;rw[h];exact hd
 have e:x'.rest=false:=by unfold GT.rest;rw[h];rfl
 unfold chN;rw[d,e];simp
theorem qa4(h:x'.at'=some a)(e:s.ph≠16):chN x x' s= []:=by
 have d:x'.rest=false:=by unfold GT.rest;rw[h];rfl
 unfold chN;rw[if_neg e,d];simp
theorem qaW(h:(qh c t m a).2.2.2=16):a.ph= .dc:=by
 unfold qh at h;cases e:a.ph with
 |dc=>rfl
 |ent j=>
  rw[e] at h;dsimp only at h
  split at h
  ·cases h
  ·split at h <;>cases h
 |rd j b v=>
  rw[e] at h;dsimp only at h
  split at h
  ·cases h
  ·split at h <;>cases h
 |lk s l=>
  rw[e] at h;dsimp only at h
  split at h
  ·cases h
  ·split at h <;>cases h
 |tn b=>
  rw[e] at h;dsimp only at h
  split at h <;>cases h
 |_=>rw[e] at h;cases h
theorem q0d.n'(h:q0d c ps n k m xs g r){z:Nat}:q0d c ps n k m xs {g with n:=z} r:=⟨h.gm,h.xl,h.pl,h.tl,h.ol,h.dl,h.ai,h.ds,h.th,h.va,h.mr⟩
def q0q(c:Cfg)(ps:List (jg))(n k:Nat)(xs:List GT)(g:GS)(r:Nat->List (Int×Int))(t:Nat)(x:GT)(z:MS×GT×StM×jl):Prop:=
 ∃g' r',q4o c ps g (chN x z.2.1 z.2.2.1)=some g'/\q0d c ps n (k+1) z.1 (xs.set t z.2.1) g' r'/\(∀u,u≠t->r' u=r u)/\RdN x z.2.1 (r t) (r' t)
theorem q0d.busy(A:COk c)(C:n<=16)(B:k<=100000)(h:q0d c ps n k m xs g r)(w:xs[t]? =some x)(o:x.at'=some a)(hb:a.busy=true)(E:ps[t]? =some p)(v:PrO p)(W:p[x.th.pc]? =some i):q0q c ps n k xs g r t x (q0H c p t m x a i):=by
 unfold q0q
 by_cases d:a.dn=true
 ·by_cases j:a.ph= .lv
  ·have hE:=h.advE A C B w o E v d j;rw[qe8 j];refine⟨g,r,?_,hE,fun _ _=>rfl,fun G e=>?_⟩
   ·have hd:x.dec=true:=by unfold GT.dec;rw[o];exact d
    unfold chN;dsimp only;rw[if_neg Yv,if_pos rfl,if_pos (.inl hd)];rfl
   ·rw[show((_:MS),(_:GT),(_:StM),(_:jl)).2.1=_ from rfl,q7W] at e;cases e
  ·obtain⟨d1,d2,Z⟩:=h.advD A C B w o E d j;have I:(q0H c p t m x a i).2.1={x with at':=some (qh c t m a).2.1}:=by rw[q5u,if_pos d2]
   refine⟨g,r,?_,by rw[I];exact Z,fun _ _=>rfl,fun G e z=>?_⟩
   ·rw[qa4 (a:=(qh c t m a).2.1) (by rw[I])]
    ·rfl
    ·intro e;have:=qaW (c:=c) (t:=t) (m:=m) (a:=a) e;have:=(h.ai t x a w o).ph;unfold PhA at this;rename_i P;rw[P] at this;rw[this.1] at d;cases d
   ·rw[I] at e;cases e;rw[d1] at z;cases z
 ·have d:a.dn=false:=by simpa using d
  by_cases j:a.ph= .lv
  ·have D:∀l l',RdN x (x.endG p {a with ph:= .idle,st:=2}) l l':=fun l l' G e=>by rw[q7W] at e;cases e
   have hd:x.dec=false:=by unfold GT.dec;rw[o];exact d
   rw[qe8 j]
   rcases h.advC A C B w o E v d j with ⟨T,K⟩|⟨T,g',Q,K⟩
   ·refine⟨g,r,?_,K,fun _ _=>rfl,D _ _⟩;unfold chN;dsimp only;rw[if_neg Yv,if_pos rfl,if_pos (.inr T)];rfl
   ·refine⟨g',r,?_,K,fun _ _=>rfl,D _ _⟩;unfold chN;dsimp only;rw[if_neg Yv,if_pos rfl,if_neg (by rw[hd,T];decide)];exact Q
  ·by_cases f:(qh c t m a).2.1.dn=true
   ·obtain⟨R,V,F,Y⟩:=h.advB A C B w o hb E v W d j f;refine⟨_,r,?_,Y,fun _ _=>rfl,fun G e z=>?_⟩
    ·have J:(q0H c p t m x a i).2.2.1.ph=16:=by
      show(qh c t m a).2.2.2=16;rw[q3u R]
     have hd:(q0H c p t m x a i).2.1.dec=true:=by rw[V];exact f
     unfold chN;rw[if_pos J,if_pos hd];exact F
    ·rw[V] at e;cases e;rw[f] at z;cases z
   ·have f:(qh c t m a).2.1.dn=false:=by simpa using f
    obtain⟨rt,U,X,G,N,O⟩:=h.advA A C B w o hb E v W d j f;refine⟨g,_,by rw[q4Q N O];rfl,X,fun u hu=>qcJ hu,fun H e _=>?_⟩;rw[q7A,U,o];dsimp only;have:H=(qh c t m a).2.1:=by
     rw[q5u] at e
     split at e
     ·exact(Option.some.inj e).symm
     ·rename_i hb';unfold GT.ans at e
      split at e
      ·rw[q7W] at e;cases e
      ·split at e <;>exact(Option.some.inj e).symm
    rw[this]
end
open Go
section
variable{c:Cfg}{ps:List (jg)}{n k:Nat}{m m':MS}{xs:List GT}{g g':GS}{r r':Nat->List (Int×Int)}{t u:Nat}{x x':GT}{a b:AT}{p:jg}{i:Ins}{s:StM}
theorem qka(z:Option AT):q0H c p t m {x with at':=z} a i=q0H c p t m x a i:=by
 unfold q0H GT.ans GT.endG;rfl
theorem set_set(y z:GT):(xs.set t y).set t z=xs.set t z:=yc ..
theorem VA.own{z:je}{B:List (Int×Int)}(A:xs[t]? =some x)(d:∀a,x.at'=some a->a.dn=false)(e:b.rv=a.rv)(o:∀q,q∈fl b->q∈fl a)(l:a.ph.back=true->b.ph.back=true)(h:VA c m xs z a B):VA c m (xs.set t x') z b B:=by
 rcases h with (h|⟨q,w,f⟩)|h
 ·exact .inl (.inl (l h))
 ·exact .inl (.inr ⟨q,w,f.imp (fun h=>by rw[e];exact h) fun v=>v.keep A fun a j hd _=>by rw[d a j] at hd;cases hd⟩)
 ·exact .inr fun q w f=>by
   rw[e] at f;exact(h q ((zy.1 w).elim (fun h=>zP _ h) fun h=>zJ _ (o q h)) f).imp (fun v=>v.keep A fun a j hd _=>by rw[d a j] at hd;cases hd) id
theorem q0d.virt(T:COk c)(W:n<=16)(V:k<=100000)(X:xs[t]? =some x){B:GT}{rt:List (Int×Int)}(h:q0d c ps n k m (xs.set t {B with at':=some a}) g (upR r t rt))(hb:a.busy=true)(o:a.dn=false)(E:a.ph≠ .lv)(D:∀q,q∈fl a->False)(C:a.ph≠ .dc)(K:ps[t]? =some p)(w:PrO p)(J:p[B.th.pc]? =some i)
  (G:rt=match x.at' with|none=> []|some a=>r t++fl a) (F:∀a,x.at'=some a->fl a= []):q0q c ps n k xs g r t x (q0H c p t m B a i):=by
 have l:=q0c (z:={B with at':=some a}) X;have j:=h.busy T W V l rfl hb K w J;unfold q0q at j ⊢;rw[qka,set_set] at j;have v:fl a= []:=List.eq_nil_iff_forall_not_mem.2 D
 --the attempt goes on
 have A:=h.th t _ p l K;unfold ThR at A;dsimp only at A;rw[if_neg (by rw[o];decide)] at A;obtain⟨_,_,_,f,hT,U⟩:=A.2.2.adv (t:=t) (m:=m) w (h.ai t _ a l rfl) J hb o E;rw[qka] at f;have d:(qh c t m a).2.1.dn=false:=by
  refine Y2.2 fun e=>C (U e).1
 obtain⟨g',r',I,P,Q,R⟩:=j;rw[q4Q f d] at I;refine⟨g',r',by rw[q4Q f d];exact I,P,fun u hu=>(Q u hu).trans (qcJ hu),fun N e O=>?_⟩;have:=R N e O;dsimp only at this;rw[q7A,v,zz,G] at this;rw[this];cases H:x.at' with
 |none=>dsimp only;split <;>rfl
 |some b=>dsimp only;rw[F b H,zz]
theorem q5b{th:Thr}(e:g.T[t]? =some th)(d:th.dn=false)(l:ps[t]? =some p)(j:p[th.pc]? =some i)(f:i.op≠7):chM c ps g ⟨(t:Int),0,[]⟩=sgM c p g th t 0 i:=by
 unfold chM;rw[if_neg (by dsimp only;omega),zD,e,l];dsimp only;rw[if_neg (by rw[d];decide),j];dsimp only;rw[if_neg f,if_pos rfl]
theorem q0d.e'(h:q0d c ps n k m xs g r){z:jl}:q0d c ps n k m xs {g with E:=z} r:=⟨h.gm,h.xl,h.pl,h.tl,h.ol,h.dl,h.ai,h.ds,h.th,h.va,h.mr⟩
theorem q0q.solo(h:q0d c ps n k m xs g r)(A:xs[t]? =some x)(w:x.at'=none)(d:x'.at'=none)(z:x'.rest=true)(f:s.at'=0/\s.ph≠16/\s.ph≠24/\s.t=t)(l:List ObM)(th:Thr)(o:∀p,ps[t]? =some p->ThR c p (some th) (g.O.getD t []++l) x' (r t))
  {E:jl} (j:chM c ps g ⟨(t:Int),0,[]⟩=some {g.fin t th l with E:=E}) (e:jl):q0q c ps n k xs g r t x (m,x',s,e):=by
 have v:=h.solo A w d l th o;refine⟨{{g.fin t th l with E:=E} with n:=g.n+1},r,?_,v.e'.n'.mono,fun _ _=>rfl,fun a' e=>by rw[d] at e;cases e⟩;unfold chN;rw[if_neg f.2.1,if_neg f.2.2.1,if_neg (by rw[f.1,z];decide),f.2.2.2];exact q40 j
theorem q0d.out(h:q0d c ps n k m xs g r)(f:xs[t]? =some x)(e:ps[t]? =some p)(d:x.at'=none):g.T[t]? =some x.th/\g.O.getD t []=x.obs/\x.th.pc<=p.length/\stB p x.th.pc<0/\x.th.dn=decide (x.th.pc=p.length)/\(x.fn≠none->x.tr=0/\∃i,p[x.th.pc]? =some i/\i.op=16)/\(x.tr≠0->∃i,p[x.th.pc]? =some i/\i.op=7):=by
 have:=h.th t x p f e;unfold ThR at this;rw[d] at this;exact this
theorem qiB(f:stB p k<0)(d:p[k]? =some i)(e:i.op≠7):stB p (k+1)<0/\k+1<=p.length:=by
 refine⟨?_,(z7.1 d).1⟩;rw[q2u d];unfold q0w;rw[if_neg e]
 split
 ·decide
 ·exact f
theorem ThR.rest(z:stB p x.th.pc<0)(w:p[x.th.pc]? =some i)(v:i.op≠7){X:GT}(f:X.at'=none)(j:X.fn=none)(o:X.tr=0)(l:List ObM)(A:X.obs=l)(th:Thr)(d:th={X.th with pc:=x.th.pc+1,dn:=decide (x.th.pc+1=p.length)})(D:List (Int×Int)):ThR c p (some th) l (X.to p.length (x.th.pc+1)) D/\(X.to p.length (x.th.pc+1)).rest=true:=by
 obtain⟨B,C⟩:=qiB z w v;refine⟨?_,?_⟩
 ·unfold ThR GT.to;dsimp only;rw[f];exact⟨by rw[d],A.symm,C,B,rfl,fun e=>absurd j e,fun e=>absurd o e⟩
 ·unfold GT.rest GT.to;dsimp only;rw[f,j,o];rfl
theorem q0q.wait(h:q0d c ps n k m xs g r)(B:xs[t]? =some x)(z:ps[t]? =some p)(l:x.at'=none)(w:p[x.th.pc]? =some i)(v:i.op=16)(A:x.th.dn=false)(f:FT):q0q c ps n k xs g r t x (q0x n p t m x f):=by
 obtain⟨D,F,K,G,N,O,H⟩:=h.out B z l;have o:x.tr=0:=Decidable.byContradiction fun e=>by
  obtain⟨j,C,h7⟩:=H e;rw[w] at C;cases C;omega
 clear O H;have hph:(q3q t m f).2.2=25\/(q3q t m f).2.2=26:=by unfold q3q;split;exact .inl rfl;exact .inr rfl
 unfold q0x
 split
 ·obtain⟨r1,r2⟩:=ThR.rest (c:=c) (x:=x) G w Yu (X:={x with fn:=none,obs:=x.obs++ [⟨x.th.pc,6,0⟩]}) l rfl o (x.obs++ [⟨x.th.pc,6,0⟩]) rfl {q1h x.th i with dn:=decide ((q1h x.th i).pc=p.length)} (by
   unfold q1h q5h q1L;rw[if_neg Yu,if_neg Yu,if_neg Yu,if_neg Yu,if_neg Yu]) (r t)
  refine q0q.solo (E:=g.E) (x':=({x with fn:=none,obs:=x.obs++ [⟨x.th.pc,6,0⟩]}:GT).to p.length (x.th.pc+1)) h B l l r2 ⟨rfl,by(try dsimp only);omega,by(try dsimp only);omega,rfl⟩ [⟨x.th.pc,6,0⟩] {q1h x.th i with dn:=decide ((q1h x.th i).pc=p.length)} (fun J d=>?_) ?_ []
  ·rw[z] at d;cases d;rw[F];exact r1
  ·rw[q5b D A z w Yu];unfold sgM;rw[if_neg Yu,if_neg Yv,if_pos v];rfl
 ·rename_i hlt;refine⟨g,r,?_,(h.still B l (by exact l) fun J d=>?_).mono,fun _ _=>rfl,fun a' e=>?_⟩
  ·have I:({x with fn:=some (q3q t m f).1}:GT).rest=false:=by
    unfold GT.rest;dsimp only;rw[Option.isNone_some,Y1,yV]
   unfold chN;dsimp only;rw[if_neg Yu,if_neg Yu,if_pos (.inr I)];rfl
  ·rw[z] at d;cases d;unfold ThR;dsimp only;rw[l];exact⟨D,F,K,G,N,fun _=>⟨o,i,w,v⟩,fun e=>absurd o e⟩
  ·dsimp only at e;rw[l] at e;cases e
theorem q0q.locO(h:q0d c ps n k m xs g r)(C:xs[t]? =some x)(A:ps[t]? =some p)(o:PrO p)(d:x.at'=none)(f:x.fn=none)(w:p[x.th.pc]? =some i)(hop:(0<=i.op/\i.op<=6)\/i.op=17)(z:x.th.dn=false):
  q0q c ps n k xs g r t x (m,{x with th:={q1h x.th i with dn:=decide ((q1h x.th i).pc=p.length)}},⟨t,0,0,acz⟩,[]):=by
 obtain⟨I,J,q3,D,q5,K,F⟩:=h.out C A d;have v:x.tr=0:=Decidable.byContradiction fun e=>by
  obtain⟨j,B,h7⟩:=F e;rw[w] at B;cases B;omega
 clear K F;obtain⟨G,l2,_,H⟩:=qfs o.ck w Yu;refine q0q.solo (E:=g.E) h C d (by exact d) ?_ ⟨rfl,by show(0:Int)≠16;decide,by show(0:Int)≠24;decide,rfl⟩ [] {q1h x.th i with dn:=decide ((q1h x.th i).pc=p.length)} (fun p' l=>?_) ?_ []
 ·unfold GT.rest;dsimp only;rw[d,f,v];rfl
 ·rw[A] at l;cases l;unfold ThR;dsimp only;rw[d];exact⟨rfl,by rw[J,zz],l2,qo5 o.ck D G l2 w Yu (H D),rfl,fun e=>absurd f e,fun e=>absurd v e⟩
 ·rw[q5b I z A w Yu];unfold sgM;rw[if_neg Yu,if_neg Yv,if_neg Yu];rfl
end
open Go
theorem qmI{A V d:je}{a:Nat}{v:Int}(l:A.length=V.length)(o:(a:Int)∉A):lay A V (d.set a v)=(lay A V d).set a v:=by
 unfold lay;refine Zm fun j=>?_
 rw[ZA,zx,zx,ZA,Yr]
 by_cases e:a=j
 ·subst e;rw[if_pos rfl,if_pos rfl]
  by_cases f:a<d.length
  ·rw[if_pos f,Zu,(q0I l).2 o];rfl
  ·rw[if_neg f];rfl
 ·rw[if_neg e,if_neg e]
section
variable{c:Cfg}{ps:List (jg)}{n k:Nat}{m m':MS}{xs:List GT}{g g':GS}{r r':Nat->List (Int×Int)}{t u:Nat}{x x':GT}{a b:AT}{p:jg}{i:Ins}{s:StM}
def qr6(xs:List GT)(w:Int):Prop:=∀(u:Nat) (y:GT) (b:AT),xs[u]? =some y->y.at'=some b->∀A V,b.ph= .wr A V->w∉A
def qrt(c:Cfg)(m:MS)(xs:List GT)(r:Nat->List (Int×Int))(t:Nat)(w:Int):Prop:=
 ∀(u:Nat) (y:GT) (b:AT),u≠t->xs[u]? =some y->y.at'=some b->b.dn=false->∀q∈r u++fl b,q.1.toNat=w.toNat->qhC c m xs b (r u)\/b.rv<q17 m (qB c q.1)\/Pd xs (qB c q.1)
theorem q0d.same(h:q0d c ps n k m xs g r){w:Int}(l:0<=w)(h1:w<c.words)(hw:qr6 xs w):g.d.getD w.toNat 0=m.d.getD w.toNat 0:=by
 rcases h.mr with ⟨u,y,b,A,V,f,hb,he,d⟩|⟨_,d⟩
 ·have e:=(h.ai u y b f hb).ph;unfold PhA at e;rw[he] at e;have hdl:=h.gm.dl;have j:((w.toNat:Nat):Int)=w:=Z2 l;rw[d,q4S Yu,j,(q0I e.2.2.2.2.2.1).2 (hw u y b f hb A V he)];rfl
 ·rw[d]
theorem q0q.plain(h:q0d c ps n k m xs g r)(C:xs[t]? =some x)(P:ps[t]? =some p)(v:x.at'=none)(D:x.fn=none)(O:p[x.th.pc]? =some i)(af:i.op=12\/i.op=13)(W:x.th.dn=false)
  (hs:q0V x i<c.words->qr6 xs (q0V x i)/\(i.op=13->qrt c m xs r t (q0V x i))):q0q c ps n k xs g r t x (q04 c p t m x i):=by
 obtain⟨q1,q2,q3,q4,q5,q6,q7⟩:=h.out C P v;have R:t<n:=by rw[<-h.xl];exact(z7.1 C).1
 have I:x.tr=0:=Decidable.byContradiction fun e=>by
  obtain⟨j,hj,h7⟩:=q7 e;rw[O] at hj;cases hj;omega
 clear q6 q7;have h0:0<=q0V x i:=q4N _ _ _;have f:=q5b (c:=c) q1 W P O Yu;have aj:q0V x i=adr x.th.rg (if i.op=12 then i.b else i.a) i.imm:=rfl;unfold sgM at f;rw[if_pos af] at f;dsimp only at f;rw[<-aj,if_neg Yv] at f;unfold q04
 by_cases hw:c.words<=q0V x i
 ·rw[if_pos hw] at f ⊢;obtain⟨r1,r2⟩:=ThR.rest (c:=c) (x:=x) q4 O Yu (X:={x with th:={x.th with rg:=if i.op=12 then x.th.rg.set i.a.toNat 0 else x.th.rg},obs:=x.obs++ [⟨x.th.pc,7,7⟩]}) v D I (x.obs++ [⟨x.th.pc,7,7⟩]) rfl (x.th.nxt p.length (if i.op=12 then x.th.rg.set i.a.toNat 0 else x.th.rg)) rfl (r t);refine q0q.solo (x':=({x with th:={x.th with rg:=if i.op=12 then x.th.rg.set i.a.toNat 0 else x.th.rg},obs:=x.obs++ [⟨x.th.pc,7,7⟩]}:GT).to p.length (x.th.pc+1)) h C v v r2 ⟨rfl,by show(0:Int)≠16;decide,by show(0:Int)≠24;decide,rfl⟩ [⟨x.th.pc,7,7⟩] (x.th.nxt p.length (if i.op=12 then x.th.rg.set i.a.toNat 0 else x.th.rg)) (fun p' l=>?_) (E:=g.E) f [];rw[P] at l;cases l;rw[q2];exact r1
 ·rw[if_neg hw] at f ⊢;obtain⟨Q,aq⟩:=hs Yu;have H:=h.same h0 Yu Q
  by_cases K:i.op=12
  ·rw[if_pos K] at f ⊢;rw[H] at f;obtain⟨r1,r2⟩:=ThR.rest (c:=c) (x:=x) q4 O Yu (X:={x with th:={x.th with rg:=x.th.rg.set i.a.toNat (m.d.getD (q0V x i).toNat 0)},obs:=x.obs++ [⟨x.th.pc,4,m.d.getD (q0V x i).toNat 0⟩]}) v D I (x.obs++ [⟨x.th.pc,4,m.d.getD (q0V x i).toNat 0⟩]) rfl (x.th.nxt p.length (x.th.rg.set i.a.toNat (m.d.getD (q0V x i).toNat 0))) rfl (r t);refine q0q.solo (x':=({x with th:={x.th with rg:=x.th.rg.set i.a.toNat (m.d.getD (q0V x i).toNat 0)},obs:=x.obs++ [⟨x.th.pc,4,m.d.getD (q0V x i).toNat 0⟩]}:GT).to p.length (x.th.pc+1)) h C v v r2 ⟨rfl,by show(1:Int)≠16;decide,by show(1:Int)≠24;decide,rfl⟩ [⟨x.th.pc,4,m.d.getD (q0V x i).toNat 0⟩] (x.th.nxt p.length (x.th.rg.set i.a.toNat (m.d.getD (q0V x i).toNat 0))) (fun p' l=>?_) (E:=_) f _;rw[P] at l;cases l;rw[q2];exact r1
  ·rw[if_neg K] at f ⊢;have ae:=aq Yu;obtain⟨r1,r2⟩:=ThR.rest (c:=c) (x:=x) q4 O Yu (X:={x with obs:=x.obs++ [⟨x.th.pc,5,x.th.rg.get i.b.toNat⟩]}) v D I (x.obs++ [⟨x.th.pc,5,x.th.rg.get i.b.toNat⟩]) rfl (x.th.nxt p.length x.th.rg) rfl (r t);have e1:(g.T.set t (x.th.nxt p.length x.th.rg))[t]? =some (x.th.nxt p.length x.th.rg):=by rw[zx,if_pos rfl,if_pos (by rw[h.tl];exact R)]
   have e2:(g.O.set t (g.O.getD t []++ [⟨x.th.pc,5,x.th.rg.get i.b.toNat⟩])).getD t []=x.obs++ [⟨x.th.pc,5,x.th.rg.get i.b.toNat⟩]:=by
    rw[zh,zx,if_pos rfl,if_pos (by rw[h.ol];exact R),<-q2];rfl
   have Z:∀a,x.at'=some a->a.dn=false:=fun a e=>by rw[v] at e;cases e
   refine⟨_,r,?_,q0d.n' (z:=g.n+1) (q0d.mono ((h.calm (m':={m with d:=m.d.set (q0V x i).toNat (x.th.rg.get i.b.toNat)}) (x':=({x with obs:=x.obs++ [⟨x.th.pc,5,x.th.rg.get i.b.toNat⟩]}:GT).to p.length (x.th.pc+1)) (g':=((g.mem (g.d.set (q0V x i).toNat (x.th.rg.get i.b.toNat)) g.tk).ev (plE c g.n t 2 (q0V x i))).fin t (x.th.nxt p.length x.th.rg) [⟨x.th.pc,5,x.th.rg.get i.b.toNat⟩]) C rfl rfl rfl rfl rfl (by dsimp only;rw[zn]) (fun a' e=>(by rw[show(({x with obs:=x.obs++ [⟨x.th.pc,5,x.th.rg.get i.b.toNat⟩]}:GT).to p.length (x.th.pc+1)).at'=x.at' from rfl,v] at e;cases e)) ?_ ?_ ?_ (fun u hu=>⟨?_,?_,rfl⟩) (fun p' l=>?_) (fun a' e=>(by rw[show(({x with obs:=x.obs++ [⟨x.th.pc,5,x.th.rg.get i.b.toNat⟩]}:GT).to p.length (x.th.pc+1)).at'=x.at' from rfl,v] at e;cases e)) (fun u y b hu w hb hd J=>?_) ?_))),fun _ _=>rfl,fun a' e=>?_⟩
   ·unfold chN;dsimp only;rw[if_neg Yv,if_neg Yv,r2,if_neg Yv];exact q40 f
   ·show(g.T.set t _).length=n;rw[zn];exact h.tl
   ·show(g.O.set t _).length=n;rw[zn];exact h.ol
   ·show((g.d.set _ _).length:Int)=_;rw[zn];exact h.dl
   ·show(g.T.set t _)[u]? =_;rw[zx,if_neg (fun e=>hu e.symm)]
   ·show(g.O.set t _).getD u []=_;rw[zh,zx,if_neg (fun e=>hu e.symm),zh]
   ·rw[P] at l;cases l;show ThR c p (g.T.set t (x.th.nxt p.length x.th.rg))[t]? ((g.O.set t (g.O.getD t []++ [⟨x.th.pc,5,x.th.rg.get i.b.toNat⟩])).getD t []) _ _;rw[e1,e2];exact r1
   ·have F:∀o,Pd xs o->Pd (xs.set t (({x with obs:=x.obs++ [⟨x.th.pc,5,x.th.rg.get i.b.toNat⟩]}:GT).to p.length (x.th.pc+1))) o:=fun o ho=>ho.keep C fun a e hd _=>by rw[Z a e] at hd;cases hd
    have N:qhC c m xs b (r u)->qhC c m (xs.set t (({x with obs:=x.obs++ [⟨x.th.pc,5,x.th.rg.get i.b.toNat⟩]}:GT).to p.length (x.th.pc+1))) b (r u):=fun h=>h.imp id fun⟨q,U,J⟩=>⟨q,U,J.imp id (F _)⟩
    rcases J with J|J
    ·exact .inl (N J)
    ·by_cases hD:qhC c m xs b (r u)
     ·exact .inl (N hD)
     ·refine .inr fun q hm hle=>?_
      by_cases U:q.1.toNat=(q0V x i).toNat
      ·rcases ae u y b hu w hb hd q hm U with T|T|T
       ·exact absurd T hD
       ·have hle:q17 m (qB c q.1)<=b.rv:=hle;omega
       ·exact .inl (F _ T)
      ·refine(J q hm hle).imp (F _) fun e=>?_
       show(g.d.set _ _).getD _ _=_;rw[q92 (fun e=>U e.symm)];exact e
   ·show MR _ (m.d.set _ _) (g.d.set _ _)
    rcases h.mr with ⟨u,y,b,A,V,w,hb,he,Y⟩|⟨hn,Y⟩
    ·left;have B:u≠t:=by
      rintro rfl;rw[C] at w;cases w;rw[v] at hb;cases hb
     have G:=(h.ai u y b w hb).ph;unfold PhA at G;rw[he] at G;refine⟨u,y,b,A,V,by rw[q0t B];exact w,hb,he,?_⟩;rw[qmI G.2.2.2.2.2.1 (by rw[Z2 h0];exact Q u y b w hb A V he),Y]
    ·right;refine⟨fun u y b w hb=>?_,by rw[Y]⟩
     by_cases B:u=t
     ·subst B;rw[q0c C] at w;cases w;rw[show(({x with obs:=x.obs++ [⟨x.th.pc,5,x.th.rg.get i.b.toNat⟩]}:GT).to p.length (x.th.pc+1)).at'=x.at' from rfl,v] at hb;cases hb
     ·rw[q0t B] at w;exact hn u y b w hb
   ·rw[show(({x with obs:=x.obs++ [⟨x.th.pc,5,x.th.rg.get i.b.toNat⟩]}:GT).to p.length (x.th.pc+1)).at'=x.at' from rfl,v] at e;cases e
theorem q0q.locT(h:q0d c ps n k m xs g r)(l:xs[t]? =some x)(I:ps[t]? =some p)(F:PrO p)(f:x.at'=some a)(j:a.ph= .idle)(d:a.dn=false)(H:p[x.th.pc]? =some i)(E:0<=i.op/\i.op<=6)
  (z:g.T[t]? =some ⟨x.bg,x.sv,x.th.oc,false⟩) (B:g.O.getD t []=x.obs) (G:TL c p x a (r t)) (D:fl a= []):q0q c ps n k xs g r t x (m,{x with th:={q1h x.th i with dn:=decide ((q1h x.th i).pc=p.length)}},⟨t,0,if x.at'.isSome then x.ct else 0,acz⟩,[]):=by
 have C:=G.locI F j H E;refine⟨g,r,?_,q0d.mono (h.calm l rfl rfl rfl rfl rfl rfl (fun o e=>?_) h.tl h.ol h.dl (fun u _=>⟨rfl,rfl,rfl⟩) (fun p' w=>?_) (fun o e _=>?_) (fun u y b _ _ _ _ K=>K.calm l rfl fun b e=>by rw[f] at e;cases e;exact d) (h.mr.keep l (fun b e A V v=>by rw[f] at e;cases e;rw[j] at v;cases v) fun b e A V v=>?_)),fun _ _=>rfl,fun o e _=>?_⟩
 ·rw[q4Q (x':={x with th:={q1h x.th i with dn:=decide ((q1h x.th i).pc=p.length)}}) (a:=a) f d];rfl
 ·have e:x.at'=some o:=e;rw[f] at e;cases e;exact⟨h.ai t x a l f,by rw[j];rfl⟩
 ·rw[I] at w;cases w;unfold ThR;dsimp only;rw[f];dsimp only;rw[if_neg (by rw[d];decide)];exact⟨z,B,C.at _⟩
 ·have e:x.at'=some o:=e;rw[f] at e;cases e;exact VA.own l (fun b e=>by rw[f] at e;cases e;exact d) rfl (fun q J=>J) (fun h=>h) (h.va t x a l f d)
 ·have e:x.at'=some b:=e;rw[f] at e;cases e;rw[j] at v;cases v
 ·have e:x.at'=some o:=e;rw[f] at e ⊢;cases e;dsimp only;rw[D,zz]
  split <;>rfl
theorem q0d.step(T:COk c)(Y:n<=16)(X:k<=100000)(h:q0d c ps n k m xs g r)(z:xs[t]? =some x)(D:ps[t]? =some p)(C:PrO p)(B:x.th.dn=false)
  (hs:∀i,p[x.th.pc]? =some i->x.at'=none->x.fn=none->(i.op=12\/i.op=13)->q0V x i<c.words->qr6 xs (q0V x i)/\(i.op=13->qrt c m xs r t (q0V x i))):q0q c ps n k xs g r t x (qH c p n t m x):=by
 have o:=h.th t x p z D;unfold qH;cases l:x.at' with
 |none=>
  obtain⟨q1,q2,q3,q4,q5,q6,q7⟩:=h.out z D l;obtain⟨i,v⟩:∃i,p[x.th.pc]? =some i:=by
   refine⟨_,z6 (yS q3 fun e=>?_)⟩;rw[B] at q5;exact of_decide_eq_false q5.symm e
  rw[v];dsimp only;have ae:∀b,x.at'=some b->fl b= []:=fun b e=>by rw[l] at e;cases e
  cases P:x.fn with
  |some f=>
   obtain⟨_,j,Q,E⟩:=q6 (by rw[P];exact fun e=>by cases e);rw[v] at Q;cases Q;exact q0q.wait h z D l v E B f
  |none=>
   dsimp only;unfold q2I;have ho:=qkN C q4 v
   by_cases F:i.op=12\/i.op=13
   ·rw[if_pos F];exact q0q.plain h z D l P v F B (hs i v l P F)
   ·rw[if_neg F]
    by_cases E:i.op=16
    ·rw[if_pos E];exact q0q.wait h z D l v E B _
    ·rw[if_neg E];unfold q1f
     by_cases K:i.op=7
     ·rw[if_pos K];have J:=TL.start (c:=c) (x:=x) v K B P;refine q0d.virt T Y X z (rt:= []) (h.ask z (fun a e=>by rw[l] at e;cases e) rfl rfl rfl AI.start [] (fun p' G=>?_) (.inr fun q R=>?_)) rfl rfl (fun e=>by cases e) (fun q R=>by cases R) (fun e=>by cases e) D C v (by rw[l]) ae
      ·rw[D] at G;cases G;unfold ThR;dsimp only;rw[if_neg Yv,q1,q2];exact⟨by rw[<-B],rfl,J.at _⟩
      ·cases R
     ·rw[if_neg K,if_neg Yu];have e:(if x.at'.isSome then(x.ct:Int) else 0)=0:=by rw[l];rfl
      rw[e];exact q0q.locO h z D C l P v Yu B
 |some a=>
  have U:x.fn=none:=by
   unfold ThR at o;rw[l] at o;dsimp only at o
   split at o
   ·exact o.2.2.fn
   ·exact o.2.2.fn
  have Z:∃i,p[x.th.pc]? =some i:=by
   unfold ThR at o;rw[l] at o;dsimp only at o;refine⟨_,z6 ?_⟩
   split at o
   ·exact o.2.2.pl
   ·exact o.2.2.pl
  obtain⟨i,v⟩:=Z;rw[v];dsimp only;rw[U];dsimp only
  by_cases hb:a.busy=true
  ·rw[if_pos hb];exact h.busy T Y X z l hb D C v
  ·rw[if_neg hb];have w:a.ph= .idle:=by
    unfold AT.busy at hb;cases e:a.ph <;>rw[e] at hb <;>first|rfl|exact absurd rfl hb
   have d:a.dn=false:=by
    have:=(h.ai t x a z l).ph;unfold PhA at this;rw[w] at this;exact this.1
   unfold ThR at o;rw[l] at o;dsimp only at o;rw[if_neg (by rw[d];decide)] at o;obtain⟨N,O,J⟩:=o;obtain⟨i1,i2,_,_⟩:=J.req (fun k e=>by rw[w] at e;cases e) (by rw[w];rfl);obtain⟨ib,W,K⟩:=J.bg;obtain⟨_,_,_,j,Q,F,_⟩:=q93 C W K i1 i2;rw[v] at Q;cases Q;have I:fl a= []:=by unfold fl;rw[w]
   unfold q2I;rw[if_neg Yu,if_neg Yu];unfold q1f;rw[if_neg Yu]
   by_cases H:8<=i.op/\i.op<=11
   ·rw[if_pos H,l];dsimp only;obtain⟨f1,f2,f3,f4,f5,f6,f7,f8,f9⟩:=qcf J (h.ai t x a z l) w v H;refine q0d.virt T Y X z (rt:=r t) (h.ask z (fun b e=>by rw[l] at e;cases e;exact⟨d,fun A V e=>by rw[w] at e;cases e⟩) rfl (by rw[f4];exact d) f7 f2 (r t) (fun p' G=>?_) ?_) f3 (by rw[f4];exact d) f8 f6 (fun e=>?_) D C v (by rw[l];dsimp only;rw[I,zz]) (fun b e=>by rw[l] at e;cases e;exact I)
    ·rw[D] at G;cases G;unfold ThR;dsimp only;rw[if_neg (by rw[f4,d];decide)];exact⟨N,O,f1.at _⟩
    ·exact VA.own z (fun b e=>by rw[l] at e;cases e;exact d) f5 (fun q R=>(f6 q R).elim) (fun h=>by rw[w] at h;cases h) (h.va t x a z l d)
    ·rw[e] at f7;cases f7
   ·rw[if_neg H];have hh:=q0q.locT h z D C l w d v Yu N O J I;simp only[l] at hh ⊢;exact hh
end
open Go
structure AtX(k:Nat)(a:AT):Prop where
 ls:a.set.length<=k
 ln:a.seen.length<=k
 cd:0<=a.code/\a.code<=9
 ck:0<=a.ck/\a.ck<=k
 vl:∀v∈a.vl,okU v
 val:okU a.val
 ph:match a.ph with
  | .loc (.en c)=>0<=c/\c<=9
  | .loc (.tk v)=>okU v
  | .loc (.wr _ v)=>okU v
  | .rd n b v=>(n=0/\b=0/\v=0)\/(n=1/\v=0)\/(n=2/\okU v)
  | .wr _ V=>∀v∈V,okU v
  |_=>True
def q4w(d:je):Prop:=∀v∈d,okU v
section
variable{c:Cfg}{t:Nat}{n k:Nat}{m m':MS}{a b:AT}{x:GT}{p:jg}{i:Ins}
theorem qr5:okU 0:=⟨Yv,Yv⟩
theorem q4w.at{d:je}(h:q4w d)(j:Nat):okU (d.getD j 0):=by
 rw[zh];cases e:d[j]? with
 |none=>exact qr5
 |some v=>exact h v (zg e)
theorem q4w.set{d:je}(h:q4w d){j:Nat}{v:Int}(f:okU v):q4w (d.set j v):=fun z l=>by
 rcases Zk l with e|rfl
 ·exact h z e
 ·exact f
theorem AtX.up(h:AtX k a):AtX (k+1) a:=⟨ZH h.ls,ZH h.ln,h.cd,⟨h.ck.1,by have:=h.ck.2;omega⟩,h.vl,h.val,h.ph⟩
theorem AtX.to(h:AtX k a)(d:b.set=a.set)(e:b.seen=a.seen)(f:b.vl=a.vl)(j:b.val=a.val)(l:b.ck=a.ck)(o:0<=b.code/\b.code<=9)(w:match b.ph with
  | .loc (.en c)=>0<=c/\c<=9
  | .loc (.tk v)=>okU v
  | .loc (.wr _ v)=>okU v
  | .rd n b v=>(n=0/\b=0/\v=0)\/(n=1/\v=0)\/(n=2/\okU v)
  | .wr _ V=>∀v∈V,okU v
  |_=>True):AtX k b:=⟨by rw[d];exact h.ls,by rw[e];exact h.ln,o,by rw[l];exact h.ck,by rw[f];exact h.vl,by rw[j];exact h.val,w⟩
theorem AtX.endA(h:AtX k a){q:Int}(d:0<=q/\q<=9):AtX k (a.endA c q):=by
 unfold AT.endA
 split
 ·exact h.to rfl rfl rfl rfl rfl d trivial
 ·exact h.to rfl rfl rfl rfl rfl d trivial
theorem AtX.undo(h:AtX k a){q:Int}(d:0<=q/\q<=9):AtX k (a.undo q):=h.to rfl rfl rfl rfl rfl d trivial
theorem AtX.rest(h:AtX k a):AtX k a.rest:=by
 unfold AT.rest
 split
 ·exact h.to rfl rfl rfl rfl rfl h.cd trivial
 ·exact h.to rfl rfl rfl rfl rfl h.cd trivial
theorem qij{ad vl:je}{w v:Int}(h:q54 ad vl w=some v):v∈vl:=by
 unfold q54 at h
 split at h
 ·exact zg h
 ·cases h
theorem qiM{cap:Int}{ad vl ad' vl':je}{w v:Int}(h:q5Y cap ad vl w v=some (ad',vl'))(f:okU v)(e:∀z∈vl,okU z):∀z∈vl',okU z:=by
 unfold q5Y at h
 split at h
 ·simp only[Option.some.injEq,Prod.mk.injEq] at h;obtain⟨rfl,rfl⟩:=h;exact q4w.set e f
 ·split at h
  ·cases h
  ·simp only[Option.some.injEq,Prod.mk.injEq] at h;obtain⟨rfl,rfl⟩:=h;intro z j
   rcases zy.1 j with d|d
   ·exact e z d
   ·rw[zf.1 d];exact f
theorem AtX.kont(h:AtX k a)(d:a.ph= .idle){q:Ko}(f:match q with
  | .en c=>0<=c/\c<=9
  | .tk v=>okU v
  | .wr _ v=>okU v):AtX k (a.kont c q):=by
 cases q with
 |en q=>exact h.endA f
 |tk v=>exact⟨h.ls,h.ln,h.cd,h.ck,h.vl,f,by show match a.ph with| .loc (.en c)=>0<=c/\c<=9| .loc (.tk v)=>okU v| .loc (.wr _ v)=>okU v| .rd n b v=>(n=0/\b=0/\v=0)\/(n=1/\v=0)\/(n=2/\okU v)| .wr _ V=>∀v∈V,okU v|_=>True;rw[d];trivial⟩
 |wr w v=>
  unfold AT.kont;dsimp only
  split
  ·exact h.endA Yv
  ·split
   ·rename_i e;exact⟨h.ls,h.ln,h.cd,h.ck,qiM e f h.vl,h.val,by show match a.ph with| .loc (.en c)=>0<=c/\c<=9| .loc (.tk v)=>okU v| .loc (.wr _ v)=>okU v| .rd n b v=>(n=0/\b=0/\v=0)\/(n=1/\v=0)\/(n=2/\okU v)| .wr _ V=>∀v∈V,okU v|_=>True;rw[d];trivial⟩
   ·exact h.undo Yv
theorem qho{cap o:Int}{l s:je}(h:q6D cap l o=some s):s.length<=l.length+1:=by
 unfold q6D at h
 split at h
 ·cases h;omega
 ·split at h
  ·cases h
  ·cases h;simp
theorem qhn(l:je)(w:Int):(q1Y l w).length<=l.length+1:=by
 unfold q1Y
 split
 ·omega
 ·simp
theorem AtX.step(h:AtX k a)(hd:q4w m.d)(hk:0<=m.ck/\m.ck<=k):AtX (k+1) (qh c t m a).2.1/\q4w (qh c t m a).1.d:=by
 have d:=h.up;have f:=h.ph;unfold qh;cases e:a.ph with
 |idle=>exact⟨d,hd⟩
 |loc q=>
  rw[e] at f;refine⟨AtX.kont (AtX.to (b:={a with ph:= .idle}) d rfl rfl rfl rfl rfl h.cd trivial) rfl ?_,hd⟩;cases q <;>exact f
 |ent j=>
  dsimp only
  split
  ·exact⟨d.to rfl rfl rfl rfl rfl h.cd trivial,hd⟩
  ·split
   ·exact⟨d.to rfl rfl rfl rfl rfl h.cd trivial,hd⟩
   ·exact⟨d.to rfl rfl rfl rfl rfl h.cd trivial,hd⟩
 |rd j bf v=>
  dsimp only
  split
  ·dsimp only
   split
   ·exact⟨d.undo Yv,hd⟩
   ·exact⟨d.to rfl rfl rfl rfl rfl h.cd (.inr (.inl ⟨rfl,rfl⟩)),hd⟩
  ·split
   ·exact⟨d.to rfl rfl rfl rfl rfl h.cd (.inr (.inr ⟨rfl,hd.at _⟩)),hd⟩
   ·rename_i B C;rw[e] at f;have z:okU v:=by
     rcases f with ⟨f,_⟩|⟨f,_⟩|⟨_,f⟩
     ·exact absurd f B
     ·exact absurd f C
     ·exact f
    dsimp only
    split
    ·exact⟨d.undo Yv,hd⟩
    ·have h2:=qhn a.seen a.addr;have h3:=h.ln
     split
     ·refine⟨AtX.undo (a:={a with seen:=q1Y a.seen a.addr}) ⟨d.ls,?_,h.cd,d.ck,h.vl,h.val,h.ph⟩ Yv,hd⟩;dsimp only;omega
     ·rename_i s D;have h4:=qho D;have h5:=h.ls;exact⟨⟨by dsimp only;omega,by dsimp only;omega,h.cd,d.ck,h.vl,z,trivial⟩,hd⟩
 |lk s ld=>
  dsimp only
  split
  ·exact⟨d.to rfl rfl rfl rfl rfl h.cd trivial,hd⟩
  ·split
   ·refine⟨d.to rfl rfl rfl rfl rfl h.cd ?_,hd⟩;dsimp only
    split <;>rename_i w <;>(split at w <;>first|cases w|trivial)
   ·exact⟨d.to rfl rfl rfl rfl rfl h.cd trivial,hd⟩
 |tn q=>
  dsimp only
  split
  ·exact⟨d.to rfl rfl rfl rfl rfl h.cd trivial,hd⟩
  ·dsimp only
   split
   ·split
    ·exact⟨d.to rfl rfl rfl rfl rfl h.cd trivial,hd⟩
    ·exact⟨d.to rfl rfl rfl rfl rfl h.cd trivial,hd⟩
   ·exact⟨d,hd⟩
 |ck l=>
  dsimp only
  split
  ·exact⟨AtX.rest (a:={a with code:=9}) (d.to rfl rfl rfl rfl rfl (by dsimp only;decide) h.ph),hd⟩
  ·split
   ·exact⟨d.to rfl rfl rfl rfl rfl h.cd trivial,hd⟩
   ·exact⟨d.to rfl rfl rfl rfl rfl h.cd trivial,hd⟩
 |dc=>
  have o:0<=m.ck/\m.ck<=((k+1:Nat):Int):=Yu;dsimp only
  split
  ·exact⟨AtX.rest (a:={a with ck:=m.ck,code:=6}) ⟨d.ls,d.ln,by dsimp only;decide,o,h.vl,h.val,h.ph⟩,hd⟩
  ·split
   ·exact⟨⟨d.ls,d.ln,h.cd,o,h.vl,h.val,h.vl⟩,hd⟩
   ·exact⟨AtX.rest (a:={a with ck:=m.ck,dn:=true}) ⟨d.ls,d.ln,h.cd,o,h.vl,h.val,h.ph⟩,hd⟩
 |wr A V=>
  rw[e] at f;dsimp only;refine⟨?_,hd.set ?_⟩
  ·split
   ·exact d.to rfl rfl rfl rfl rfl h.cd trivial
   ·exact d.to rfl rfl rfl rfl rfl h.cd fun v z=>f v (ZP z)
  ·cases V with
   |nil=>exact qr5
   |cons v V=>exact f v zj
 |rl A V=>
  dsimp only;refine⟨?_,hd⟩
  split
  ·refine d.to rfl rfl rfl rfl rfl h.cd ?_;dsimp only
   split <;>rename_i w <;>(split at w <;>first|cases w|trivial)
  ·exact d.to rfl rfl rfl rfl rfl h.cd trivial
 |sp=>exact⟨d.to rfl rfl rfl rfl rfl h.cd trivial,hd⟩
 |ps=>exact⟨d.to rfl rfl rfl rfl rfl h.cd trivial,hd⟩
 |lv=>exact⟨d.to rfl rfl rfl rfl rfl h.cd trivial,hd⟩
structure ThX(n k:Nat)(x:GT):Prop where
 rg:x.th.rg.ok
 sv:x.sv.ok
 sn:x.seen.length<=k
 ob:x.obs.length+(if x.at'.isSome then x.seen.length else 0)<=2*k
 ct:x.ct<=k
 tr:x.tr<=k
 fn:∀f,x.fn=some f->f.ld=true/\f.nx<n/\0<=f.lim/\f.lim<=k
 at':∀a,x.at'=some a->AtX k a
theorem ThX.up(h:ThX n k x):ThX n (k+1) x:=⟨h.rg,h.sv,ZH h.sn,by have:=h.ob;omega,ZH h.ct,ZH h.tr,fun f e=>by have:=h.fn f e;exact⟨this.1,this.2.1,this.2.2.1,Yu⟩,fun a d=>(h.at' a d).up⟩
theorem ThX.too(h:ThX n k x)(q:Nat):ThX n k (x.to p.length q):=⟨h.rg,h.sv,h.sn,h.ob,h.ct,h.tr,h.fn,h.at'⟩
theorem ThX.endG(h:ThX n k x)(o:x.at'≠none){a:AT}:ThX n (k+1) (x.endG p a):=by
 have v:=h.ob;rw[show x.at'.isSome=true by cases e:x.at' with|none=>exact absurd e o|some _=>rfl,if_pos rfl] at v;have d:=h.up
 by_cases j:a.code=1
 ·rw[qlT j];refine ThX.too ?_ _;refine⟨h.rg,h.sv,d.sn,?_,d.ct,zv _,d.fn,fun a e=>by cases e⟩;simp;omega
 ·by_cases f:a.code=9
  ·by_cases l:(x.tr:Int)<((p[x.bg]?).map (·.imm)).getD 0
   ·rw[qi5 f l];refine ThX.too ?_ _;refine⟨h.sv,h.sv,d.sn,?_,d.ct,d.tr,d.fn,fun a e=>by cases e⟩;simp;omega
   ·rw[qp2 f l];refine ThX.too ?_ _;refine⟨h.sv,h.sv,d.sn,?_,d.ct,zv _,d.fn,fun a e=>by cases e⟩;simp;omega
  ·rw[qkp j f];refine ThX.too ?_ _;refine⟨h.sv,h.sv,d.sn,?_,d.ct,zv _,d.fn,fun a e=>by cases e⟩;simp;omega
theorem ThX.adv(h:ThX n k x)(o:x.at'≠none)(w:AtX k a)(hd:q4w m.d)(z:0<=m.ck/\m.ck<=k):ThX n (k+1) (q0H c p t m x a i).2.1/\q4w (q0H c p t m x a i).1.d:=by
 obtain⟨f,v⟩:=w.step (c:=c) (t:=t) hd z;have A:=h.ob;have j:x.at'.isSome=true:=by cases e:x.at' with|none=>exact absurd e o|some _=>rfl
 rw[j,if_pos rfl] at A;have d:=h.up;refine⟨?_,v⟩;unfold q0H;dsimp only;generalize (qh c t m a).2.1=b at*
 split
 ·refine⟨h.rg,h.sv,d.sn,?_,d.ct,d.tr,d.fn,fun l e=>by cases e;exact f⟩;dsimp only[Option.isSome];rw[if_pos rfl];omega
 ·unfold GT.ans
  split
  ·exact h.endG o
  ·split
   ·refine ThX.too ?_ _;refine⟨Rg.ok_set h.rg f.val,h.sv,?_,?_,d.ct,d.tr,d.fn,fun l e=>by cases e;exact f⟩
    ·dsimp only;rw[z8,zH];have:=h.sn;omega
    ·dsimp only[Option.isSome];rw[if_pos rfl,z8,zH];omega
   ·refine ThX.too ?_ _;refine⟨h.rg,h.sv,d.sn,?_,d.ct,d.tr,d.fn,fun l e=>by cases e;exact f⟩;dsimp only[Option.isSome];rw[if_pos rfl];omega
theorem AtX.new:AtX k {AT.new with st:=1,ph:= .ent 0}:=⟨zv _,zv _,⟨Yv,Yv⟩,⟨Yv,Int.natCast_nonneg _⟩,fun _ h=>(by cases h),qr5,trivial⟩
theorem AtX.req(h:AtX k a)(d:x.th.rg.ok):AtX k (q1D c x.th.rg a i):=by
 unfold q1D
 split
 ·unfold AT.read
  split
  ·exact h.to rfl rfl rfl rfl rfl h.cd ⟨Yv,Yv⟩
  ·split
   ·rename_i v e;exact h.to rfl rfl rfl rfl rfl h.cd (h.vl v (qij e))
   ·exact h.to rfl rfl rfl rfl rfl h.cd (.inl ⟨rfl,rfl,rfl⟩)
 ·split
  ·exact h.to rfl rfl rfl rfl rfl h.cd (d _)
  ·split
   ·exact h.to rfl rfl rfl rfl rfl h.cd ⟨Yv,Yv⟩
   ·exact h.to rfl rfl rfl rfl rfl h.cd ⟨Yv,Yv⟩
theorem ThX.exe(h:ThX n k x)(hd:q4w m.d)(w:0<=m.ck/\m.ck<=k)(hb:i.op=7->x.at'=none):ThX n (k+1) (q1f c p t m x i).2.1/\q4w (q1f c p t m x i).1.d:=by
 have f:=h.up;unfold q1f
 split
 ·rename_i A;have j:=h.ob;rw[hb A] at j;dsimp only[Option.isSome] at j;rw[if_neg Yv] at j
  --v attempt is new
  have z:ThX n k {x with bg:=x.th.pc,sv:=x.th.rg,tr:=x.tr,seen:= [],ct:=x.ct,at':=some {AT.new with st:=1,ph:= .ent 0}}:=⟨h.rg,h.rg,zv _,by dsimp only[Option.isSome];rw[if_pos rfl];exact j,h.ct,h.tr,h.fn,fun a e=>by cases e;exact AtX.new⟩
  obtain⟨d,l⟩:=z.adv (c:=c) (p:=p) (t:=t) (i:=i) (fun e=>by cases e) AtX.new hd w;have B:∀(e:AT->GT->GT),True:=fun _=>trivial
  clear B
  --v counters are one greater
  have o:(qh c t m {AT.new with st:=1,ph:= .ent 0}).2.1.busy=true:=rfl;unfold q0H at d l ⊢;dsimp only at d l ⊢;rw[if_pos o] at d ⊢;refine⟨⟨d.rg,d.sv,d.sn,d.ob,?_,?_,d.fn,d.at'⟩,l⟩
  ·have:=h.ct;dsimp only;omega
  ·have:=h.tr;dsimp only;omega
 ·split
  ·cases e:x.at' with
   |none=>exact⟨f,hd⟩
   |some a=>exact h.adv (by rw[e];exact fun e=>by cases e) ((h.at' a e).req h.rg) hd w
  ·exact⟨⟨qat h.rg,h.sv,f.sn,f.ob,f.ct,f.tr,f.fn,f.at'⟩,hd⟩
theorem ThX.plain(h:ThX n k x)(hd:q4w m.d)(e:x.at'=none):ThX n (k+1) (q04 c p t m x i).2.1/\q4w (q04 c p t m x i).1.d:=by
 have d:=h.up;have f:=h.ob;rw[e] at f;dsimp only[Option.isSome] at f;rw[if_neg Yv] at f;unfold q04
 split
 ·refine⟨ThX.too ?_ _,hd⟩;refine⟨?_,h.sv,d.sn,?_,d.ct,d.tr,d.fn,d.at'⟩
  ·dsimp only
   split
   ·exact Rg.ok_set h.rg qr5
   ·exact h.rg
  ·dsimp only;rw[e,z8,zH];dsimp only[Option.isSome];rw[if_neg Yv];omega
 ·split
  ·refine⟨ThX.too ?_ _,hd⟩;refine⟨Rg.ok_set h.rg (hd.at _),h.sv,d.sn,?_,d.ct,d.tr,d.fn,d.at'⟩;dsimp only;rw[e,z8,zH];dsimp only[Option.isSome];rw[if_neg Yv];omega
  ·refine⟨ThX.too ?_ _,hd.set (h.rg _)⟩;refine⟨h.rg,h.sv,d.sn,?_,d.ct,d.tr,d.fn,d.at'⟩;dsimp only;rw[e,z8,zH];dsimp only[Option.isSome];rw[if_neg Yv];omega
theorem ThX.wait(h:ThX n k x)(B:0<=m.ck/\m.ck<=k)(w:x.at'=none){f:FT}(A:f=⟨false,0,0⟩\/(f.ld=true/\f.nx<n/\0<=f.lim/\f.lim<=k)):ThX n (k+1) (q0x n p t m x f).2.1:=by
 have d:=h.up;have l:=h.ob;rw[w] at l;dsimp only[Option.isSome] at l;rw[if_neg Yv] at l;have z:(q3q t m f).1.ld=true/\0<=(q3q t m f).1.lim/\(q3q t m f).1.lim<=k:=by
  unfold q3q
  rcases A with rfl|⟨j,h2,o,v⟩
  ·rw[if_pos rfl];exact⟨rfl,B⟩
  ·rw[if_neg (by rw[j];decide)];dsimp only
   split
   ·exact⟨j,o,v⟩
   ·exact⟨j,o,v⟩
 unfold q0x;dsimp only
 split
 ·refine ThX.too ?_ _;refine⟨h.rg,h.sv,d.sn,?_,d.ct,d.tr,(fun f e=>by cases e),d.at'⟩;dsimp only;rw[w,z8,zH];dsimp only[Option.isSome];rw[if_neg Yv];omega
 ·rename_i hlt;exact⟨h.rg,h.sv,d.sn,d.ob,d.ct,d.tr,(fun f' e=>by cases e;exact⟨z.1,Yu,z.2.1,Yu⟩),d.at'⟩
theorem ThX.step(h:ThX n k x)(hd:q4w m.d)(j:0<=m.ck/\m.ck<=k)(z:p[x.th.pc]? =some i)(o:x.fn≠none->x.at'=none)(hb:∀a,x.at'=some a->a.busy=false->i.op≠7/\i.op≠12/\i.op≠13/\i.op≠16):ThX n (k+1) (qH c p n t m x).2.1/\q4w (qH c p n t m x).1.d:=by
 unfold qH;rw[z];dsimp only;cases v:x.fn with
 |some f=>
  have d:=o (by rw[v];exact fun e=>by cases e);exact⟨h.wait j d (.inr (h.fn f v)),hd⟩
 |none=>
  dsimp only;cases d:x.at' with
  |some a=>
   dsimp only
   split
   ·exact h.adv (by rw[d];exact fun e=>by cases e) (h.at' a d) hd j
   ·rename_i l;obtain⟨b1,b2,b3,w⟩:=hb a d (by simpa using l);unfold q2I;rw[if_neg Yu,if_neg w];exact h.exe hd j fun e=>absurd e b1
  |none=>
   dsimp only;unfold q2I
   split
   ·exact h.plain hd d
   ·split
    ·exact⟨h.wait j d (.inl rfl),hd⟩
    ·exact h.exe hd j fun _=>d
end
open Go
structure q23(c:Cfg)(ps:List (jg))(n k:Nat)(q:RM)(g:GS)(r:Nat->List (Int×Int)):Prop where
 gi:q0d c ps n k q.m q.xs g r
 xt:∀(t:Nat) x,q.xs[t]? =some x->ThX n k x
 dd:q4w q.m.d
 sl:q.S.length<=k
def qoz(c:Cfg)(ps:List (jg))(q:RM)(r:Nat->List (Int×Int))(t:Nat):Prop:=
 ∀x p i,q.xs[t]? =some x->ps[t]? =some p->x.th.dn=false->p[x.th.pc]? =some i->x.at'=none->x.fn=none->(i.op=12\/i.op=13)->q0V x i<c.words->qr6 q.xs (q0V x i)/\(i.op=13->qrt c q.m q.xs r t (q0V x i))
section
variable{c:Cfg}{ps:List (jg)}{n k:Nat}{q:RM}{g g':GS}{r r':Nat->List (Int×Int)}{t u:Nat}{x:GT}{a:AT}{p:jg}{i:Ins}
theorem q23.zero{il:je}{O:Nat}(D:(il.length:Int)=c.words)(E:c.orecs=(O:Int))(hw:q4w il):q23 c ps ps.length 0 ⟨ms0 il O ps.length,ps.map q3c,[],[]⟩ (q19 c il ps) (fun _=> []):=by
 have w:∀(t:Nat) x,(ps.map q3c)[t]? =some x->∃p,ps[t]? =some p/\x=q3c p:=fun t x d=>by
  rw[zI] at d;obtain⟨p,A,rfl⟩:=Zb.1 d;exact⟨p,A,rfl⟩
 have l:∀(t:Nat) x a,(ps.map q3c)[t]? =some x->x.at'=some a->False:=fun t x a d o=>by
  obtain⟨p,_,rfl⟩:=w t x d;cases o
 refine⟨⟨⟨fun j=>?_,by rw[E];exact congrArg _ (zO ..),D,zO ..,⟨zW _,zW _⟩,zW _,⟨zW _,zW _⟩⟩,zi ..,rfl,zi ..,zi ..,D,fun t x a d o=>(l t x a d o).elim,fun u v y z a b C _ o=>(l u y a C o).elim,fun t x p d A=>?_,fun t x a d o=>(l t x a d o).elim, .inr ⟨fun u y b C hb=>(l u y b C hb).elim,rfl⟩⟩,fun t x d=>?_,hw,zq _⟩
 ·show okU ((List.replicate O (0:Int)).getD j 0);refine q4w.at (fun v F=>?_) j;rw[(List.mem_replicate.1 F).2];exact qr5
 ·obtain⟨p',B,rfl⟩:=w t x d;rw[A] at B;cases B;unfold ThR q3c;dsimp only;have e:decide (p.length=0)=decide (0=p.length):=decide_eq_decide.2 Yu;refine⟨?_,?_,zv _,(by show(-1:Int)<0;decide),rfl,fun h=>absurd rfl h,fun h=>absurd rfl h⟩
  ·unfold q19;dsimp only;rw[zI,A,<-e];rfl
  ·unfold q19;dsimp only;rw[zh,zI,A];rfl
 ·obtain⟨p,_,rfl⟩:=w t x d;exact⟨Rg.ok_0,Rg.ok_0,zv _,zv _,zv _,zv _,fun f e=>(by cases e),fun a e=>(by cases e)⟩
theorem qax(d:q.xs[t]? =some x)(hd:x.th.dn=true):q0E c ps n q t=q/\chR c ps n q t= []:=by
 unfold q0E chR;simp only[d];cases ps[t]? with
 |none=>exact⟨rfl,rfl⟩
 |some p=>dsimp only;rw[if_pos hd,if_pos hd];exact⟨rfl,rfl⟩
theorem q2S(e:q.xs[t]? =some x)(d:ps[t]? =some p)(hd:x.th.dn=false):q0E c ps n q t=⟨(qH c p n t q.m x).1,q.xs.set t (qH c p n t q.m x).2.1,q.S++ [(qH c p n t q.m x).2.2.1],q.E++(qH c p n t q.m x).2.2.2.map (q77 q.S.length)⟩/\
  chR c ps n q t=chN x (qH c p n t q.m x).2.1 (qH c p n t q.m x).2.2.1:=by
 unfold q0E chR;simp only[e,d];rw[if_neg (by rw[hd];decide),if_neg (by rw[hd];decide)];exact⟨rfl,rfl⟩
structure PkR(c:Cfg)(ps:List (jg))(n:Nat)(q:RM)(g:GS)(r:Nat->List (Int×Int))(t:Nat)(g':GS)(r':Nat->List (Int×Int)):Prop where
 ch:q4o c ps g (chR c ps n q t)=some g'
 ot:∀u,u≠t->r' u=r u
 rd:∀x p,q.xs[t]? =some x->ps[t]? =some p->x.th.dn=false->RdN x (qH c p n t q.m x).2.1 (r t) (r' t)
 dn:∀x,q.xs[t]? =some x->x.th.dn=true->g'=g/\r'=r
theorem q23.fn(h:q23 c ps n k q g r)(D:q.xs[t]? =some x)(H:ps[t]? =some p)(z:PrO p):(x.fn≠none->x.at'=none)/\(x.th.dn=false->∃i,p[x.th.pc]? =some i/\∀a,x.at'=some a->a.busy=false->i.op≠7/\i.op≠12/\i.op≠13/\i.op≠16):=by
 have d:=h.gi.th t x p D H;unfold ThR at d;cases v:x.at' with
 |none=>
  rw[v] at d;dsimp only at d;obtain⟨_,_,E,_,A,_⟩:=d;exact⟨fun _=>rfl,fun hd=>⟨_,z6 (yS E fun e=>by rw[hd,decide_eq_true e] at A;cases A),fun a e=>by cases e⟩⟩
 |some a=>
  rw[v] at d;dsimp only at d;have f:x.fn=none/\x.th.pc<p.length:=by
   split at d
   ·exact⟨d.2.2.fn,d.2.2.pl⟩
   ·exact⟨d.2.2.fn,d.2.2.pl⟩
  refine⟨fun e=>absurd f.1 e,fun _=>⟨_,z6 f.2,fun b e hb=>?_⟩⟩;cases e;have G:=h.gi.ai t x a D v;have l:a.ph= .idle:=by
   unfold AT.busy at hb;cases e:a.ph <;>rw[e] at hb <;>first|rfl|cases hb
  have o:a.dn=false:=by
   have:=G.ph;unfold PhA at this;rw[l] at this;exact this.1
  rw[if_neg (by rw[o];decide)] at d;obtain⟨_,_,B⟩:=d;obtain⟨i1,i2,_,_⟩:=B.req (fun k e=>by rw[l] at e;cases e) (by rw[l];rfl);obtain⟨ib,w,F⟩:=B.bg;obtain⟨_,_,_,j,C,hop,_⟩:=q93 z w F i1 i2;rw[z6 f.2] at C;cases C;omega
theorem q23.step(N:COk c)(Q:n<=16)(hk:k<=1000)(h:q23 c ps n k q g r)(E:t<n)(D:∀p∈ps,PrO p)(R:qoz c ps q r t):∃g' r',PkR c ps n q g r t g' r'/\q23 c ps n (k+1) (q0E c ps n q t) g' r':=by
 obtain⟨x,f⟩:∃x,q.xs[t]? =some x:=⟨_,z6 (by rw[h.gi.xl];exact E)⟩
 obtain⟨p,l⟩:∃p,ps[t]? =some p:=⟨_,z6 (by rw[h.gi.pl];exact E)⟩
 have v:=D p (zg l);cases hd:x.th.dn with
 |true=>
  obtain⟨w,z⟩:=qax (c:=c) (ps:=ps) (n:=n) f hd;refine⟨g,r,⟨by rw[z];rfl,fun _ _=>rfl,fun x' T d _ e=>?_,fun _ _ _=>⟨rfl,rfl⟩⟩,?_⟩
  ·rw[f] at d;cases d;rw[hd] at e;cases e
  ·rw[w];exact⟨h.gi.mono,fun u y j=>(h.xt u y j).up,h.dd,ZH h.sl⟩
 |false=>
  obtain⟨w,z⟩:=q2S (c:=c) (ps:=ps) (n:=n) f l hd;obtain⟨f1,f2⟩:=h.fn f l v;obtain⟨i,B,f3⟩:=f2 hd;obtain⟨g',r',F,G,H,I⟩:=q0d.step N Q Yu h.gi f l v hd fun i B O P C hw=>R x p i f l hd B O P C hw
  have A:=h.gi.gm.ck;obtain⟨J,K⟩:=ThX.step (c:=c) (p:=p) (t:=t) (m:=q.m) (h.xt t x f) h.dd A B f1 f3;refine⟨g',r',⟨by rw[z];exact F,H,fun x' T d o _=>?_,fun x' d e=>?_⟩,?_⟩
  ·rw[f] at d;cases d;rw[l] at o;cases o;exact I
  ·rw[f] at d;cases d;rw[hd] at e;cases e
  ·rw[w];refine⟨G,fun u y j=>?_,K,?_⟩
   ·dsimp only at j
    by_cases hu:u=t
    ·subst hu;rw[q0c f] at j;cases j;exact J
    ·rw[q0t hu] at j;exact(h.xt u y j).up
   ·have:=h.sl;show(q.S++ [_]).length<=k+1;rw[z8,zH];omega
theorem q8l:∀(l:List ChM) (g:GS) {l2:List ChM} {g1:GS},q4o c ps g l=some g1->q4o c ps g (l++l2)=q4o c ps g1 l2
 | [],g,l2,g1,h=>by cases h;rfl
 |ch::l,g,l2,g1,h=>by
  unfold q4o at h;rw[zp];show q4o c ps g (ch::(l++l2))=_;rw[q4o];cases e:chM c ps g ch with
  |none=>rw[e] at h;cases h
  |some g2=>rw[e] at h;exact q8l l _ h
theorem qcj{K:Nat}{P:RM->GS->(Nat->List (Int×Int))->Prop}{A:RM}{g0:GS}{r0:Nat->List (Int×Int)}(O:K<=1000)(H:COk c)(I:n<=16)(z:∀p∈ps,PrO p)(D:q23 c ps n 0 A g0 r0)(v:P A g0 r0)(d:∀k q g r t,k<K->q23 c ps n k q g r->P q g r->t<n->qoz c ps q r t)
  (f:∀k q g r t g' r',k<K->q23 c ps n k q g r->P q g r->t<n->PkR c ps n q g r t g' r'->q23 c ps n (k+1) (q0E c ps n q t) g' r'->P (q0E c ps n q t) g' r'):
  ∀(j:Nat) (l:jj),l.length=j->(∀t∈l,t<n)->j<=K->∃g r,q4o c ps g0 (q6y c ps n A l)=some g/\q23 c ps n j (qiU c ps n A l) g r/\P (qiU c ps n A l) g r
 |0,l,w,_,_=>by
  obtain rfl:l= []:=zC.1 w;exact⟨g0,r0,rfl,D,v⟩
 |j+1,l,w,J,hj=>by
  obtain⟨l',t,rfl⟩:∃l' t,l=l'++ [t]:=⟨l.dropLast,l.getLast (fun e=>by rw[e] at w;cases w),(List.dropLast_concat_getLast _).symm⟩
  have C:l'.length=j:=by rw[z8,zH] at w;omega
  have o:=J t (zJ _ (zf.2 rfl));obtain⟨g,r,N,B,E⟩:=qcj O H I z D v d f j l' C (fun u hu=>J u (zP _ hu)) Yu;obtain⟨g',r',F,G⟩:=B.step H I Yu o z (d j _ g r t Yu B E o);rw[q8S,q65];exact⟨g',r',(q8l _ _ N).trans F.ch,G,f j _ g r t g' r' Yu B E o F G⟩
end
end Go.Proofs.YtikpjajangpdjaaGreatDoor
