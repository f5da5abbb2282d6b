/- What the laws share, part 13. No condition. -/
import Derived.Test.YtfnghamklcdgnaaGreatDoorQ12
set_option maxHeartbeats 16000000
set_option maxRecDepth 10000
namespace Go.Proofs.YtfnghamklcdgnaaGreatDoor
open Go
structure RG where
 da:j8
 dc:Nat
 dD:Own
 ta:j8
 tc:Nat
 tD:Own
 ea:j8
 ec:Nat
 eD:Own
 L:List EH
 X:Own
 oa:j8
 oc:Nat
 oD:Own
 S:List ObS
abbrev RG.v(r:RG)(s:GS):Value:= .agg #[.slice r.da s.d.length r.dc, .slice r.ta s.T.length r.tc, .slice r.ea r.L.length r.ec, .slice r.oa r.S.length r.oc]
def RG.D(r:RG):Own:=r.dD++(r.tD++(r.eD++(r.X++(r.oD++q5W r.S))))
structure RG.ok(r:RG)(W0:World)(s:GS):Prop where
 d:qq q06 45 1 r.da r.dc s.d r.dD
 t:qq Thr.enc 88 11 r.ta r.tc s.T r.tD
 e:qq EH.enc 83 6 r.ea r.ec r.L r.eD
 em:r.L.map EH.m=s.E
 ev:∀e∈r.L,RdE qw 1 W0 r.X e.ra e.rl/\RdE qw 1 W0 r.X e.wa e.wl
 o:qq ObS.enc 75 1 r.oa r.oc r.S r.oD
 os:∀x∈r.S,qq ObM.enc 77 3 x.a x.cap x.l x.D
 ol:r.S.map ObS.l=s.O
theorem qeY{α β:Type}{f:α->β}{l:List α}{m:List α}{i:Nat}{e e':α}(h:m.map f=(l.take i).map f)(a:l[i]? =some e)(he:f e'=f e):(m++ [e']).map f=(l.take (i+1)).map f:=by
 obtain⟨d,a⟩:=z7.1 a;rw[zY,z6 d,a];simp[h,he]
theorem qjh{α β:Type}{f:α->β}{l:List α}{m:List α}{i:Nat}(h:m.map f=(l.take i).map f)(hi:i<=l.length):m.length=i:=by
 have:=congrArg List.length h
 simpa [Nat.min_eq_left hi] using this
section
variable{W0:World}{e b:j9}{A B Z:Own}
theorem qlE:Ent W0 (e::(B++(A++(b::Z)))) (b::(e::(A++(B++Z)))):=q0r []
theorem qlF:Ent W0 (B++(e::(A++(b::Z)))) (b::(e::(A++(B++Z)))):=q0r []
theorem qlG:Ent W0 (B++(A++(e::(b::Z)))) (b::(e::(A++(B++Z)))):=q0r []
theorem qlH{i h b2 b3:j9}{D1 a d f D5 X:Own}:Ent W0 (i::(f++(d++(h::(b2::(b3::(D1++(a++(D5++(X++Z)))))))))) (b2::(b3::(D1++(a++(D5++((d++(f++X))++Z)))))):=q0r [i,h]
theorem qlI{f b2 b3:j9}{D1 a d eD D5 X S:Own}:Ent W0 (f::(d++(b2::(b3::(D1++(a++(eD++(X++(D5++(S++Z)))))))))) (b2::(b3::(D1++(a++(eD++(X++(D5++((S++d)++Z)))))))):=q0r [f]
theorem qlJ{b2 b3:j9}{D1 a eD oD X S:Own}:Ent W0 (b2::(b3::(D1++(a++(eD++(X++(oD++(S++Z)))))))) ((D1++(a++(eD++(X++(oD++S)))))++Z):=q0r [b2,b3]
end
theorem qfV{S:List ObS}{x:ObS}:q5W (S++ [x])=q5W S++x.D:=by simp[q5W]
section
variable{W0:World}{Kp:Own}{g:GP}{c:Cfg}{ps:ji}{s:GS}
theorem qbh(h:g.ok W0 Kp ps s)(a:g.ev W0)(hd:s.d.length<=500000)(hT:s.T.length<=500000)(hE:s.E.length<=500000)(hO:s.O.length<=500000)(aj:∀l∈s.O,l.length<=500000)(aC:∀e∈s.E,e.r.length<=500000/\e.wl.length<=500000)(q:Own):
  jk W0 31 [jn g.gb] (g.O c ps.length s++q) fun v own'=>∃r:RG,
   (v=r.v s/\r.ok W0 s)/\Ent W0 own' (r.D++(g.O c ps.length s++q)):=by
 have hEl:g.L.length=s.E.length:=by rw[<-h.em,zi]
 have hSl:g.S.length=s.O.length:=by rw[<-h.ol,zi]
 have K:=h.e.rd (W0:=W0);have L:=h.o.rd (W0:=W0);refine sC [69] [3,5,7,9,11,15,17,19,1,14,21,1,24,25,28,30,0,28,24,25,30,0,1,21,1,14,1,24,25,28,30,0,28,24,25,30,0,28,14,24,25,30,0,28,1,14,21,24,25,30,0,21,14,24,25,30,0,3,5,9,1,8,11,15,14,18,19,22,0,11,8,15,14,18,19,22,0,3,7,1,5,10,12,14,15,18,0,10,5,12,14,15,18,0] ?_;have au:=fun(own':Own) [qx own' g.dD]=>qW (cap:=g.dc) (RdE.up (own:=own') (h.d.rd (W0:=W0))) Yb
 have ay:=fun(own':Own) [qx own' g.tD]=>q5o (cap:=g.tc) (RdE.up (own:=own') (h.t.rd (W0:=W0))) Yb
 repeat'((try conv=>whnf);first|refine qg fun b2 h2=>?_;apply Stop.h)
 refine Stop.mk ?_
 repeat'((try conv=>whnf);first|refine fD ?_)
 refine q39 (σ:=Nat×(j8×Nat×Own)×(j8×Nat×Own)) 8386568 (fun y=> [(3,jn y.1)])
  (fun y=>(b2,j7 #[j6,j6,j6,j6] 67 (0,0))::((y.1,j7 #[.slice y.2.1.1 s.d.length y.2.1.2.1, .slice y.2.2.1 s.T.length y.2.2.2.1,j6,j6] 67 (0,0))::(y.2.1.2.2++(y.2.2.2.2++(g.O c ps.length s++q)))))
  (fun y=>qq q06 45 1 y.2.1.1 y.2.1.2.1 s.d y.2.1.2.2/\qq Thr.enc 88 11 y.2.2.1 y.2.2.2.1 s.T y.2.2.2.2) rfl ?_ ?_
 ·repeat'((try conv=>whnf);first|refine qg fun b3 h3=>?_|(apply qe;first|refine qk (au _) fun y v a=>?_;obtain⟨a1,c1,D1⟩:=y;obtain⟨rfl,F⟩:=a;dsimp only at F|refine qk (ay _) fun y v a=>?_;obtain⟨a2,c2,G⟩:=y;obtain⟨rfl,d⟩:=a;dsimp only at d)|refine fA ?_|refine fM ?_|refine q1k.mk ?_ ?_)
  all_goals
   refine⟨(b3,(a1,c1,D1),(a2,c2,G)),⟨F,d⟩,(eF),?_⟩
   first|exact qlE|exact qlF|exact qlG|exact ent_r4|exact ent_r5|exact ent_r6
 ·rintro⟨b3,⟨a1,c1,D1⟩,⟨a2,c2,G⟩⟩ n ⟨I,d⟩;dsimp only at I d ⊢
  repeat'((try conv=>whnf);first|refine fA ?_)
  --the events
  refine qQ (σ:=Nat×List EH×Own×j8×Nat×Own) (fun y=> [(28,j4 y.1)])
   (fun y=>(b2,j7 #[j6,j6,j6,j6] 67 (0,0))::((b3,j7 #[.slice a1 s.d.length c1, .slice a2 s.T.length c2, .slice y.2.2.2.1 y.2.1.length y.2.2.2.2.1,j6] 67 (0,0))::(D1++(G++(y.2.2.2.2.2++(y.2.2.1++(g.O c ps.length s++q)))))))
   (fun y=>y.1<=g.L.length/\y.2.1.map EH.m=(g.L.take y.1).map EH.m/\qq EH.enc 83 6 y.2.2.2.1 y.2.2.2.2.1 y.2.1 y.2.2.2.2.2/\∀e∈y.2.1,RdE qw 1 W0 y.2.2.1 e.ra e.rl/\RdE qw 1 W0 y.2.2.1 e.wa e.wl)
   (fun y=>g.L.length-y.1) (0,[],[],none,0,[]) ⟨zl _,rfl,qq.nil,fun _ h=>by cases h⟩ (eF) ?_ rfl ?_
  ·exact Ent.refl
  ·rintro⟨i,L',W,ea,ec,eD⟩ n ⟨hi,hm,F,V⟩;dsimp only at hi hm F V ⊢;have hll:=qjh hm hi
   by_cases M:i<g.L.length
   ·obtain⟨e,m⟩:∃e,g.L[i]? =some e:=⟨_,z6 M⟩
    have E:=zh m;have P:=(a e E).1;have Q:=(a e E).2;have aB:=aC e.m (by rw[<-h.em];exact ZU E);obtain⟨ev,et,t,ew,era,u,ae,ewa,w,af⟩:=e;dsimp only[EH.m] at P Q aB m;have aw:=fun(own':Own) [qx own' g.X]=>qR (cap:=ae) (RdE.up (own:=own') P) Yb
    have az:=fun(own':Own) [qx own' g.X]=>qR (cap:=af) (RdE.up (own:=own') Q) Yb
    repeat'((try conv=>whnf);first|refine fF ?_|refine qg fun b5 h5=>?_;apply Stop.h|(apply qL;first|refine ixE K m ?_ ?_;(first|rfl|omega))|apply q27;refine q0O K m rfl ?_)
    refine Stop.mk ?_
    repeat'((try conv=>whnf);first|apply q0f (enc:=EH.enc) (T:=83) ⟨ev,et,t,ew,a3,u,p,a4,w,X⟩ F;exact rfl;exact rfl;omega;exact rfl;exact rfl;omega;intro a9 Y D5 D|(apply qe;first|refine qk (aw _) fun y v a=>?_;obtain⟨a3,p,H⟩:=y;obtain⟨rfl,f⟩:=a;dsimp only at f|refine qk (az _) fun y v a=>?_;obtain⟨a4,X,D4⟩:=y;obtain⟨rfl,J⟩:=a;dsimp only at J)|refine fB ?_|refine fA ?_|refine fL ?_|refine fN ?_|refine fM ?_|refine qg fun bk aq=>?_|refine q1k.mk ?_ ?_)
    all_goals
     refine⟨(i+1,L'++ [⟨ev,et,t,ew,a3,u,p,a4,w,X⟩],H++(D4++W),a9,Y,D5),⟨M,qeY hm m rfl,D,fun e he=>?_⟩,(by show g.L.length-(i+1)<g.L.length-i;omega),(eF),?_⟩
     ·rcases zw.1 he with he|he
      ·exact⟨(V e he).1.up,(V e he).2.up⟩
      ·rw[zf.1 he];exact⟨RdE.up (f.rd (W0:=W0)),RdE.up (J.rd (W0:=W0))⟩
     ·have hlen:(L'++ [(⟨ev,et,t,ew,a3,u,p,a4,w,X⟩:EH)]).length=L'.length+1:=Yd;dsimp only;rw[hlen];exact qlH
   ·have aA:i=g.L.length:=Yb;subst aA;rw[Z3] at hm
    repeat'((try conv=>whnf);first|refine fG ?_|refine fA ?_)
    refine qQ (σ:=Nat×List ObS×j8×Nat×Own) (fun y=> [(52,j4 y.1)])
     (fun y=>(b2,j7 #[j6,j6,j6,j6] 67 (0,0))::((b3,j7 #[.slice a1 s.d.length c1, .slice a2 s.T.length c2, .slice ea L'.length ec, .slice y.2.2.1 y.2.1.length y.2.2.2.1] 67 (0,0))::(D1++(G++(eD++(W++(y.2.2.2.2++(q5W y.2.1++(g.O c ps.length s++q)))))))))
     (fun y=>y.1<=g.S.length/\y.2.1.map ObS.l=(g.S.take y.1).map ObS.l/\qq ObS.enc 75 1 y.2.2.1 y.2.2.2.1 y.2.1 y.2.2.2.2/\∀x∈y.2.1,qq ObM.enc 77 3 x.a x.cap x.l x.D)
     (fun y=>g.S.length-y.1) (0,[],none,0,[]) ⟨zl _,rfl,qq.nil,fun _ h=>by cases h⟩ (eF) ?_ rfl ?_
    ·exact Ent.refl
    ·rintro⟨j,U,oa,oc,oD⟩ n ⟨hj,k,z,C⟩;dsimp only at hj k z C ⊢;have hllS:=qjh k hj
     by_cases N:j<g.S.length
     ·obtain⟨x,m⟩:∃x,g.S[j]? =some x:=⟨_,z6 N⟩
      have S:=zh m;have R:=(h.os x S).rd (W0:=W0);have aF:=aj x.l (by rw[<-h.ol];exact ZU S);have O:=q43 m;obtain⟨xa,xc,xl,xD⟩:=x;dsimp only at R aF O;have av:=fun(own':Own) [qx own' xD]=>q4n (cap:=xc) (RdE.up (own:=own') R) Yb
      dsimp only[GP.O];rw[O]
      repeat'((try conv=>whnf);first|refine fF ?_|apply q0f (enc:=ObS.enc) (T:=75) ⟨a3,p,xl,H⟩ z;exact rfl;exact rfl;omega;exact rfl;exact rfl;omega;intro a9 Y D5 D|apply gLd;refine q0n L m rfl ?_|(apply qL;first|refine ixE L m ?_ ?_;(first|rfl|omega))|(apply qe;first|refine qk (av _) fun y v a=>?_;obtain⟨a3,p,H⟩:=y;obtain⟨rfl,f⟩:=a;dsimp only at f)|refine fB ?_|refine fA ?_|refine fN ?_|refine qg fun bk aq=>?_|refine q1k.mk ?_ ?_)
      all_goals
       refine⟨(j+1,U++ [⟨a3,p,xl,H⟩],a9,Y,D5),⟨N,qeY k m rfl,D,fun e he=>?_⟩,(by show g.S.length-(j+1)<g.S.length-j;omega),(eF),?_⟩
       ·rcases zw.1 he with he|he
        ·exact C e he
        ·rw[zf.1 he];exact f
       ·have hlen:(U++ [(⟨a3,p,xl,H⟩:ObS)]).length=U.length+1:=Yd;dsimp only;rw[hlen,qfV];exact qlI
     ·have aE:j=g.S.length:=Yb;subst aE;rw[Z3] at k
      repeat'((try conv=>whnf);first|refine fG ?_|refine fL ?_|refine fM ?_)
      exact⟨⟨a1,c1,D1,a2,c2,G,ea,ec,eD,L',W,oa,oc,oD,U⟩,⟨rfl,⟨I,d,F,by rw[hm,h.em],V,z,C,by rw[k,h.ol]⟩⟩,qlJ⟩
end
open Go
theorem qlA{W0:World}{e m:j9}{A Z:Own}:Ent W0 (e::(m::(A++Z))) (e::(A++(m::Z))):=q0r []
theorem qlB{W0:World}{e m:j9}{A Z:Own}:Ent W0 (e::(A++(m::Z))) (e::(A++(m::Z))):=Ent.refl
theorem qlC{W0:World}{i a gb mb b1:j9}{D1 d f h L Z:Own}:Ent W0 (i::(a::(d++(gb::(D1++(mb::(f++(L++(h++(b1::Z)))))))))) (gb::(D1++(mb::(f++((L++d)++(h++(b1::Z))))))):=q0r [i,a]
theorem qlD{W0:World}{gb mb b1:j9}{D1 D5 a tD L Z:Own}:Ent W0 (D5++(gb::(D1++(mb::(a++(L++(tD++(b1::Z)))))))) ((gb::(D1++(mb::(tD++([]++(D5++([]++ [])))))))++((a++L)++Z)):=q0r [b1]
theorem qju{W0:World}{d:Own}{ys:List PB}{x:PB}{a:j8}{l:jf}(f:x∈ys)(h:RdE Ins.enc 5 W0 x.D a l):RdE Ins.enc 5 W0 (d++q4E ys) a l:=by
 obtain⟨i,l2,rfl⟩:=Zz f;refine h.ent ?_;simp only[q4E,zv,zG,zP,Z1];exact q0r (d++((i.map PB.D).flatten++(l2.map PB.D).flatten))
theorem qav:∀(ps:ji) (t:Nat),psG ps t=none->∀h∈ps,qB h.p=(0,0)
 | [],_,_,_,h=>by cases h
 |x::l,t,a,y,f=>by
  unfold psG at a
  split at a
  ·cases a
  ·rename_i h0
   rcases zX.1 f with rfl|f
   ·have d:(qB y.p).2=0:=Yb;exact q8G.1 d
   ·exact qav l (t+1) a y f
theorem qml:∀(ps:ji) (t:Nat) (r:Int×Int×Int),psG ps t=some r->r.2.2≠0
 | [],_,_,h=>by cases h
 |x::l,t,r,a=>by
  unfold psG at a
  split at a
  ·rename_i d;rw[<-Option.some.inj a];exact d
  ·exact qml l (t+1) r a
theorem qll{c:Cfg}{il:Nat}{ps:ji}(h:(csM c il ps []).2.2=0):csM c il ps []=(0,0,0)/\qI c=0/\(1<=ps.length/\ps.length<=16)/\(il:Int)=c.words/\∀h∈ps,qB h.p=(0,0):=by
 unfold csM at h ⊢
 by_cases a:qI c=0
 ·rw[if_neg Yb] at h ⊢
  by_cases f:ps.length<1\/16<ps.length
  ·rw[if_pos f] at h;exact absurd h Yc
  ·rw[if_neg f] at h ⊢
   by_cases i:(il:Int)≠c.words
   ·rw[if_pos i] at h;exact absurd h Yc
   ·rw[if_neg i] at h ⊢;cases d:psG ps 0 with
    |some r=>rw[d] at h;exact absurd h (qml ps 0 r d)
    |none=>exact⟨rfl,a,Yb,Yb,qav ps 0 d⟩
 ·rw[if_pos a] at h;exact absurd h a
def qc4(p:jf):Thr:=⟨0,⟨0,0,0,0,0,0,0,0⟩,0,decide (p.length=0)⟩
section
variable{W0:World}{own:Own}{c:Cfg}{ia pa ka:j8}{ic pc kc:Nat}{ps:ji}{il ks:jd}
theorem qmD(hF:qE W0)(hI:RdE q06 1 W0 own ia il)(n:il.length<=1000000)(J:RdE PH.enc 1 W0 own pa ps)(X:∀h∈ps,RdE Ins.enc 5 W0 own h.a h.p):
  jk W0 29 [q9e c ia il.length ic pa ps.length pc ka ks.length kc] own fun v own'=>
   ((v= .tuple #[.pointer none,j4 (csM c il.length ps []).1,j4 (csM c il.length ps []).2.1,j4 (csM c il.length ps []).2.2]/\(csM c il.length ps []).2.2≠0)/\Ent W0 own' own)\/
   ∃y:GP×List PB×Own,(v= .tuple #[jn y.1.gb,j4 0,j4 0,j4 0]/\csM c il.length ps []=(0,0,0)/\
    y.1.ok W0 (y.2.2++q4E y.2.1) (y.2.1.map PB.h) (q4j c il (ps.map PH.p))/\y.1.ev W0/\(y.2.1.map PB.h).map PH.p=ps.map PH.p/\y.1.L= [])/\Ent W0 own' (y.1.O c (y.2.1.map PB.h).length (q4j c il (ps.map PH.p))++((y.2.2++q4E y.2.1)++own)):=by
 refine sC [123] [3,5,13,1,8,15,10,11,17,20,21,0,1,10,1,8,11,15,17,20,21,0,15,8,11,17,20,21,0,15,1,8,10,11,17,20,21,0,10,8,11,17,20,21,0,3,5,7,9,13,1,11,16,18,20,21,23,26,0,16,11,18,20,21,23,26,0] ?_;have m:=fun(own':Own) [qx own' own]=>qmz (c:=c) (ia:=ia) (il:=il.length) (ic:=ic) (pc:=pc) (ka:=none) (ks:= []) (kc:=0) (own:=own') hF (RdE.up J) (fun h O=>RdE.up (X h O)) RdE.nil
 by_cases he:(csM c il.length ps []).2.2=0
 ·obtain⟨h0,hc0,hpl,hiw,M⟩:=qll he;rw[h0] at m ⊢;have N:=fun(own':Own) [qx own' own]=>qW (cap:=ic) (RdE.up (own:=own') hI) Yb
  repeat'((try conv=>whnf);first|refine qg fun b1 h1=>?_;apply Stop.h)
  refine Stop.mk ?_
  repeat'((try conv=>whnf);first|refine fD ?_|apply qe;refine qd (m _) ?_|refine fO ?_|refine fL ?_|refine fN ?_)
  refine q39 (σ:=Nat×Nat×j8×Nat×Own) 535822340 (fun y=> [(2,jn y.1)])
   (fun y=>(y.1,j7 (.slice y.2.2.1 il.length y.2.2.2.1:: .map (some y.2.1)::cfL c [j6,j6,j6,j6,j4 0]).toArray 148 (0,0))::(y.2.2.2.2++((y.2.1,q2H (mpV []))::((b1,j7 (qc3 c (.slice ia il.length ic) (.slice pa ps.length pc) (j6)) 34 (0,0))::own))))
   (fun y=>qq q06 45 1 y.2.2.1 y.2.2.2.1 il y.2.2.2.2) rfl ?_ ?_
  ·repeat'((try conv=>whnf);first|refine qoq.mk fun mb hmb=>?_|refine qg fun gb hgb=>?_|(apply qe;first|refine qk (N _) fun y v Q=>?_;obtain⟨a1,c1,D1⟩:=y;obtain⟨rfl,W⟩:=Q;dsimp only at W)|refine fA ?_|refine fQ ?_|refine q1k.mk ?_ ?_)
   all_goals
    refine⟨(gb,mb,a1,c1,D1),W,(eF),?_⟩
    first|exact qlA|exact qlB
  ·rintro⟨gb,mb,a1,c1,D1⟩ H r;dsimp only at r ⊢
   repeat'((try conv=>whnf);first|refine fA ?_)
   refine qQ (σ:=Nat×List PB×(j8×Nat×Own)×(j8×Nat×Own)) (fun y=> [(32,j4 y.1)])
    (fun y=>(gb,j7 (.slice a1 il.length c1:: .map (some mb)::cfL c [.slice y.2.2.1.1 (y.2.1.map PB.h).length y.2.2.1.2.1, .slice y.2.2.2.1 ((ps.take y.1).map fun h=>qc4 h.p).length y.2.2.2.2.1,j6,j6,j4 0]).toArray 148 (0,0))::(D1++((mb,q2H (mpV []))::(y.2.2.1.2.2++(q4E y.2.1++(y.2.2.2.2.2++((b1,j7 (qc3 c (.slice ia il.length ic) (.slice pa ps.length pc) (j6)) 34 (0,0))::own)))))))
    (fun y=>y.1<=ps.length/\(y.2.1.map PB.h).map PH.p=(ps.take y.1).map PH.p/\qq PH.enc 60 1 y.2.2.1.1 y.2.2.1.2.1 (y.2.1.map PB.h) y.2.2.1.2.2/\(∀x∈y.2.1,x.ok)/\qq Thr.enc 88 11 y.2.2.2.1 y.2.2.2.2.1 ((ps.take y.1).map fun h=>qc4 h.p) y.2.2.2.2.2)
    (fun y=>ps.length-y.1) (0,[],(none,0,[]),(none,0,[])) ⟨zl _,rfl,qq.nil,(fun _ h=>(by cases h)),qq.nil⟩ (eF) Ent.refl rfl ?_
   rintro⟨i,ys,⟨U,V,kD⟩,⟨ta,tc,tD⟩⟩ H ⟨hi,hm,j,p,d⟩;dsimp only at hi hm j p d ⊢;have S:(ys.map PB.h).length=i:=qjh hm hi;have htl:((ps.take i).map fun h=>qc4 h.p).length=i:=by simp;omega
   by_cases n:i<ps.length
   ·obtain⟨x,a⟩:∃x,ps[i]? =some x:=⟨_,z6 n⟩
    have G:=zh a;have F:=X x G;have R:=q7t (M x G);obtain⟨xa,xc,f⟩:=x;dsimp only at F R;have L:=fun(own':Own) [qx own' own]=>q32 (cap:=xc) (RdE.up (own:=own') F) Yb
    have D:∀b:Bool,b=decide (f.length=0)-> [j4 0,j5 0,j5 0,j5 0,j5 0,j5 0,j5 0,j5 0,j5 0,j4 0, .bool b]=(qc4 f).enc:=fun b hb=>by rw[hb];rfl
    repeat'((try conv=>whnf);first|refine fF ?_|apply q0f (enc:=PH.enc) (T:=60) ⟨a3,q,f⟩ j;exact rfl;exact rfl;omega;exact rfl;exact rfl;omega;intro a8 c8 D8 u|apply q0f (enc:=Thr.enc) (T:=88) (qc4 f) d;refine D _ ?_;simp;exact rfl;omega;exact rfl;exact rfl;omega;intro a9 c9 D9 w|apply gLd;refine q0n J a rfl ?_|(apply qL;first|refine ixE J a ?_ ?_;(first|rfl|omega))|(apply qe;first|refine qk (L _) fun y v Q=>?_;obtain⟨a3,q,I⟩:=y;obtain⟨rfl,t⟩:=Q;dsimp only at t)|refine fB ?_|refine fA ?_|refine fN ?_|refine qg fun bk K=>?_|refine q1k.mk ?_ ?_)
    all_goals
     have C:ys.map PB.h++ [⟨a3,q,f⟩]=(ys++ [(⟨⟨a3,q,f⟩,I⟩:PB)]).map PB.h:=Yd;have E:((ps.take i).map fun h=>qc4 h.p)++ [qc4 f]=(ps.take (i+1)).map fun h=>qc4 h.p:=by
      rw[zY,a];simp
     rw[C] at u;rw[E] at w;refine⟨(i+1,ys++ [⟨⟨a3,q,f⟩,I⟩],(a8,c8,D8),(a9,c9,D9)),⟨n,by rw[<-C];exact qeY hm a rfl,u,fun x a=>?_,w⟩,(by show ps.length-(i+1)<ps.length-i;omega),(eF),?_⟩
     ·rcases zw.1 a with a|a
      ·exact p x a
      ·rw[zf.1 a];exact t
     ·have e1:((ys++ [(⟨⟨a3,q,f⟩,I⟩:PB)]).map PB.h).length=(ys.map PB.h).length+1:=Yd;have e2:((ps.take (i+1)).map fun h=>qc4 h.p).length=((ps.take i).map fun h=>qc4 h.p).length+1:=by rw[<-E];simp
      dsimp only;rw[e1,e2,q5e];exact qlC
   ·have P:i=ps.length:=Yb;subst P;rw[Z3] at hm d ⊢
    repeat'((try conv=>whnf);first|refine fG ?_|refine mkE (enc:=ObS.enc) ⟨none,0,[],[]⟩ rfl rfl Yb fun a5 c5 D5 l=>?_|refine fA ?_|refine fN ?_)
    have Y:(q4j c il (ps.map PH.p)).T=ps.map fun h=>qc4 h.p:=by simp[q4j,qc4]
    have hz:q5W (List.replicate (ys.map PB.h).length (⟨none,0,[],[]⟩:ObS))= []:=by simp[q5W]
    replace l:qq ObS.enc 75 1 a5 c5 (List.replicate (ys.map PB.h).length ⟨none,0,[],[]⟩) D5:=l
    refine .inr ⟨(⟨gb,mb,[],a1,c1,D1,U,V,ta,tc,tD,none,0,[],[],[],a5,c5,D5,List.replicate (ys.map PB.h).length ⟨none,0,[],[]⟩⟩,ys,kD),⟨rfl,rfl,⟨r,?_,RdE.up (j.rd (W0:=W0)),?_,Y ▸ d,qq.nil,rfl,l,?_,?_⟩,(fun _ h=>(by cases h)),hm,rfl⟩,?_⟩
    ·intro k;show false=_;simp only[q4j,zg,Zi]
     split <;>rfl
    ·intro h O;obtain⟨x,a,rfl⟩:=zO.1 O;exact qju a ((p x a).rd (W0:=W0))
    ·intro x a;rw[List.eq_of_mem_replicate a];exact qq.nil
    ·have e:ps.length=(ys.map PB.h).length:=S.symm;simp only[q4j,ZV,ZS];rw[<-e];exact(List.map_const' ..).symm
    ·dsimp only[GP.O,GP.cells];rw[Y,hz,zD];exact qlD
 ·generalize csM c il.length ps []=z at*;obtain⟨zt,za,ze⟩:=z;dsimp only at he
  repeat'((try conv=>whnf);first|refine fF ?_|apply qe;refine qd (m _) ?_|refine fO ?_|refine fL ?_|refine fN ?_|refine qg fun bk K=>?_)
  all_goals exact .inl ⟨⟨rfl,he⟩,(eC)⟩
end
open Go
theorem ok0:okU 0:=⟨Yc,Yc⟩
theorem qmd{c:Cfg}{il:jd}{P:List (jf)}(f:qI c=0)(a:(il.length:Int)=c.words)(hw:∀x∈il,okU x)(i:∀p∈P,qB p=(0,0)):GOk c P (q4j c il P):=by
 refine⟨f,i,a,hw,by simp[q4j],by simp[q4j],by simp[q4j],fun t th p d n=>?_,zl _,⟨fun _ h=>(by cases h),fun _ _ h=>(by cases h)⟩,fun l a=>?_⟩
 ·simp only[q4j,zI,n,Zm,Option.some.injEq] at d;subst d;refine⟨fun k=>?_,zl _,(by show(-1:Int)<0;decide),?_,ok0⟩
  ·by_cases j:k<8
   ·rcases lt8 j with rfl|rfl|rfl|rfl|rfl|rfl|rfl|rfl <;>exact ok0
   ·obtain⟨m,rfl⟩:∃m,k=m+8:=⟨k-8,Yb⟩
    exact ok0
  ·show decide (p.length=0)=decide (0=p.length)
   by_cases h:p.length=0
   ·rw[h]
   ·rw[decide_eq_false h,decide_eq_false Yb]
 ·obtain⟨_,_,rfl⟩:=zO.1 a;exact zl _
def q7P(c:Cfg)(P:List (jf)):List ChM->Nat->GS->GS ⊕ Nat
 | [],_,s=> .inl s
 |ch::l,k,s=>if(doM c P s ch).1=0 then q7P c P l (k+1) (doM c P s ch).2 else .inr k
theorem qiO{c:Cfg}{P:List (jf)}{s:GS}{ch:ChM}(h:(doM c P s ch).1≠0):doM c P s ch=(70,s):=by
 unfold doM at h ⊢
 split at h
 ·exact absurd rfl h
 ·rfl
theorem qoI{c:Cfg}{P:List (jf)}{s:GS}{ch:ChM}(h:(doM c P s ch).1=0):(doM c P s ch).2.n=s.n+1:=by
 unfold doM at h ⊢;cases a:chM c P s ch with
 |none=>rw[a] at h;exact absurd (show(70:Int)=0 from h) Yc
 |some s'=>rfl
structure CH where
 t:Int
 f:Int
 a:j8
 ad:jd
 ac:Nat
abbrev CH.enc(x:CH):je:= [j4 x.t,j4 x.f, .slice x.a x.ad.length x.ac]
abbrev CH.m(x:CH):ChM:=⟨x.t,x.f,x.ad⟩
abbrev qom:Value:= .agg #[j6,j6,j6,j6]
theorem qhF{W0:World}{a b d:j9}{A Z:Own}:Ent W0 (a::(b::(d::(A++Z)))) (A++([a,b,d]++Z)):=q0r []
theorem qlt{W0:World}{a b d:j9}{A Z:Own}:Ent W0 (A++([a,b,d]++Z)) (b::(d::(A++Z))):=q0r [a]
theorem qlu{W0:World}{a b d:j9}{A B Z:Own}:Ent W0 (A++([a,b,d]++(B++Z))) Z:=q0r (a::b::d::(A++B))
theorem qlv{W0:World}{b d:j9}{A Z:Own}:Ent W0 (b::(d::(A++Z))) ([b,d]++(A++Z)):=Ent.refl
theorem qlw{W0:World}{b d:j9}{R A B Z:Own}:Ent W0 (b::(d::((R++A)++(B++Z)))) (R++Z):=q0r (b::d::(A++B))
theorem qlx{W0:World}{b d:j9}{Z:Own}:Ent W0 (b::(d::Z)) ([b,d]++Z):=Ent.refl
theorem qly{W0:World}{b d:j9}{A B Z:Own}:Ent W0 (A++(B++([b,d]++Z))) (b::(d::(A++(B++Z)))):=q0r []
section
variable{W0:World}{own:Own}{c:Cfg}{ia pa ka:j8}{ic pc kc:Nat}{ps:ji}{il ks:jd}{ca:j8}{cc:Nat}{cl:List CH}
theorem qmx(hF:qE W0)(hI:RdE q06 1 W0 own ia il)(hil:il.length<=500000)(hw:∀x∈il,okU x)(hP:RdE PH.enc 1 W0 own pa ps)(hQ:∀h∈ps,RdE Ins.enc 5 W0 own h.a h.p)
  (hC:RdE CH.enc 3 W0 own ca cl) (hA:∀x∈cl,RdE qw 1 W0 own x.a x.ad/\x.ad.length<=x.ac/\∀a∈x.ad,a<=9223372036854775807) (hcl:cl.length<=5000):
  jk W0 18 [q9e c ia il.length ic pa ps.length pc ka ks.length kc, .slice ca cl.length cc] own fun v own'=>
   ((∃k e:Int,v= .tuple #[qom,j4 k,j4 e]/\(((csM c il.length ps []).2.2≠0/\k=0/\e=(csM c il.length ps []).2.2)\/(csM c il.length ps []=(0,0,0)/\e=70/\∃j:Nat,k=j/\q7P c (ps.map PH.p) (cl.map CH.m) 0 (q4j c il (ps.map PH.p))= .inr j)))/\Ent W0 own' own)\/
   ∃y:RG×GS,(v= .tuple #[y.1.v y.2,j4 0,j4 0]/\csM c il.length ps []=(0,0,0)/\q7P c (ps.map PH.p) (cl.map CH.m) 0 (q4j c il (ps.map PH.p))= .inl y.2/\y.1.ok W0 y.2)/\Ent W0 own' (y.1.D++own):=by
 refine sH [] ?_;have aH:=fun b2 J=>qmD (own:= [(J,j7 #[j6,j6,j6,j6] 67 (0,0)),(b2,j7 (qc3 c (.slice ia il.length ic) (.slice pa ps.length pc) (.slice ka ks.length kc)) 34 (0,0))]++own) (c:=c) (ic:=ic) (pc:=pc) (ka:=ka) (ks:=ks) (kc:=kc) hF (RdE.up hI) Yb (RdE.up hP) (fun h hh=>RdE.up (hQ h hh))
 repeat'((try conv=>whnf);first|refine qg fun b2 h2=>?_;apply Stop.h)
 refine Stop.mk ?_
 repeat'((try conv=>whnf);first|refine qg fun J h4=>?_;apply Stop.h)
 refine Stop.mk ?_
 repeat'((try conv=>whnf);first|(apply qe;first|refine q2n (aH b2 J) ?_ ?_ ?_ (fun v hv=>?_) fun y v hv=>?_;exact qlx;exact rfl;exact rfl;all_goals(apply Stop.h))|refine fL ?_)
 ·obtain⟨rfl,he⟩:=hv;generalize csM c il.length ps []=z at*;obtain⟨zt,za,ze⟩:=z;dsimp only at he;refine Stop.mk ?_
  repeat'((try conv=>whnf);first|refine fF ?_|refine fO ?_|refine fL ?_|refine fM ?_)
  all_goals exact .inl ⟨⟨0,ze,rfl, .inl ⟨he,rfl,rfl⟩⟩,(eC)⟩
 ·obtain⟨g,ys,kD⟩:=y;obtain⟨rfl,h0,ae,W,M, -⟩:=hv;dsimp only at ae W M ⊢;obtain⟨-,aA,aI,aE,aB⟩:=qll (by rw[h0]:(csM c il.length ps []).2.2=0);have ay:GOk c (ps.map PH.p) (q4j c il (ps.map PH.p)):=qmd aA aE hw fun p hp=>by obtain⟨x,H,rfl⟩:=zO.1 hp;exact aB x H
  have u:=hC;rw[h0];have aG:(q4j c il (ps.map PH.p)).n=0:=rfl;generalize q4j c il (ps.map PH.p)=s0 at*;generalize az:ps.map PH.p=P at*;refine Stop.mk ?_
  repeat'((try conv=>whnf);first|refine fD ?_|refine fO ?_)
  refine qQ (σ:=Nat×GP×GS) (fun y=> [(27,j4 y.1)])
   (fun y=>(J,j7 #[j6,j6,j6,j6] 67 (0,0))::((b2,j7 (qc3 c (.slice ia il.length ic) (.slice pa ps.length pc) (.slice ka ks.length kc)) 34 (0,0))::(y.2.1.O c (ys.map PB.h).length y.2.2++((kD++q4E ys)++own))))
   (fun y=>y.1<=cl.length/\y.2.1.ok W0 (kD++q4E ys) (ys.map PB.h) y.2.2/\y.2.1.ev W0/\y.2.1.gb=g.gb/\GOk c P y.2.2/\y.2.2.n=y.1/\q7P c P (cl.map CH.m) 0 s0=q7P c P ((cl.drop y.1).map CH.m) y.1 y.2.2)
   (fun y=>cl.length-y.1) (0,g,s0) ⟨zl _,ae,W,rfl,ay,aG,rfl⟩ (eF) ?_ rfl ?_
  ·exact qly
  ·rintro⟨k,g1,s1⟩ junk ⟨hk,n,m,L,f,Y,d⟩;dsimp only at hk n m L f Y d ⊢
   by_cases X:k<cl.length
   ·obtain⟨x,H⟩:∃x,cl[k]? =some x:=⟨_,z6 X⟩
    obtain⟨aq,au,N⟩:=hA x (zh H);obtain⟨T,S,xa,t,av⟩:=x;dsimp only at aq au N;rw[q4X H] at d;simp only[zG,q7P] at d;have w:=f;rw[<-M] at w;have i:=fun(E:Own)=>qoh (c:=c) hF n m w Yb T S aq au N (E++((kD++q4E ys)++own))
    rw[M] at i;have U:=qnG f (ch:=⟨T,S,t⟩) N;rw[L] at i
    by_cases Q:(doM c P s1 ⟨T,S,t⟩).1=0
    ·have V:=qoI Q;rw[if_pos Q] at d;generalize doM c P s1 ⟨T,S,t⟩=z at*;obtain⟨zc,s2⟩:=z;dsimp only at Q i U d V;subst Q
     repeat'((try conv=>whnf);first|refine fF ?_|refine qg fun I aw=>?_;apply Stop.h|(apply qL;first|refine ixE u H ?_ ?_;(first|rfl|omega))|apply q27;refine q0O u H rfl ?_)
     refine Stop.mk ?_
     repeat'((try conv=>whnf);first|refine fD ?_|(apply qe;first|refine qr (i [(I,j7 #[j4 T,j4 S, .slice xa t.length av] 99 (0,0)),(J,j7 #[j6,j6,j6,j6] 67 (0,0)),(b2,j7 (qc3 c (.slice ia il.length ic) (.slice pa ps.length pc) (.slice ka ks.length kc)) 34 (0,0))]) ?_ ?_ ?_ fun g2 v K=>?_;exact qhF;exact rfl;exact rfl;obtain⟨rfl,G,C,F⟩:=K)|refine fB ?_|refine fL ?_|refine fM ?_)
     exact⟨(k+1,g2,s2),⟨X,G,C,F,U,V.trans (by rw[Y]),d⟩,(by show cl.length-(k+1)<cl.length-k;omega),(eF),qlt⟩
    ·have aC:=qiO Q;rw[if_neg Q] at d;rw[aC] at i;dsimp only at i
     repeat'((try conv=>whnf);first|refine fF ?_|refine qg fun I aw=>?_;apply Stop.h|(apply qL;first|refine ixE u H ?_ ?_;(first|rfl|omega))|apply q27;refine q0O u H rfl ?_)
     refine Stop.mk ?_
     repeat'((try conv=>whnf);first|refine fE ?_|(apply qe;first|refine qr (i [(I,j7 #[j4 T,j4 S, .slice xa t.length av] 99 (0,0)),(J,j7 #[j6,j6,j6,j6] 67 (0,0)),(b2,j7 (qc3 c (.slice ia il.length ic) (.slice pa ps.length pc) (.slice ka ks.length kc)) 34 (0,0))]) ?_ ?_ ?_ fun g2 v K=>?_;exact qhF;exact rfl;exact rfl;obtain⟨rfl,G,C,F⟩:=K)|refine fL ?_|refine fM ?_)
     exact .inl ⟨⟨k,70,rfl, .inr ⟨rfl,rfl,k,rfl,d⟩⟩,qlu⟩
   ·have aF:k=cl.length:=Yb;subst aF;rw[Zw] at d;have hdl:=f.dl;have htl:=f.tl;have hol:=f.ol;have hel:=f.el;have hPl:P.length<=16:=by rw[<-az,zi];exact aI.2
    have aj:=qbh (c:=c) n m Yb Yb Yb Yb (fun l hl=>by have:=f.ob l hl;omega) (fun e he=>by have:=(f.ev.1 e he).2.2.2;omega);rw[L] at aj;have aJ:=qX (E:= [(J,j7 #[j6,j6,j6,j6] 67 (0,0)),(b2,j7 (qc3 c (.slice ia il.length ic) (.slice pa ps.length pc) (.slice ka ks.length kc)) 34 (0,0))]) (q:=(kD++q4E ys)++own) (D:=g1.O c (ys.map PB.h).length s1) (O:=fun r:RG=>r.D++g1.O c (ys.map PB.h).length s1) (R:=fun r v=>v=r.v s1/\r.ok W0 s1) (fun q=>by simpa only[zd] using aj q)
    repeat'((try conv=>whnf);first|refine fG ?_|(apply qe;first|refine qr aJ ?_ ?_ ?_ fun r v hr=>?_;exact qlv;exact rfl;exact rfl;obtain⟨rfl,af⟩:=hr)|refine fL ?_|refine fM ?_)
    exact .inr ⟨(r,s1),⟨rfl,rfl,d,af⟩,qlw⟩
end
end Go.Proofs.YtfnghamklcdgnaaGreatDoor
