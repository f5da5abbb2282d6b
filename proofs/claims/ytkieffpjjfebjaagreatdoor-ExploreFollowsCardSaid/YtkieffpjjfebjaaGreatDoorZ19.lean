/- What the laws share, part 19. No condition. -/
import Derived.Test.YtkieffpjjfebjaaGreatDoorChecked
import Derived.Shelf.SlMaps.Clone
import Derived.Test.YtkieffpjjfebjaaGreatDoorZ18
set_option maxHeartbeats 4000000
set_option maxRecDepth 10000
namespace Go.Proofs.YtkieffpjjfebjaaGreatDoor
open Go
set_option maxHeartbeats 2000000 in
theorem qae(b:Nat)(es:Array MapEntry)(clock:Nat)(w:World)(hb:w.heap[b]? =some (.map es clock)):
  Calls Tryz.prog 88 #[.map (some b)] w fun e w'=>e= .returned (.map (some w.heap.size))∧w'=w.alloc (.map es clock):=by
 have hq:=fun w=>run_eql_map_nil_sl (P:=Tryz.prog) w 118 _ _ (some b) Tryz.underlying118
 go_enter Tryz.func88,Tryz.ntmps88
 go_wp2
 rw[run_callFunc_extern Tryz.func120 (by kernel_rfl) (by kernel_rfl) (by kernel_rfl) (e:=Extern.MapsClone.clone) (by kernel_rfl),run_maps_clone_sl w 118 hb]
 simp only[Result.andThen]
 rw[Oper.upon_value]
 go_wp2
 rw[run_typeAssert_map_sl _ 118 20 _ _ _ Tryz.underlying118]
 simp only[Result.andThen]
 rw[Oper.upon_value]
 go_wp2
 go_ret
 exact⟨rfl,rfl⟩
section
variable{W0:World}{own:Own}
theorem qea{b:Nat}{l:List (Value×Value)} [m:q3X b (q70 l) own]:
  q0E Tryz.prog W0 88 [.map (some b)] own fun v own'=>∃b':Nat,v= .map (some b')∧Ent W0 own' ((b',q70 l)::own):=by
 intro w hw
 obtain⟨o,ho,es,clock,rfl,hl⟩:=hw.owns _ m.h
 refine(qae b es clock w ho).mono fun e w' ⟨he,hw'⟩=> ?_
 subst hw'
 exact⟨_,(w.heap.size,q70 l)::own,he,hw.push (.map es clock) ⟨es,clock,rfl,hl⟩,w.heap.size,rfl,Ent.refl⟩
end
open Go
section
variable{P:Program}{W0:World}{own D:Own}{C:Own→Own}{k k0:FuncId}{args args0:List Value}
theorem qil{R:Value→Prop}{O:Own}(h:q0E P W0 k args own fun v own'=>R v∧Ent W0 own' O):q0E P W0 k args own fun v own'=>∃_:Unit,R v∧Ent W0 own' O:=fun w hw=>
 (h w hw).mono fun _ _ ⟨v,o,a,b,c,d⟩=>⟨v,o,a,b,(),c,d⟩
end
section
variable{W0:World}{own:Own}
theorem q2N{a:Option Addr}{l:List Int}{cap:Nat}(hR:RdE q7j 1 W0 own a l)(hl:l.length≤1000000000):
  q0E Tryz.prog W0 58 [.slice a l.length cap] own fun v own'=>∃s:Option Addr×Nat×Own,(v= .slice s.1 l.length s.2.1∧qr q7j 58 1 s.1 s.2.1 l s.2.2)∧Ent W0 own' (s.2.2++own):=by
 refine qa qj q3F (by simp[q09]) ?_
 cases a with
 |none=>
  have hn:l= []:=by
   by_cases h:l= []
   ·exact h
   ·have:=hR.isS h;cases this
  subst hn
  repeat'((try(conv=>whnf));first|(refine fE ?_))
  exact⟨(none,0,[]),⟨rfl,qr.nil⟩,(eC)⟩
 |some a=>
  repeat'((try(conv=>whnf));first|(refine fD ?_)|(refine q7m (enc:=q7j) (l:= []) (l2:=l) qr.nil (At.head (D:= []) (r:=_)) hR.up rfl rfl (by omega) (fun _ _=>rfl) (fun _=>by simp;omega) (fun a1 c1 D1 hB1=> ?_);(rw[List.length_nil,Nat.zero_add l.length]);(apply Stop.h))|(refine qc (fun bk hbk=> ?_)))
  refine Stop.mk ?_
  rw[List.nil_append] at hB1
  exact⟨(a1,c1,D1),⟨rfl,hB1⟩,Ent.of_sub ((List.sublist_cons_self _ own).append_left D1)⟩
theorem q65{a:Option Addr}{l:List Int}{cap:Nat}(hR:RdE qM 1 W0 own a l)(hl:l.length≤1000000000):
  q0E Tryz.prog W0 60 [.slice a l.length cap] own fun v own'=>∃s:Option Addr×Nat×Own,(v= .slice s.1 l.length s.2.1∧qr qM 3 1 s.1 s.2.1 l s.2.2)∧Ent W0 own' (s.2.2++own):=by
 refine qa qj q2s (by simp[q00]) ?_
 cases a with
 |none=>
  have hn:l= []:=by
   by_cases h:l= []
   ·exact h
   ·have:=hR.isS h;cases this
  subst hn
  repeat'((try(conv=>whnf));first|(refine fE ?_))
  exact⟨(none,0,[]),⟨rfl,qr.nil⟩,(eC)⟩
 |some a=>
  repeat'((try(conv=>whnf));first|(refine fD ?_)|(refine q7m (enc:=qM) (l:= []) (l2:=l) qr.nil (At.head (D:= []) (r:=_)) hR.up rfl rfl (by omega) (fun _ _=>rfl) (fun _=>by simp;omega) (fun a1 c1 D1 hB1=> ?_);(rw[List.length_nil,Nat.zero_add l.length]);(apply Stop.h))|(refine qc (fun bk hbk=> ?_)))
  refine Stop.mk ?_
  rw[List.nil_append] at hB1
  exact⟨(a1,c1,D1),⟨rfl,hB1⟩,Ent.of_sub ((List.sublist_cons_self _ own).append_left D1)⟩
theorem q4i{a:Option Addr}{l:List Thr}{cap:Nat}(hR:RdE Thr.enc 11 W0 own a l)(hl:l.length≤1000000000):
  q0E Tryz.prog W0 59 [.slice a l.length cap] own fun v own'=>∃s:Option Addr×Nat×Own,(v= .slice s.1 l.length s.2.1∧qr Thr.enc 61 11 s.1 s.2.1 l s.2.2)∧Ent W0 own' (s.2.2++own):=by
 refine qa qj q3E (by simp[q08]) ?_
 cases a with
 |none=>
  have hn:l= []:=by
   by_cases h:l= []
   ·exact h
   ·have:=hR.isS h;cases this
  subst hn
  repeat'((try(conv=>whnf));first|(refine fE ?_))
  exact⟨(none,0,[]),⟨rfl,qr.nil⟩,(eC)⟩
 |some a=>
  repeat'((try(conv=>whnf));first|(refine fD ?_)|(refine q7m (enc:=Thr.enc) (l:= []) (l2:=l) qr.nil (At.head (D:= []) (r:=_)) hR.up rfl rfl (by omega) (fun _ _=>rfl) (fun _=>by simp;omega) (fun a1 c1 D1 hB1=> ?_);(rw[List.length_nil,Nat.zero_add l.length]);(apply Stop.h))|(refine qc (fun bk hbk=> ?_)))
  refine Stop.mk ?_
  rw[List.nil_append] at hB1
  exact⟨(a1,c1,D1),⟨rfl,hB1⟩,Ent.of_sub ((List.sublist_cons_self _ own).append_left D1)⟩
theorem q64{a:Option Addr}{l:List ObM}{cap:Nat}(hR:RdE ObM.enc 3 W0 own a l)(hl:l.length≤1000000000):
  q0E Tryz.prog W0 61 [.slice a l.length cap] own fun v own'=>∃s:Option Addr×Nat×Own,(v= .slice s.1 l.length s.2.1∧qr ObM.enc 127 3 s.1 s.2.1 l s.2.2)∧Ent W0 own' (s.2.2++own):=by
 refine qa qj q4y (by simp[q0L]) ?_
 cases a with
 |none=>
  have hn:l= []:=by
   by_cases h:l= []
   ·exact h
   ·have:=hR.isS h;cases this
  subst hn
  repeat'((try(conv=>whnf));first|(refine fE ?_))
  exact⟨(none,0,[]),⟨rfl,qr.nil⟩,(eC)⟩
 |some a=>
  repeat'((try(conv=>whnf));first|(refine fD ?_)|(refine q7m (enc:=ObM.enc) (l:= []) (l2:=l) qr.nil (At.head (D:= []) (r:=_)) hR.up rfl rfl (by omega) (fun _ _=>rfl) (fun _=>by simp;omega) (fun a1 c1 D1 hB1=> ?_);(rw[List.length_nil,Nat.zero_add l.length]);(apply Stop.h))|(refine qc (fun bk hbk=> ?_)))
  refine Stop.mk ?_
  rw[List.nil_append] at hB1
  exact⟨(a1,c1,D1),⟨rfl,hB1⟩,Ent.of_sub ((List.sublist_cons_self _ own).append_left D1)⟩
theorem q7I{a:Option Addr}{l:List Ins}{cap:Nat}(hR:RdE Ins.enc 5 W0 own a l)(hl:l.length≤1000000000):
  q0E Tryz.prog W0 68 [.slice a l.length cap] own fun v own'=>∃s:Option Addr×Nat×Own,(v= .slice s.1 l.length s.2.1∧qr Ins.enc 69 5 s.1 s.2.1 l s.2.2)∧Ent W0 own' (s.2.2++own):=by
 refine qa qj q3R (by simp[q0k]) ?_
 cases a with
 |none=>
  have hn:l= []:=by
   by_cases h:l= []
   ·exact h
   ·have:=hR.isS h;cases this
  subst hn
  repeat'((try(conv=>whnf));first|(refine fE ?_))
  exact⟨(none,0,[]),⟨rfl,qr.nil⟩,(eC)⟩
 |some a=>
  repeat'((try(conv=>whnf));first|(refine fD ?_)|(refine q7m (enc:=Ins.enc) (l:= []) (l2:=l) qr.nil (At.head (D:= []) (r:=_)) hR.up rfl rfl (by omega) (fun _ _=>rfl) (fun _=>by simp;omega) (fun a1 c1 D1 hB1=> ?_);(rw[List.length_nil,Nat.zero_add l.length]);(apply Stop.h))|(refine qc (fun bk hbk=> ?_)))
  refine Stop.mk ?_
  rw[List.nil_append] at hB1
  exact⟨(a1,c1,D1),⟨rfl,hB1⟩,Ent.of_sub ((List.sublist_cons_self _ own).append_left D1)⟩
variable{a:Option Addr}{l:List Int}{cap:Nat}
def qeB(x:Int):List Int→Nat→Int
 | [],_=> -1
 |y::l,k=>if x=y then k else qeB x l (k+1)
theorem qbg(x:Int):∀(l:List Int) (k:Nat),0≤qeB x l k↔x∈l
 | [],k=>by simp[qeB]
 |y::l,k=>by
  unfold qeB
  split
  ·rename_i h;subst h;simp
  ·rename_i h
   rw[qbg x l (k+1)]
   simp[h]
theorem q9S(hR:RdE qM 1 W0 own a l)(hl:l.length≤1000000000)(x:Int):qD Tryz.prog W0 145 [.slice a l.length cap, .int .i64 x] own (.int .i64 (qeB x l 0)):=by
 refine qe (qa qj q2t (by simp[q01]) ?_)
 generalize hres:qeB x l 0=res
 refine q1N (σ:=Nat) (fun k=> [(8, .int .i64 k)]) (fun k=>k≤l.length∧qeB x (l.drop k) k=res) (fun k=>l.length-k) 0 ⟨by omega,hres⟩ (eF) rfl ?_
 rintro k junk ⟨hk,hI⟩
 by_cases hlt:k<l.length
 ·obtain⟨y,hy⟩:∃y,l[k]? =some y:=⟨_,List.getElem?_eq_getElem hlt⟩
  have hlt':(k:Int)<l.length:=by omega
  rw[q4I hy,qeB] at hI
  by_cases he:x=y
  ·rw[if_pos he] at hI
   repeat'((try(conv=>whnf));first|(refine fF ?_)|((with_reducible show Ld _ _ _ _);first|(refine q1M hR hy rfl ?_))|((with_reducible show IxS _ _ _ _ _);first|((refine ixE hR hy ?_ ?_;(first|rfl|omega)))))
   exact⟨q0N (vi hI),(eC)⟩
  ·rw[if_neg he] at hI
   repeat'((try(conv=>whnf));first|(refine fF ?_)|(refine fG ?_)|((with_reducible show Ld _ _ _ _);first|(refine q1M hR hy rfl ?_))|((with_reducible show IxS _ _ _ _ _);first|((refine ixE hR hy ?_ ?_;(first|rfl|omega))))|(refine fB ?_))
   exact⟨k+1,⟨by omega,hI⟩,by omega,(eF),Ent.refl⟩
 ·have hlt':¬(k:Int)<l.length:=by omega
  obtain rfl:k=l.length:=by omega
  rw[List.drop_length,qeB] at hI
  repeat'((try(conv=>whnf));first|(refine fG ?_))
  exact⟨q0N (vi hI),(eC)⟩
theorem q2O(hR:RdE qM 1 W0 own a l)(hl:l.length≤1000000000)(x:Int):qD Tryz.prog W0 119 [.slice a l.length cap, .int .i64 x] own (.bool (decide (x∈l))):=by
 refine qe (qa qj q1H (by simp[qF]) ?_)
 have h:=q9S (cap:=cap) hR hl x
 have hm:=qbg x l 0
 generalize qeB x l 0=z at*
 repeat'((try(conv=>whnf));first|((with_reducible show qf _ _ _ _ _ _);first|((refine qh (h) ?_ ?_ ?_;(exact rfl);exact rfl))))
 exact⟨q0N (vb (dd hm)),(eC)⟩
end
open Go
abbrev thB(b:Nat)(T:TypeId)(pre post:List Value)(t:Thr):Nat×(Obj→Prop):=(b,fun o=>o=Obj.cells (pre++(t.enc++post)).toArray T (0,0))
theorem qk2{pre post:List Value}{t:Thr}{k:Nat}{v:Value}(h:t.enc[k]? =some v):(pre++(t.enc++post))[pre.length+k]? =some v:=by
 have hk:k<t.enc.length:=(List.getElem?_eq_some_iff.1 h).1
 rw[List.getElem?_append_right (by omega),Nat.add_sub_cancel_left,List.getElem?_append_left hk,h]
theorem qk3{pre post:List Value}{t:Thr}{k:Nat}{v:Value}(h:k<11):(pre++(t.enc++post)).set (pre.length+k) v=pre++(t.enc.set k v++post):=by
 have hk:k<t.enc.length:=h
 rw[List.set_append_right _ _ (by omega),Nat.add_sub_cancel_left,List.set_append_left _ _ hk]
theorem q2l{x:Ins}(h:qv x=0):(0≤x.op∧x.op<18)∧(qfY x.op=true→0≤x.a∧x.a<8)∧(qiv x.op=true→0≤x.b∧x.b<8)∧(qiw x.op=true→0≤x.c∧x.c<8)∧(x.op=4∨x.op=5∨x.op=6→0≤x.imm∧x.imm≤64)∧(x.op=14→0≤x.imm∧x.imm<4):=by
 unfold qv at h
 split at h
 ·cases h
 ·rename_i h0
  split at h
  ·rename_i hr
   split at h
   ·rename_i hi
    obtain⟨h1,h2,h3⟩:=hr
    refine⟨by omega,fun e=>by simpa [q2o,e] using h1,fun e=>by simpa [q2o,e] using h2,fun e=>by simpa [q2o,e] using h3,fun e=> ?_,fun e=> ?_⟩
    ·unfold q5z at hi
     rw[if_neg (by omega),if_neg (by omega),if_pos e] at hi
     exact hi
    ·unfold q5z at hi
     rw[if_neg (by omega),if_neg (by omega),if_neg (by omega),if_neg (by omega),if_pos e] at hi
     exact hi
   ·cases h
  ·cases h
section
variable{W0:World}{own:Own}{b o:Nat}{T:TypeId}{pre post:List Value}{t:Thr}
theorem q8F{off k:Nat}{v:Value}{K:Value→Prop} [m:q3X b (fun o=>o=Obj.cells (pre++(t.enc++post)).toArray T (0,0)) own](h:t.enc[k]? =some v)(ho:off=pre.length+k)(hk:K v):Ld W0 own ⟨b,off,none⟩ K:=by
 subst ho
 exact qH v m.h (by rw[List.toList_toArray];exact qk2 h) hk
theorem q4D{off i:Nat}{K:Value→Prop} [m:q3X b (fun o=>o=Obj.cells (pre++(t.enc++post)).toArray T (0,0)) own](hi:i<8)(ho:off=pre.length+(1+i))(hk:K (.int .u64 (t.rg.get i))):Ld W0 own ⟨b,off,none⟩ K:=
 q8F (Thr.enc_get hi) ho hk
theorem qjZ{off k:Nat}{v:Value}{K:Own→Prop}{C:(Obj→Prop)→Own} [m:UpC b (fun o=>o=Obj.cells (pre++(t.enc++post)).toArray T (0,0)) own C](t':Thr)(hk:k<11)(he:t.enc.set k v=t'.enc)(h1:q4A v=true)(ho:off=pre.length+k)
  (h:K (C fun o=>o=Obj.cells (pre++(t'.enc++post)).toArray T (0,0))):StT W0 own ⟨b,off,none⟩ v K:=by
 subst ho
 refine qjY (by simp;omega) h1 ?_
 rw[List.toList_toArray,qk3 hk,he]
 exact h
theorem qa1{off i:Nat}{v:Int}{K:Own→Prop}{C:(Obj→Prop)→Own} [m:UpC b (fun o=>o=Obj.cells (pre++(t.enc++post)).toArray T (0,0)) own C](hi:i<8)(ho:off=pre.length+(1+i))
  (h:K (C fun o=>o=Obj.cells (pre++(({t with rg:=t.rg.set i v}:Thr).enc++post)).toArray T (0,0))):StT W0 own ⟨b,off,none⟩ (.int .u64 v) K:=
 qjZ {t with rg:=t.rg.set i v} (by omega) (Thr.enc_set hi) rfl ho h
theorem qbF{x:Ins}(hx:qv x=0)(ht:t.rg.ok)(hp:t.pc≤64)(ho:o=pre.length)(r:Own):
  q0E Tryz.prog W0 95 [.pointer (some ⟨b,o,none⟩),x.v] ([thB b T pre post t]++r) fun v own'=>∃_:Unit,v= .int .i64 (q60 t x)∧Ent W0 own' ([thB b T pre post {t with rg:=q85 t x}]++r):=by
 refine qil (qa qj q8V (by simp[q39]) ?_)
 subst ho
 obtain⟨h0,hA,hB,hC,hI,_⟩:=q2l hx
 clear hx
 obtain⟨op,a,b',c,imm⟩:=x
 dsimp only[Ins.v] at*
 have hu:=fun k=>ht k
 by_cases h1:op=1
 ·subst h1
  have ha:=hA rfl
  have ha':a.toNat<8:=by omega
  clear hA hB hC hI
  repeat'((try(conv=>whnf));first|(refine fE ?_)|(refine arw (k:= .u64) ?_)|(refine q8F (t:=t) (k:=0) rfl ?_ ?_;omega)|(refine qa1 (t:=t) ha' ?_ ?_;omega)|(refine fB ?_)|(refine fP ?_)|(refine fA ?_)|(refine qc (fun bk hbk=> ?_)))
  exact⟨rfl,(eC)⟩
 by_cases h2:op=2
 ·subst h2
  have ha:=hA rfl
  have ha':a.toNat<8:=by omega
  have hb:=hB rfl
  have hb':b'.toNat<8:=by omega
  clear hA hB hC hI
  repeat'((try(conv=>whnf));first|(refine fE ?_)|(refine fD ?_)|(refine q8F (t:=t) (k:=0) rfl ?_ ?_;omega)|(refine q4D (t:=t) hb' ?_ ?_;omega)|(refine qa1 (t:=t) ha' ?_ ?_;omega)|(refine fB ?_)|(refine fP ?_)|(refine fA ?_)|(refine qc (fun bk hbk=> ?_)))
  exact⟨rfl,(eC)⟩
 by_cases h3:op=3
 ·subst h3
  have ha:=hA rfl
  have ha':a.toNat<8:=by omega
  have hb:=hB rfl
  have hb':b'.toNat<8:=by omega
  have hc:=hC rfl
  have hc':c.toNat<8:=by omega
  clear hA hB hC hI
  have hap:=fun own=>Alu.sp_apply W0 own imm (t.rg.get b'.toNat) (t.rg.get c.toNat) (ht _)
  repeat'((try(conv=>whnf));first|(refine fE ?_)|(refine fD ?_)|(refine q8F (t:=t) (k:=0) rfl ?_ ?_;omega)|(refine q4D (t:=t) hb' ?_ ?_;omega)|(refine q4D (t:=t) hc' ?_ ?_;omega)|(refine qa1 (t:=t) ha' ?_ ?_;omega)|((with_reducible show q0b _ _ _ _ _ _);first|((refine q4G (fun _=>hap _) ?_ ?_ ?_;(exact rfl);exact rfl)))|(refine fB ?_)|(refine fO ?_)|(refine fP ?_)|(refine fA ?_)|(refine qc (fun bk hbk=> ?_)))
  exact⟨rfl,(eC)⟩
 by_cases h17:op=17
 ·subst h17
  have ha:=hA rfl
  have ha':a.toNat<8:=by omega
  clear hA hB hC hI
  repeat'((try(conv=>whnf));first|(refine fE ?_)|(refine fD ?_)|(refine arw (k:= .u64) ?_)|(refine q8F (t:=t) (k:=9) rfl ?_ ?_;omega)|(refine q8F (t:=t) (k:=0) rfl ?_ ?_;omega)|(refine qa1 (t:=t) ha' ?_ ?_;omega)|(refine fB ?_)|(refine fP ?_)|(refine fA ?_)|(refine qc (fun bk hbk=> ?_)))
  exact⟨rfl,(eC)⟩
 have hR:q85 t ⟨op,a,b',c,imm⟩=t.rg:=by unfold q85;rw[if_neg h1,if_neg h2,if_neg h3,if_neg h17]
 rw[hR]
 by_cases h4:op=4
 ·subst h4
  have hi:=hI (.inl rfl)
  clear hA hB hC hI
  repeat'((try(conv=>whnf));first|(refine fE ?_)|(refine fD ?_)|(refine q8F (t:=t) (k:=0) rfl ?_ ?_;omega)|(refine fB ?_)|(refine fA ?_)|(refine qc (fun bk hbk=> ?_)))
  exact⟨q0N (vi (by simp only[q60];simp;omega)),(eC)⟩
 by_cases h56:op=5∨op=6
 ·have hi:=hI (.inr h56)
  have ha:0≤a∧a<8:=hA (by rcases h56 with rfl|rfl <;>rfl)
  have ha':a.toNat<8:=by omega
  clear hA hB hC hI
  have hP:q60 t ⟨op,a,b',c,imm⟩=if(op=5∧t.rg.get a.toNat=0)∨(op=6∧t.rg.get a.toNat≠0) then t.pc+1+imm.toNat else t.pc+1:=by unfold q60;simp[h4]
  rw[hP]
  by_cases hz:t.rg.get a.toNat=0
  all_goals
   rcases h56 with rfl|rfl
   all_goals
    repeat'((try(conv=>whnf));first|(refine fE ?_)|(refine fD ?_)|(refine fF ?_)|(refine fG ?_)|(refine q8F (t:=t) (k:=0) rfl ?_ ?_;omega)|(refine q4D (t:=t) ha' ?_ ?_;omega)|(refine fB ?_)|(refine fP ?_)|(refine fA ?_)|(refine qc (fun bk hbk=> ?_)))
    exact⟨q0N (vi (by simp[hz];try omega)),(eC)⟩
 ·clear hA hB hC hI
  have hP:q60 t ⟨op,a,b',c,imm⟩=t.pc+1:=by unfold q60;rw[if_neg (by simp only;omega)]
  rw[hP]
  repeat'((try(conv=>whnf));first|(refine fG ?_)|(refine q8F (t:=t) (k:=0) rfl ?_ ?_;omega)|(refine fB ?_)|(refine fA ?_)|(refine qc (fun bk hbk=> ?_)))
  exact⟨q0N (vi (by omega)),(eC)⟩
end
open Go
class q1r(D own:Own)(r:outParam Own):Prop where
 h:own.Perm (D++r)
section
variable{D A r r':Own}{e:Nat×(Obj→Prop)}
instance q1r.self:q1r D D []:=⟨by simp⟩
instance q1r.left [m:q1r D A r']:q1r D (A++r) (r'++r):=⟨(m.h.append_right r).trans (by rw[List.append_assoc])⟩
instance q1r.skip [m:q1r D r r']:q1r D (A++r) (A++r'):=⟨(m.h.append_left A).trans (by rw[←List.append_assoc,←List.append_assoc];exact List.perm_append_comm.append_right r')⟩
instance q1r.tail [m:q1r D r r']:q1r D (e::r) (e::r'):=⟨(m.h.cons e).trans List.perm_middle.symm⟩
instance q1r.one:q1r [e] (e::r) r:=⟨List.Perm.refl _⟩
instance q1r.head:q1r D (D++r) r:=⟨List.Perm.refl _⟩
end
instance AtC.self{D:Own}:AtC D D (fun X=>X):=⟨by have:=At.head (D:=D) (r:= []);simpa using this⟩
section
variable{P:Program}{W0:World}{own D r:Own}{k k0:FuncId}{args args0:List Value}
theorem qgV{σ:Type}{R:σ→Value→Prop}{O:σ→Own}{K:Value→Own→Prop} [m:q1r D own r](h:q0E P W0 k0 args0 (D++r) fun v own'=>∃s,R s v∧Ent W0 own' (O s++r))(ek:k=k0)(ea:args=args0)(hk:∀s v,R s v→K v (O s++r)):qf P W0 own k args K:=by
 subst ek;subst ea
 exact⟨fun w hw=>(h w (Ent.of_perm m.h w hw)).mono fun _ _ ⟨_,_,he,hs,s,hR,hE⟩=>⟨_,O s++r,he,hE _ hs,hk s _ hR⟩⟩
theorem qm{σ:Type}{R:σ→Value→Prop}{O:σ→Own}{own2:Own}{K:Value→Own→Prop}(h:q0E P W0 k0 args0 own2 fun v own'=>∃s,R s v∧Ent W0 own' (O s))(he:Ent W0 own own2)(ek:k=k0)(ea:args=args0)(hk:∀s v,R s v→K v (O s)):qf P W0 own k args K:=by
 subst ek;subst ea
 exact⟨fun w hw=>(h w (he w hw)).mono fun _ _ ⟨_,_,he,hs,s,hR,hE⟩=>⟨_,O s,he,hE _ hs,hk s _ hR⟩⟩
theorem q3r{σ:Type}{Rn:Value→Prop}{On:Own}{R:σ→Value→Prop}{O:σ→Own}{own2:Own}{K:Value→Own→Prop}(h:q0E P W0 k0 args0 own2 fun v own'=>(Rn v∧Ent W0 own' On)∨∃s,R s v∧Ent W0 own' (O s))(he:Ent W0 own own2)(ek:k=k0)(ea:args=args0)(hn:∀v,Rn v→K v On)(hk:∀s v,R s v→K v (O s)):qf P W0 own k args K:=by
 subst ek;subst ea
 refine⟨fun w hw=>(h w (he w hw)).mono fun _ _ ⟨_,_,he,hs,h⟩=> ?_⟩
 rcases h with ⟨hR,hE⟩|⟨s,hR,hE⟩
 ·exact⟨_,On,he,hE _ hs,hn _ hR⟩
 ·exact⟨_,O s,he,hE _ hs,hk s _ hR⟩
theorem q3e{v:Value} [m:q1r D own r](h:qD P W0 k args (D++r) v):qD P W0 k args own v:=
 fun w hw=>(h w (Ent.of_perm m.h w hw)).mono fun _ _ ⟨he,hs⟩=>⟨he,Ent.of_perm m.h.symm _ hs⟩
end
abbrev Mp:=List (Int×Bool)
abbrev mpV(l:Mp):List (Value×Value):=l.map fun e=>(.int .i64 e.1, .bool e.2)
def mpF:Mp→Int→Option Bool
 | [],_=>none
 |e::l,k=>if k=e.1 then some e.2 else mpF l k
def mpU:Mp→Int→Bool→Mp
 | [],k,v=> [(k,v)]
 |e::l,k,v=>if k=e.1 then(k,v)::l else e::mpU l k v
theorem qas(k:Int):∀l:Mp,q7s 0 (.int .i64 k) (mpV l)=some ((mpF l k).map Value.bool)
 | []=>rfl
 |e::l=>by
  have ih:=qas k l
  simp only[mpV,List.map_cons,q7s,mpF] at ih ⊢
  by_cases h:k=e.1
  ·simp[q1w,kn,h]
  ·simp[q1w,kn,h];exact ih
theorem qgv(k:Int)(v:Bool):∀l:Mp,qeE 0 (.int .i64 k) (.bool v) (mpV l)=mpV (mpU l k v)
 | []=>rfl
 |e::l=>by
  have ih:=qgv k v l
  simp only[mpV,List.map_cons,qeE,mpU] at ih ⊢
  by_cases h:k=e.1
  ·simp[q1w,kn,h]
  ·simp[q1w,kn,h];exact ih
theorem qgu(k j:Int)(v:Bool):∀l:Mp,mpF (mpU l k v) j=if j=k then some v else mpF l j
 | []=>by simp[mpU,mpF]
 |e::l=>by
  have ih:=qgu k j v l
  unfold mpU
  by_cases h:k=e.1
  ·rw[if_pos h]
   simp only[mpF]
   by_cases hj:j=k
   ·rw[if_pos hj,if_pos hj]
   ·rw[if_neg hj,if_neg hj,if_neg (by omega)]
  ·rw[if_neg h]
   simp only[mpF]
   by_cases hj:j=e.1
   ·rw[if_pos hj,if_pos hj,if_neg (by omega)]
   ·rw[if_neg hj,if_neg hj];exact ih
def mpR(l:Mp)(tk:List Bool):Prop:=∀k:Nat,(mpF l k).getD false=tk.getD k false
theorem mpR.set{l:Mp}{tk:List Bool}{k:Nat}{v:Bool}(h:mpR l tk)(hk:k<tk.length):mpR (mpU l k v) (tk.set k v):=fun j=>by
 rw[qgu]
 by_cases hj:j=k
 ·subst hj;rw[if_pos rfl];simp[hk]
 ·rw[if_neg (by omega),h j]
  simp[List.getD,Ne.symm hj]
section
variable{W0:World}{own:Own}
theorem qfk{b:Nat}{k:Int}{l:Mp}{v:Bool}{K:Option Value→Prop} [m:q3X b (q70 (mpV l)) own](hv:(mpF l k).getD false=v)(hy:K (some (.bool v)))(hn:v=false→K none):qld own 0 b (.int .i64 k) K:=by
 refine⟨_,_,m.h,qas k l,?_⟩
 cases h:mpF l k with
 |none=>rw[h] at hv;exact hn hv.symm
 |some u=>rw[h] at hv;obtain rfl:u=v:=hv;exact hy
theorem qjz{b:Nat}{k:Int}{l:Mp}{v:Bool}{K:Own→Prop}{C:(Obj→Prop)→Own} [m:UpC b (q70 (mpV l)) own C](h:K (C (q70 (mpV (mpU l k v))))):qle own 0 b (.int .i64 k) (.bool v) K:=by
 refine⟨mpV l,_,m.h _,by rw[qas];rfl,?_⟩
 rw[qgv];exact h
end
abbrev cfL(c:Cfg)(r:List Value):List Value:= .int .i64 c.words:: .int .i64 c.orecs:: .int .i64 c.base:: .int .i64 c.c0:: .int .i64 c.c1:: .int .i64 c.c2:: .int .i64 c.c3:: .int .i64 c.reads:: .int .i64 c.writes:: .int .i64 c.allocs:: .int .i64 c.frees:: .int .i64 c.clock:: .bool c.strong::r
structure TxG where
 xb:Nat
 mb:Nat
 ml:Mp
 da:Option Addr
 dc:Nat
 dD:Own
 aa:Option Addr
 ac:Nat
 ra:Option Addr
 rc:Nat
 rD:Own
 wa:Option Addr
 wc:Nat
 wD:Own
 oa:Option Addr
 oc:Nat
 oD:Own
abbrev TxG.pre(g:TxG)(c:Cfg)(b:BM):List Value:= .slice g.da b.d.length g.dc:: .map (some g.mb)::cfL c []
abbrev TxG.post(g:TxG)(b:BM)(out:Int):List Value:= [.slice g.aa b.ad.length g.ac, .slice g.ra b.r.length g.rc, .slice g.wa b.w.length g.wc, .slice g.oa b.o.length g.oc, .int .i64 out]
abbrev TxG.O(g:TxG)(c:Cfg)(b:BM)(out:Int):Own:=thB g.xb 158 (g.pre c b) (g.post b out) b.t::(g.dD++((g.mb,q70 (mpV g.ml))::(g.rD++(g.wD++g.oD))))
structure TxG.ok(g:TxG)(W0:World)(K:Own)(b:BM):Prop where
 d:qr q7j 58 1 g.da g.dc b.d g.dD
 m:mpR g.ml b.tk
 a:RdE qM 1 W0 K g.aa b.ad
 al:b.ad.length≤g.ac
 r:qr qM 3 1 g.ra g.rc b.r g.rD
 w:qr qM 3 1 g.wa g.wc b.w g.wD
 o:qr ObM.enc 127 3 g.oa g.oc b.o g.oD
section
variable{W0:World}{K:Own}{g:TxG}{c:Cfg}{b:BM}{out:Int}
theorem qbE(h:g.ok W0 K b)(hl:b.o.length≤1000000){r:Int}(hr:0≤r∧r<8)(k v:Int)(q:Own):
  q0E Tryz.prog W0 176 [.pointer (some ⟨g.xb,0,none⟩), .int .i64 r, .int .i64 k, .int .u64 v] (g.O c b out++q) fun _ own'=>∃g':TxG,
   (g'.ok W0 K {b with t:={b.t with rg:=b.t.rg.set r.toNat v},o:=b.o++ [⟨b.t.pc,k,v⟩]}∧g'.xb=g.xb)∧Ent W0 own' (g'.O c {b with t:={b.t with rg:=b.t.rg.set r.toNat v},o:=b.o++ [⟨b.t.pc,k,v⟩]} out++q):=by
 refine qa qj q3B (by simp[q05]) ?_
 have hO:=h.o
 have hr':r.toNat<8:=by omega
 repeat'((try(conv=>whnf));first|(refine qa1 (t:=b.t) (pre:=g.pre c b) (post:=g.post b out) hr' ?_ ?_;(simp;omega))|(apply q69 (enc:=ObM.enc) (T:=127) ⟨b.t.pc,k,v⟩ hO;(exact rfl);(exact rfl);(omega);(exact rfl);(exact rfl);(omega);intro a1 c1 D1 hb1)|(refine fP ?_)|(refine fA ?_)|(refine fN ?_)|(refine qc (fun bk hbk=> ?_)))
 refine⟨{g with oa:=a1,oc:=c1,oD:=D1},⟨⟨h.d,h.m,h.a,h.al,h.r,h.w,hb1⟩,rfl⟩,?_⟩
 dsimp only[TxG.O,TxG.pre,TxG.post]
 simp only[List.length_append,List.length_cons,List.length_nil,Nat.zero_add]
 exact(eC)
theorem qbK(h:g.ok W0 K b){a:Nat}(ha:a<b.d.length)(hl:b.w.length≤1000000)(v:Int)(q:Own):
  q0E Tryz.prog W0 175 [.pointer (some ⟨g.xb,0,none⟩), .int .i64 a, .int .u64 v] (g.O c b out++q) fun _ own'=>∃g':TxG,
   (g'.ok W0 K (wrM b a v)∧g'.xb=g.xb)∧Ent W0 own' (g'.O c (wrM b a v) out++q):=by
 refine qa qj q3d (by simp[qO]) ?_
 have hD:=h.d
 have hDR:=hD.rd (W0:=W0)
 have hW:=h.w
 obtain⟨x,hx⟩:∃x,b.d[a]? =some x:=⟨_,List.getElem?_eq_getElem ha⟩
 have hc:=fun(own':Own) [qt own' g.wD]=>q2O (own:=own') (cap:=g.wc) ((hW.rd (W0:=W0)).up) (by omega) a
 by_cases hm:(a:Int)∈b.w
 ·repeat'((try(conv=>whnf));first|(apply qcV;(exact rfl);omega)|(apply q5Q (enc:=q7j) (T:=58) (j:=a) (k:=0) v hD hx;(exact rfl);(omega);(exact rfl);(exact rfl);intro D1 hb1)|((with_reducible show IxS _ _ _ _ _);first|((refine ixE hDR hx ?_ ?_;(first|rfl|omega))))|((with_reducible show qf _ _ _ _ _ _);first|((refine qh (hc _) ?_ ?_ ?_;(exact rfl);exact rfl)))|(refine fA ?_))
  refine⟨{g with dD:=D1},⟨⟨hb1,h.m,h.a,h.al,h.r,?_,h.o⟩,rfl⟩,?_⟩
  ·show qr _ _ _ _ _ (qbU b.w a) _
   rw[qbU,if_pos hm];exact hW
  ·dsimp only[TxG.O,TxG.pre,TxG.post,wrM]
   rw[qbU,if_pos hm,List.length_set]
   exact(eC)
 ·repeat'((try(conv=>whnf));first|(apply qcU;(exact rfl);omega)|(apply q5Q (enc:=q7j) (T:=58) (j:=a) (k:=0) v hD hx;(exact rfl);(omega);(exact rfl);(exact rfl);intro D1 hb1)|(apply q69 (enc:=qM) (T:=3) (a:Int) hW;(exact rfl);(exact rfl);(omega);(exact rfl);(exact rfl);(omega);intro a2 c2 D2 hb2)|((with_reducible show IxS _ _ _ _ _);first|((refine ixE hDR hx ?_ ?_;(first|rfl|omega))))|((with_reducible show qf _ _ _ _ _ _);first|((refine qh (hc _) ?_ ?_ ?_;(exact rfl);exact rfl)))|(refine fA ?_)|(refine fN ?_)|(refine qc (fun bk hbk=> ?_)))
  refine⟨{g with dD:=D1,wa:=a2,wc:=c2,wD:=D2},⟨⟨hb1,h.m,h.a,h.al,h.r,?_,h.o⟩,rfl⟩,?_⟩
  ·show qr _ _ _ _ _ (qbU b.w a) _
   rw[qbU,if_neg hm];exact hb2
  ·dsimp only[TxG.O,TxG.pre,TxG.post,wrM]
   rw[qbU,if_neg hm,List.length_set]
   simp only[List.length_append,List.length_cons,List.length_nil,Nat.zero_add]
   exact(eC)
end
open Go
theorem qb5{c:Cfg}{a:Int}:∀(n:Nat) (k:Int),0≤k→k+n≤qy c→q7r c a n k= -1∨(k≤q7r c a n k∧q7r c a n k<k+n∧q2K c (q7r c a n k)=a)
 |0,_,_,_=> .inl rfl
 |n+1,k,h0,h1=>by
  unfold q7r
  split
  ·exact .inr ⟨Int.le_refl _,by omega,by assumption⟩
  ·rcases qb5 (c:=c) (a:=a) n (k+1) (by omega) (by omega) with h|⟨h2,h3,h4⟩
   ·exact .inl h
   ·exact .inr ⟨by omega,by omega,h4⟩
theorem q8G(c:Cfg)(a:Int):q0a c a= -1∨(0≤q0a c a∧q0a c a<qy c∧q2K c (q0a c a)=a):=by
 have hb:=q6w c
 rcases qb5 (c:=c) (a:=a) (qy c).toNat 0 (by omega) (by omega) with h|⟨h1,h2,h3⟩
 ·exact .inl h
 ·exact .inr ⟨h1,by unfold q0a;omega,h3⟩
theorem q7S{c:Cfg}{k:Int}(h0:0≤k)(h:k<qy c):0≤q2K c k∧q2K c k+2 ^ (q3K c k).toNat≤c.words:=by
 have hp:=q7T h0 h
 have hb:=q4Z hp.1
 have hk:=q1R hp.1
 obtain⟨-,hH, -, -⟩:=hk
 unfold okH okC nB nW at hH
 simp only[q2K,q3K,hp.1,h0,and_self,if_true]
 by_cases h1:k<c.c0
 ·simp only[h1,if_true]
  refine⟨by omega,?_⟩
  have:((2:Int) ^ (0:Int).toNat)=1:=rfl
  omega
 ·by_cases h2:k<c.c0+c.c1
  ·simp only[h1,h2,if_true,if_false]
   refine⟨by omega,?_⟩
   have:((2:Int) ^ (1:Int).toNat)=2:=rfl
   omega
  ·by_cases h3:k<c.c0+c.c1+c.c2
   ·simp only[h1,h2,h3,if_true,if_false]
    refine⟨by omega,?_⟩
    have:((2:Int) ^ (2:Int).toNat)=4:=rfl
    omega
   ·have h4:k<c.c0+c.c1+c.c2+c.c3:=by omega
    simp only[h1,h2,h3,h4,if_true,if_false]
    refine⟨by omega,?_⟩
    have:((2:Int) ^ (3:Int).toNat)=8:=rfl
    omega
theorem q9l{r:Rg}{b imm:Int}:okU (adr r b imm):=q29 _
section
variable{W0:World}{b o:Nat}{T:TypeId}{pre post:List Value}{t:Thr}
theorem qci{x:Ins}(hx:qv x=0)(hop:x.op=10∨x.op=11∨x.op=12∨x.op=13)(ho:o=pre.length)(r:Own):
  qD Tryz.prog W0 125 [.pointer (some ⟨b,o,none⟩),x.v] ([thB b T pre post t]++r) (.int .u64 (adr t.rg (if x.op=12∨x.op=10 then x.b else x.a) x.imm)):=by
 refine qe (qa qj q49 (by simp[q19]) ?_)
 subst ho
 obtain⟨h0,hA,hB, -⟩:=q2l hx
 clear hx
 obtain⟨op,a,b',c,imm⟩:=x
 dsimp only[Ins.v] at*
 have ha:=hA (by rcases hop with rfl|rfl|rfl|rfl <;>rfl)
 have hb:=hB (by rcases hop with rfl|rfl|rfl|rfl <;>rfl)
 have ha':a.toNat<8:=by omega
 have hb':b'.toNat<8:=by omega
 clear hA hB
 rcases hop with rfl|rfl|rfl|rfl
 all_goals
  repeat'((try(conv=>whnf));first|(refine fH ?_)|(refine fI ?_)|(refine fE ?_)|(refine fD ?_)|(refine q4D (t:=t) ha' ?_ ?_;omega)|(refine q4D (t:=t) hb' ?_ ?_;omega)|(refine arw (k:= .u64) ?_)|(refine fP ?_)|(refine fA ?_)|(refine qc (fun bk hbk=> ?_)))
  exact⟨rfl,(eC)⟩
end
section
variable{W0:World}{K:Own}{g:TxG}{c:Cfg}{b:BM}
theorem qi5(h:g.ok W0 K b){x:Ins}(hx:qv x=0)(hop:x.op=15)(htk:b.tk.length=(qy c).toNat)(q:Own):
  q0E Tryz.prog W0 148 [.pointer (some ⟨g.xb,0,none⟩),x.v] (g.O c b 0++q) fun _ own'=>∃g':TxG,
   (g'.ok W0 K {(q18 c b x).1 with t:=b.t}∧g'.xb=g.xb)∧Ent W0 own' (g'.O c {(q18 c b x).1 with t:=b.t} (q18 c b x).2++q):=by
 refine qa qj q3h (by simp[qT]) ?_
 obtain⟨h0,hA, -⟩:=q2l hx
 clear hx
 obtain⟨op,a,b',c',imm⟩:=x
 dsimp only[Ins.v] at*
 subst hop
 have ha:=hA rfl
 have ha':a.toNat<8:=by omega
 clear hA
 have hfd:=fun own=>qdZ W0 own c (b.t.rg.get a.toNat)
 have hlf:=q8G c (b.t.rg.get a.toNat)
 have hst:q18 c b ⟨15,a,b',c',imm⟩=if q0a c (b.t.rg.get a.toNat)<0∨b.tk.getD (q0a c (b.t.rg.get a.toNat)).toNat false=false then(b.go,8) else({b with tk:=b.tk.set (q0a c (b.t.rg.get a.toNat)).toNat false}.go,0):=rfl
 rw[hst]
 clear hst
 generalize q0a c (b.t.rg.get a.toNat)=k at*
 by_cases hk:k<0
 ·rw[if_pos (.inl hk)]
  repeat'((try(conv=>whnf));first|(refine fI ?_)|(refine fE ?_)|(refine fJ ?_)|(refine q4D (t:=b.t) (pre:=g.pre c b) (post:=g.post b 0) ha' ?_ ?_;(simp;omega))|((with_reducible show q0b _ _ _ _ _ _);first|((refine q4G (fun _=>hfd _) ?_ ?_ ?_;(exact rfl);exact rfl)))|(refine fP ?_)|(refine fA ?_)|(refine fQ ?_)|(refine fN ?_)|(refine qc (fun bk hbk=> ?_)))
  exact⟨g,⟨⟨h.d,h.m,h.a,h.al,h.r,h.w,h.o⟩,rfl⟩,(eC)⟩
 ·obtain⟨j,rfl⟩:=Int.eq_ofNat_of_zero_le (by omega:0≤k)
  have hj:j<b.tk.length:=by omega
  have hm:=h.m j
  rw[Int.toNat_natCast]
  cases hv:b.tk.getD j false with
  |false=>
   rw[hv] at hm
   rw[if_pos (.inr rfl)]
   repeat'((try(conv=>whnf));first|(refine fH ?_)|(refine fE ?_)|(refine q4D (t:=b.t) (pre:=g.pre c b) (post:=g.post b 0) ha' ?_ ?_;(simp;omega))|(refine qfk hm ?_ ?_)|(intro _)|((with_reducible show q0b _ _ _ _ _ _);first|((refine q4G (fun _=>hfd _) ?_ ?_ ?_;(exact rfl);exact rfl)))|(refine fP ?_)|(refine fA ?_)|(refine fQ ?_)|(refine fN ?_)|(refine qc (fun bk hbk=> ?_)))
   all_goals exact⟨g,⟨⟨h.d,h.m,h.a,h.al,h.r,h.w,h.o⟩,rfl⟩,(eC)⟩
  |true=>
   rw[hv] at hm
   rw[if_neg (by simp)]
   repeat'((try(conv=>whnf));first|(refine fH ?_)|(refine fD ?_)|(refine q4D (t:=b.t) (pre:=g.pre c b) (post:=g.post b 0) ha' ?_ ?_;(simp;omega))|(refine qfk hm ?_ (fun e=>by cases e))|(refine qjz ?_)|((with_reducible show q0b _ _ _ _ _ _);first|((refine q4G (fun _=>hfd _) ?_ ?_ ?_;(exact rfl);exact rfl)))|(refine fP ?_)|(refine fA ?_)|(refine fQ ?_)|(refine qc (fun bk hbk=> ?_)))
   exact⟨{g with ml:=mpU g.ml j false},⟨⟨h.d,h.m.set hj,h.a,h.al,h.r,h.w,h.o⟩,rfl⟩,(eC)⟩
theorem qcv(h:g.ok W0 K b)(hc:qL c=0){x:Ins}(hx:qv x=0)(hop:x.op=10∨x.op=11)(hd:(b.d.length:Int)=c.words)(hr:b.r.length≤1000000)(hw:b.w.length≤1000000)(ho:b.o.length≤1000000)(q:Own):
  q0E Tryz.prog W0 146 [.pointer (some ⟨g.xb,0,none⟩),x.v] (g.O c b 0++q) fun _ own'=>∃g':TxG,
   (g'.ok W0 K {(q18 c b x).1 with t:={(q18 c b x).1.t with pc:=b.t.pc}}∧g'.xb=g.xb)∧Ent W0 own' (g'.O c {(q18 c b x).1 with t:={(q18 c b x).1.t with pc:=b.t.pc}} (q18 c b x).2++q):=by
 refine qa qj q2R (by simp[qJ]) ?_
 have had:=fun q=>qci (W0:=W0) (b:=g.xb) (T:=158) (pre:=g.pre c b) (post:=g.post b 0) (t:=b.t) (o:=15) hx (by omega) rfl q
 have hwd:=(q1R hc).1
 unfold okW at hwd
 obtain⟨h0,hA,hB, -⟩:=q2l hx
 clear hx
 have hao:=q9l (r:=b.t.rg) (b:=if x.op=12∨x.op=10 then x.b else x.a) (imm:=x.imm)
 obtain⟨op,a,b',c',imm⟩:=x
 dsimp only[Ins.v] at*
 have ha:=hA (by rcases hop with rfl|rfl <;>rfl)
 have hb:=hB (by rcases hop with rfl|rfl <;>rfl)
 have ha':a.toNat<8:=by omega
 have hb':b'.toNat<8:=by omega
 clear hA hB
 have hDR:=h.d.rd (W0:=W0)
 rcases hop with rfl|rfl
 ·rw[if_pos (.inr rfl)] at had hao
  have hst:q18 c b ⟨10,a,b',c',imm⟩=if c.words≤adr b.t.rg b' imm then(b.go,7) else((rdM b (adr b.t.rg b' imm).toNat).put a 1 (b.d.getD (adr b.t.rg b' imm).toNat 0),0):=rfl
  rw[hst]
  clear hst
  generalize adr b.t.rg b' imm=z at*
  by_cases hz:c.words≤z
  ·rw[if_pos hz]
   repeat'((try(conv=>whnf));first|(refine fF ?_)|((with_reducible show q0b _ _ _ _ _ _);first|((refine qq (fun ex=>q3e (had _)) ?_ ?_ ?_;(exact rfl);(exact rfl))))|(refine fC ?_)|(refine fA ?_)|(refine fL ?_)|(refine fN ?_)|(refine qc (fun bk hbk=> ?_)))
   exact⟨g,⟨⟨h.d,h.m,h.a,h.al,h.r,h.w,h.o⟩,rfl⟩,(eC)⟩
  ·rw[if_neg hz]
   obtain⟨j,rfl⟩:=Int.eq_ofNat_of_zero_le hao.1
   have hj:j<b.d.length:=by omega
   obtain⟨y,hy⟩:∃y,b.d[j]? =some y:=⟨_,List.getElem?_eq_getElem hj⟩
   have hcw:=fun(own':Own) [qt own' g.wD]=>q2O (own:=own') (cap:=g.wc) ((h.w.rd (W0:=W0)).up) (by omega) j
   have hcr:=fun(own':Own) [qt own' g.rD]=>q2O (own:=own') (cap:=g.rc) ((h.r.rd (W0:=W0)).up) (by omega) j
   have hR:=h.r
   have hgd:b.d.getD j 0=y:=by simp[List.getD,hy]
   rw[Int.toNat_natCast,hgd]
   by_cases hm:(j:Int)∈b.w
   ·have hr1:rdM b j=b:=by unfold rdM;rw[if_pos (.inl hm)]
    rw[hr1]
    have hgot:=qbE (out:=0) (c:=c) h ho ha 1 y q
    repeat'((try(conv=>whnf));first|(refine fI ?_)|(refine fD ?_)|(refine fG ?_)|(apply qet;(exact rfl);omega)|(refine fB ?_)|((with_reducible show Ld _ _ _ _);first|(refine q1M hDR hy rfl ?_))|((with_reducible show IxS _ _ _ _ _);first|((refine ixE hDR hy ?_ ?_;(first|rfl|omega))))|((with_reducible show qf _ _ _ _ _ _);first|((refine qh (hcw _) ?_ ?_ ?_;(exact rfl);exact rfl))|((refine qm hgot ?_ ?_ ?_ (fun s v hv=> ?_);(exact(eC));(exact rfl);(exact rfl))))|((with_reducible show q0b _ _ _ _ _ _);first|((refine qq (fun ex=>q3e (had _)) ?_ ?_ ?_;(exact rfl);(exact rfl))))|(refine fC ?_)|(refine fA ?_)|(refine fL ?_)|(refine qc (fun bk hbk=> ?_)))
    exact⟨s,hv,Ent.refl⟩
   ·by_cases hm2:(j:Int)∈b.r
    ·have hr1:rdM b j=b:=by unfold rdM;rw[if_pos (.inr hm2)]
     rw[hr1]
     have hgot:=qbE (out:=0) (c:=c) h ho ha 1 y q
     repeat'((try(conv=>whnf));first|(refine fH ?_)|(refine fD ?_)|(refine fG ?_)|(apply qcV;(exact rfl);omega)|(apply qa4;(exact rfl);omega)|(refine fB ?_)|((with_reducible show Ld _ _ _ _);first|(refine q1M hDR hy rfl ?_))|((with_reducible show IxS _ _ _ _ _);first|((refine ixE hDR hy ?_ ?_;(first|rfl|omega))))|((with_reducible show qf _ _ _ _ _ _);first|((refine qh (hcw _) ?_ ?_ ?_;(exact rfl);exact rfl))|((refine qh (hcr _) ?_ ?_ ?_;(exact rfl);exact rfl))|((refine qm hgot ?_ ?_ ?_ (fun s v hv=> ?_);(exact(eC));(exact rfl);(exact rfl))))|((with_reducible show q0b _ _ _ _ _ _);first|((refine qq (fun ex=>q3e (had _)) ?_ ?_ ?_;(exact rfl);(exact rfl))))|(refine fC ?_)|(refine fA ?_)|(refine fL ?_)|(refine qc (fun bk hbk=> ?_)))
     exact⟨s,hv,Ent.refl⟩
    ·have hr1:rdM b j={b with r:=b.r++ [(j:Int)]}:=by unfold rdM;rw[if_neg (fun h=>h.elim hm hm2)]
     rw[hr1]
     repeat'((try(conv=>whnf));first|(refine fH ?_)|(refine fD ?_)|(refine fG ?_)|(apply qcU;(exact rfl);omega)|(apply qa4;(exact rfl);omega)|(refine fB ?_)|(apply q69 (enc:=qM) (T:=3) (j:Int) hR;(exact rfl);(exact rfl);(omega);(exact rfl);(exact rfl);(omega);intro a2 c2 D2 hb2)|((with_reducible show Ld _ _ _ _);first|(refine q1M hDR hy rfl ?_))|((with_reducible show IxS _ _ _ _ _);first|((refine ixE hDR hy ?_ ?_;(first|rfl|omega))))|((with_reducible show qf _ _ _ _ _ _);first|((refine qh (hcw _) ?_ ?_ ?_;(exact rfl);exact rfl))|((refine qh (hcr _) ?_ ?_ ?_;(exact rfl);exact rfl))|((refine qm (qbE (out:=0) (c:=c) (g:={g with ra:=a2,rc:=c2,rD:=D2}) (b:={b with r:=b.r++ [(j:Int)]}) ⟨h.d,h.m,h.a,h.al,hb2,h.w,h.o⟩ ho ha 1 y q) ?_ ?_ ?_ (fun s v hv=> ?_);(dsimp only[TxG.O,TxG.pre,TxG.post];simp only[List.length_append,List.length_cons,List.length_nil,Nat.zero_add];exact(eC));(exact rfl);(exact rfl))))|((with_reducible show q0b _ _ _ _ _ _);first|((refine qq (fun ex=>q3e (had _)) ?_ ?_ ?_;(exact rfl);(exact rfl))))|(refine fC ?_)|(refine fA ?_)|(refine fL ?_)|(refine fN ?_)|(refine qc (fun bk hbk=> ?_)))
     exact⟨s,hv,Ent.refl⟩
 ·rw[if_neg (by omega)] at had hao
  have hst:q18 c b ⟨11,a,b',c',imm⟩=if c.words≤adr b.t.rg a imm then(b.go,7) else((wrM b (adr b.t.rg a imm).toNat (b.t.rg.get b'.toNat)).go,0):=rfl
  rw[hst]
  clear hst
  generalize adr b.t.rg a imm=z at*
  by_cases hz:c.words≤z
  ·rw[if_pos hz]
   repeat'((try(conv=>whnf));first|(refine fF ?_)|((with_reducible show q0b _ _ _ _ _ _);first|((refine qq (fun ex=>q3e (had _)) ?_ ?_ ?_;(exact rfl);(exact rfl))))|(refine fC ?_)|(refine fA ?_)|(refine fL ?_)|(refine fN ?_)|(refine qc (fun bk hbk=> ?_)))
   exact⟨g,⟨⟨h.d,h.m,h.a,h.al,h.r,h.w,h.o⟩,rfl⟩,(eC)⟩
  ·rw[if_neg hz]
   obtain⟨j,rfl⟩:=Int.eq_ofNat_of_zero_le hao.1
   have hj:j<b.d.length:=by omega
   have hwr:=qbK (out:=0) (c:=c) h hj hw (b.t.rg.get b'.toNat) q
   rw[Int.toNat_natCast]
   repeat'((try(conv=>whnf));first|(refine fE ?_)|(refine fG ?_)|(refine fB ?_)|(refine q4D (t:=b.t) (pre:=g.pre c b) (post:=g.post b 0) hb' ?_ ?_;(simp;omega))|((with_reducible show qf _ _ _ _ _ _);first|((refine qm hwr ?_ ?_ ?_ (fun s v hv=> ?_);(exact(eC));(exact rfl);(exact rfl))))|((with_reducible show q0b _ _ _ _ _ _);first|((refine qq (fun ex=>q3e (had _)) ?_ ?_ ?_;(exact rfl);(exact rfl))))|(refine fC ?_)|(refine fP ?_)|(refine fA ?_)|(refine fL ?_)|(refine qc (fun bk hbk=> ?_)))
   exact⟨s,hv,Ent.refl⟩
end
end Go.Proofs.YtkieffpjjfebjaaGreatDoor
