/- What the laws share, part 23. No condition. -/
import Derived.Test.YtfompmhncnkcfaaGreatDoorW22
namespace Go.Proofs.YtfompmhncnkcfaaGreatDoor
open Go
set_option maxRecDepth 10000
set_option maxHeartbeats 8000000
noncomputable def decO : DecidableEq (Nat × (Obj → Prop)) := fun _ _ => Classical.propDecidable _
noncomputable def cnt (a : Nat × (Obj → Prop)) (l : Own) : Nat := @List.count _ (@instBEqOfDecidableEq _ decO) a l
noncomputable def onE (a b : Nat × (Obj → Prop)) : Nat := cnt a [b]
theorem cnt_app {a : Nat × (Obj → Prop)} {l m : Own} : cnt a (l ++ m) = cnt a l + cnt a m := by
  letI := decO
  exact List.count_append
theorem cnt_nil {a : Nat × (Obj → Prop)} : cnt a [] = 0 := rfl
theorem cnt_cons {a b : Nat × (Obj → Prop)} {l : Own} : cnt a (b :: l) = onE a b + cnt a l := by
  have := cnt_app (a := a) (l := [b]) (m := l)
  exact this
theorem perm_cnt {l m : Own} (h : ∀ a, cnt a l = cnt a m) : l.Perm m := by
  letI := decO
  exact List.perm_iff_count.2 h
theorem ent_cnt {W0 : World} {own own' : Own} (d : Own) (h : ∀ a, cnt a own = cnt a own' + cnt a d) : Ent W0 own own' :=
  (Ent.of_perm (perm_cnt (m := own' ++ d) fun a => by rw [cnt_app]; exact h a)).trans Ent.left
section
variable {W0 : World} {own : Own}
theorem sp_mem_clone {da : Option Addr} {dc mb : Nat} {d : List Int} {ml : Mp} (hD : RdE encU 1 W0 own da d) (hd : d.length ≤ 1000000) [m : MemC mb (mapO (mpV ml)) own] :
    Spec Tryz.prog W0 59 [.agg #[.slice da d.length dc, .map (some mb)]] own fun v own' => ∃ s : (Option Addr × Nat × Own) × Nat,
      (v = .agg #[.slice s.1.1 d.length s.1.2.1, .map (some s.2)] ∧ BufE encU 63 1 s.1.1 s.1.2.1 d s.1.2.2) ∧ Ent W0 own' (s.1.2.2 ++ ((s.2, mapO (mpV ml)) :: own)) := by
  refine spec_of mixed low_sgl_memory_clone (by simp [ir_sgl_memory_clone]) ?_
  have hcl := fun (own' : Own) [EntC own' own] => sp_clone_uint64 (cap := dc) (RdE.up (own := own') hD) (by omega)
  have hml := fun (own' : Own) [MemC mb (mapO (mpV ml)) own'] => sp_mclone (W0 := W0) (own := own') (b := mb) (l := mpV ml)
  repeat' ((try (conv => whnf)); first | (refine new_i (fun b1 h1 => ?_); (apply Stop.h)))
  refine Stop.mk ?_
  repeat' ((try (conv => whnf)); first | (refine new_i (fun b2 h2 => ?_); (apply Stop.h)))
  refine Stop.mk ?_
  repeat' ((try (conv => whnf)); first | ((with_reducible show CallT _ _ _ _ _ _); first | ((refine call_x (hcl _) ?_ ?_ (fun y v hv => ?_); (exact rfl); (exact rfl); (obtain ⟨a1, c1, D1⟩ := y; obtain ⟨rfl, hB⟩ := hv; dsimp only at hB))) | ((refine call_x (hml _) ?_ ?_ (fun b' v hv => ?_); (exact rfl); (exact rfl); (subst hv)))) | (apply ld_o; exact rfl) | (apply ldN_a; exact rfl) | (apply stN_o; (exact rfl); (exact rfl); exact rfl) | (refine Both.mk ?_ ?_))
  all_goals exact ⟨((a1, c1, D1), b'), ⟨rfl, hB⟩, (Ent.of_perm List.perm_middle.symm).trans (Ent.of_sub ((((List.sublist_cons_self _ _).cons _).cons_cons _).append_left D1))⟩
theorem stN_thr {T : TypeId} {a : Option Addr} {cap j off n : Nat} {l : List Thr} {D : Own} {C : Own → Own} {t : Thr} {vs : List Value} {K : Own → Prop} (r : Rg) (hB : BufE Thr.enc T 11 a cap l D) (hx : l[j]? = some t) [m : AtC D own C] (hn : 8 = n) (ho : off = ao a + j * 11 + 1) (hvs : vs = r.enc)
    (hk : ∀ D', BufE Thr.enc T 11 a cap (l.set j { t with rg := r }) D' → K (C D')) : vs.length = n ∧ StN W0 own ⟨ab a, off, none⟩ vs K := by
  obtain ⟨b, pre, post, rfl, rfl, hpl, hset⟩ := buf_win hB hx
  subst hvs
  have hat := m.h
  have ho' : off = pre.length + 1 := by rw [ho, hpl]; simp [ao]
  subst ho'
  haveI : UpC b (fun o => o = Obj.cells (pre ++ (t.enc ++ post)).toArray T (0, 0)) own (fun q => C [(b, q)]) := ⟨fun q => hat.up q⟩
  have key : ((pre ++ (t.enc ++ post)).toArray.toList.take (pre.length + 1) ++ r.enc ++ (pre ++ (t.enc ++ post)).toArray.toList.drop (pre.length + 1 + 8)) = pre ++ (({ t with rg := r } : Thr).enc ++ post) := by
    rw [List.toList_toArray, List.take_append, List.take_of_length_le (by omega), Nat.add_sub_cancel_left, List.drop_append, List.drop_of_length_le (by omega), show pre.length + 1 + 8 - pre.length = 9 by omega]
    simp
  have hS := stN_o (W0 := W0) (own := own) (b := b) (off := pre.length + 1) (n := 8) (cs := (pre ++ (t.enc ++ post)).toArray) (T := T) (vs := r.enc) (K := K) (C := fun q => C [(b, q)]) rfl (by simp; omega) rfl (by rw [key]; exact hk _ (hset _))
  subst hn
  exact hS
end
theorem ent_com {W0 : World} {e0 e1 e2 m1 m2 : Nat × (Obj → Prop)} {A R W O dG T E L S1 S2 S3 X q : Own} : Ent W0 (e0 :: ((e1 :: (A ++ (m1 :: (R ++ (W ++ O))))) ++ ((e2 :: (dG ++ (m2 :: (T ++ (E ++ (L ++ ((S1 ++ (S2 ++ S3)) ++ X))))))) ++ q))) ([e0, e1] ++ ((e2 :: (A ++ (m1 :: (T ++ (E ++ (L ++ ((S1 ++ (S2 ++ S3)) ++ (R ++ (W ++ X))))))))) ++ q)) :=
  ent_cnt (O ++ (dG ++ [m2])) fun a => by simp only [cnt_app, cnt_cons, cnt_nil]; omega
section
variable {W0 : World} {Kp K : Own} {g : GP} {c : Cfg} {ps : List PH} {s : GS} {x : TxG} {b : BM}
theorem sp_gcommit {t : Nat} {th : Thr} (h : g.ok W0 Kp ps s) (hv : g.ev W0) (hth : s.T[t]? = some th) (hO : t < s.O.length) (hob : ∀ l ∈ s.O, l.length ≤ 500000) (hE : s.E.length ≤ 500000) (hx : x.ok W0 K b) (hxo : b.o.length ≤ 500000) (q : Own) :
    Spec Tryz.prog W0 61 [.pointer (some ⟨g.gb, 0, none⟩), .int .i64 t, .pointer (some ⟨x.xb, 0, none⟩)] (x.O c b 1 ++ (g.O c ps.length s ++ q)) fun _ own' => ∃ g' : GP,
      (g'.ok W0 Kp ps ((({ s with d := b.d, tk := b.tk, T := s.T.set t { th with rg := b.t.rg }, O := s.O.set t (s.O.getD t [] ++ b.o) } : GS).ev [⟨s.n, t, 3, 0, [], []⟩]).ev [⟨s.n, t, 4, 0, b.r, b.w⟩]) ∧ g'.ev W0 ∧ g'.gb = g.gb ∧ g'.ta = g.ta) ∧
      Ent W0 own' ([thB x.xb 119 (x.pre c b) (x.post b 1) b.t] ++ (g'.O c ps.length ((({ s with d := b.d, tk := b.tk, T := s.T.set t { th with rg := b.t.rg }, O := s.O.set t (s.O.getD t [] ++ b.o) } : GS).ev [⟨s.n, t, 3, 0, [], []⟩]).ev [⟨s.n, t, 4, 0, b.r, b.w⟩]) ++ q)) := by
  have htS : t < g.S.length := by
    have h1 := congrArg List.length h.ol
    rw [List.length_map] at h1
    omega
  obtain ⟨xo, hxo1⟩ : ∃ xo, g.S[t]? = some xo := ⟨_, List.getElem?_eq_getElem htS⟩
  have hxm := List.mem_of_getElem? hxo1
  have hB := h.os xo hxm
  have hxl : xo.l.length ≤ 500000 := hob xo.l (by rw [← h.ol]; exact List.mem_map_of_mem hxm)
  have hOO := h.o
  have hOR := hOO.rd (W0 := W0)
  have hTR := h.t.rd (W0 := W0)
  have hoR := hx.o.rd (W0 := W0)
  refine spec_of mixed low_sgl_Global_commit (by simp [ir_sgl_Global_commit]) ?_
  have hok1 : ∀ (a2 : Option Addr) (c2 : Nat) (D1 D2 D3 : Own), BufE Thr.enc 66 11 g.ta g.tc (s.T.set t { th with rg := b.t.rg }) D1 → BufE ObM.enc 106 3 a2 c2 (xo.l ++ b.o) D2 → BufE ObS.enc 72 1 g.oa g.oc (g.S.set t ⟨a2, c2, xo.l ++ b.o, D2⟩) D3 →
      ({ g with mb := x.mb, ml := x.ml, da := x.da, dc := x.dc, dD := x.dD, tD := D1, oD := D3, S := g.S.set t ⟨a2, c2, xo.l ++ b.o, D2⟩, X := x.rD ++ (x.wD ++ g.X) } : GP).ok W0 Kp ps ({ s with d := b.d, tk := b.tk, T := s.T.set t { th with rg := b.t.rg }, O := s.O.set t (s.O.getD t [] ++ b.o) } : GS) ∧ ({ g with mb := x.mb, ml := x.ml, da := x.da, dc := x.dc, dD := x.dD, tD := D1, oD := D3, S := g.S.set t ⟨a2, c2, xo.l ++ b.o, D2⟩, X := x.rD ++ (x.wD ++ g.X) } : GP).ev W0 := fun a2 c2 D1 D2 D3 hb1 hb2 hb3 => by
    have ho := h.obs hxo1 hb2 hb3
    exact ⟨⟨hx.d, hx.m, h.k, h.kp, hb1, h.e, h.em, ho.o, ho.os, ho.ol⟩, fun e he => ⟨(hv e he).1.up, (hv e he).2.up⟩⟩
  have hev1 := fun (be : Nat) (a2 : Option Addr) (c2 : Nat) (D1 D2 D3 : Own) hb1 hb2 hb3 => spec_keep (E := [(be, fun o => o = Obj.cells #[.int .i64 0, .int .i64 t, .int .i64 4, .int .i64 0, .slice x.ra b.r.length x.rc, .slice x.wa b.w.length x.wc] 75 (0, 0)), thB x.xb 119 (x.pre c b) (x.post b 1) b.t]) (q := q) (sp_event (c := c) (g := ({ g with mb := x.mb, ml := x.ml, da := x.da, dc := x.dc, dD := x.dD, tD := D1, oD := D3, S := g.S.set t ⟨a2, c2, xo.l ++ b.o, D2⟩, X := x.rD ++ (x.wD ++ g.X) } : GP)) (s := ({ s with d := b.d, tk := b.tk, T := s.T.set t { th with rg := b.t.rg }, O := s.O.set t (s.O.getD t [] ++ b.o) } : GS)) (hok1 a2 c2 D1 D2 D3 hb1 hb2 hb3).1 (hok1 a2 c2 D1 D2 D3 hb1 hb2 hb3).2 (e := ⟨0, t, 3, 0, none, [], 0, none, [], 0⟩) RdE.nil RdE.nil (by show s.E.length ≤ _; omega))
  have hev2 := fun (g1 : GP) (h1 : g1.ok W0 Kp ps (({ s with d := b.d, tk := b.tk, T := s.T.set t { th with rg := b.t.rg }, O := s.O.set t (s.O.getD t [] ++ b.o) } : GS).ev [⟨s.n, t, 3, 0, [], []⟩])) (h2 : g1.ev W0) (hX : g1.X = x.rD ++ (x.wD ++ g.X)) => spec_keep (E := [thB x.xb 119 (x.pre c b) (x.post b 1) b.t]) (q := q) (sp_event (c := c) h1 h2 (e := ⟨0, t, 4, 0, x.ra, b.r, x.rc, x.wa, b.w, x.wc⟩) (hX ▸ (hx.r.rd (W0 := W0)).up) (hX ▸ (hx.w.rd (W0 := W0)).up) (by simp [GS.ev]; omega))
  dsimp only [GP.O]
  rw [ownS_split hxo1]
  repeat' ((try (conv => whnf)); first | (refine new_i (fun be hbe => ?_); (apply Stop.h)) | (apply ld_o; exact rfl))
  refine Stop.mk ?_
  repeat' ((try (conv => whnf)); first | (refine br_te ?_ ?_; exact rfl) | (refine stN_thr b.t.rg h.t hth ?_ ?_ ?_ ?_; (exact rfl); omega; (exact rfl); intro D1 hb1) | (refine app_l hB hoR rfl rfl (by omega) (fun _ _ => rfl) (fun _ => by omega) (fun a2 c2 D2 hb2 => ?_)) | (apply stE_i (enc := ObS.enc) (T := 72) (j := t) (k := 0) ⟨a2, c2, xo.l ++ b.o, D2⟩ hOO hxo1; (exact rfl); (omega); (simp only [ObS.enc, List.length_append]; exact rfl); (exact rfl); intro D3 hb3) | ((with_reducible show Ld _ _ _ _); first | (refine ldE0 hOR hxo1 rfl ?_)) | ((with_reducible show IxS _ _ _ _ _); first | ((refine ixE hOR hxo1 ?_ ?_; (first | rfl | omega))) | ((refine ixE hTR hth ?_ ?_; (first | rfl | omega)))) | ((with_reducible show CallT _ _ _ _ _ _); first | ((refine call_to (hev1 be a2 c2 D1 D2 D3 hb1 hb2 hb3) ?_ ?_ ?_ (fun g1 v hg1 => ?_); (dsimp only [GP.O, GP.cells]; rw [ownS_set hxo1, List.length_set, List.length_set]; exact ent_com); (exact rfl); (exact rfl); (obtain ⟨hk1, hv1, hg1⟩ := hg1); (have hgb1 : g1.gb = g.gb := by rw [hg1]); (have hta1 : g1.ta = g.ta := by rw [hg1]); (rw [← hgb1]))) | ((refine call_to (hev2 g1 hk1 hv1 (by rw [hg1])) ?_ ?_ ?_ (fun g2 v hg2 => ?_); (exact (by first | exact ent_i | (repeat (first | exact Ent.refl | exact Ent.left | refine Ent.cons ?_ | refine Ent.app ?_)))); (exact rfl); (exact rfl)))) | (apply ld_o; exact rfl) | (apply ldN_a; exact rfl) | (apply ldN_o; (exact rfl); exact rfl) | (apply st_o; (exact rfl); exact rfl) | (apply stN_o; (exact rfl); (exact rfl); exact rfl) | (refine Both.mk ?_ ?_))
  all_goals exact ⟨g2, ⟨hg2.1, hg2.2.1, by rw [hg2.2.2], by rw [hg2.2.2, hg1]⟩, Ent.refl⟩
theorem ent_abo {e0 e1 e2 m1 m2 : Nat × (Obj → Prop)} {A R W O dG T E L S X q : Own} : Ent W0 (e0 :: ((e1 :: (A ++ (m1 :: (R ++ (W ++ O))))) ++ ((e2 :: (dG ++ (m2 :: (T ++ (E ++ (L ++ (S ++ X))))))) ++ q))) ([e0, e1] ++ ((e2 :: (dG ++ (m2 :: (T ++ (E ++ (L ++ (S ++ (R ++ X)))))))) ++ q)) :=
  ent_cnt (A ++ (W ++ (O ++ [m1]))) fun a => by simp only [cnt_app, cnt_cons, cnt_nil]; omega
theorem sp_gabort {t : Nat} {out : Int} (h : g.ok W0 Kp ps s) (hv : g.ev W0) (hE : s.E.length ≤ 500000) (hx : x.ok W0 K b) (ho : out ≠ 1) (q : Own) :
    Spec Tryz.prog W0 61 [.pointer (some ⟨g.gb, 0, none⟩), .int .i64 t, .pointer (some ⟨x.xb, 0, none⟩)] (x.O c b out ++ (g.O c ps.length s ++ q)) fun _ own' => ∃ g' : GP,
      (g'.ok W0 Kp ps ((s.ev [⟨s.n, t, 3, 0, [], []⟩]).ev [⟨s.n, t, 4, 0, b.r, []⟩]) ∧ g'.ev W0 ∧ g'.gb = g.gb ∧ g'.ta = g.ta) ∧
      Ent W0 own' ([thB x.xb 119 (x.pre c b) (x.post b out) b.t] ++ (g'.O c ps.length ((s.ev [⟨s.n, t, 3, 0, [], []⟩]).ev [⟨s.n, t, 4, 0, b.r, []⟩]) ++ q)) := by
  refine spec_of mixed low_sgl_Global_commit (by simp [ir_sgl_Global_commit]) ?_
  have hev1 := fun (be : Nat) => spec_keep (E := [(be, fun o => o = Obj.cells #[.int .i64 0, .int .i64 t, .int .i64 4, .int .i64 0, .slice x.ra b.r.length x.rc, .slice none 0 0] 75 (0, 0)), thB x.xb 119 (x.pre c b) (x.post b out) b.t]) (q := q) (sp_event (c := c) (g := ({ g with X := x.rD ++ g.X } : GP)) (s := s) h.x (GP.ev.x hv) (e := ⟨0, t, 3, 0, none, [], 0, none, [], 0⟩) RdE.nil RdE.nil (by omega))
  have hev2 := fun (g1 : GP) (h1 : g1.ok W0 Kp ps (s.ev [⟨s.n, t, 3, 0, [], []⟩])) (h2 : g1.ev W0) (hX : g1.X = x.rD ++ g.X) => spec_keep (E := [thB x.xb 119 (x.pre c b) (x.post b out) b.t]) (q := q) (sp_event (c := c) h1 h2 (e := ⟨0, t, 4, 0, x.ra, b.r, x.rc, none, [], 0⟩) (hX ▸ (hx.r.rd (W0 := W0)).up) RdE.nil (by simp [GS.ev]; omega))
  repeat' ((try (conv => whnf)); first | (refine new_i (fun be hbe => ?_); (apply Stop.h)) | (apply ld_o; exact rfl))
  refine Stop.mk ?_
  repeat' ((try (conv => whnf)); first | (apply br_pnE; (exact rfl); omega) | ((with_reducible show CallT _ _ _ _ _ _); first | ((refine call_to (hev1 be) ?_ ?_ ?_ (fun g1 v hg1 => ?_); (exact ent_abo); (exact rfl); (exact rfl); (obtain ⟨hk1, hv1, hg1⟩ := hg1); (have hgb1 : g1.gb = g.gb := by rw [hg1]); (have hta1 : g1.ta = g.ta := by rw [hg1]); (rw [← hgb1]))) | ((refine call_to (hev2 g1 hk1 hv1 (by rw [hg1])) ?_ ?_ ?_ (fun g2 v hg2 => ?_); (exact (by first | exact ent_i | (repeat (first | exact Ent.refl | exact Ent.left | refine Ent.cons ?_ | refine Ent.app ?_)))); (exact rfl); (exact rfl)))) | (apply ld_o; exact rfl) | (apply ldN_a; exact rfl) | (apply stN_o; (exact rfl); (exact rfl); exact rfl))
  all_goals exact ⟨g2, ⟨hg2.1, hg2.2.1, by rw [hg2.2.2], by rw [hg2.2.2, hg1]⟩, Ent.refl⟩
end
end Go.Proofs.YtfompmhncnkcfaaGreatDoor
namespace Go.Proofs.YtfompmhncnkcfaaGreatDoor
open Go
set_option maxRecDepth 10000
set_option maxHeartbeats 8000000
abbrev encB (b : Bool) : List Value := [.bool b]
structure DP where
  rb : Nat
  iv : Value
  pa : Option Addr
  pc : Nat
  kv : Value
  da : Option Addr
  dc : Nat
  dD : Own
  ka : Option Addr
  kc : Nat
  kD : Own
  ta : Option Addr
  tc : Nat
  tD : Own
  ea : Option Addr
  ec : Nat
  eD : Own
  L : List EH
  X : Own
  oa : Option Addr
  oc : Nat
  oD : Own
  S : List ObS
abbrev DP.cells (g : DP) (c : Cfg) (np : Nat) (s : GS) : List Value := cfL c [g.iv, .slice g.pa np g.pc, g.kv, .slice g.da s.d.length g.dc, .slice g.ka s.tk.length g.kc, .slice g.ta s.T.length g.tc, .slice g.ea g.L.length g.ec, .slice g.oa g.S.length g.oc, .int .i64 s.n]
abbrev DP.O (g : DP) (c : Cfg) (np : Nat) (s : GS) : Own := (g.rb, fun o => o = Obj.cells (g.cells c np s).toArray 79 (0, 0)) :: (g.dD ++ (g.kD ++ (g.tD ++ (g.eD ++ (g.oD ++ (ownS g.S ++ g.X))))))
structure DP.ok (g : DP) (W0 : World) (Kp : Own) (ps : List PH) (s : GS) : Prop where
  d : BufE encU 63 1 g.da g.dc s.d g.dD
  m : BufE encB 4 1 g.ka g.kc s.tk g.kD
  k : RdE PH.enc 1 W0 Kp g.pa ps
  kp : ∀ h ∈ ps, RdE Ins.enc 5 W0 Kp h.a h.p
  t : BufE Thr.enc 66 11 g.ta g.tc s.T g.tD
  e : BufE EH.enc 75 6 g.ea g.ec g.L g.eD
  em : g.L.map EH.m = s.E
  ev : ∀ e ∈ g.L, RdE encI 1 W0 g.X e.ra e.rl ∧ RdE encI 1 W0 g.X e.wa e.wl
  o : BufE ObS.enc 72 1 g.oa g.oc g.S g.oD
  os : ∀ x ∈ g.S, BufE ObM.enc 106 3 x.a x.cap x.l x.D
  ol : g.S.map ObS.l = s.O
theorem DP.ok.ot {g : DP} {W0 : World} {Kp : Own} {ps : List PH} {s : GS} (h : g.ok W0 Kp ps s) {t : Nat} {x : ObS} (hx : g.S[t]? = some x) : s.O.getD t [] = x.l := by
  rw [← h.ol]
  simp [List.getD, hx]
theorem DP.ok.obs {g : DP} {W0 : World} {Kp : Own} {ps : List PH} {s : GS} (h : g.ok W0 Kp ps s) {t : Nat} {x : ObS} (hx : g.S[t]? = some x) {a : Option Addr} {cap : Nat} {D D' : Own} {l : List ObM} (hb : BufE ObM.enc 106 3 a cap (x.l ++ l) D) (hb2 : BufE ObS.enc 72 1 g.oa g.oc (g.S.set t ⟨a, cap, x.l ++ l, D⟩) D') :
    ({ g with oD := D', S := g.S.set t ⟨a, cap, x.l ++ l, D⟩ } : DP).ok W0 Kp ps { s with O := s.O.set t (s.O.getD t [] ++ l) } := by
  refine ⟨h.d, h.m, h.k, h.kp, h.t, h.e, h.em, h.ev, hb2, fun y hy => ?_, ?_⟩
  · rcases List.mem_or_eq_of_mem_set hy with hy | rfl
    · exact h.os y hy
    · exact hb
  · rw [h.ot hx, ← h.ol, List.map_set]
section
variable {W0 : World} {Kp : Own} {g : DP} {c : Cfg} {ps : List PH} {s : GS}
theorem sp_rsee (h : g.ok W0 Kp ps s) {t : Nat} (ht : t < g.S.length) (hl : ∀ l ∈ s.O, l.length ≤ 1000000) (pc : Nat) (k v : Int) (q : Own) :
    Spec Tryz.prog W0 68 [.pointer (some ⟨g.rb, 0, none⟩), .int .i64 t, .int .i64 pc, .int .i64 k, .int .u64 v] (g.O c ps.length s ++ q) fun _ own' => ∃ g' : DP,
      (g'.ok W0 Kp ps { s with O := s.O.set t (s.O.getD t [] ++ [⟨pc, k, v⟩]) } ∧ g' = { g with oD := g'.oD, S := g'.S } ∧ g'.S.length = g.S.length) ∧ Ent W0 own' (g'.O c ps.length { s with O := s.O.set t (s.O.getD t [] ++ [⟨pc, k, v⟩]) } ++ q) := by
  obtain ⟨x, hx⟩ : ∃ x, g.S[t]? = some x := ⟨_, List.getElem?_eq_getElem ht⟩
  have hxm := List.mem_of_getElem? hx
  have hB := h.os x hxm
  have hxl : x.l.length ≤ 1000000 := hl x.l (by rw [← h.ol]; exact List.mem_map_of_mem hxm)
  have hO := h.o
  have hOR := hO.rd (W0 := W0)
  refine spec_of mixed low_ref22_Global_see (by simp [ir_ref22_Global_see]) ?_
  dsimp only [DP.O]
  rw [ownS_split hx]
  repeat' ((try (conv => whnf)); first | (apply app_i (enc := ObM.enc) (T := 106) ⟨pc, k, v⟩ hB; (exact rfl); (exact rfl); (omega); (exact rfl); (exact rfl); (omega); intro a1 c1 D1 hb1) | (apply stE_i (enc := ObS.enc) (T := 72) (j := t) (k := 0) ⟨a1, c1, x.l ++ [⟨pc, k, v⟩], D1⟩ hO hx; (exact rfl); (omega); (simp only [ObS.enc, List.length_append, List.length_cons, List.length_nil, Nat.zero_add]; exact rfl); (exact rfl); intro D2 hb2) | ((with_reducible show Ld _ _ _ _); first | (refine ldE0 hOR hx rfl ?_)) | ((with_reducible show IxS _ _ _ _ _); first | ((refine ixE hOR hx ?_ ?_; (first | rfl | omega)))) | (apply ld_o; exact rfl) | (refine new_i (fun bk hbk => ?_)) | (refine Both.mk ?_ ?_))
  all_goals
    refine ⟨{ g with oD := D2, S := g.S.set t ⟨a1, c1, x.l ++ [⟨pc, k, v⟩], D1⟩ }, ⟨h.obs hx hb1 hb2, rfl, List.length_set ..⟩, ?_⟩
    dsimp only [DP.O, DP.cells]
    rw [ownS_set hx, List.length_set]
    exact (by first | exact ent_i | (repeat (first | exact Ent.refl | exact Ent.left | refine Ent.cons ?_ | refine Ent.app ?_)))
theorem ent_px {e : Nat × (Obj → Prop)} {D A B C E F S X q : Own} : Ent W0 (D ++ ((e :: (A ++ (B ++ (C ++ (E ++ (F ++ (S ++ X))))))) ++ q)) ((e :: (A ++ (B ++ (C ++ (E ++ (F ++ (S ++ (D ++ X)))))))) ++ q) := ent_cnt [] fun a => by simp only [cnt_app, cnt_cons, cnt_nil]; omega
theorem DP.perm_X {D : Own} {q : Own} : Ent W0 (D ++ (g.O c ps.length s ++ q)) (({ g with X := D ++ g.X } : DP).O c ps.length s ++ q) := by
  dsimp only [DP.O]
  exact ent_px
theorem sp_revent (h : g.ok W0 Kp ps s) (t k w : Int) {ra wa : Option Addr} {rl wl : List Int} {rc wc : Nat} (h1 : RdE encI 1 W0 g.X ra rl) (h2 : RdE encI 1 W0 g.X wa wl) (hl : s.E.length ≤ 1000000) (q : Own) :
    Spec Tryz.prog W0 70 [.pointer (some ⟨g.rb, 0, none⟩), .int .i64 t, .int .i64 k, .int .i64 w, .slice ra rl.length rc, .slice wa wl.length wc] (g.O c ps.length s ++ q) fun _ own' => ∃ g' : DP,
      (g'.ok W0 Kp ps (s.ev [⟨s.n, t, k, w, rl, wl⟩]) ∧ g' = { g with ea := g'.ea, ec := g'.ec, eD := g'.eD, L := g'.L }) ∧ Ent W0 own' (g'.O c ps.length (s.ev [⟨s.n, t, k, w, rl, wl⟩]) ++ q) := by
  refine spec_of mixed low_ref22_Global_event (by simp [ir_ref22_Global_event]) ?_
  have hE := h.e
  have hLl : g.L.length ≤ 1000000 := by rw [← h.em, List.length_map] at hl; exact hl
  dsimp only [DP.O]
  repeat' ((try (conv => whnf)); first | (apply app_i (enc := EH.enc) (T := 75) ⟨s.n, t, k, w, ra, rl, rc, wa, wl, wc⟩ hE; (exact rfl); (exact rfl); (omega); (exact rfl); (exact rfl); (omega); intro a1 c1 D1 hb1) | (apply ld_o; exact rfl) | (apply st_o; (exact rfl); exact rfl) | (refine new_i (fun bk hbk => ?_)))
  refine ⟨{ g with ea := a1, ec := c1, eD := D1, L := g.L ++ [⟨s.n, t, k, w, ra, rl, rc, wa, wl, wc⟩] }, ⟨⟨h.d, h.m, h.k, h.kp, h.t, hb1, ?_, fun y hy => ?_, h.o, h.os, h.ol⟩, rfl⟩, ?_⟩
  · rw [List.map_append, h.em]; rfl
  · rcases List.mem_append.1 hy with hy | hy
    · exact h.ev y hy
    · rw [List.mem_singleton.1 hy]; exact ⟨h1, h2⟩
  · dsimp only [DP.O, DP.cells, GS.ev]
    simp only [List.length_append, List.length_cons, List.length_nil, Nat.zero_add]
    exact (by first | exact ent_i | (repeat (first | exact Ent.refl | exact Ent.left | refine Ent.cons ?_ | refine Ent.app ?_)))
end
end Go.Proofs.YtfompmhncnkcfaaGreatDoor
namespace Go.Proofs.YtfompmhncnkcfaaGreatDoor
open Go
set_option maxRecDepth 10000
set_option maxHeartbeats 8000000
section
variable {W0 : World} {Kp : Own} {g : DP} {c : Cfg} {ps : List PH} {s : GS}
theorem DP.ok.x {D : Own} (h : g.ok W0 Kp ps s) : ({ g with X := D ++ g.X } : DP).ok W0 Kp ps s := ⟨h.d, h.m, h.k, h.kp, h.t, h.e, h.em, fun e he => ⟨(h.ev e he).1.ent (Ent.app Ent.refl), (h.ev e he).2.ent (Ent.app Ent.refl)⟩, h.o, h.os, h.ol⟩
theorem sp_rplain (h : g.ok W0 Kp ps s) (hl : s.E.length ≤ 900000) (t a : Nat) {k : Int} (hk : k = 1 ∨ k = 2) (q : Own) :
    Spec Tryz.prog W0 72 [.pointer (some ⟨g.rb, 0, none⟩), .int .i64 t, .int .i64 k, .int .i64 a] (g.O c ps.length s ++ q) fun _ own' => ∃ g' : DP,
      (g'.ok W0 Kp ps (s.ev (plE c s.n t k a)) ∧ g' = { g with ea := g'.ea, ec := g'.ec, eD := g'.eD, L := g'.L, X := g'.X }) ∧ Ent W0 own' (g'.O c ps.length (s.ev (plE c s.n t k a)) ++ q) := by
  refine spec_of mixed low_ref22_Global_plain (by simp [ir_ref22_Global_plain]) ?_
  cases hs : c.strong with
  | false =>
    have he := sp_revent (c := c) h t k a (ra := none) (wa := none) (rc := 0) (wc := 0) RdE.nil RdE.nil (by omega) q
    have hp : plE c s.n t k a = [⟨s.n, t, k, a, [], []⟩] := by unfold plE; rw [hs]; rfl
    rw [hp]
    have hsv : (!c.strong) = true := by rw [hs]; rfl
    repeat' ((try (conv => whnf)); first | (refine br_te hsv ?_) | ((with_reducible show CallT _ _ _ _ _ _); first | ((refine call_to he ?_ ?_ ?_ (fun g' v hg => ?_); (exact (by first | exact ent_i | (repeat (first | exact Ent.refl | exact Ent.left | refine Ent.cons ?_ | refine Ent.app ?_)))); (exact rfl); (exact rfl)))) | (apply ld_o; exact rfl))
    exact ⟨g', ⟨hg.1, by rw [hg.2]⟩, Ent.refl⟩
  | true =>
    have hsv : (!c.strong) = false := by rw [hs]; rfl
    have he := fun q => sp_revent (c := c) h t 3 0 (ra := none) (wa := none) (rc := 0) (wc := 0) RdE.nil RdE.nil (by omega) q
    rcases hk with rfl | rfl
    · have hp : plE c s.n t 1 a = [⟨s.n, t, 3, 0, [], []⟩] ++ [⟨s.n, t, 4, 0, [(a : Int)], []⟩] := by unfold plE; rw [hs]; rfl
      rw [hp, ← ev_ev]
      repeat' ((try (conv => whnf)); first | (refine br_fe hsv ?_) | ((with_reducible show CallT _ _ _ _ _ _); first | ((refine call_to (he q) ?_ ?_ ?_ (fun g1 v hg1 => ?_); (exact (by first | exact ent_i | (repeat (first | exact Ent.refl | exact Ent.left | refine Ent.cons ?_ | refine Ent.app ?_)))); (exact rfl); (exact rfl); (apply Stop.h)))) | (apply ld_o; exact rfl))
      obtain ⟨hk1, hg1⟩ := hg1
      refine Stop.mk ?_
      repeat' ((try (conv => whnf)); first | (refine br_te ?_ ?_; exact rfl) | (refine new_i (fun b8 hb8 => ?_); (apply Stop.h)))
      dsimp only [List.set]
      have hk2 := hk1.x (D := [(b8, fun o => o = Obj.cells #[.int .i64 a] 3 (0, 0))])
      have he2 := sp_revent (c := c) hk2 t 4 0 (ra := some ⟨b8, 0, none⟩) (rl := [(a : Int)]) (rc := 1) (wa := none) (wc := 0) (rd_blk (List.Mem.head _) (fun _ _ => rfl) rfl) RdE.nil (by simp [GS.ev]; omega) q
      have hrb : g1.rb = g.rb := by rw [hg1]
      rw [← hrb]
      refine Stop.mk ?_
      repeat' ((try (conv => whnf)); first | ((with_reducible show CallT _ _ _ _ _ _); first | ((refine call_to he2 ?_ ?_ ?_ (fun g2 v hg2 => ?_); (exact DP.perm_X (D := [(b8, fun o => o = Obj.cells #[.int .i64 a] 3 (0, 0))])); (exact rfl); (exact rfl)))))
      exact ⟨g2, ⟨hg2.1, by rw [hg2.2, hg1]⟩, Ent.refl⟩
    · have hp : plE c s.n t 2 a = [⟨s.n, t, 3, 0, [], []⟩] ++ [⟨s.n, t, 4, 0, [], [(a : Int)]⟩] := by unfold plE; rw [hs]; rfl
      rw [hp, ← ev_ev]
      repeat' ((try (conv => whnf)); first | (refine br_fe hsv ?_) | ((with_reducible show CallT _ _ _ _ _ _); first | ((refine call_to (he q) ?_ ?_ ?_ (fun g1 v hg1 => ?_); (exact (by first | exact ent_i | (repeat (first | exact Ent.refl | exact Ent.left | refine Ent.cons ?_ | refine Ent.app ?_)))); (exact rfl); (exact rfl); (apply Stop.h)))) | (apply ld_o; exact rfl))
      obtain ⟨hk1, hg1⟩ := hg1
      refine Stop.mk ?_
      repeat' ((try (conv => whnf)); first | (refine br_fe ?_ ?_; exact rfl) | (refine new_i (fun b8 hb8 => ?_); (apply Stop.h)))
      dsimp only [List.set]
      have hk2 := hk1.x (D := [(b8, fun o => o = Obj.cells #[.int .i64 a] 3 (0, 0))])
      have he2 := sp_revent (c := c) hk2 t 4 0 (ra := none) (rc := 0) (wa := some ⟨b8, 0, none⟩) (wl := [(a : Int)]) (wc := 1) RdE.nil (rd_blk (List.Mem.head _) (fun _ _ => rfl) rfl) (by simp [GS.ev]; omega) q
      have hrb : g1.rb = g.rb := by rw [hg1]
      rw [← hrb]
      refine Stop.mk ?_
      repeat' ((try (conv => whnf)); first | ((with_reducible show CallT _ _ _ _ _ _); first | ((refine call_to he2 ?_ ?_ ?_ (fun g2 v hg2 => ?_); (exact DP.perm_X (D := [(b8, fun o => o = Obj.cells #[.int .i64 a] 3 (0, 0))])); (exact rfl); (exact rfl)))))
      exact ⟨g2, ⟨hg2.1, by rw [hg2.2, hg1]⟩, Ent.refl⟩
end
end Go.Proofs.YtfompmhncnkcfaaGreatDoor
namespace Go.Proofs.YtfompmhncnkcfaaGreatDoor
open Go
set_option maxRecDepth 10000
set_option maxHeartbeats 16000000
theorem ic_b {x : Ins} (h : icheck x = 0) : (0 ≤ x.a ∧ x.a < 8) ∧ 0 ≤ x.b ∧ x.b < 8 := by
  unfold icheck at h
  split at h
  · cases h
  · split at h
    · rename_i hr
      obtain ⟨h1, h2, -⟩ := hr
      unfold regOk at h1 h2
      constructor
      · split at h1 <;> omega
      · split at h2 <;> omega
    · cases h
section
variable {W0 : World} {Kp : Own} {g : DP} {c : Cfg} {ps : List PH} {s : GS}
theorem sp_rlocalS {t : Nat} {th : Thr} (h : g.ok W0 Kp ps s) (hth : s.T[t]? = some th) {x : Ins} (hx : icheck x = 0) (hl : isL x = true) (hrg : th.rg.ok) (hpc : th.pc ≤ 64) (q : Own) :
    Spec Tryz.prog W0 71 [.pointer (some ⟨ab g.ta, ao g.ta + t * 11, none⟩), x.v] (g.O c ps.length s ++ q) fun v own' => ∃ g' : DP,
      (v = .bool true ∧ g'.ok W0 Kp ps { s with T := s.T.set t (locM th x) } ∧ g' = { g with tD := g'.tD }) ∧ Ent W0 own' (g'.O c ps.length { s with T := s.T.set t (locM th x) } ++ q) := by
  obtain ⟨tb, pre, post, hta, htD, hpl, hset⟩ := buf_win h.t hth
  obtain ⟨rb, iv, pa, pc, kv, da, dc, dD, ka, kc, kD, ta, tc, tD, ea, ec, eD, L, X, oa, oc, oD, S⟩ := g
  dsimp only at hta htD hset
  subst hta; subst htD
  have hl := spec_fr (own := (DP.mk rb iv pa pc kv da dc dD ka kc kD (some ⟨tb, 0, none⟩) tc [thB tb 66 pre post th] ea ec eD L X oa oc oD S).O c ps.length s ++ q) (sp_rlocal_y (W0 := W0) (b := tb) (T := 66) (pre := pre) (post := post) (t := th) (o := 0 + t * 11) hx hl hrg hpc (by omega) _)
  intro w hw
  refine (hl w hw).mono fun _ _ ⟨v, o, a, b, _, hv, hE⟩ => ⟨v, o, a, b, ⟨rb, iv, pa, pc, kv, da, dc, dD, ka, kc, kD, some ⟨tb, 0, none⟩, tc, [thB tb 66 pre post (locM th x)], ea, ec, eD, L, X, oa, oc, oD, S⟩, ⟨hv, ⟨h.d, h.m, h.k, h.kp, hset _, h.e, h.em, h.ev, h.o, h.os, h.ol⟩, rfl⟩, hE.trans ?_⟩
  dsimp only [DP.O, DP.cells]
  rw [List.length_set]
  exact ent_fr
theorem ent_s1 {a b : Nat × (Obj → Prop)} {G q : Own} : Ent W0 (a :: (b :: (G ++ q))) (G ++ ([a, b] ++ q)) := ent_cnt [] fun a => by simp only [cnt_app, cnt_cons, cnt_nil]; omega
theorem ent_s2 {a b : Nat × (Obj → Prop)} {G q : Own} : Ent W0 (G ++ ([a, b] ++ q)) (G ++ q) := ent_cnt [a, b] fun a => by simp only [cnt_app, cnt_cons, cnt_nil]; omega
abbrev exS (s1 : GS) (t n : Nat) (th1 : Thr) : GS := { s1 with T := s1.T.set t { th1 with dn := decide (th1.pc = n) } }
theorem sp_rfence {t : Nat} {th : Thr} {ph : PH} (hT : ThOk c ps s t th ph) (h : g.ok W0 Kp ps s) {x : Ins} (hx : icheck x = 0) (hop : x.op = 16) (hpc : th.pc < ph.p.length ∧ ph.p.length ≤ 64) (aa : Option Addr) (al ac : Nat) (q : Own) :
    Spec Tryz.prog W0 44 [.pointer (some ⟨g.rb, 0, none⟩), chV t 0 aa al ac, x.v] (g.O c ps.length s ++ q) fun v own' => ∃ g1 : DP,
      (v = .bool true ∧ g1.ok W0 Kp ps { s with T := s.T.set t { th with pc := th.pc + 1 }, O := s.O.set t (s.O.getD t [] ++ [⟨th.pc, 6, 0⟩]) } ∧ g1.rb = g.rb) ∧ Ent W0 own' (g1.O c ps.length { s with T := s.T.set t { th with pc := th.pc + 1 }, O := s.O.set t (s.O.getD t [] ++ [⟨th.pc, 6, 0⟩]) } ++ q) := by
  refine spec_of mixed low_ref22_Global_single (by simp [ir_ref22_Global_single]) ?_
  have hT0 := h.t
  have hTR := hT0.rd (W0 := W0)
  have hth := hT.hth
  obtain ⟨ha, hb⟩ := ic_b hx
  have hb' : x.b.toNat < 8 := by omega
  have gb : th.enc[1 + x.b.toNat]? = some (.int .u64 (th.rg.get x.b.toNat)) := Thr.enc_get hb'
  have hwd := (check_ok hT.c0).1
  unfold okW at hwd
  have htS : t < g.S.length := by
    have h1 := congrArg List.length h.ol
    rw [List.length_map] at h1
    have := (List.getElem?_eq_some_iff.1 hth).1
    have := hT.tl
    omega
  have hob9 : ∀ l ∈ s.O, l.length ≤ 1000000 := fun l hl => by have := hT.ob l hl; omega
  have hln := fun own => sp_rlocal_n (W0 := W0) (b := ab g.ta) (o := ao g.ta + t * 11) (x := x) (by simp [isL, hop]) own
  have hse := fun E => sp_rsee (c := c) h htS hob9 th.pc 6 0 (E ++ q)
  obtain ⟨op, a, b', c', imm⟩ := x
  dsimp only [Ins.v] at *
  subst hop
  repeat' ((try (conv => whnf)); first | (refine br_te ?_ ?_; exact rfl) | (refine br_fe ?_ ?_; exact rfl) | (refine ldE (k := 1 + b'.toNat) (RdE.up hTR) hth ?_ gb ?_; omega) | (refine arw (k := .u64) ?_) | ((with_reducible show Ld _ _ _ _); first | (refine ldE0 hTR hth rfl ?_)) | ((with_reducible show IxS _ _ _ _ _); first | ((refine ixE hTR hth ?_ ?_; (first | rfl | omega)))) | ((with_reducible show CallT _ _ _ _ _ _); first | ((refine call_pe (hln _) ?_ ?_ ?_; (exact rfl); exact rfl)) | (((apply Stop.h)))) | (refine ixn ?_ ?_; omega) | (apply ld_o; exact rfl) | (apply ldN_a; exact rfl) | (refine new_i (fun bk hbk => ?_)))
  rename_i b4 h4
  have hse2 := hse [(bk, fun o => o = Obj.cells #[.int .i64 16, .int .i64 a, .int .i64 b', .int .i64 c', .int .i64 imm] 69 (0, 0)), (b4, fun o => o = Obj.cells #[.int .i64 t, .int .i64 0, .slice aa al ac] 43 (0, 0))]
  refine Stop.mk ?_
  repeat' ((try (conv => whnf)); first | ((with_reducible show CallT _ _ _ _ _ _); first | ((refine call_to hse2 ent_s1 ?_ ?_ (fun g1 v hv => ?_); (exact rfl); (exact rfl); (apply Stop.h)))))
  obtain ⟨hk1, hg1, -⟩ := hv
  have hta : g1.ta = g.ta := by rw [hg1]
  have hT1 := hk1.t
  have hR1 := hT1.rd (W0 := W0)
  rw [← hta]
  refine Stop.mk ?_
  repeat' ((try (conv => whnf)); first | (refine ldE (k := 0) (v := .int .i64 th.pc) (RdE.up hR1) hth ?_ rfl ?_; omega) | (apply stE_i (enc := Thr.enc) (T := 66) (j := t) (k := 0) { th with pc := th.pc + 1 } hT1 hth; (omega); (omega); (exact rfl); (exact rfl); intro D1 hb1) | (refine ari ?_ ?_; omega))
  refine ⟨{ g1 with tD := D1 }, ⟨rfl, ⟨hk1.d, hk1.m, hk1.k, hk1.kp, hb1, hk1.e, hk1.em, hk1.ev, hk1.o, hk1.os, hk1.ol⟩, by show g1.rb = g.rb; rw [hg1]⟩, ?_⟩
  dsimp only [DP.O, DP.cells]
  rw [List.length_set]
  exact ent_s2
end
end Go.Proofs.YtfompmhncnkcfaaGreatDoor
namespace Go.Proofs.YtfompmhncnkcfaaGreatDoor
open Go
set_option maxRecDepth 10000
set_option maxHeartbeats 16000000
theorem ar_eq {k : IntKind} {e z : Int} {K : Int → Prop} (h : k.wrap e = z) (hk : K z) : Arith k e K := arw (by rw [h]; exact hk)
section
variable {W0 : World} {Kp : Own} {g : DP} {c : Cfg} {ps : List PH} {s : GS}
theorem sp_rout13 {t : Nat} {th : Thr} {ph : PH} (hT : ThOk c ps s t th ph) (h : g.ok W0 Kp ps s) {x : Ins} (hx : icheck x = 0) (hop : x.op = 13) (hpc : th.pc < ph.p.length ∧ ph.p.length ≤ 64) {z : Nat} (hz : adr th.rg x.a x.imm = z) (hzo : c.words ≤ z) (aa : Option Addr) (al ac : Nat) (q : Own) :
    Spec Tryz.prog W0 44 [.pointer (some ⟨g.rb, 0, none⟩), chV t 0 aa al ac, x.v] (g.O c ps.length s ++ q) fun v own' => ∃ g1 : DP,
      (v = .bool true ∧ g1.ok W0 Kp ps { s with T := s.T.set t { th with pc := th.pc + 1 }, O := s.O.set t (s.O.getD t [] ++ [⟨th.pc, 7, 7⟩]) } ∧ g1.rb = g.rb) ∧ Ent W0 own' (g1.O c ps.length { s with T := s.T.set t { th with pc := th.pc + 1 }, O := s.O.set t (s.O.getD t [] ++ [⟨th.pc, 7, 7⟩]) } ++ q) := by
  refine spec_of mixed low_ref22_Global_single (by simp [ir_ref22_Global_single]) ?_
  have hT0 := h.t
  have hTR := hT0.rd (W0 := W0)
  have hD0 := h.d
  have hDR := hD0.rd (W0 := W0)
  have hth := hT.hth
  have htl := (List.getElem?_eq_some_iff.1 hth).1
  obtain ⟨ha, hb⟩ := ic_b hx
  have ha' : x.a.toNat < 8 := by omega
  have hb' : x.b.toNat < 8 := by omega
  have ga : th.enc[1 + x.a.toNat]? = some (.int .u64 (th.rg.get x.a.toNat)) := Thr.enc_get ha'
  have gb : th.enc[1 + x.b.toNat]? = some (.int .u64 (th.rg.get x.b.toNat)) := Thr.enc_get hb'
  have hwd := (check_ok hT.c0).1
  unfold okW at hwd
  have hdl := hT.dl
  have htS : t < g.S.length := by
    have h1 := congrArg List.length h.ol
    rw [List.length_map] at h1
    have := hT.tl
    omega
  have hob9 : ∀ l ∈ s.O, l.length ≤ 1000000 := fun l hl => by have := hT.ob l hl; omega
  have hel := hT.el
  have hln := fun own => sp_rlocal_n (W0 := W0) (b := ab g.ta) (o := ao g.ta + t * 11) (x := x) (by simp [isL, hop]) own
  obtain ⟨op, a, b', c', imm⟩ := x
  dsimp only [Ins.v] at *
  subst hop
  have hzw : IntKind.u64.wrap (th.rg.get a.toNat + IntKind.u64.wrap imm) = (z : Int) := hz
  have hse := fun (b4 bk : Nat) => sp_rsee (c := c) h htS hob9 th.pc 7 7 ([(bk, fun o => o = Obj.cells #[.int .i64 13, .int .i64 a, .int .i64 b', .int .i64 c', .int .i64 imm] 69 (0, 0)), (b4, fun o => o = Obj.cells #[.int .i64 t, .int .i64 0, .slice aa al ac] 43 (0, 0))] ++ q)
  repeat' ((try (conv => whnf)); first | (refine br_te ?_ ?_; exact rfl) | (refine br_fe ?_ ?_; exact rfl) | (apply br_npnE; (exact rfl); omega) | (refine ldE (k := 1 + b'.toNat) (RdE.up hTR) hth ?_ gb ?_; omega) | (refine ldE (k := 1 + a.toNat) (RdE.up hTR) hth ?_ ga ?_; omega) | (refine ar_eq hzw ?_) | (refine aru ?_ ?_; omega) | (refine arw (k := .u64) ?_) | ((with_reducible show Ld _ _ _ _); first | (refine ldE0 hTR hth rfl ?_)) | ((with_reducible show IxS _ _ _ _ _); first | ((refine ixE hTR hth ?_ ?_; (first | rfl | omega)))) | ((with_reducible show CallT _ _ _ _ _ _); first | ((refine call_pe (hln _) ?_ ?_ ?_; (exact rfl); exact rfl)) | (((apply Stop.h)))) | (refine ixn ?_ ?_; omega) | (apply ld_o; exact rfl) | (apply ldN_a; exact rfl) | (refine new_i (fun bk hbk => ?_)))
  rename_i b4 h4
  refine Stop.mk ?_
  repeat' ((try (conv => whnf)); first | ((with_reducible show CallT _ _ _ _ _ _); first | ((refine call_to (hse b4 bk) ent_s1 ?_ ?_ (fun g1 v hv => ?_); (exact rfl); (exact rfl); (apply Stop.h)))))
  obtain ⟨hk1, hg1, -⟩ := hv
  have hta1 : g1.ta = g.ta := by rw [hg1]
  have hT1 := hk1.t
  have hR1 := hT1.rd (W0 := W0)
  rw [← hta1]
  refine Stop.mk ?_
  repeat' ((try (conv => whnf)); first | (refine br_fe ?_ ?_; exact rfl) | (refine ldE (k := 0) (v := .int .i64 th.pc) (RdE.up hR1) hth ?_ rfl ?_; omega) | (apply stE_i (enc := Thr.enc) (T := 66) (j := t) (k := 0) { th with pc := th.pc + 1 } hT1 hth; (omega); (omega); (exact rfl); (exact rfl); intro D9 hb9) | (refine ari ?_ ?_; omega) | (apply ld_o; exact rfl))
  refine ⟨{ g1 with tD := D9 }, ⟨rfl, ⟨hk1.d, hk1.m, hk1.k, hk1.kp, hb9, hk1.e, hk1.em, hk1.ev, hk1.o, hk1.os, hk1.ol⟩, by show g1.rb = g.rb; rw [hg1]⟩, ?_⟩
  dsimp only [DP.O, DP.cells, GS.ev]
  rw [List.length_set]
  exact ent_s2
theorem sp_rforced {t : Nat} {th : Thr} {ph : PH} (hT : ThOk c ps s t th ph) (h : g.ok W0 Kp ps s) {x : Ins} (hx : icheck x = 0) (hop : x.op = 13) (hpc : th.pc < ph.p.length ∧ ph.p.length ≤ 64) {z : Nat} (hz : adr th.rg x.a x.imm = z) (hzi : (z : Int) < c.words) (hst : c.strong = true) (aa : Option Addr) (al ac : Nat) (q : Own) :
    Spec Tryz.prog W0 44 [.pointer (some ⟨g.rb, 0, none⟩), chV t 6 aa al ac, x.v] (g.O c ps.length s ++ q) fun v own' => ∃ g1 : DP,
      (v = .bool true ∧ g1.ok W0 Kp ps { s with T := s.T.set t { th with pc := th.pc + 1 }, O := s.O.set t (s.O.getD t [] ++ [⟨th.pc, 7, 6⟩]) } ∧ g1.rb = g.rb) ∧ Ent W0 own' (g1.O c ps.length { s with T := s.T.set t { th with pc := th.pc + 1 }, O := s.O.set t (s.O.getD t [] ++ [⟨th.pc, 7, 6⟩]) } ++ q) := by
  refine spec_of mixed low_ref22_Global_single (by simp [ir_ref22_Global_single]) ?_
  have hT0 := h.t
  have hTR := hT0.rd (W0 := W0)
  have hD0 := h.d
  have hDR := hD0.rd (W0 := W0)
  have hth := hT.hth
  have htl := (List.getElem?_eq_some_iff.1 hth).1
  obtain ⟨ha, hb⟩ := ic_b hx
  have ha' : x.a.toNat < 8 := by omega
  have hb' : x.b.toNat < 8 := by omega
  have ga : th.enc[1 + x.a.toNat]? = some (.int .u64 (th.rg.get x.a.toNat)) := Thr.enc_get ha'
  have gb : th.enc[1 + x.b.toNat]? = some (.int .u64 (th.rg.get x.b.toNat)) := Thr.enc_get hb'
  have hwd := (check_ok hT.c0).1
  unfold okW at hwd
  have hdl := hT.dl
  have htS : t < g.S.length := by
    have h1 := congrArg List.length h.ol
    rw [List.length_map] at h1
    have := hT.tl
    omega
  have hob9 : ∀ l ∈ s.O, l.length ≤ 1000000 := fun l hl => by have := hT.ob l hl; omega
  have hel := hT.el
  have hln := fun own => sp_rlocal_n (W0 := W0) (b := ab g.ta) (o := ao g.ta + t * 11) (x := x) (by simp [isL, hop]) own
  obtain ⟨op, a, b', c', imm⟩ := x
  dsimp only [Ins.v] at *
  subst hop
  have hzw : IntKind.u64.wrap (th.rg.get a.toNat + IntKind.u64.wrap imm) = (z : Int) := hz
  have hse := fun (b4 bk : Nat) => sp_rsee (c := c) h htS hob9 th.pc 7 6 ([(bk, fun o => o = Obj.cells #[.int .i64 13, .int .i64 a, .int .i64 b', .int .i64 c', .int .i64 imm] 69 (0, 0)), (b4, fun o => o = Obj.cells #[.int .i64 t, .int .i64 6, .slice aa al ac] 43 (0, 0))] ++ q)
  have hns : (!c.strong) = false := by rw [hst]; rfl
  repeat' ((try (conv => whnf)); first | (refine when_ye ?_ ?_; exact rfl) | (refine br_te ?_ ?_; exact rfl) | (apply br_npyE; (exact rfl); omega) | (refine when_ye hns ?_) | (refine ldE (k := 1 + b'.toNat) (RdE.up hTR) hth ?_ gb ?_; omega) | (refine ldE (k := 1 + a.toNat) (RdE.up hTR) hth ?_ ga ?_; omega) | (refine ar_eq hzw ?_) | (refine aru ?_ ?_; omega) | (refine arw (k := .u64) ?_) | ((with_reducible show Ld _ _ _ _); first | (refine ldE0 hTR hth rfl ?_)) | ((with_reducible show IxS _ _ _ _ _); first | ((refine ixE hTR hth ?_ ?_; (first | rfl | omega)))) | ((with_reducible show CallT _ _ _ _ _ _); first | (((apply Stop.h)))) | (refine ixn ?_ ?_; omega) | (apply ld_o; exact rfl) | (refine new_i (fun bk hbk => ?_)))
  rename_i b4 h4
  refine Stop.mk ?_
  repeat' ((try (conv => whnf)); first | ((with_reducible show CallT _ _ _ _ _ _); first | ((refine call_to (hse b4 bk) ent_s1 ?_ ?_ (fun g1 v hv => ?_); (exact rfl); (exact rfl); (apply Stop.h)))))
  obtain ⟨hk1, hg1, -⟩ := hv
  have hta1 : g1.ta = g.ta := by rw [hg1]
  have hT1 := hk1.t
  have hR1 := hT1.rd (W0 := W0)
  rw [← hta1]
  refine Stop.mk ?_
  repeat' ((try (conv => whnf)); first | (refine ldE (k := 0) (v := .int .i64 th.pc) (RdE.up hR1) hth ?_ rfl ?_; omega) | (apply stE_i (enc := Thr.enc) (T := 66) (j := t) (k := 0) { th with pc := th.pc + 1 } hT1 hth; (omega); (omega); (exact rfl); (exact rfl); intro D9 hb9) | (refine ari ?_ ?_; omega))
  refine ⟨{ g1 with tD := D9 }, ⟨rfl, ⟨hk1.d, hk1.m, hk1.k, hk1.kp, hb9, hk1.e, hk1.em, hk1.ev, hk1.o, hk1.os, hk1.ol⟩, by show g1.rb = g.rb; rw [hg1]⟩, ?_⟩
  dsimp only [DP.O, DP.cells, GS.ev]
  rw [List.length_set]
  exact ent_s2
theorem sp_rout12 {t : Nat} {th : Thr} {ph : PH} (hT : ThOk c ps s t th ph) (h : g.ok W0 Kp ps s) {x : Ins} (hx : icheck x = 0) (hop : x.op = 12) (hpc : th.pc < ph.p.length ∧ ph.p.length ≤ 64) {z : Nat} (hz : adr th.rg x.b x.imm = z) (hzo : c.words ≤ z) (aa : Option Addr) (al ac : Nat) (q : Own) :
    Spec Tryz.prog W0 44 [.pointer (some ⟨g.rb, 0, none⟩), chV t 0 aa al ac, x.v] (g.O c ps.length s ++ q) fun v own' => ∃ g1 : DP,
      (v = .bool true ∧ g1.ok W0 Kp ps { s with T := s.T.set t { th with rg := th.rg.set x.a.toNat 0, pc := th.pc + 1 }, O := s.O.set t (s.O.getD t [] ++ [⟨th.pc, 7, 7⟩]) } ∧ g1.rb = g.rb) ∧ Ent W0 own' (g1.O c ps.length { s with T := s.T.set t { th with rg := th.rg.set x.a.toNat 0, pc := th.pc + 1 }, O := s.O.set t (s.O.getD t [] ++ [⟨th.pc, 7, 7⟩]) } ++ q) := by
  refine spec_of mixed low_ref22_Global_single (by simp [ir_ref22_Global_single]) ?_
  have hT0 := h.t
  have hTR := hT0.rd (W0 := W0)
  have hD0 := h.d
  have hDR := hD0.rd (W0 := W0)
  have hth := hT.hth
  have htl := (List.getElem?_eq_some_iff.1 hth).1
  obtain ⟨ha, hb⟩ := ic_b hx
  have ha' : x.a.toNat < 8 := by omega
  have hb' : x.b.toNat < 8 := by omega
  have ga : th.enc[1 + x.a.toNat]? = some (.int .u64 (th.rg.get x.a.toNat)) := Thr.enc_get ha'
  have gb : th.enc[1 + x.b.toNat]? = some (.int .u64 (th.rg.get x.b.toNat)) := Thr.enc_get hb'
  have hwd := (check_ok hT.c0).1
  unfold okW at hwd
  have hdl := hT.dl
  have htS : t < g.S.length := by
    have h1 := congrArg List.length h.ol
    rw [List.length_map] at h1
    have := hT.tl
    omega
  have hob9 : ∀ l ∈ s.O, l.length ≤ 1000000 := fun l hl => by have := hT.ob l hl; omega
  have hel := hT.el
  have hln := fun own => sp_rlocal_n (W0 := W0) (b := ab g.ta) (o := ao g.ta + t * 11) (x := x) (by simp [isL, hop]) own
  obtain ⟨op, a, b', c', imm⟩ := x
  dsimp only [Ins.v] at *
  subst hop
  have hzw : IntKind.u64.wrap (th.rg.get b'.toNat + IntKind.u64.wrap imm) = (z : Int) := hz
  have hth2 : (s.T.set t { th with rg := th.rg.set a.toNat 0 })[t]? = some { th with rg := th.rg.set a.toNat 0 } := List.getElem?_set_self htl
  have hse := fun (b4 bk : Nat) => sp_rsee (c := c) h htS hob9 th.pc 7 7 ([(bk, fun o => o = Obj.cells #[.int .i64 12, .int .i64 a, .int .i64 b', .int .i64 c', .int .i64 imm] 69 (0, 0)), (b4, fun o => o = Obj.cells #[.int .i64 t, .int .i64 0, .slice aa al ac] 43 (0, 0))] ++ q)
  repeat' ((try (conv => whnf)); first | (refine br_fe ?_ ?_; exact rfl) | (apply br_npnE; (exact rfl); omega) | (refine ldE (k := 1 + b'.toNat) (RdE.up hTR) hth ?_ gb ?_; omega) | (refine ar_eq hzw ?_) | (refine aru ?_ ?_; omega) | (refine arw (k := .u64) ?_) | ((with_reducible show Ld _ _ _ _); first | (refine ldE0 hTR hth rfl ?_)) | ((with_reducible show IxS _ _ _ _ _); first | ((refine ixE hTR hth ?_ ?_; (first | rfl | omega)))) | ((with_reducible show CallT _ _ _ _ _ _); first | ((refine call_pe (hln _) ?_ ?_ ?_; (exact rfl); exact rfl)) | (((apply Stop.h)))) | (refine ixn ?_ ?_; omega) | (apply ld_o; exact rfl) | (apply ldN_a; exact rfl) | (refine new_i (fun bk hbk => ?_)))
  rename_i b4 h4
  refine Stop.mk ?_
  repeat' ((try (conv => whnf)); first | ((with_reducible show CallT _ _ _ _ _ _); first | ((refine call_to (hse b4 bk) ent_s1 ?_ ?_ (fun g1 v hv => ?_); (exact rfl); (exact rfl); (apply Stop.h)))))
  obtain ⟨hk1, hg1, -⟩ := hv
  have hta1 : g1.ta = g.ta := by rw [hg1]
  have hT1 := hk1.t
  have hR1 := hT1.rd (W0 := W0)
  rw [← hta1]
  refine Stop.mk ?_
  repeat' ((try (conv => whnf)); first | (refine br_te ?_ ?_; exact rfl) | (refine ldE (k := 0) (v := .int .i64 th.pc) (RdE.up (hb8.rd (W0 := W0))) hth2 ?_ rfl ?_; omega) | (apply stE_i (enc := Thr.enc) (T := 66) (j := t) (k := 0) { th with rg := th.rg.set a.toNat 0, pc := th.pc + 1 } hb8 hth2; (omega); (omega); (exact rfl); (exact rfl); intro D9 hb9) | (apply stE_i (enc := Thr.enc) (T := 66) (j := t) (k := 1 + a.toNat) { th with rg := th.rg.set a.toNat 0 } hT1 hth; (omega); (omega); (exact (Thr.enc_set ha').symm); (exact rfl); intro D8 hb8) | (refine ari ?_ ?_; omega) | (refine ixn ?_ ?_; omega) | (apply ld_o; exact rfl))
  rw [List.set_set] at hb9
  refine ⟨{ g1 with tD := D9 }, ⟨rfl, ⟨hk1.d, hk1.m, hk1.k, hk1.kp, hb9, hk1.e, hk1.em, hk1.ev, hk1.o, hk1.os, hk1.ol⟩, by show g1.rb = g.rb; rw [hg1]⟩, ?_⟩
  dsimp only [DP.O, DP.cells]
  rw [List.length_set]
  exact ent_s2
theorem sp_rin12 {t : Nat} {th : Thr} {ph : PH} (hT : ThOk c ps s t th ph) (h : g.ok W0 Kp ps s) {x : Ins} (hx : icheck x = 0) (hop : x.op = 12) (hpc : th.pc < ph.p.length ∧ ph.p.length ≤ 64) {z : Nat} (hz : adr th.rg x.b x.imm = z) (hzi : (z : Int) < c.words) (aa : Option Addr) (al ac : Nat) (q : Own) :
    Spec Tryz.prog W0 44 [.pointer (some ⟨g.rb, 0, none⟩), chV t 0 aa al ac, x.v] (g.O c ps.length s ++ q) fun v own' => ∃ g1 : DP,
      (v = .bool true ∧ g1.ok W0 Kp ps { s with T := s.T.set t { th with rg := th.rg.set x.a.toNat (s.d.getD z 0), pc := th.pc + 1 }, O := s.O.set t (s.O.getD t [] ++ [⟨th.pc, 4, s.d.getD z 0⟩]), E := s.E ++ plE c s.n t 1 z } ∧ g1.rb = g.rb) ∧ Ent W0 own' (g1.O c ps.length { s with T := s.T.set t { th with rg := th.rg.set x.a.toNat (s.d.getD z 0), pc := th.pc + 1 }, O := s.O.set t (s.O.getD t [] ++ [⟨th.pc, 4, s.d.getD z 0⟩]), E := s.E ++ plE c s.n t 1 z } ++ q) := by
  refine spec_of mixed low_ref22_Global_single (by simp [ir_ref22_Global_single]) ?_
  have hT0 := h.t
  have hTR := hT0.rd (W0 := W0)
  have hD0 := h.d
  have hDR := hD0.rd (W0 := W0)
  have hth := hT.hth
  have htl := (List.getElem?_eq_some_iff.1 hth).1
  obtain ⟨ha, hb⟩ := ic_b hx
  have ha' : x.a.toNat < 8 := by omega
  have hb' : x.b.toNat < 8 := by omega
  have ga : th.enc[1 + x.a.toNat]? = some (.int .u64 (th.rg.get x.a.toNat)) := Thr.enc_get ha'
  have gb : th.enc[1 + x.b.toNat]? = some (.int .u64 (th.rg.get x.b.toNat)) := Thr.enc_get hb'
  have hwd := (check_ok hT.c0).1
  unfold okW at hwd
  have hdl := hT.dl
  have htS : t < g.S.length := by
    have h1 := congrArg List.length h.ol
    rw [List.length_map] at h1
    have := hT.tl
    omega
  have hob9 : ∀ l ∈ s.O, l.length ≤ 1000000 := fun l hl => by have := hT.ob l hl; omega
  have hel := hT.el
  have hln := fun own => sp_rlocal_n (W0 := W0) (b := ab g.ta) (o := ao g.ta + t * 11) (x := x) (by simp [isL, hop]) own
  obtain ⟨op, a, b', c', imm⟩ := x
  dsimp only [Ins.v] at *
  subst hop
  have hzw : IntKind.u64.wrap (th.rg.get b'.toNat + IntKind.u64.wrap imm) = (z : Int) := hz
  obtain ⟨dz, hdz⟩ : ∃ dz, s.d[z]? = some dz := ⟨_, List.getElem?_eq_getElem (by omega)⟩
  have hdd : s.d.getD z 0 = dz := by rw [List.getD_eq_getElem?_getD, hdz]; rfl
  rw [hdd]
  have hth2 : (s.T.set t { th with rg := th.rg.set a.toNat dz })[t]? = some { th with rg := th.rg.set a.toNat dz } := List.getElem?_set_self htl
  have hse := fun (D8 : Own) (hb8 : BufE Thr.enc 66 11 g.ta g.tc (s.T.set t { th with rg := th.rg.set a.toNat dz }) D8) (b4 bk : Nat) => sp_rsee (c := c) (g := { g with tD := D8 }) (s := { s with T := s.T.set t { th with rg := th.rg.set a.toNat dz } }) ⟨h.d, h.m, h.k, h.kp, hb8, h.e, h.em, h.ev, h.o, h.os, h.ol⟩ htS hob9 th.pc 4 dz ([(bk, fun o => o = Obj.cells #[.int .i64 12, .int .i64 a, .int .i64 b', .int .i64 c', .int .i64 imm] 69 (0, 0)), (b4, fun o => o = Obj.cells #[.int .i64 t, .int .i64 0, .slice aa al ac] 43 (0, 0))] ++ q)
  repeat' ((try (conv => whnf)); first | (refine br_te ?_ ?_; exact rfl) | (refine br_fe ?_ ?_; exact rfl) | (apply br_npyE; (exact rfl); omega) | (refine ldE (k := 1 + b'.toNat) (RdE.up hTR) hth ?_ gb ?_; omega) | (refine ar_eq hzw ?_) | (refine aru ?_ ?_; omega) | (refine arw (k := .u64) ?_) | (apply stE_i (enc := Thr.enc) (T := 66) (j := t) (k := 1 + a.toNat) { th with rg := th.rg.set a.toNat dz } hT0 hth; (omega); (omega); (exact (Thr.enc_set ha').symm); (exact rfl); intro D8 hb8) | (refine ldE (k := 0) (v := .int .i64 th.pc) (RdE.up (hb8.rd (W0 := W0))) hth2 ?_ rfl ?_; omega) | ((with_reducible show Ld _ _ _ _); first | (refine ldE0 hDR hdz rfl ?_)) | ((with_reducible show IxS _ _ _ _ _); first | ((refine ixE hDR hdz ?_ ?_; (first | rfl | omega))) | ((refine ixE hTR hth ?_ ?_; (first | rfl | omega)))) | ((with_reducible show CallT _ _ _ _ _ _); first | ((refine call_pe (hln _) ?_ ?_ ?_; (exact rfl); exact rfl)) | (((apply Stop.h)))) | (refine ixn ?_ ?_; omega) | (apply ld_o; exact rfl) | (apply ldN_a; exact rfl) | (refine new_i (fun bk hbk => ?_)))
  rename_i b4 h4
  refine Stop.mk ?_
  repeat' ((try (conv => whnf)); first | ((with_reducible show CallT _ _ _ _ _ _); first | ((refine call_to (hse D8 hb8 b4 bk) ?_ ?_ ?_ (fun g1 v hv => ?_); (dsimp only [DP.O, DP.cells]; rw [List.length_set]; exact ent_s1); (exact rfl); (exact rfl); (apply Stop.h)))))
  obtain ⟨hk1, hg1, -⟩ := hv
  have hrb1 : g1.rb = g.rb := by rw [hg1]
  have hpl := fun (b4 bk : Nat) => sp_rplain (c := c) hk1 (by show s.E.length ≤ _; omega) t z (k := 1) (.inl rfl) ([(bk, fun o => o = Obj.cells #[.int .i64 12, .int .i64 a, .int .i64 b', .int .i64 c', .int .i64 imm] 69 (0, 0)), (b4, fun o => o = Obj.cells #[.int .i64 t, .int .i64 0, .slice aa al ac] 43 (0, 0))] ++ q)
  rw [← hrb1]
  refine Stop.mk ?_
  repeat' ((try (conv => whnf)); first | ((with_reducible show CallT _ _ _ _ _ _); first | ((refine call_to (hpl b4 bk) Ent.refl ?_ ?_ (fun g2 v hv => ?_); (exact rfl); (exact rfl); (apply Stop.h)))) | (refine ari ?_ ?_; omega) | (apply ld_o; exact rfl))
  obtain ⟨hk2, hg2⟩ := hv
  have hta2 : g2.ta = g.ta := by rw [hg2, hg1]
  have hT2 := hk2.t
  have hR2 := hT2.rd (W0 := W0)
  rw [← hta2]
  refine Stop.mk ?_
  repeat' ((try (conv => whnf)); first | (refine ldE (k := 0) (v := .int .i64 th.pc) (RdE.up hR2) hth2 ?_ rfl ?_; omega) | (apply stE_i (enc := Thr.enc) (T := 66) (j := t) (k := 0) { th with rg := th.rg.set a.toNat dz, pc := th.pc + 1 } hT2 hth2; (omega); (omega); (exact rfl); (exact rfl); intro D9 hb9) | (refine ari ?_ ?_; omega))
  dsimp only [GS.ev] at hb9
  rw [List.set_set] at hb9
  refine ⟨{ g2 with tD := D9 }, ⟨rfl, ⟨hk2.d, hk2.m, hk2.k, hk2.kp, hb9, hk2.e, hk2.em, hk2.ev, hk2.o, hk2.os, hk2.ol⟩, by show g2.rb = g1.rb; rw [hg2]⟩, ?_⟩
  dsimp only [DP.O, DP.cells, GS.ev]
  simp only [List.length_set]
  exact ent_s2
theorem sp_rin13 {t : Nat} {th : Thr} {ph : PH} (hT : ThOk c ps s t th ph) (h : g.ok W0 Kp ps s) {x : Ins} (hx : icheck x = 0) (hop : x.op = 13) (hpc : th.pc < ph.p.length ∧ ph.p.length ≤ 64) {z : Nat} (hz : adr th.rg x.a x.imm = z) (hzi : (z : Int) < c.words) (aa : Option Addr) (al ac : Nat) (q : Own) :
    Spec Tryz.prog W0 44 [.pointer (some ⟨g.rb, 0, none⟩), chV t 0 aa al ac, x.v] (g.O c ps.length s ++ q) fun v own' => ∃ g1 : DP,
      (v = .bool true ∧ g1.ok W0 Kp ps { s with d := s.d.set z (th.rg.get x.b.toNat), T := s.T.set t { th with pc := th.pc + 1 }, O := s.O.set t (s.O.getD t [] ++ [⟨th.pc, 5, th.rg.get x.b.toNat⟩]), E := s.E ++ plE c s.n t 2 z } ∧ g1.rb = g.rb) ∧ Ent W0 own' (g1.O c ps.length { s with d := s.d.set z (th.rg.get x.b.toNat), T := s.T.set t { th with pc := th.pc + 1 }, O := s.O.set t (s.O.getD t [] ++ [⟨th.pc, 5, th.rg.get x.b.toNat⟩]), E := s.E ++ plE c s.n t 2 z } ++ q) := by
  refine spec_of mixed low_ref22_Global_single (by simp [ir_ref22_Global_single]) ?_
  have hT0 := h.t
  have hTR := hT0.rd (W0 := W0)
  have hD0 := h.d
  have hDR := hD0.rd (W0 := W0)
  have hth := hT.hth
  have htl := (List.getElem?_eq_some_iff.1 hth).1
  obtain ⟨ha, hb⟩ := ic_b hx
  have ha' : x.a.toNat < 8 := by omega
  have hb' : x.b.toNat < 8 := by omega
  have ga : th.enc[1 + x.a.toNat]? = some (.int .u64 (th.rg.get x.a.toNat)) := Thr.enc_get ha'
  have gb : th.enc[1 + x.b.toNat]? = some (.int .u64 (th.rg.get x.b.toNat)) := Thr.enc_get hb'
  have hwd := (check_ok hT.c0).1
  unfold okW at hwd
  have hdl := hT.dl
  have htS : t < g.S.length := by
    have h1 := congrArg List.length h.ol
    rw [List.length_map] at h1
    have := hT.tl
    omega
  have hob9 : ∀ l ∈ s.O, l.length ≤ 1000000 := fun l hl => by have := hT.ob l hl; omega
  have hel := hT.el
  have hln := fun own => sp_rlocal_n (W0 := W0) (b := ab g.ta) (o := ao g.ta + t * 11) (x := x) (by simp [isL, hop]) own
  obtain ⟨op, a, b', c', imm⟩ := x
  dsimp only [Ins.v] at *
  subst hop
  have hzw : IntKind.u64.wrap (th.rg.get a.toNat + IntKind.u64.wrap imm) = (z : Int) := hz
  obtain ⟨dz, hdz⟩ : ∃ dz, s.d[z]? = some dz := ⟨_, List.getElem?_eq_getElem (by omega)⟩
  have hse := fun (D7 : Own) (hb7 : BufE encU 63 1 g.da g.dc (s.d.set z (th.rg.get b'.toNat)) D7) (b4 bk : Nat) => sp_rsee (c := c) (g := { g with dD := D7 }) (s := { s with d := s.d.set z (th.rg.get b'.toNat) }) ⟨hb7, h.m, h.k, h.kp, h.t, h.e, h.em, h.ev, h.o, h.os, h.ol⟩ htS hob9 th.pc 5 (th.rg.get b'.toNat) ([(bk, fun o => o = Obj.cells #[.int .i64 13, .int .i64 a, .int .i64 b', .int .i64 c', .int .i64 imm] 69 (0, 0)), (b4, fun o => o = Obj.cells #[.int .i64 t, .int .i64 0, .slice aa al ac] 43 (0, 0))] ++ q)
  repeat' ((try (conv => whnf)); first | (refine br_te ?_ ?_; exact rfl) | (refine br_fe ?_ ?_; exact rfl) | (apply br_npyE; (exact rfl); omega) | (refine ldE (k := 1 + b'.toNat) (RdE.up hTR) hth ?_ gb ?_; omega) | (refine ldE (k := 1 + a.toNat) (RdE.up hTR) hth ?_ ga ?_; omega) | (refine ar_eq hzw ?_) | (refine aru ?_ ?_; omega) | (refine arw (k := .u64) ?_) | (apply stE_i (enc := encU) (T := 63) (j := z) (k := 0) (th.rg.get b'.toNat) hD0 hdz; (omega); (omega); (exact rfl); (exact rfl); intro D7 hb7) | ((with_reducible show Ld _ _ _ _); first | (refine ldE0 hTR hth rfl ?_)) | ((with_reducible show IxS _ _ _ _ _); first | ((refine ixE hDR hdz ?_ ?_; (first | rfl | omega))) | ((refine ixE hTR hth ?_ ?_; (first | rfl | omega)))) | ((with_reducible show CallT _ _ _ _ _ _); first | ((refine call_pe (hln _) ?_ ?_ ?_; (exact rfl); exact rfl)) | (((apply Stop.h)))) | (refine ixn ?_ ?_; omega) | (apply ld_o; exact rfl) | (apply ldN_a; exact rfl) | (refine new_i (fun bk hbk => ?_)))
  rename_i b4 h4
  refine Stop.mk ?_
  repeat' ((try (conv => whnf)); first | ((with_reducible show CallT _ _ _ _ _ _); first | ((refine call_to (hse D7 hb7 b4 bk) ?_ ?_ ?_ (fun g1 v hv => ?_); (dsimp only [DP.O, DP.cells]; rw [List.length_set]; exact ent_s1); (exact rfl); (exact rfl); (apply Stop.h)))))
  obtain ⟨hk1, hg1, -⟩ := hv
  have hrb1 : g1.rb = g.rb := by rw [hg1]
  have hpl := fun (b4 bk : Nat) => sp_rplain (c := c) hk1 (by show s.E.length ≤ _; omega) t z (k := 2) (.inr rfl) ([(bk, fun o => o = Obj.cells #[.int .i64 13, .int .i64 a, .int .i64 b', .int .i64 c', .int .i64 imm] 69 (0, 0)), (b4, fun o => o = Obj.cells #[.int .i64 t, .int .i64 0, .slice aa al ac] 43 (0, 0))] ++ q)
  rw [← hrb1]
  refine Stop.mk ?_
  repeat' ((try (conv => whnf)); first | ((with_reducible show CallT _ _ _ _ _ _); first | ((refine call_to (hpl b4 bk) Ent.refl ?_ ?_ (fun g2 v hv => ?_); (exact rfl); (exact rfl); (apply Stop.h)))) | (refine ari ?_ ?_; omega) | (apply ld_o; exact rfl))
  obtain ⟨hk2, hg2⟩ := hv
  have hta2 : g2.ta = g.ta := by rw [hg2, hg1]
  have hT2 := hk2.t
  have hR2 := hT2.rd (W0 := W0)
  rw [← hta2]
  refine Stop.mk ?_
  repeat' ((try (conv => whnf)); first | (refine ldE (k := 0) (v := .int .i64 th.pc) (RdE.up hR2) hth ?_ rfl ?_; omega) | (apply stE_i (enc := Thr.enc) (T := 66) (j := t) (k := 0) { th with pc := th.pc + 1 } hT2 hth; (omega); (omega); (exact rfl); (exact rfl); intro D9 hb9) | (refine ari ?_ ?_; omega))
  dsimp only [GS.ev] at hb9
  refine ⟨{ g2 with tD := D9 }, ⟨rfl, ⟨hk2.d, hk2.m, hk2.k, hk2.kp, hb9, hk2.e, hk2.em, hk2.ev, hk2.o, hk2.os, hk2.ol⟩, by show g2.rb = g1.rb; rw [hg2]⟩, ?_⟩
  dsimp only [DP.O, DP.cells, GS.ev]
  simp only [List.length_set]
  exact ent_s2
end
end Go.Proofs.YtfompmhncnkcfaaGreatDoor
