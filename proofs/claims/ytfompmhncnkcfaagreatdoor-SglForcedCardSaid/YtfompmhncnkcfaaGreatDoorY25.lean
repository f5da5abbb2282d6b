/- What the laws share, part 25. No condition. -/
import Derived.Test.YtfompmhncnkcfaaGreatDoorY24
namespace Go.Proofs.YtfompmhncnkcfaaGreatDoor
open Go
set_option maxRecDepth 10000
set_option maxHeartbeats 8000000
structure SzG (s : GS) : Prop where
  d : s.d.length ≤ 500000
  t : s.T.length ≤ 500000
  e : s.E.length ≤ 500000
  o : s.O.length ≤ 500000
  ol : ∀ l ∈ s.O, l.length ≤ 500000
  ev : ∀ e ∈ s.E, e.r.length ≤ 500000 ∧ e.wl.length ≤ 500000
theorem GOk.sz {c : Cfg} {P : List (List Ins)} {s : GS} (h : GOk c P s) (hn : s.n ≤ 5000) (hP : P.length ≤ 16) : SzG s := by
  have h0 := (check_ok h.c0).1
  unfold okW at h0
  have h1 := h.dl
  have h2 := h.tl
  have h3 := h.ol
  have h4 := h.el
  exact ⟨by omega, by omega, by omega, by omega, fun l hl => by have := h.ob l hl; omega, fun e he => by have := (h.ev.1 e he).2.2.2; omega⟩
structure RG.at (r : RG) (W0 : World) (s : GS) (own : Own) : Prop where
  d : RdE encU 1 W0 own r.da s.d
  t : RdE Thr.enc 11 W0 own r.ta s.T
  e : RdE EH.enc 6 W0 own r.ea r.L
  em : r.L.map EH.m = s.E
  ev : ∀ e ∈ r.L, RdE encI 1 W0 own e.ra e.rl ∧ RdE encI 1 W0 own e.wa e.wl
  o : RdE ObS.enc 1 W0 own r.oa r.S
  os : ∀ x ∈ r.S, RdE ObM.enc 3 W0 own x.a x.l
  ol : r.S.map ObS.l = s.O
section
variable {W0 : World} {own : Own} {r r1 r2 : RG} {s s1 s2 : GS}
theorem ent_ownS {S : List ObS} {x : ObS} (hx : x ∈ S) : Ent W0 (ownS S) x.D := by
  obtain ⟨j, hj⟩ := List.getElem?_of_mem hx
  rw [ownS_split hj]
  exact ent_cnt (ownS (S.take j) ++ ownS (S.drop (j + 1))) fun a => by simp only [cnt_app]; omega
theorem RG.ok.at (h : r.ok W0 s) (he : Ent W0 own r.D) : r.at W0 s own := by
  unfold RG.D at he
  have e1 : Ent W0 own r.dD := he.trans (ent_cnt (r.tD ++ (r.eD ++ (r.X ++ (r.oD ++ ownS r.S)))) fun a => by simp only [cnt_app])
  have e2 : Ent W0 own r.tD := he.trans (ent_cnt (r.dD ++ (r.eD ++ (r.X ++ (r.oD ++ ownS r.S)))) fun a => by simp only [cnt_app]; omega)
  have e3 : Ent W0 own r.eD := he.trans (ent_cnt (r.dD ++ (r.tD ++ (r.X ++ (r.oD ++ ownS r.S)))) fun a => by simp only [cnt_app]; omega)
  have e4 : Ent W0 own r.X := he.trans (ent_cnt (r.dD ++ (r.tD ++ (r.eD ++ (r.oD ++ ownS r.S)))) fun a => by simp only [cnt_app]; omega)
  have e5 : Ent W0 own r.oD := he.trans (ent_cnt (r.dD ++ (r.tD ++ (r.eD ++ (r.X ++ ownS r.S)))) fun a => by simp only [cnt_app]; omega)
  have e6 : Ent W0 own (ownS r.S) := he.trans (ent_cnt (r.dD ++ (r.tD ++ (r.eD ++ (r.X ++ r.oD)))) fun a => by simp only [cnt_app]; omega)
  exact ⟨h.d.rd.ent e1, h.t.rd.ent e2, h.e.rd.ent e3, h.em, fun e he => ⟨(h.ev e he).1.ent e4, (h.ev e he).2.ent e4⟩, h.o.rd.ent e5, fun x hx => (h.os x hx).rd.ent (e6.trans (ent_ownS hx)), h.ol⟩
theorem RG.at.mono {own' : Own} (h : r.at W0 s own) (he : Ent W0 own' own) : r.at W0 s own' :=
  ⟨h.d.ent he, h.t.ent he, h.e.ent he, h.em, fun e hx => ⟨(h.ev e hx).1.ent he, (h.ev e hx).2.ent he⟩, h.o.ent he, fun x hx => (h.os x hx).ent he, h.ol⟩
theorem RG.at.el (h : r.at W0 s own) : r.L.length = s.E.length := by rw [← h.em, List.length_map]
theorem RG.at.sl (h : r.at W0 s own) : r.S.length = s.O.length := by rw [← h.ol, List.length_map]
theorem sp_kEv (h1 : r1.at W0 s1 own) (h2 : r2.at W0 s2 own) (he : s1.E = s2.E) (hz : SzG s1) : Pure Tryz.prog W0 25 [.slice r1.ea r1.L.length r1.ec, .slice r2.ea r2.L.length r2.ec] own (.bool true) :=
  sp_kevents (by rw [h1.em, h2.em, he]) h1.e h2.e (by rw [h1.el]; have := hz.e; omega) (fun e hx => ⟨h1.ev e hx, by have := hz.ev e.m (by rw [← h1.em]; exact List.mem_map_of_mem hx); unfold EH.m at this; dsimp only at this; omega⟩) h2.ev
theorem sp_kOb (h1 : r1.at W0 s1 own) (h2 : r2.at W0 s2 own) (he : s1.O = s2.O) (hz : SzG s1) : Pure Tryz.prog W0 27 [.slice r1.oa r1.S.length r1.oc, .slice r2.oa r2.S.length r2.oc] own (.bool true) :=
  sp_kobs (by rw [h1.ol, h2.ol, he]) h1.o h2.o (by rw [h1.sl]; have := hz.o; omega) (fun x hx => ⟨h1.os x hx, by have := hz.ol x.l (by rw [← h1.ol]; exact List.mem_map_of_mem hx); omega⟩) h2.os
theorem sp_kglobal (h1 : r1.at W0 s own) (h2 : r2.at W0 s own) (hz : SzG s) : Pure Tryz.prog W0 16 [r1.v s, r2.v s] own (.bool true) := by
  refine pure_of (spec_of mixed low_kit_Global (by simp [ir_kit_Global]) ?_)
  have hd := fun (own' : Own) (e : EntC own' own) => sp_kwords (c1 := r1.dc) (c2 := r2.dc) (h1.mono (e.h W0)).d (h2.mono (e.h W0)).d (by have := hz.d; omega)
  have ht := fun (own' : Own) (e : EntC own' own) => sp_kthreads (c1 := r1.tc) (c2 := r2.tc) (h1.mono (e.h W0)).t (h2.mono (e.h W0)).t (by have := hz.t; omega)
  have he := fun (own' : Own) (e : EntC own' own) => sp_kEv (h1.mono (e.h W0)) (h2.mono (e.h W0)) rfl hz
  have ho := fun (own' : Own) (e : EntC own' own) => sp_kOb (h1.mono (e.h W0)) (h2.mono (e.h W0)) rfl hz
  repeat' ((try (conv => whnf)); first | (refine when_ye ?_ ?_; exact rfl) | ((with_reducible show CallT _ _ _ _ _ _); first | ((refine call_pe (hd _ inferInstance) ?_ ?_ ?_; (exact rfl); exact rfl)) | ((refine call_pe (ht _ inferInstance) ?_ ?_ ?_; (exact rfl); exact rfl)) | ((refine call_pe (he _ inferInstance) ?_ ?_ ?_; (exact rfl); exact rfl)) | ((refine call_pe (ho _ inferInstance) ?_ ?_ ?_; (exact rfl); exact rfl))) | (apply ld_o; exact rfl) | (refine new_i (fun bk hbk => ?_)))
  all_goals exact ⟨ret1 rfl, (by first | exact ent_i | (repeat (first | exact Ent.refl | exact Ent.left | refine Ent.cons ?_ | refine Ent.app ?_)))⟩
end
end Go.Proofs.YtfompmhncnkcfaaGreatDoor
namespace Go.Proofs.YtfompmhncnkcfaaGreatDoor
open Go
set_option maxRecDepth 10000
set_option maxHeartbeats 8000000
abbrev MS.P (m : MS) : List (List Ins) := (m.ps.map PB.h).map PH.p
theorem psG_all : ∀ (ps : List PH) (t : Nat), (∀ h ∈ ps, checkP h.p = (0, 0)) → psG ps t = none
  | [], _, _ => rfl
  | x :: l, t, h => by
    unfold psG
    rw [h x List.mem_cons_self, if_neg (by simp)]
    exact psG_all l (t + 1) fun y hy => h y (List.mem_cons_of_mem _ hy)
theorem MS.ok.cs0 {m : MS} {st : Bool} (h : m.ok st) : csM m.c m.il.length (m.ps.map PB.h) [] = (0, 0, 0) := by
  unfold csM
  have hp := h.pl
  rw [if_neg (by rw [h.c0]; simp), if_neg (by rw [List.length_map]; omega), if_neg (by rw [h.il]; simp), psG_all _ _ fun y hy => by
    obtain ⟨x, hx, rfl⟩ := List.mem_map.1 hy
    exact (h.q x hx).2]
  rfl
theorem MS.ok.g0 {m : MS} {st : Bool} (h : m.ok st) : GOk m.c m.P (newM m.c m.il m.P) :=
  new_ok h.c0 h.il (fun x hx => by have := h.iw x hx; exact ⟨by omega, by omega⟩) fun p hp => by
    obtain ⟨y, hy, rfl⟩ := List.mem_map.1 hp
    obtain ⟨x, hx, rfl⟩ := List.mem_map.1 hy
    exact (h.q x hx).2
theorem MS.ok.pl16 {m : MS} {st : Bool} (h : m.ok st) : m.P.length ≤ 16 := by
  have hp := h.pl
  simp only [List.length_map]
  omega
section
variable {W0 : World} {m : MS} {st : Bool}
theorem MS.ok.rp (h : m.ok st) : RdE PH.enc 1 W0 (m.O) m.pa (m.ps.map PB.h) := h.p.rd.ent (ent_cnt (m.Dk ++ (ownL m.ps ++ m.Di)) fun a => by simp only [MS.O, cnt_app]; omega)
theorem MS.ok.ri (h : m.ok st) : RdE encU 1 W0 (m.O) m.ia m.il := h.i.rd.ent (ent_cnt (m.Dk ++ (m.Dp ++ ownL m.ps)) fun a => by simp only [MS.O, cnt_app]; omega)
theorem MS.ok.rq (h : m.ok st) : ∀ x ∈ m.ps.map PB.h, RdE Ins.enc 5 W0 (m.O) x.a x.p := fun y hy => by
  obtain ⟨x, hx, rfl⟩ := List.mem_map.1 hy
  have := ownL_rd (kD := []) hx ((h.q x hx).1.rd (W0 := W0))
  exact this.ent (ent_cnt (m.Dk ++ (m.Dp ++ m.Di)) fun a => by simp only [MS.O, cnt_app, cnt_nil]; omega)
theorem sp_newm (hF : FormsAt W0) (h : m.ok st) (q : Own) :
    Spec Tryz.prog W0 11 [m.v] (m.O ++ q) fun v own' => ∃ y : GP × List PB × Own, (v = .tuple #[.pointer (some ⟨y.1.gb, 0, none⟩), .int .i64 0, .int .i64 0, .int .i64 0] ∧
      y.1.ok W0 (y.2.2 ++ ownL y.2.1) (y.2.1.map PB.h) (newM m.c m.il m.P) ∧ y.1.ev W0 ∧ (y.2.1.map PB.h).map PH.p = m.P) ∧ Ent W0 own' (y.1.O m.c (y.2.1.map PB.h).length (newM m.c m.il m.P) ++ ((y.2.2 ++ ownL y.2.1) ++ (m.O ++ q))) := by
  have hl : (m.ps.map PB.h).length = m.ps.length := List.length_map ..
  have hil := h.il
  have hcw := h.cw
  have hn := sp_new (own := m.O ++ q) (c := m.c) (ic := m.ic) (pc := m.pc) (ka := m.ka) (ks := []) (kc := m.kc) hF (h.ri (W0 := W0)).up (by omega) (h.rp (W0 := W0)).up fun x hx => (h.rq (W0 := W0) x hx).up
  rw [h.cs0, hl] at hn
  intro w hw
  refine (hn w hw).mono fun _ _ ⟨v, o, a, b, hv⟩ => ?_
  rcases hv with ⟨⟨_, hne⟩, _⟩ | ⟨y, ⟨hv, _, h1, h2, h3, _⟩, hE⟩
  · exact absurd rfl hne
  · exact ⟨v, o, a, b, y, ⟨hv, h1, h2, h3⟩, hE⟩
theorem sp_do_nil {a : Option Addr} {t f : Int} {n cap : Nat} (own : Own) : Pure Tryz.prog W0 14 [.pointer none, chV t f a n cap] own (.int .i64 1) := by
  refine pure_of (spec_of mixed low_sgl_Global_Do (by simp [ir_sgl_Global_Do]) ?_)
  repeat' ((try (conv => whnf)); first | (refine br_te ?_ ?_; exact rfl) | (refine new_i (fun bk hbk => ?_)))
  all_goals exact ⟨rfl, (by first | exact ent_i | (repeat (first | exact Ent.refl | exact Ent.left | refine Ent.cons ?_ | refine Ent.app ?_)))⟩
end
end Go.Proofs.YtfompmhncnkcfaaGreatDoor
namespace Go.Proofs.YtfompmhncnkcfaaGreatDoor
open Go
set_option maxRecDepth 10000
set_option maxHeartbeats 16000000
theorem ent_l1 {W0 : World} {a b : Nat × (Obj → Prop)} {A Z : Own} : Ent W0 (a :: (A ++ (b :: Z))) (A ++ ([a, b] ++ Z)) := ent_cnt [] fun a => by simp only [cnt_app, cnt_cons, cnt_nil]; omega
theorem ent_l2 {W0 : World} {a b d : Nat × (Obj → Prop)} {R G K Z A B D Di : Own} : Ent W0 (a :: (R ++ (G ++ (K ++ ((A ++ (B ++ (D ++ Di))) ++ ([b, d] ++ Z)))))) (b :: (a :: (Di ++ (R ++ (G ++ (K ++ Z)))))) := ent_cnt ([d] ++ (A ++ (B ++ D))) fun a => by simp only [cnt_app, cnt_cons, cnt_nil]; omega
theorem ent_l3 {W0 : World} {a b : Nat × (Obj → Prop)} {R G K Z Di : Own} : Ent W0 (a :: (b :: (Di ++ (R ++ (G ++ (K ++ Z)))))) (G ++ ([a, b] ++ (Di ++ (R ++ (K ++ Z))))) := ent_cnt [] fun a => by simp only [cnt_app, cnt_cons, cnt_nil]; omega
theorem ent_l4 {W0 : World} {b : Nat × (Obj → Prop)} {d t e x o S G Q : Own} : Ent W0 (b :: ((d ++ (t ++ (e ++ (x ++ (o ++ S))))) ++ (G ++ Q))) (G ++ ([b] ++ Q)) := ent_cnt (d ++ (t ++ (e ++ (x ++ (o ++ S))))) fun a => by simp only [cnt_app, cnt_cons, cnt_nil]; omega
theorem ent_l5 {W0 : World} {b a c : Nat × (Obj → Prop)} {R3 G Di R K Z : Own} : Ent W0 (R3 ++ (G ++ ([b] ++ ([a, c] ++ (Di ++ (R ++ (K ++ Z))))))) Z := ent_cnt (R3 ++ (G ++ ([b] ++ ([a, c] ++ (Di ++ (R ++ K)))))) fun a => by simp only [cnt_app, cnt_cons, cnt_nil]; omega
abbrev arrV (n0 n1 n2 n3 n4 : Int) : Value := .agg #[.int .i64 n0, .int .i64 n1, .int .i64 n2, .int .i64 n3, .int .i64 n4]
theorem inc_set {l : List Int} {i : Nat} {x : Int} (hx : l[i]? = some x) : ((l.take i).map (· + 1) ++ l.drop i).set i (x + 1) = (l.take (i + 1)).map (· + 1) ++ l.drop (i + 1) := by
  obtain ⟨hl, he⟩ := List.getElem?_eq_some_iff.1 hx
  have h1 : ((l.take i).map (· + 1)).length = i := by simp; omega
  rw [drop_of hx, List.set_append_right _ _ (by omega), h1, Nat.sub_self, List.set_cons_zero, List.take_add_one, hx]
  simp
theorem inc_get {l : List Int} {i : Nat} {x : Int} (hx : l[i]? = some x) : ((l.take i).map (· + 1) ++ l.drop i)[i]? = some x := by
  obtain ⟨hl, he⟩ := List.getElem?_eq_some_iff.1 hx
  have h1 : ((l.take i).map (· + 1)).length = i := by simp; omega
  rw [drop_of hx, List.getElem?_append_right (by omega), h1, Nat.sub_self]
  rfl
theorem inc_len {l : List Int} {i : Nat} : ((l.take i).map (· + 1) ++ l.drop i).length = l.length := by simp; omega
section
variable {W0 : World} {own : Own} {la : Option Addr} {lc : Nat} {ls : List IH}
theorem sp_SglNil (hF : FormsAt W0) (n0 n1 n2 n3 n4 : Int) (hh : inKs [n0, n1, n2, n3, n4]) (hL : RdE IH.enc 1 W0 own la ls) (hll : ls.length ≤ 17592186043904) (hQ : ∀ h ∈ ls, RdE encI 1 W0 own h.a h.l ∧ h.l.length ≤ 17592186043904) :
    Pure Tryz.prog W0 8 [arrV n0 n1 n2 n3 n4, .slice la ls.length lc] own (.bool true) := by
  refine pure_of (spec_of mixed low_law22_SglNil (by simp [ir_law22_SglNil]) ?_)
  have haw := fun own => sp_awake (W0 := W0) (own := own) hF
  have hsc := fun (own' : Own) [EntC own' own] => sp_lscript (lc := lc) (own := own') n0 n1 n2 n3 n4 hh hL.up hll (fun h hx => ⟨(hQ h hx).1.up, (hQ h hx).2⟩) false
  repeat' ((try (conv => whnf)); first | (refine new_i (fun b2 h2 => ?_); (apply Stop.h)))
  refine Stop.mk ?_
  repeat' ((try (conv => whnf)); first | ((with_reducible show CallT _ _ _ _ _ _); first | ((refine call_or (hsc _) Ent.refl ?_ ?_ (fun v hv => ?_) (fun m v hv => ?_); (exact rfl); (exact rfl); all_goals (apply Stop.h)))) | (apply ldN_a; exact rfl))
  · subst hv
    refine Stop.mk ?_
    repeat' ((try (conv => whnf)); first | (refine br_te ?_ ?_; exact rfl) | ((with_reducible show CallT _ _ _ _ _ _); first | ((refine call_pe (haw _) ?_ ?_ ?_; (exact rfl); exact rfl))) | (apply sel; exact rfl) | (apply stN_o; (exact rfl); (exact rfl); exact rfl) | (refine new_i (fun bk hbk => ?_)))
    all_goals exact ⟨rfl, (by first | exact ent_i | (repeat (first | exact Ent.refl | exact Ent.left | refine Ent.cons ?_ | refine Ent.app ?_)))⟩
  · obtain ⟨rfl, hm⟩ := hv
    refine Stop.mk ?_
    repeat' ((try (conv => whnf)); first | (refine new_i (fun b5 h5 => ?_); (apply Stop.h)) | (apply sel; exact rfl))
    refine Stop.mk ?_
    have hnw := sp_newm hF hm ([(b5, fun o => o = Obj.cells (scrC m.c (.slice m.ia m.il.length m.ic) (.slice m.pa m.ps.length m.pc) (.slice m.ka 0 m.kc)) 32 (0, 0)), (b2, fun o => o = Obj.cells #[.int .i64 n0, .int .i64 n1, .int .i64 n2, .int .i64 n3, .int .i64 n4] 22 (0, 0))] ++ own)
    repeat' ((try (conv => whnf)); first | (refine br_fe ?_ ?_; exact rfl) | ((with_reducible show CallT _ _ _ _ _ _); first | ((refine call_to hnw ?_ ?_ ?_ (fun y v hv => ?_); (exact ent_l1); (exact rfl); (exact rfl); (apply Stop.h)))) | (apply ldN_a; exact rfl) | (apply stN_o; (exact rfl); (exact rfl); exact rfl))
    obtain ⟨g, ys, kD⟩ := y
    obtain ⟨rfl, hok, hev, hpp⟩ := hv
    dsimp only at hok hev hpp ⊢
    have hG := hm.g0
    have hz := hG.sz (Nat.zero_le _) hm.pl16
    have hdn := fun own => sp_do_nil (W0 := W0) (a := none) (t := 0) (f := 0) (n := 0) (cap := 0) own
    have hrn := fun own => sp_result_nil (W0 := W0) own
    have hrs := fun q => sp_result (c := m.c) hok hev hz.d hz.t hz.e hz.o hz.ol hz.ev q
    have hs0 : (newM m.c m.il m.P).d = m.il := rfl
    have hil := hm.il
    have hcw := hm.cw
    generalize newM m.c m.il m.P = s0 at *
    refine Stop.mk ?_
    have hne : ¬ (1 : Int) ≠ 1 := by decide
    repeat' ((try (conv => whnf)); first | (refine when_ye ?_ ?_; exact rfl) | (refine br_fe ?_ ?_; exact rfl) | ((with_reducible show CallT _ _ _ _ _ _); first | ((refine call_pe (hdn _) ?_ ?_ ?_; (exact rfl); exact rfl)) | ((refine call_pe (hrn _) ?_ ?_ ?_; (exact rfl); exact rfl)) | (((apply Stop.h)))) | (apply sel; exact rfl))
    refine Stop.mk ?_
    generalize hKp : kD ++ ownL ys = Kp at *
    have hrs1 := hrs
    repeat' ((try (conv => whnf)); first | ((with_reducible show CallT _ _ _ _ _ _); first | ((refine call_to (hrs (Kp ++ (m.O ++ ([(b5, fun o => o = Obj.cells (scrC m.c (.slice m.ia m.il.length m.ic) (.slice m.pa m.ps.length m.pc) (.slice m.ka 0 m.kc)) 32 (0, 0)), (b2, fun o => o = Obj.cells #[.int .i64 n0, .int .i64 n1, .int .i64 n2, .int .i64 n3, .int .i64 n4] 22 (0, 0))] ++ own)))) Ent.refl ?_ ?_ (fun r1 v hv => ?_); (exact rfl); (exact rfl); (apply Stop.h)))))
    obtain ⟨rfl, hr1⟩ := hv
    refine Stop.mk ?_
    repeat' ((try (conv => whnf)); first | (refine new_i (fun b12 h12 => ?_); (apply Stop.h)))
    refine Stop.mk ?_
    repeat' ((try (conv => whnf)); first | (apply stN_o; (exact rfl); (exact rfl); exact rfl))
    have hl0 : ∀ i, ((m.il.take i).map (· + 1) ++ m.il.drop i).length = m.il.length := fun i => inc_len
    refine loop_i (σ := Nat × Own) (fun y => [(13, .int .i64 y.1)])
      (fun y => (b5, fun o => o = Obj.cells (scrC m.c (.slice m.ia ((m.il.take y.1).map (· + 1) ++ m.il.drop y.1).length m.ic) (.slice m.pa m.ps.length m.pc) (.slice m.ka 0 m.kc)) 32 (0, 0)) :: ((b12, fun o => o = Obj.cells #[.slice r1.da s0.d.length r1.dc, .slice r1.ta s0.T.length r1.tc, .slice r1.ea r1.L.length r1.ec, .slice r1.oa r1.S.length r1.oc] 52 (0, 0)) :: (y.2 ++ (r1.D ++ (g.O m.c (ys.map PB.h).length s0 ++ (Kp ++ own))))))
      (fun y => y.1 ≤ m.il.length ∧ BufE encU 63 1 m.ia m.ic ((m.il.take y.1).map (· + 1) ++ m.il.drop y.1) y.2) (fun y => m.il.length - y.1) (0, m.Di) ⟨Nat.zero_le _, hm.i⟩ (by repeat' (first | exact True.intro | refine And.intro ?_ ?_ | exact rfl | exact vi (by omega) | (dsimp only; exact rfl) | (dsimp only; exact vi (by omega)))) ?_ rfl ?_
    · exact ent_l2
    · rintro ⟨i, Di⟩ junk ⟨hi, hB⟩
      dsimp only at hi hB ⊢
      have hR := hB.rd (W0 := W0)
      have hli := hl0 i
      by_cases hil' : i < m.il.length
      · obtain ⟨x, hx⟩ : ∃ x, m.il[i]? = some x := ⟨_, List.getElem?_eq_getElem hil'⟩
        have hx' := inc_get hx
        have hxr := hm.iw x (List.mem_of_getElem? hx)
        have hset := inc_set hx
        have hli1 := hl0 (i + 1)
        generalize hJ : (m.il.take i).map (· + 1) ++ m.il.drop i = J at *
        repeat' ((try (conv => whnf)); first | (apply br_pyE; (exact rfl); omega) | (apply stE_i (enc := encU) (T := 63) (j := i) (k := 0) (x + 1) hB hx'; (omega); (omega); (exact rfl); (exact rfl); intro D' hb') | ((with_reducible show Ld _ _ _ _); first | (refine ldE0 hR hx' rfl ?_)) | ((with_reducible show IxS _ _ _ _ _); first | ((refine ixE hR hx' ?_ ?_; (first | rfl | omega)))) | (refine ari ?_ ?_; omega) | (refine aru ?_ ?_; omega) | (apply ld_o; exact rfl))
        rw [hset] at hb'
        refine ⟨(i + 1, D'), ⟨hil', hb'⟩, (by show m.il.length - (i + 1) < m.il.length - i; omega), (by repeat' (first | exact True.intro | refine And.intro ?_ ?_ | exact rfl | exact vi (by omega) | (dsimp only; exact rfl) | (dsimp only; exact vi (by omega)))), ?_⟩
        dsimp only
        rw [hli1, ← hli]
        exact (by first | exact ent_i | (repeat (first | exact Ent.refl | exact Ent.left | refine Ent.cons ?_ | refine Ent.app ?_)))
      · have hiN : i = m.il.length := by omega
        subst hiN
        rw [List.take_length, List.drop_length, List.append_nil] at hB hR hli ⊢
        obtain ⟨x0, hx0⟩ : ∃ x0, m.il[0]? = some x0 := ⟨_, List.getElem?_eq_getElem (by omega)⟩
        have hxr := hm.iw x0 (List.mem_of_getElem? hx0)
        have hx1 : (m.il.map (· + 1))[0]? = some (x0 + 1) := by rw [List.getElem?_map, hx0]; rfl
        have hxs : s0.d[0]? = some x0 := by rw [hs0]; exact hx0
        have hle : ((s0.d.length : Nat) : Int) = (m.il.map (· + 1)).length := by rw [hs0, hli]
        have hln : ¬ ((s0.d.length : Nat) : Int) ≠ (m.il.map (· + 1)).length := fun h => h hle
        have hee : x0 + 1 = x0 + 1 := rfl
        have hR1 := (hr1.at Ent.refl).d
        have hgl := fun (r3 : RG) (hr3 : r3.ok W0 s0) (own' : Own) (h1 : EntC own' r1.D) (h3 : EntC own' r3.D) => sp_kglobal (hr1.at (h1.h W0)) (hr3.at (h3.h W0)) hz
        have hst : ∀ r : RG, r.ok W0 s0 → RdE encU 1 W0 r.dD r.da s0.d := fun r h => h.d.rd
        repeat' ((try (conv => whnf)); first | (apply br_pnE; (exact rfl); omega) | ((with_reducible show CallT _ _ _ _ _ _); first | ((refine call_to (hrs _) ent_l3 ?_ ?_ (fun r2 v hv => ?_); (exact rfl); (exact rfl); (apply Stop.h)))) | (apply ld_o; exact rfl))
        obtain ⟨rfl, hr2⟩ := hv
        have hR2 := hst r2 hr2
        have hrd2 := hr2.d
        rw [show r2.D = r2.dD ++ (r2.tD ++ (r2.eD ++ (r2.X ++ (r2.oD ++ ownS r2.S)))) from rfl]
        refine Stop.mk ?_
        repeat' ((try (conv => whnf)); first | (refine new_i (fun b14 h14 => ?_); (apply Stop.h)))
        refine Stop.mk ?_
        repeat' ((try (conv => whnf)); first | (refine when_ye ?_ ?_; exact rfl) | (apply br_pnE; (exact rfl); omega) | (apply when_pyE; (exact rfl); omega) | (apply stE_i (enc := encU) (T := 63) (j := 0) (k := 0) (x0 + 1) hrd2 hxs; (omega); (omega); (exact rfl); (exact rfl); intro D2 hb2) | ((with_reducible show Ld _ _ _ _); first | (refine ldE0 hR2 hxs rfl ?_) | (refine ldE0 hR1 hxs rfl ?_) | (refine ldE0 hR hx1 rfl ?_)) | ((with_reducible show IxS _ _ _ _ _); first | ((refine ixE hR2 hxs ?_ ?_; (first | rfl | omega))) | ((refine ixE hR1 hxs ?_ ?_; (first | rfl | omega))) | ((refine ixE hR hx1 ?_ ?_; (first | rfl | omega)))) | ((with_reducible show CallT _ _ _ _ _ _); first | ((refine call_to (hrs _) ent_l4 ?_ ?_ (fun r3 v hv => ?_); (exact rfl); (exact rfl); (obtain ⟨rfl, hr3⟩ := hv)))) | ((with_reducible show CallQ _ _ _ _ _ _); first | ((refine call_qi (fun ex => hgl r3 hr3 _ inferInstance inferInstance) ?_ ?_ ?_; (exact rfl); (exact rfl))) | ((refine call_qi (fun ex => haw _) ?_ ?_ ?_; (exact rfl); (exact rfl)))) | (refine aru ?_ ?_; omega) | (apply ld_o; exact rfl) | (apply ldN_a; exact rfl) | (apply stN_o; (exact rfl); (exact rfl); exact rfl) | (refine Both.mk ?_ ?_))
        all_goals exact ⟨ret1 rfl, ent_l5⟩
end
end Go.Proofs.YtfompmhncnkcfaaGreatDoor
namespace Go.Proofs.YtfompmhncnkcfaaGreatDoor
open Go
set_option maxRecDepth 10000
set_option maxHeartbeats 8000000
theorem rem_t {m n : Int} {t : Nat} {K : Int → Prop} (h0 : 0 ≤ m ∧ 0 < n) (he : m % n = t) (h : K t) : Rem m n K := rem_i h0 (by rw [he]; exact h)
section
variable {W0 : World} {Kp K : Own} {g : GP} {c : Cfg} {ps : List PH} {P : List (List Ins)} {s : GS} {gb : Nat}
theorem sp_resL (hgb : g.gb = gb) (h : g.ok W0 Kp ps s) (hv : g.ev W0) (hz : SzG s) (q : Own) :
    Spec Tryz.prog W0 17 [.pointer (some ⟨gb, 0, none⟩)] (g.O c ps.length s ++ q) fun v own' => ∃ r : RG, (v = r.v s ∧ r.ok W0 s) ∧ Ent W0 own' (r.D ++ (g.O c ps.length s ++ q)) := by
  subst hgb
  exact sp_result (c := c) h hv hz.d hz.t hz.e hz.o hz.ol hz.ev q
theorem sp_doL (hF : FormsAt W0) (hgb : g.gb = gb) (h : g.ok W0 Kp ps s) (hv : g.ev W0) (hG : GOk c P s) (hP : ps.map PH.p = P) (hn : s.n ≤ 5000) (t f : Int) {aa : Option Addr} {ad : List Int} {ac : Nat} (hA : RdE encI 1 W0 K aa ad) (hal : ad.length ≤ ac) (had : ∀ a ∈ ad, a ≤ 9223372036854775807) (q : Own) [ek : EntC q Kp] [ek2 : EntC q K] :
    Spec Tryz.prog W0 14 [.pointer (some ⟨gb, 0, none⟩), chV t f aa ad.length ac] (g.O c ps.length s ++ q) fun v own' => ∃ g' : GP,
      (v = .int .i64 (doM c P s ⟨t, f, ad⟩).1 ∧ g'.ok W0 Kp ps (doM c P s ⟨t, f, ad⟩).2 ∧ g'.ev W0 ∧ g'.gb = gb) ∧ Ent W0 own' (g'.O c ps.length (doM c P s ⟨t, f, ad⟩).2 ++ q) := by
  subst hgb; subst hP
  exact sp_do (c := c) hF h hv hG hn t f hA hal had q
theorem ldNThr {own own' : Own} {a : Option Addr} {l : List Thr} {j o : Nat} {x : Thr} {K : Array Value → Prop} (h : RdE Thr.enc 11 W0 own' a l) (hx : l[j]? = some x) [m : EntC own own'] (ho : o = ao a + j * 11 + 1) (hk : K x.rg.enc.toArray) : LdN W0 own ⟨ab a, o, none⟩ 8 K := by
  subst ho
  refine ⟨x.rg.enc.toArray, rfl, fun w hs i hi => ?_, hk⟩
  rw [addr_add]
  have h1 : x.enc[1 + i]? = x.rg.enc.toArray.toList[i]? := by
    rcases lt8 hi with rfl | rfl | rfl | rfl | rfl | rfl | rfl | rfl <;> rfl
  have hi' : i < x.rg.enc.toArray.toList.length := hi
  rw [List.getElem?_eq_getElem hi'] at h1 ⊢
  have := (h.ent (m.h W0)).cell hx h1 w hs
  rw [show ao a + j * 11 + (1 + i) = ao a + j * 11 + 1 + i by omega] at this
  exact this
end
section
variable {c : Cfg} {P : List (List Ins)} {s : GS} {t : Nat} {th : Thr} {p : List Ins} {x : Ins}
theorem ch_eq (hth : s.T[t]? = some th) (hp : P[t]? = some p) (hd : th.dn = false) (hx : p[th.pc]? = some x) (f : Int) : chM c P s ⟨t, f, []⟩ = if x.op = 7 then txM c p s th t f [] else sgM c p s th t f x := by
  unfold chM
  rw [if_neg (by show ¬ ((t : Nat) : Int) < 0; omega)]
  simp only [Int.toNat_natCast, hth, hp, hd, Bool.false_eq_true, if_false, hx, if_true]
theorem forced_no (hs : c.strong = false) (hth : s.T[t]? = some th) (hp : P[t]? = some p) (hd : th.dn = false) (hx : p[th.pc]? = some x) (h7 : x.op ≠ 7) {f : Int} (hf : f ≠ 0) : doM c P s ⟨t, f, []⟩ = (70, s) := by
  have : sgM c p s th t f x = none := by
    unfold sgM
    generalize adr th.rg (if x.op = 12 then x.b else x.a) x.imm = z
    by_cases h12 : x.op = 12 ∨ x.op = 13
    · rw [if_pos h12]
      dsimp only
      rw [if_pos hf, if_neg (by rw [hs]; simp)]
    · rw [if_neg h12, if_pos hf]
  unfold doM
  rw [ch_eq hth hp hd hx, if_neg h7, this]
theorem step_yes (hth : s.T[t]? = some th) (hp : P[t]? = some p) (hd : th.dn = false) (hx : p[th.pc]? = some x) (h7 : x.op ≠ 7) : (doM c P s ⟨t, 0, []⟩).1 = 0 := by
  have : ∃ s', sgM c p s th t 0 x = some s' := by
    unfold sgM
    generalize adr th.rg (if x.op = 12 then x.b else x.a) x.imm = z
    by_cases h12 : x.op = 12 ∨ x.op = 13
    · rw [if_pos h12]
      dsimp only
      rw [if_neg (by simp)]
      split
      · exact ⟨_, rfl⟩
      · by_cases h : x.op = 12
        · rw [if_pos h]; exact ⟨_, rfl⟩
        · rw [if_neg h]; exact ⟨_, rfl⟩
    · rw [if_neg h12, if_neg (by simp)]
      exact ⟨_, rfl⟩
  obtain ⟨s', hs⟩ := this
  unfold doM
  rw [ch_eq hth hp hd hx, if_neg h7, hs]
theorem forced_yes (hth : s.T[t]? = some th) (hp : P[t]? = some p) (hd : th.dn = false) (hx : p[th.pc]? = some x) (h7 : x.op = 7) {f : Int} (hf : 3 ≤ f ∧ f ≤ 6) :
    doM c P s ⟨t, f, []⟩ = (0, { s.fin t ⟨endM p th.pc + 1, th.rg, f, decide (endM p th.pc + 1 = p.length)⟩ [⟨th.pc, 3, f⟩] with n := s.n + 1 }) := by
  have : txM c p s th t f [] = some (s.fin t ⟨endM p th.pc + 1, th.rg, f, decide (endM p th.pc + 1 = p.length)⟩ [⟨th.pc, 3, f⟩]) := by
    unfold txM
    rw [if_pos (by omega), if_pos ⟨hf, rfl⟩]
  unfold doM
  rw [ch_eq hth hp hd hx, if_pos h7, this]
end
end Go.Proofs.YtfompmhncnkcfaaGreatDoor
namespace Go.Proofs.YtfompmhncnkcfaaGreatDoor
open Go
set_option maxRecDepth 10000
set_option maxHeartbeats 16000000
theorem ent_f1 {W0 : World} {a : Nat × (Obj → Prop)} {A Z : Own} : Ent W0 (a :: (A ++ Z)) Z := ent_cnt (a :: A) fun a => by simp only [cnt_app, cnt_cons]; omega
theorem ent_f2 {W0 : World} {a b : Nat × (Obj → Prop)} {R G Q : Own} : Ent W0 (a :: (b :: (R ++ (G ++ Q)))) (G ++ ([a, b] ++ (R ++ Q))) := ent_cnt [] fun a => by simp only [cnt_app, cnt_cons, cnt_nil]; omega
theorem ent_f3 {W0 : World} {R G Q : Own} : Ent W0 (R ++ (G ++ Q)) (G ++ (R ++ Q)) := ent_cnt [] fun a => by simp only [cnt_app, cnt_nil]; omega
theorem ent_f4 {W0 : World} {a b : Nat × (Obj → Prop)} {R R2 G Q : Own} : Ent W0 (G ++ (R2 ++ ([a, b] ++ (R ++ Q)))) (G ++ Q) := ent_cnt (R2 ++ ([a, b] ++ R)) fun a => by simp only [cnt_app, cnt_cons, cnt_nil]; omega
theorem ent_f5 {W0 : World} {c a b : Nat × (Obj → Prop)} {R R2 G Q : Own} : Ent W0 (c :: (R2 ++ (G ++ ([a, b] ++ (R ++ Q))))) (G ++ Q) := ent_cnt (c :: (R2 ++ ([a, b] ++ R))) fun a => by simp only [cnt_app, cnt_cons, cnt_nil]; omega
theorem ent_f9 {W0 : World} {a b : Nat × (Obj → Prop)} {G K M Z : Own} : Ent W0 (G ++ (K ++ (M ++ ([a, b] ++ Z)))) Z := ent_cnt (G ++ (K ++ (M ++ [a, b]))) fun a => by simp only [cnt_app, cnt_cons, cnt_nil]; omega
section
variable {W0 : World} {own : Own} {la : Option Addr} {lc : Nat} {ls : List IH}
theorem sp_SglForced (hF : FormsAt W0) (n0 n1 n2 n3 n4 code : Int) (hh : inKs [n0, n1, n2, n3, n4]) (hL : RdE IH.enc 1 W0 own la ls) (hll : ls.length ≤ 17592186043904) (hQ : ∀ h ∈ ls, RdE encI 1 W0 own h.a h.l ∧ h.l.length ≤ 17592186043904) :
    Pure Tryz.prog W0 5 [arrV n0 n1 n2 n3 n4, .slice la ls.length lc, .int .i64 code] own (.bool true) := by
  refine pure_of (spec_of mixed low_law22_SglForced (by simp [ir_law22_SglForced]) ?_)
  have haw := fun own => sp_awake (W0 := W0) (own := own) hF
  have hsc := fun (own' : Own) [EntC own' own] => sp_lscript (lc := lc) (own := own') n0 n1 n2 n3 n4 hh hL.up hll (fun h hx => ⟨(hQ h hx).1.up, (hQ h hx).2⟩) false
  repeat' ((try (conv => whnf)); first | (refine new_i (fun b3 h3 => ?_); (apply Stop.h)))
  refine Stop.mk ?_
  repeat' ((try (conv => whnf)); first | ((with_reducible show CallT _ _ _ _ _ _); first | ((refine call_or (hsc _) Ent.refl ?_ ?_ (fun v hv => ?_) (fun m v hv => ?_); (exact rfl); (exact rfl); all_goals (apply Stop.h)))) | (apply ldN_a; exact rfl))
  · subst hv
    refine Stop.mk ?_
    repeat' ((try (conv => whnf)); first | (refine br_te ?_ ?_; exact rfl) | ((with_reducible show CallT _ _ _ _ _ _); first | ((refine call_pe (haw _) ?_ ?_ ?_; (exact rfl); exact rfl))) | (apply sel; exact rfl) | (apply stN_o; (exact rfl); (exact rfl); exact rfl) | (refine new_i (fun bk hbk => ?_)))
    all_goals exact ⟨rfl, (by first | exact ent_i | (repeat (first | exact Ent.refl | exact Ent.left | refine Ent.cons ?_ | refine Ent.app ?_)))⟩
  · obtain ⟨rfl, hm⟩ := hv
    have hmv : m.v = scrV m.c m.ia m.il.length m.ic m.pa (m.ps.map PB.h).length m.pc m.ka 0 m.kc := by simp only [MS.v, List.length_map]
    rw [hmv]
    refine Stop.mk ?_
    repeat' ((try (conv => whnf)); first | (refine new_i (fun b7 h7 => ?_); (apply Stop.h)) | (apply sel; exact rfl))
    refine Stop.mk ?_
    have hnw := sp_newm hF hm ([(b7, fun o => o = Obj.cells (scrC m.c (.slice m.ia m.il.length m.ic) (.slice m.pa (m.ps.map PB.h).length m.pc) (.slice m.ka 0 m.kc)) 32 (0, 0)), (b3, fun o => o = Obj.cells #[.int .i64 n0, .int .i64 n1, .int .i64 n2, .int .i64 n3, .int .i64 n4] 22 (0, 0))] ++ own)
    rw [hmv] at hnw
    repeat' ((try (conv => whnf)); first | (refine br_fe ?_ ?_; exact rfl) | ((with_reducible show CallT _ _ _ _ _ _); first | ((refine call_to hnw ?_ ?_ ?_ (fun y v hv => ?_); (exact ent_l1); (exact rfl); (exact rfl); (apply Stop.h)))) | (apply ldN_a; exact rfl) | (apply stN_o; (exact rfl); (exact rfl); exact rfl))
    obtain ⟨g, ys, kD⟩ := y
    obtain ⟨rfl, hok, hev, hpp⟩ := hv
    dsimp only at hok hev hpp ⊢
    have hG := hm.g0
    have hP16 := hm.pl16
    have hn0' : (newM m.c m.il m.P).n = 0 := rfl
    have hcs := hm.cs
    have hpl : (m.ps.map PB.h).length = 2 ∨ (m.ps.map PB.h).length = 3 := by rw [List.length_map]; exact hm.pl
    have hMP := hm.rp (W0 := W0)
    have hMQ := hm.rq (W0 := W0)
    have hPe : m.P = (m.ps.map PB.h).map PH.p := rfl
    generalize newM m.c m.il m.P = s0 at *
    generalize m.P = P at *
    generalize hKp : kD ++ ownL ys = Kp at *
    generalize m.ps.map PB.h = pl at *
    generalize ys.map PB.h = pk at *
    have hpw := place_bd code (n := 4) (by omega)
    have hPl := fun own => sp_place W0 own code 4 (by omega)
    generalize placeM code 4 = w at hpw hPl
    obtain ⟨w, rfl⟩ := Int.eq_ofNat_of_zero_le hpw.1
    obtain ⟨k, hk, hk36⟩ : ∃ k : Int, ([3, 4, 5, 6] : List Int)[w]? = some k ∧ 3 ≤ k ∧ k ≤ 6 := by
      have hw : w = 0 ∨ w = 1 ∨ w = 2 ∨ w = 3 := by omega
      rcases hw with rfl | rfl | rfl | rfl
      · exact ⟨3, rfl, by omega⟩
      · exact ⟨4, rfl, by omega⟩
      · exact ⟨5, rfl, by omega⟩
      · exact ⟨6, rfl, by omega⟩
    refine Stop.mk ?_
    repeat' ((try (conv => whnf)); first | (refine when_ye ?_ ?_; exact rfl) | (refine br_fe ?_ ?_; exact rfl) | (refine new_i (fun b41 h41 => ?_); (apply Stop.h)) | (apply sel; exact rfl))
    dsimp only [List.set]
    refine Stop.mk ?_
    have hKK : RdE encI 1 W0 [(b41, fun o => o = Obj.cells #[.int .i64 3, .int .i64 4, .int .i64 5, .int .i64 6] 3 (0, 0))] (some ⟨b41, 0, none⟩) [3, 4, 5, 6] := rd_blk (by (repeat (first | exact List.Mem.head _ | apply List.Mem.tail))) (fun _ _ => rfl) rfl
    repeat' ((try (conv => whnf)); first | (refine ixE hKK hk ?_ ?_; (first | rfl | omega)) | (refine ldE (k := 0) (hKK.ent (Ent.of_sub (List.Sublist.cons_cons _ (List.nil_sublist _)))) hk ?_ rfl ?_; (exact rfl)) | ((with_reducible show CallT _ _ _ _ _ _); first | ((refine call_pe (hPl _) ?_ ?_ ?_; (exact rfl); exact rfl))))
    have hPk : pk.map PH.p = P := hpp
    have hPl0 : P.length = pl.length := by rw [hPe, List.length_map]
    refine loop_i (σ := Nat × GP × GS) (fun y => [(14, .int .i64 y.1)])
      (fun y => y.2.1.O m.c pk.length y.2.2 ++ (Kp ++ (m.O ++ ([(b7, fun o => o = Obj.cells (scrC m.c (.slice m.ia m.il.length m.ic) (.slice m.pa pl.length m.pc) (.slice m.ka 0 m.kc)) 32 (0, 0)), (b3, fun o => o = Obj.cells #[.int .i64 n0, .int .i64 n1, .int .i64 n2, .int .i64 n3, .int .i64 n4] 22 (0, 0))] ++ own))))
      (fun y => y.1 ≤ 40 ∧ y.2.1.ok W0 Kp pk y.2.2 ∧ y.2.1.ev W0 ∧ y.2.1.gb = g.gb ∧ GOk m.c P y.2.2 ∧ y.2.2.n ≤ y.1) (fun y => 40 - y.1) (0, g, s0) ⟨Nat.zero_le _, hok, hev, rfl, hG, by rw [hn0']; exact Nat.le_refl _⟩ (by repeat' (first | exact True.intro | refine And.intro ?_ ?_ | exact rfl | exact vi (by omega) | (dsimp only; exact rfl) | (dsimp only; exact vi (by omega)))) ?_ rfl ?_
    · exact Ent.cons Ent.refl
    · rintro ⟨i, g1, s1⟩ junk ⟨hi, hok1, hev1, hgb, hG1, hn1⟩
      dsimp only at hi hok1 hev1 hgb hG1 hn1 ⊢
      by_cases hil : i < 40
      · generalize htd : i % pl.length = tn
        have ht : (i : Int) % (pl.length : Int) = (tn : Nat) := by rw [← htd]; simp
        have htn : tn < pl.length := by rw [← htd]; exact Nat.mod_lt _ (by omega)
        have hTl := hG1.tl
        obtain ⟨th, hth⟩ : ∃ th, s1.T[tn]? = some th := ⟨_, List.getElem?_eq_getElem (by omega)⟩
        obtain ⟨ph, hph⟩ : ∃ ph, pl[tn]? = some ph := ⟨_, List.getElem?_eq_getElem htn⟩
        have hphP : P[tn]? = some ph.p := by rw [hPe, List.getElem?_map, hph]; rfl
        have hphR := hMQ ph (List.mem_of_getElem? hph)
        have hcp := hG1.pv ph.p (List.mem_of_getElem? hphP)
        obtain ⟨hrg, hpc, hst, hdn, hoc⟩ := hG1.th tn th ph.p hth hphP
        have hz1 := hG1.sz (by omega) hP16
        have hres := fun q => sp_resL (c := m.c) hgb hok1 hev1 hz1 q
        obtain ⟨pc, rg, oc, dn⟩ := th
        dsimp only at hrg hpc hst hdn hoc
        have hp0 : ¬ ((pc : Nat) : Int) < 0 := by omega
        have hp1 : ¬ ((ph.p.length : Nat) : Int) < (pc : Nat) := by omega
        have hp2 : ¬ ((s1.T.length : Nat) : Int) ≠ (pl.length : Nat) := by omega
        cases dn with
        | true =>
          repeat' ((try (conv => whnf)); first | (apply br_pyE; (exact rfl); omega) | (refine rem_t ?_ ht ?_; omega) | ((with_reducible show CallT _ _ _ _ _ _); first | ((refine call_to (hres _) Ent.refl ?_ ?_ (fun r1 v hv => ?_); (exact rfl); (exact rfl); (apply Stop.h)))) | (apply ld_o; exact rfl))
          obtain ⟨rfl, hr1⟩ := hv
          have hT1 := (hr1.at Ent.refl).t
          refine Stop.mk ?_
          repeat' ((try (conv => whnf)); first | (refine when_ye ?_ ?_; exact rfl) | (refine br_te ?_ ?_; exact rfl) | (apply br_pnE; (exact rfl); omega) | (apply when_pnE; (exact rfl); omega) | ((with_reducible show Ld _ _ _ _); first | (refine ldE0 hT1 hth rfl ?_) | (refine ldEk hT1 hth rfl ?_) | (refine ldE0 hMP hph rfl ?_)) | ((with_reducible show IxS _ _ _ _ _); first | ((refine ixE hT1 hth ?_ ?_; (first | rfl | omega))) | ((refine ixE hMP hph ?_ ?_; (first | rfl | omega)))) | (refine ari ?_ ?_; omega) | (apply ld_o; exact rfl) | (apply stN_o; (exact rfl); (exact rfl); exact rfl) | (refine new_i (fun bk hbk => ?_)))
          exact ⟨(i + 1, g1, s1), ⟨hil, hok1, hev1, hgb, hG1, Nat.le_succ_of_le hn1⟩, (by show 40 - (i + 1) < 40 - i; omega), (by repeat' (first | exact True.intro | refine And.intro ?_ ?_ | exact rfl | exact vi (by omega) | (dsimp only; exact rfl) | (dsimp only; exact vi (by omega)))), ent_f1⟩
        | false =>
          have hpl' : pc < ph.p.length := by
            have := of_decide_eq_false hdn.symm
            omega
          obtain ⟨x, hx⟩ : ∃ x, ph.p[pc]? = some x := ⟨_, List.getElem?_eq_getElem hpl'⟩
          repeat' ((try (conv => whnf)); first | (apply br_pyE; (exact rfl); omega) | (refine rem_t ?_ ht ?_; omega) | ((with_reducible show CallT _ _ _ _ _ _); first | ((refine call_to (hres _) Ent.refl ?_ ?_ (fun r1 v hv => ?_); (exact rfl); (exact rfl); (apply Stop.h)))) | (apply ld_o; exact rfl))
          obtain ⟨rfl, hr1⟩ := hv
          have hT1 := (hr1.at Ent.refl).t
          refine Stop.mk ?_
          repeat' ((try (conv => whnf)); first | (refine new_i (fun b16 h16 => ?_); (apply Stop.h)))
          refine Stop.mk ?_
          repeat' ((try (conv => whnf)); first | (refine when_ye ?_ ?_; exact rfl) | (refine br_fe ?_ ?_; exact rfl) | (apply br_pnE; (exact rfl); omega) | (apply when_pnE; (exact rfl); omega) | (refine new_i (fun b17 h17 => ?_); (apply Stop.h)) | ((with_reducible show Ld _ _ _ _); first | (refine ldE0 hT1 hth rfl ?_) | (refine ldEk hT1 hth rfl ?_) | (refine ldE0 hMP hph rfl ?_)) | ((with_reducible show IxS _ _ _ _ _); first | ((refine ixE hT1 hth ?_ ?_; (first | rfl | omega))) | ((refine ixE hMP hph ?_ ?_; (first | rfl | omega))) | ((refine ixE hphR hx ?_ ?_; (first | rfl | omega)))) | ((with_reducible show LdN _ _ _ _ _); first | (refine ldNEi hphR hx rfl ?_)) | (apply ld_o; exact rfl) | (apply stN_o; (exact rfl); (exact rfl); exact rfl))
          refine Stop.mk ?_
          by_cases h7 : x.op = 7
          · have hfy := forced_yes (c := m.c) (P := P) hth hphP rfl hx h7 hk36
            have hG2 := do_ok hG1 (ch := ⟨tn, k, []⟩) (fun _ h => (by cases h))
            have hn2 : (doM m.c P s1 ⟨tn, k, []⟩).2.n = s1.n + 1 := do_n (by rw [hfy])
            obtain ⟨e, he1, he2, -⟩ := of_begin hcp hx h7
            dsimp only at hfy
            rw [he1] at hfy
            have hOl := hG1.ol
            obtain ⟨yo, hyo⟩ : ∃ yo, s1.O[tn]? = some yo := ⟨_, List.getElem?_eq_getElem (by omega)⟩
            have hyl : yo.length ≤ 500000 := hz1.ol yo (List.mem_of_getElem? hyo)
            obtain ⟨s2, hs2, hd2, hE2, hT2, hO2⟩ : ∃ s2, doM m.c P s1 ⟨tn, k, []⟩ = (0, s2) ∧ s2.d = s1.d ∧ s1.E = s2.E ∧ s2.T[tn]? = some ⟨e + 1, rg, k, decide (e + 1 = ph.p.length)⟩ ∧ s2.O[tn]? = some (yo ++ [⟨pc, 3, k⟩]) := by
              refine ⟨_, hfy, rfl, rfl, ?_, ?_⟩
              · show (s1.T.set tn _)[tn]? = _
                rw [List.getElem?_set_self (by omega)]
              · show (s1.O.set tn (s1.O.getD tn [] ++ _))[tn]? = _
                rw [List.getElem?_set_self (by omega), List.getD_eq_getElem?_getD, hyo]
                rfl
            rw [hs2] at hG2 hn2
            dsimp only at hG2 hn2
            have hz2 := hG2.sz (by omega) hP16
            have hTl2 := hG2.tl
            have hOl2 := hG2.ol
            have hd1 := fun q [EntC q Kp] => sp_doL (K := Kp) (c := m.c) hF hgb hok1 hev1 hG1 hPk (by omega) tn k (aa := none) (ad := []) (ac := 0) RdE.nil (Nat.le_refl _) (fun _ h => (by cases h)) q
            rw [hs2] at hd1
            dsimp only at hd1
            have hT1n : (⟨pc, rg, oc, false⟩ : Thr).pc = pc := rfl
            have hr1s := (hr1.at Ent.refl).sl
            have hr1m := (hr1.at Ent.refl).ol
            obtain ⟨y1, hy1⟩ : ∃ y1, r1.S[tn]? = some y1 := ⟨_, List.getElem?_eq_getElem (by omega)⟩
            have hyy1 : y1.l = yo := by
              have := congrArg (·[tn]?) hr1m
              simpa [hy1, hyo] using this
            have hO1 := (hr1.at Ent.refl).o
            repeat' ((try (conv => whnf)); first | (apply br_pnE; (exact rfl); omega) | ((with_reducible show CallT _ _ _ _ _ _); first | ((refine call_to (hd1 _) ent_f2 ?_ ?_ (fun g2 v hv => ?_); (exact rfl); (exact rfl); (apply Stop.h)))) | (apply ld_o; exact rfl) | (apply stN_o; (exact rfl); (exact rfl); exact rfl))
            obtain ⟨rfl, hok2, hev2, hgb2⟩ := hv
            have hres2 := fun q => sp_resL (c := m.c) hgb2 hok2 hev2 hz2 q
            refine Stop.mk ?_
            repeat' ((try (conv => whnf)); first | (refine br_fe ?_ ?_; exact rfl) | ((with_reducible show CallT _ _ _ _ _ _); first | ((refine call_to (hres2 _) Ent.refl ?_ ?_ (fun r2 v hv => ?_); (exact rfl); (exact rfl); (apply Stop.h)))))
            obtain ⟨rfl, hr2⟩ := hv
            have hr2s := (hr2.at Ent.refl).sl
            have hr2m := (hr2.at Ent.refl).ol
            obtain ⟨y2, hy2⟩ : ∃ y2, r2.S[tn]? = some y2 := ⟨_, List.getElem?_eq_getElem (by omega)⟩
            have hyy2 : y2.l = yo ++ [⟨pc, 3, k⟩] := by
              have := congrArg (·[tn]?) hr2m
              simpa [hy2, hO2] using this
            have hO2r := (hr2.at Ent.refl).o
            have hT2r := (hr2.at Ent.refl).t
            have hly1 : y1.l.length = yo.length := by rw [hyy1]
            have hly2 : y2.l.length = yo.length + 1 := by rw [hyy2, List.length_append]; rfl
            have hw : ∀ (own' : Own) (_ : EntC own' r1.D) (_ : EntC own' r2.D), Pure Tryz.prog W0 24 [.slice r1.da s1.d.length r1.dc, .slice r2.da s2.d.length r2.dc] own' (.bool true) := fun own' e1 e2 => by
              have := (hr2.at (e2.h W0)).d
              rw [hd2] at this ⊢
              exact sp_kwords (c1 := r1.dc) (c2 := r2.dc) (hr1.at (e1.h W0)).d this (by have := hz1.d; omega)
            have hv := fun (own' : Own) (e1 : EntC own' r1.D) (e2 : EntC own' r2.D) => sp_kEv (hr1.at (e1.h W0)) (hr2.at (e2.h W0)) hE2 hz1
            have hc1 : ¬ ((s2.T.length : Nat) : Int) ≠ (pl.length : Nat) := by omega
            have hc2 : ¬ k ≠ k := fun h => h rfl
            have hc3 : ¬ ((e + 1 : Nat) : Int) ≤ (pc : Nat) := by omega
            have hc4 : ¬ ((r2.S.length : Nat) : Int) ≠ (pl.length : Nat) := by omega
            have hc5 : ¬ ((y2.l.length : Nat) : Int) ≠ (y1.l.length : Nat) + 1 := by omega
            refine Stop.mk ?_
            repeat' ((try (conv => whnf)); first | (refine new_i (fun b18 h18 => ?_); (apply Stop.h)))
            refine Stop.mk ?_
            repeat' ((try (conv => whnf)); first | (refine when_ye ?_ ?_; exact rfl) | (apply br_pnE; (exact rfl); omega) | (apply when_pnE; (exact rfl); omega) | (refine ldNThr hT1 hth ?_ ?_; (exact rfl)) | (refine ldNThr hT2r hT2 ?_ ?_; (exact rfl)) | (refine eq_yes ?_ ?_; (simp [eqC, eqOne])) | ((with_reducible show Ld _ _ _ _); first | (refine ldE0 hT1 hth rfl ?_) | (refine ldE0 hT2r hT2 rfl ?_) | (refine ldEk hT2r hT2 rfl ?_) | (refine ldE0 hO1 hy1 rfl ?_) | (refine ldE0 hO2r hy2 rfl ?_)) | ((with_reducible show IxS _ _ _ _ _); first | ((refine ixE hT1 hth ?_ ?_; (first | rfl | omega))) | ((refine ixE hT2r hT2 ?_ ?_; (first | rfl | omega))) | ((refine ixE hO1 hy1 ?_ ?_; (first | rfl | omega))) | ((refine ixE hO2r hy2 ?_ ?_; (first | rfl | omega)))) | ((with_reducible show CallQ _ _ _ _ _ _); first | ((refine call_qi (fun ex => hw _ inferInstance inferInstance) ?_ ?_ ?_; (exact rfl); (exact rfl))) | ((refine call_qi (fun ex => hv _ inferInstance inferInstance) ?_ ?_ ?_; (exact rfl); (exact rfl)))) | (refine ari ?_ ?_; omega) | (apply ld_o; exact rfl) | (apply stN_o; (exact rfl); (exact rfl); exact rfl))
            all_goals exact ⟨(i + 1, g2, s2), ⟨hil, hok2, hev2, hgb2, hG2, by show s2.n ≤ i + 1; omega⟩, (by show 40 - (i + 1) < 40 - i; omega), (by repeat' (first | exact True.intro | refine And.intro ?_ ?_ | exact rfl | exact vi (by omega) | (dsimp only; exact rfl) | (dsimp only; exact vi (by omega)))), ent_f5⟩
          · have hfn := forced_no hcs hth hphP rfl hx h7 (f := k) (by omega)
            have hsy := step_yes (c := m.c) hth hphP rfl hx h7
            have hd1 := fun q [EntC q Kp] => sp_doL (K := Kp) (c := m.c) hF hgb hok1 hev1 hG1 hPk (by omega) tn k (aa := none) (ad := []) (ac := 0) RdE.nil (Nat.le_refl _) (fun _ h => (by cases h)) q
            rw [hfn] at hd1
            dsimp only at hd1
            have hG2 := do_ok hG1 (ch := ⟨tn, 0, []⟩) (fun _ h => (by cases h))
            have hn2 := do_n hsy
            repeat' ((try (conv => whnf)); first | (apply br_pyE; (exact rfl); omega) | ((with_reducible show CallT _ _ _ _ _ _); first | ((refine call_to (hd1 _) ent_f2 ?_ ?_ (fun g2 v hv => ?_); (exact rfl); (exact rfl); (apply Stop.h)))) | (apply ld_o; exact rfl) | (apply stN_o; (exact rfl); (exact rfl); exact rfl))
            obtain ⟨rfl, hok2, hev2, hgb2⟩ := hv
            have hres2 := fun q => sp_resL (c := m.c) hgb2 hok2 hev2 hz1 q
            have hd2 := fun q [EntC q Kp] => sp_doL (K := Kp) (c := m.c) hF hgb2 hok2 hev2 hG1 hPk (by omega) tn 0 (aa := none) (ad := []) (ac := 0) RdE.nil (Nat.le_refl _) (fun _ h => (by cases h)) q
            generalize doM m.c P s1 ⟨tn, 0, []⟩ = z at *
            obtain ⟨zc, s2⟩ := z
            dsimp only at hsy hG2 hn2 hd2
            subst hsy
            have hgl := fun (r2 : RG) (hr2 : r2.ok W0 s1) (own' : Own) (e1 : EntC own' r1.D) (e2 : EntC own' r2.D) => sp_kglobal (hr1.at (e1.h W0)) (hr2.at (e2.h W0)) hz1
            refine Stop.mk ?_
            repeat' ((try (conv => whnf)); first | (refine when_ye ?_ ?_; exact rfl) | (refine br_fe ?_ ?_; exact rfl) | ((with_reducible show CallT _ _ _ _ _ _); first | ((refine call_to (hres2 _) Ent.refl ?_ ?_ (fun r2 v hv => ?_); (exact rfl); (exact rfl); (obtain ⟨rfl, hr2⟩ := hv))) | ((refine call_to (hd2 _) ent_f3 ?_ ?_ (fun g3 v hv => ?_); (exact rfl); (exact rfl); (obtain ⟨rfl, hok3, hev3, hgb3⟩ := hv)))) | ((with_reducible show CallQ _ _ _ _ _ _); first | ((refine call_qi (fun ex => hgl r2 hr2 _ inferInstance inferInstance) ?_ ?_ ?_; (exact rfl); (exact rfl)))) | (refine ari ?_ ?_; omega) | (apply ldN_a; exact rfl) | (refine Both.mk ?_ ?_))
            all_goals exact ⟨(i + 1, g3, s2), ⟨hil, hok3, hev3, hgb3, hG2, by show s2.n ≤ i + 1; omega⟩, (by show 40 - (i + 1) < 40 - i; omega), (by repeat' (first | exact True.intro | refine And.intro ?_ ?_ | exact rfl | exact vi (by omega) | (dsimp only; exact rfl) | (dsimp only; exact vi (by omega)))), ent_f4⟩
      · have hiN : i = 40 := by omega
        subst hiN
        repeat' ((try (conv => whnf)); first | (refine br_fe ?_ ?_; exact rfl) | ((with_reducible show CallT _ _ _ _ _ _); first | ((refine call_pe (haw _) ?_ ?_ ?_; (exact rfl); exact rfl))))
        exact ⟨ret1 rfl, ent_f9⟩
end
end Go.Proofs.YtfompmhncnkcfaaGreatDoor
