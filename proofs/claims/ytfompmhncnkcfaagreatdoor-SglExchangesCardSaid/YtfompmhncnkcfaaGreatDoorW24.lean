/- What the laws share, part 24. No condition. -/
import Derived.Test.YtfompmhncnkcfaaGreatDoorW23
namespace Go.Proofs.YtfompmhncnkcfaaGreatDoor
open Go
set_option maxRecDepth 10000
set_option maxHeartbeats 16000000
section
variable {W0 : World} {Kp : Own} {g : DP} {c : Cfg} {ps : List PH} {s : GS}
theorem sp_rno {t : Nat} {th : Thr} {ph : PH} (hT : ThOk c ps s t th ph) (h : g.ok W0 Kp ps s) {x : Ins} (hx : icheck x = 0) {f : Int} (hf : f ≠ 0) (hno : ¬ (f = 6 ∧ c.strong = true ∧ x.op = 13 ∧ adr th.rg x.a x.imm < c.words)) (aa : Option Addr) (al ac : Nat) (q : Own) :
    Pure Tryz.prog W0 44 [.pointer (some ⟨g.rb, 0, none⟩), chV t f aa al ac, x.v] (g.O c ps.length s ++ q) (.bool false) := by
  refine pure_of (spec_of mixed low_ref22_Global_single (by simp [ir_ref22_Global_single]) ?_)
  have hT0 := h.t
  have hTR := hT0.rd (W0 := W0)
  have hth := hT.hth
  obtain ⟨ha, hb⟩ := ic_b hx
  have ha' : x.a.toNat < 8 := by omega
  have hb' : x.b.toNat < 8 := by omega
  have ga : th.enc[1 + x.a.toNat]? = some (.int .u64 (th.rg.get x.a.toNat)) := Thr.enc_get ha'
  have gb : th.enc[1 + x.b.toNat]? = some (.int .u64 (th.rg.get x.b.toNat)) := Thr.enc_get hb'
  have hwd := (check_ok hT.c0).1
  unfold okW at hwd
  have hz0 := (adr_ok (r := th.rg) (b := x.a) (imm := x.imm)).1
  obtain ⟨z, hz⟩ := Int.eq_ofNat_of_zero_le hz0
  rw [hz] at hno
  obtain ⟨op, a, b', c', imm⟩ := x
  dsimp only [Ins.v] at *
  have hzw : IntKind.u64.wrap (th.rg.get a.toNat + IntKind.u64.wrap imm) = (z : Int) := hz
  by_cases h13 : op = 13
  · subst h13
    have e13 : ¬ (13 : Int) ≠ 13 := fun h => h rfl
    by_cases h6 : f = 6
    · subst h6
      have e6 : ¬ (6 : Int) ≠ 6 := fun h => h rfl
      cases hs : c.strong with
      | false =>
        have hns : (!c.strong) = true := by rw [hs]; rfl
        repeat' ((try (conv => whnf)); first | (refine when_ye ?_ ?_; exact rfl) | (refine when_ne ?_ ?_; exact rfl) | (refine br_te ?_ ?_; exact rfl) | (refine when_ne hns ?_) | (refine ldE (k := 1 + b'.toNat) (RdE.up hTR) hth ?_ gb ?_; omega) | (refine ldE (k := 1 + a.toNat) (RdE.up hTR) hth ?_ ga ?_; omega) | (refine ar_eq hzw ?_) | (refine aru ?_ ?_; omega) | (refine arw (k := .u64) ?_) | ((with_reducible show IxS _ _ _ _ _); first | ((refine ixE hTR hth ?_ ?_; (first | rfl | omega)))) | (refine ixn ?_ ?_; omega) | (apply ld_o; exact rfl) | (refine new_i (fun bk hbk => ?_)))
        all_goals exact ⟨rfl, (by first | exact ent_i | (repeat (first | exact Ent.refl | exact Ent.left | refine Ent.cons ?_ | refine Ent.app ?_)))⟩
      | true =>
        have hns : (!c.strong) = false := by rw [hs]; rfl
        have hzo : ¬ (z : Int) < c.words := fun h => hno ⟨rfl, hs, rfl, h⟩
        repeat' ((try (conv => whnf)); first | (refine when_ye ?_ ?_; exact rfl) | (refine br_te ?_ ?_; exact rfl) | (apply br_npnE; (exact rfl); omega) | (refine when_ye hns ?_) | (refine ldE (k := 1 + b'.toNat) (RdE.up hTR) hth ?_ gb ?_; omega) | (refine ldE (k := 1 + a.toNat) (RdE.up hTR) hth ?_ ga ?_; omega) | (refine ar_eq hzw ?_) | (refine aru ?_ ?_; omega) | (refine arw (k := .u64) ?_) | ((with_reducible show IxS _ _ _ _ _); first | ((refine ixE hTR hth ?_ ?_; (first | rfl | omega)))) | (refine ixn ?_ ?_; omega) | (apply ld_o; exact rfl) | (refine new_i (fun bk hbk => ?_)))
        all_goals exact ⟨rfl, (by first | exact ent_i | (repeat (first | exact Ent.refl | exact Ent.left | refine Ent.cons ?_ | refine Ent.app ?_)))⟩
    · repeat' ((try (conv => whnf)); first | (refine when_ne ?_ ?_; exact rfl) | (refine br_te ?_ ?_; exact rfl) | (apply br_pyE; (exact rfl); omega) | (apply when_pyE; (exact rfl); omega) | (refine ldE (k := 1 + b'.toNat) (RdE.up hTR) hth ?_ gb ?_; omega) | (refine ldE (k := 1 + a.toNat) (RdE.up hTR) hth ?_ ga ?_; omega) | (refine ar_eq hzw ?_) | (refine aru ?_ ?_; omega) | (refine arw (k := .u64) ?_) | ((with_reducible show IxS _ _ _ _ _); first | ((refine ixE hTR hth ?_ ?_; (first | rfl | omega)))) | (refine ixn ?_ ?_; omega) | (apply ld_o; exact rfl) | (refine new_i (fun bk hbk => ?_)))
      all_goals exact ⟨rfl, (by first | exact ent_i | (repeat (first | exact Ent.refl | exact Ent.left | refine Ent.cons ?_ | refine Ent.app ?_)))⟩
  · by_cases h6 : f = 6
    · subst h6
      have e6 : ¬ (6 : Int) ≠ 6 := fun h => h rfl
      repeat' ((try (conv => whnf)); first | (refine when_ye ?_ ?_; exact rfl) | (refine when_ne ?_ ?_; exact rfl) | (refine br_te ?_ ?_; exact rfl) | (apply br_pnE; (exact rfl); omega) | (apply when_pyE; (exact rfl); omega) | (refine ldE (k := 1 + b'.toNat) (RdE.up hTR) hth ?_ gb ?_; omega) | (refine aru ?_ ?_; omega) | (refine arw (k := .u64) ?_) | ((with_reducible show IxS _ _ _ _ _); first | ((refine ixE hTR hth ?_ ?_; (first | rfl | omega)))) | (refine ixn ?_ ?_; omega) | (apply ld_o; exact rfl) | (refine new_i (fun bk hbk => ?_)))
      all_goals exact ⟨rfl, (by first | exact ent_i | (repeat (first | exact Ent.refl | exact Ent.left | refine Ent.cons ?_ | refine Ent.app ?_)))⟩
    · repeat' ((try (conv => whnf)); first | (refine when_ne ?_ ?_; exact rfl) | (refine br_te ?_ ?_; exact rfl) | (apply br_pyE; (exact rfl); omega) | (apply br_pnE; (exact rfl); omega) | (apply when_pyE; (exact rfl); omega) | (refine ldE (k := 1 + b'.toNat) (RdE.up hTR) hth ?_ gb ?_; omega) | (refine aru ?_ ?_; omega) | (refine arw (k := .u64) ?_) | ((with_reducible show IxS _ _ _ _ _); first | ((refine ixE hTR hth ?_ ?_; (first | rfl | omega)))) | (refine ixn ?_ ?_; omega) | (apply ld_o; exact rfl) | (refine new_i (fun bk hbk => ?_)))
      all_goals exact ⟨rfl, (by first | exact ent_i | (repeat (first | exact Ent.refl | exact Ent.left | refine Ent.cons ?_ | refine Ent.app ?_)))⟩
theorem sp_rloc {t : Nat} {th : Thr} {ph : PH} (hT : ThOk c ps s t th ph) (h : g.ok W0 Kp ps s) {x : Ins} (hx : icheck x = 0) (hl : isL x = true) (hpc : th.pc < ph.p.length ∧ ph.p.length ≤ 64) (aa : Option Addr) (al ac : Nat) (q : Own) :
    Spec Tryz.prog W0 44 [.pointer (some ⟨g.rb, 0, none⟩), chV t 0 aa al ac, x.v] (g.O c ps.length s ++ q) fun v own' => ∃ g1 : DP,
      (v = .bool true ∧ g1.ok W0 Kp ps { s with T := s.T.set t (locM th x) } ∧ g1.rb = g.rb) ∧ Ent W0 own' (g1.O c ps.length { s with T := s.T.set t (locM th x) } ++ q) := by
  refine spec_of mixed low_ref22_Global_single (by simp [ir_ref22_Global_single]) ?_
  have hT0 := h.t
  have hTR := hT0.rd (W0 := W0)
  have hth := hT.hth
  obtain ⟨ha, hb⟩ := ic_b hx
  have hb' : x.b.toNat < 8 := by omega
  have gb : th.enc[1 + x.b.toNat]? = some (.int .u64 (th.rg.get x.b.toNat)) := Thr.enc_get hb'
  have hwd := (check_ok hT.c0).1
  unfold okW at hwd
  have h13 : x.op ≠ 13 := fun e => by simp [isL, e] at hl
  have hls := fun E => sp_rlocalS (c := c) h hth hx hl hT.rg (by omega) (E ++ q)
  obtain ⟨op, a, b', c', imm⟩ := x
  dsimp only [Ins.v] at *
  repeat' ((try (conv => whnf)); first | (refine br_fe ?_ ?_; exact rfl) | (apply br_pnE; (exact rfl); omega) | (refine ldE (k := 1 + b'.toNat) (RdE.up hTR) hth ?_ gb ?_; omega) | (refine aru ?_ ?_; omega) | (refine arw (k := .u64) ?_) | ((with_reducible show IxS _ _ _ _ _); first | ((refine ixE hTR hth ?_ ?_; (first | rfl | omega)))) | ((with_reducible show CallT _ _ _ _ _ _); first | (((apply Stop.h)))) | (refine ixn ?_ ?_; omega) | (apply ld_o; exact rfl) | (apply ldN_a; exact rfl) | (refine new_i (fun bk hbk => ?_)))
  rename_i b4 h4
  have hls2 := hls [(bk, fun o => o = Obj.cells #[.int .i64 op, .int .i64 a, .int .i64 b', .int .i64 c', .int .i64 imm] 69 (0, 0)), (b4, fun o => o = Obj.cells #[.int .i64 t, .int .i64 0, .slice aa al ac] 43 (0, 0))]
  refine Stop.mk ?_
  repeat' ((try (conv => whnf)); first | (refine br_te ?_ ?_; exact rfl) | ((with_reducible show CallT _ _ _ _ _ _); first | ((refine call_to hls2 ent_s1 ?_ ?_ (fun g1 v hv => ?_); (exact rfl); (exact rfl); (obtain ⟨rfl, hk1, hg1⟩ := hv)))))
  exact ⟨g1, ⟨rfl, hk1, by rw [hg1]⟩, ent_s2⟩
theorem sp_rsingle {t : Nat} {th : Thr} {ph : PH} (hT : ThOk c ps s t th ph) (h : g.ok W0 Kp ps s) {x : Ins} (hx : icheck x = 0) (hop : (0 ≤ x.op ∧ x.op ≤ 6) ∨ x.op = 12 ∨ x.op = 13 ∨ x.op = 16 ∨ x.op = 17) (hpc : th.pc < ph.p.length ∧ ph.p.length ≤ 64) (f : Int) (aa : Option Addr) (al ac : Nat) (q : Own) :
    Spec Tryz.prog W0 44 [.pointer (some ⟨g.rb, 0, none⟩), chV t f aa al ac, x.v] (g.O c ps.length s ++ q) fun v own' =>
      ((v = .bool false ∧ sgM c ph.p s th t f x = none) ∧ Ent W0 own' (g.O c ps.length s ++ q)) ∨
      ∃ y : GS × DP × Thr, (v = .bool true ∧ y.1.T[t]? = some y.2.2 ∧ sgM c ph.p s th t f x = some (exS y.1 t ph.p.length y.2.2) ∧ y.1.n = s.n ∧ y.2.1.ok W0 Kp ps y.1 ∧ y.2.1.rb = g.rb) ∧ Ent W0 own' (y.2.1.O c ps.length y.1 ++ q) := by
  have htl := (List.getElem?_eq_some_iff.1 hT.hth).1
  have mk : ∀ (s1 : GS) (th1 : Thr), s1.T[t]? = some th1 → s1.n = s.n → sgM c ph.p s th t f x = some (exS s1 t ph.p.length th1) → (Spec Tryz.prog W0 44 [.pointer (some ⟨g.rb, 0, none⟩), chV t f aa al ac, x.v] (g.O c ps.length s ++ q) fun v own' => ∃ g1 : DP, (v = .bool true ∧ g1.ok W0 Kp ps s1 ∧ g1.rb = g.rb) ∧ Ent W0 own' (g1.O c ps.length s1 ++ q)) →
      Spec Tryz.prog W0 44 [.pointer (some ⟨g.rb, 0, none⟩), chV t f aa al ac, x.v] (g.O c ps.length s ++ q) fun v own' =>
      ((v = .bool false ∧ sgM c ph.p s th t f x = none) ∧ Ent W0 own' (g.O c ps.length s ++ q)) ∨
      ∃ y : GS × DP × Thr, (v = .bool true ∧ y.1.T[t]? = some y.2.2 ∧ sgM c ph.p s th t f x = some (exS y.1 t ph.p.length y.2.2) ∧ y.1.n = s.n ∧ y.2.1.ok W0 Kp ps y.1 ∧ y.2.1.rb = g.rb) ∧ Ent W0 own' (y.2.1.O c ps.length y.1 ++ q) := fun s1 th1 h1 hn h2 hs w hw =>
    (hs w hw).mono fun _ _ ⟨v, o, a, b, g1, ⟨h3, h4, h5⟩, h6⟩ => ⟨v, o, a, b, .inr ⟨(s1, g1, th1), ⟨h3, h1, h2, hn, h4, h5⟩, h6⟩⟩
  have hz0 := (adr_ok (r := th.rg) (b := x.a) (imm := x.imm)).1
  have hy0 := (adr_ok (r := th.rg) (b := x.b) (imm := x.imm)).1
  obtain ⟨z, hz⟩ := Int.eq_ofNat_of_zero_le hz0
  obtain ⟨y, hy⟩ := Int.eq_ofNat_of_zero_le hy0
  have hgs : ∀ l : List Thr, ∀ a b : Thr, (l.set t a).set t b = l.set t b := fun l a b => List.set_set ..
  by_cases hf : f = 0
  · subst hf
    by_cases h12 : x.op = 12
    · have hsg : sgM c ph.p s th t 0 x = if c.words ≤ (y : Int) then some (s.fin t (th.nxt ph.p.length (th.rg.set x.a.toNat 0)) [⟨th.pc, 7, 7⟩]) else some ((s.ev (plE c s.n t 1 y)).fin t (th.nxt ph.p.length (th.rg.set x.a.toNat (s.d.getD y 0))) [⟨th.pc, 4, s.d.getD y 0⟩]) := by
        unfold sgM
        rw [if_pos (.inl h12), if_pos h12, hy]
        simp [h12]
      by_cases hw : c.words ≤ (y : Int)
      · refine mk _ { th with rg := th.rg.set x.a.toNat 0, pc := th.pc + 1 } ?_ ?_ ?_ (sp_rout12 (ps := ps) hT h hx h12 hpc hy hw aa al ac q)
        · exact List.getElem?_set_self htl
        · rfl
        · rw [hsg, if_pos hw]; simp only [exS, GS.fin, Thr.nxt, hgs]
      · refine mk _ { th with rg := th.rg.set x.a.toNat (s.d.getD y 0), pc := th.pc + 1 } ?_ ?_ ?_ (sp_rin12 (ps := ps) hT h hx h12 hpc hy (by omega) aa al ac q)
        · exact List.getElem?_set_self htl
        · rfl
        · rw [hsg, if_neg hw]; simp only [exS, GS.fin, GS.ev, Thr.nxt, hgs]
    · by_cases h13 : x.op = 13
      · have hsg : sgM c ph.p s th t 0 x = if c.words ≤ (z : Int) then some (s.fin t (th.nxt ph.p.length th.rg) [⟨th.pc, 7, 7⟩]) else some (((s.mem (s.d.set z (th.rg.get x.b.toNat)) s.tk).ev (plE c s.n t 2 z)).fin t (th.nxt ph.p.length th.rg) [⟨th.pc, 5, th.rg.get x.b.toNat⟩]) := by
          unfold sgM
          rw [if_pos (.inr h13), if_neg h12, hz]
          simp [h13]
        by_cases hw : c.words ≤ (z : Int)
        · refine mk _ { th with pc := th.pc + 1 } ?_ ?_ ?_ (sp_rout13 (ps := ps) hT h hx h13 hpc hz hw aa al ac q)
          · exact List.getElem?_set_self htl
          · rfl
          · rw [hsg, if_pos hw]; simp only [exS, GS.fin, Thr.nxt, hgs]
        · refine mk _ { th with pc := th.pc + 1 } ?_ ?_ ?_ (sp_rin13 (ps := ps) hT h hx h13 hpc hz (by omega) aa al ac q)
          · exact List.getElem?_set_self htl
          · rfl
          · rw [hsg, if_neg hw]; simp only [exS, GS.fin, GS.ev, GS.mem, Thr.nxt, hgs]
      · have hsg : sgM c ph.p s th t 0 x = some (s.fin t { locM th x with dn := decide ((locM th x).pc = ph.p.length) } (if x.op = 16 then [⟨th.pc, 6, 0⟩] else [])) := by
          unfold sgM
          rw [if_neg (by omega), if_neg (by simp)]
        by_cases h16 : x.op = 16
        · have hlo : locM th x = { th with pc := th.pc + 1 } := by simp [locM, locR, locP, h16]
          refine mk _ { th with pc := th.pc + 1 } ?_ ?_ ?_ (sp_rfence (ps := ps) hT h hx h16 hpc aa al ac q)
          · exact List.getElem?_set_self htl
          · rfl
          · rw [hsg, if_pos h16, hlo]; simp only [exS, GS.fin, hgs]
        · have hl : isL x = true := by simp only [isL, decide_eq_true_eq]; omega
          refine mk _ (locM th x) ?_ ?_ ?_ (sp_rloc (ps := ps) hT h hx hl hpc aa al ac q)
          · exact List.getElem?_set_self htl
          · rfl
          · rw [hsg, if_neg h16]; simp only [exS, GS.fin, hgs]; rw [set_getD (by rw [hT.tl]; exact htl)]
  · by_cases hp : f = 6 ∧ c.strong = true ∧ x.op = 13 ∧ adr th.rg x.a x.imm < c.words
    · obtain ⟨rfl, hs, h13, hw⟩ := hp
      rw [hz] at hw
      refine mk _ { th with pc := th.pc + 1 } ?_ ?_ ?_ (sp_rforced (ps := ps) hT h hx h13 hpc hz hw hs aa al ac q)
      · exact List.getElem?_set_self htl
      · rfl
      · unfold sgM
        have e12 : ¬ x.op = 12 := by omega
        rw [if_pos (.inr h13), if_neg e12, hz]
        simp only [exS, GS.fin, Thr.nxt, hgs, ne_eq, Int.reduceEq, not_false_eq_true, if_true, hs, h13, hw, true_and]
    · have hsg : sgM c ph.p s th t f x = none := by
        unfold sgM
        by_cases h1 : x.op = 12 ∨ x.op = 13
        · rw [if_pos h1]
          by_cases h12 : x.op = 12
          · rw [if_pos h12]
            dsimp only
            rw [if_pos hf, if_neg (by omega)]
          · rw [if_neg h12]
            dsimp only
            rw [if_pos hf, if_neg hp]
        · rw [if_neg h1, if_pos hf]
      rw [hsg]
      have hno := sp_rno (ps := ps) hT h hx hf hp aa al ac q
      intro w hw
      exact (hno w hw).mono fun e w' ⟨he, hs⟩ => ⟨_, _, he, hs, .inl ⟨⟨rfl, rfl⟩, Ent.refl⟩⟩
end
end Go.Proofs.YtfompmhncnkcfaaGreatDoor
namespace Go.Proofs.YtfompmhncnkcfaaGreatDoor
open Go
set_option maxRecDepth 10000
set_option maxHeartbeats 16000000
structure BG where
  xb : Nat
  da : Option Addr
  dc : Nat
  dD : Own
  ka : Option Addr
  kc : Nat
  kD : Own
  ra : Option Addr
  rc : Nat
  rD : Own
  wa : Option Addr
  wc : Nat
  wD : Own
  oa : Option Addr
  oc : Nat
  oD : Own
  aa : Option Addr
  ac : Nat
abbrev BG.pre (g : BG) (b : BM) : List Value := [.slice g.da b.d.length g.dc, .slice g.ka b.tk.length g.kc]
abbrev BG.post (g : BG) (b : BM) (bad : Bool) : List Value := [.slice g.ra b.r.length g.rc, .slice g.wa b.w.length g.wc, .slice g.oa b.o.length g.oc, .slice g.aa b.ad.length g.ac, .bool bad]
abbrev BG.O (g : BG) (b : BM) (bad : Bool) : Own := thB g.xb 130 (g.pre b) (g.post b bad) b.t :: (g.dD ++ (g.kD ++ (g.rD ++ (g.wD ++ g.oD))))
structure BG.ok (g : BG) (W0 : World) (K : Own) (b : BM) : Prop where
  d : BufE encU 63 1 g.da g.dc b.d g.dD
  m : BufE encB 4 1 g.ka g.kc b.tk g.kD
  a : RdE encI 1 W0 K g.aa b.ad
  al : b.ad.length ≤ g.ac
  r : BufE encI 3 1 g.ra g.rc b.r g.rD
  w : BufE encI 3 1 g.wa g.wc b.w g.wD
  o : BufE ObM.enc 106 3 g.oa g.oc b.o g.oD
section
variable {W0 : World} {K : Own} {g : BG} {c : Cfg} {b : BM} {bad : Bool}
theorem sp_bwrite (h : g.ok W0 K b) {a : Nat} (ha : a < b.d.length) (hl : b.w.length ≤ 1000000) (v : Int) (q : Own) :
    Spec Tryz.prog W0 90 [.pointer (some ⟨g.xb, 0, none⟩), .int .i64 a, .int .u64 v] (g.O b bad ++ q) fun _ own' => ∃ g' : BG,
      (g'.ok W0 K (wrM b a v) ∧ g'.xb = g.xb) ∧ Ent W0 own' (g'.O (wrM b a v) bad ++ q) := by
  refine spec_of mixed low_ref22_body_write (by simp [ir_ref22_body_write]) ?_
  have hD := h.d
  have hDR := hD.rd (W0 := W0)
  have hW := h.w
  obtain ⟨x, hx⟩ : ∃ x, b.d[a]? = some x := ⟨_, List.getElem?_eq_getElem ha⟩
  have hc := fun (own' : Own) [EntC own' g.wD] => sp_in (own := own') (cap := g.wc) ((hW.rd (W0 := W0)).up) (by omega) a
  by_cases hm : (a : Int) ∈ b.w
  · repeat' ((try (conv => whnf)); first | (apply br_npyE; (exact rfl); omega) | (apply stE_i (enc := encU) (T := 63) (j := a) (k := 0) v hD hx; (exact rfl); (omega); (exact rfl); (exact rfl); intro D1 hb1) | ((with_reducible show IxS _ _ _ _ _); first | ((refine ixE hDR hx ?_ ?_; (first | rfl | omega)))) | ((with_reducible show CallT _ _ _ _ _ _); first | ((refine call_pe (hc _) ?_ ?_ ?_; (exact rfl); exact rfl))) | (apply ld_o; exact rfl))
    refine ⟨{ g with dD := D1 }, ⟨⟨hb1, h.m, h.a, h.al, h.r, ?_, h.o⟩, rfl⟩, ?_⟩
    · show BufE _ _ _ _ _ (addI b.w a) _
      rw [addI, if_pos hm]; exact hW
    · dsimp only [BG.O, BG.pre, BG.post, wrM]
      rw [addI, if_pos hm, List.length_set]
      exact (by first | exact ent_i | (repeat (first | exact Ent.refl | exact Ent.left | refine Ent.cons ?_ | refine Ent.app ?_)))
  · repeat' ((try (conv => whnf)); first | (apply br_npnE; (exact rfl); omega) | (apply stE_i (enc := encU) (T := 63) (j := a) (k := 0) v hD hx; (exact rfl); (omega); (exact rfl); (exact rfl); intro D1 hb1) | (apply app_i (enc := encI) (T := 3) (a : Int) hW; (exact rfl); (exact rfl); (omega); (exact rfl); (exact rfl); (omega); intro a2 c2 D2 hb2) | ((with_reducible show IxS _ _ _ _ _); first | ((refine ixE hDR hx ?_ ?_; (first | rfl | omega)))) | ((with_reducible show CallT _ _ _ _ _ _); first | ((refine call_pe (hc _) ?_ ?_ ?_; (exact rfl); exact rfl))) | (apply ld_o; exact rfl) | (apply st_o; (exact rfl); exact rfl) | (refine new_i (fun bk hbk => ?_)))
    refine ⟨{ g with dD := D1, wa := a2, wc := c2, wD := D2 }, ⟨⟨hb1, h.m, h.a, h.al, h.r, ?_, h.o⟩, rfl⟩, ?_⟩
    · show BufE _ _ _ _ _ (addI b.w a) _
      rw [addI, if_neg hm]; exact hb2
    · dsimp only [BG.O, BG.pre, BG.post, wrM]
      rw [addI, if_neg hm, List.length_set]
      simp only [List.length_append, List.length_cons, List.length_nil, Nat.zero_add]
      exact (by first | exact ent_i | (repeat (first | exact Ent.refl | exact Ent.left | refine Ent.cons ?_ | refine Ent.app ?_)))
end
end Go.Proofs.YtfompmhncnkcfaaGreatDoor
namespace Go.Proofs.YtfompmhncnkcfaaGreatDoor
open Go
set_option maxRecDepth 10000
set_option maxHeartbeats 16000000
section
variable {W0 : World} {own : Own} {b : Nat} {T : TypeId} {pre post : List Value} {t : Thr}
theorem st_bg {off : Nat} {v : Value} {K : Own → Prop} {C : (Obj → Prop) → Own} [m : UpC b (fun o => o = Obj.cells (pre ++ (t.enc ++ post)).toArray T (0, 0)) own C] (post' : List Value) (hs : (pre ++ (t.enc ++ post)).set off v = pre ++ (t.enc ++ post')) (h1 : oneC v = true) (ho : off < (pre ++ (t.enc ++ post)).length)
    (h : K (C fun o => o = Obj.cells (pre ++ (t.enc ++ post')).toArray T (0, 0))) : StT W0 own ⟨b, off, none⟩ v K := by
  refine st_o (by simp at ho ⊢; omega) h1 ?_
  rw [List.toList_toArray, hs]
  exact h
end
section
variable {W0 : World} {K Kp : Own} {g : BG} {dp : DP} {c : Cfg} {np : Nat} {s : GS} {b : BM}
theorem sp_i89 {x : Ins} (hop : x.op = 8 ∨ x.op = 9) (q : Own) : Pure Tryz.prog W0 69 [.pointer (some ⟨dp.rb, 0, none⟩), .pointer (some ⟨g.xb, 0, none⟩), x.v] (g.O b false ++ (dp.O c np s ++ q)) (.int .i64 (if x.op = 8 then 1 else 2)) := by
  refine pure_of (spec_of mixed low_ref22_Global_inside (by simp [ir_ref22_Global_inside]) ?_)
  have hln := fun own => sp_rlocal_n (W0 := W0) (b := g.xb) (o := 2) (x := x) (by rcases hop with h | h <;> simp [isL, h]) own
  obtain ⟨op, a, b', c', imm⟩ := x
  dsimp only [Ins.v] at *
  rcases hop with rfl | rfl
  all_goals
    repeat' ((try (conv => whnf)); first | (refine br_te ?_ ?_; exact rfl) | (refine br_fe ?_ ?_; exact rfl) | ((with_reducible show CallT _ _ _ _ _ _); first | ((refine call_p (hln _) ?_))) | (apply ld_o; exact rfl) | (apply ldN_a; exact rfl) | (apply ldN_o; (exact rfl); exact rfl) | (apply stN_o; (exact rfl); (exact rfl); exact rfl) | (refine new_i (fun bk hbk => ?_)))
    all_goals exact ⟨rfl, (by first | exact ent_i | (repeat (first | exact Ent.refl | exact Ent.left | refine Ent.cons ?_ | refine Ent.app ?_)))⟩
theorem sp_i10o {x : Ins} (hx : icheck x = 0) (hop : x.op = 10) (hc : checkM c = 0) {z : Nat} (hz : adr b.t.rg x.b x.imm = z) (hzo : c.words ≤ z) (q : Own) :
    Pure Tryz.prog W0 69 [.pointer (some ⟨dp.rb, 0, none⟩), .pointer (some ⟨g.xb, 0, none⟩), x.v] (g.O b false ++ (dp.O c np s ++ q)) (.int .i64 7) := by
  refine pure_of (spec_of mixed low_ref22_Global_inside (by simp [ir_ref22_Global_inside]) ?_)
  obtain ⟨ha, hb⟩ := ic_b hx
  have ha' : x.a.toNat < 8 := by omega
  have hb' : x.b.toNat < 8 := by omega
  have hwd := (check_ok hc).1
  unfold okW at hwd
  have hln := fun own => sp_rlocal_n (W0 := W0) (b := g.xb) (o := 2) (x := x) (by simp [isL, hop]) own
  obtain ⟨op, a, b', c', imm⟩ := x
  dsimp only [Ins.v] at *
  subst hop
  have hzw : IntKind.u64.wrap (b.t.rg.get b'.toNat + IntKind.u64.wrap imm) = (z : Int) := hz
  repeat' ((try (conv => whnf)); first | (refine br_te ?_ ?_; exact rfl) | (refine br_fe ?_ ?_; exact rfl) | (apply br_pyE; (exact rfl); omega) | (refine ld_reg (t := b.t) (pre := g.pre b) (post := g.post b false) hb' ?_ ?_; (simp; omega)) | (refine ar_eq hzw ?_) | (refine aru ?_ ?_; omega) | (refine arw (k := .u64) ?_) | ((with_reducible show CallT _ _ _ _ _ _); first | ((refine call_p (hln _) ?_))) | (refine ixn ?_ ?_; omega) | (apply ld_o; exact rfl) | (apply ldN_a; exact rfl) | (apply ldN_o; (exact rfl); exact rfl) | (apply stN_o; (exact rfl); (exact rfl); exact rfl) | (refine new_i (fun bk hbk => ?_)))
  all_goals exact ⟨rfl, (by first | exact ent_i | (repeat (first | exact Ent.refl | exact Ent.left | refine Ent.cons ?_ | refine Ent.app ?_)))⟩
theorem sp_i11o {x : Ins} (hx : icheck x = 0) (hop : x.op = 11) (hc : checkM c = 0) {z : Nat} (hz : adr b.t.rg x.a x.imm = z) (hzo : c.words ≤ z) (q : Own) :
    Pure Tryz.prog W0 69 [.pointer (some ⟨dp.rb, 0, none⟩), .pointer (some ⟨g.xb, 0, none⟩), x.v] (g.O b false ++ (dp.O c np s ++ q)) (.int .i64 7) := by
  refine pure_of (spec_of mixed low_ref22_Global_inside (by simp [ir_ref22_Global_inside]) ?_)
  obtain ⟨ha, hb⟩ := ic_b hx
  have ha' : x.a.toNat < 8 := by omega
  have hb' : x.b.toNat < 8 := by omega
  have hwd := (check_ok hc).1
  unfold okW at hwd
  have hln := fun own => sp_rlocal_n (W0 := W0) (b := g.xb) (o := 2) (x := x) (by simp [isL, hop]) own
  obtain ⟨op, a, b', c', imm⟩ := x
  dsimp only [Ins.v] at *
  subst hop
  have hzw : IntKind.u64.wrap (b.t.rg.get a.toNat + IntKind.u64.wrap imm) = (z : Int) := hz
  repeat' ((try (conv => whnf)); first | (refine br_te ?_ ?_; exact rfl) | (refine br_fe ?_ ?_; exact rfl) | (apply br_pyE; (exact rfl); omega) | (refine ld_reg (t := b.t) (pre := g.pre b) (post := g.post b false) ha' ?_ ?_; (simp; omega)) | (refine ar_eq hzw ?_) | (refine aru ?_ ?_; omega) | (refine arw (k := .u64) ?_) | ((with_reducible show CallT _ _ _ _ _ _); first | ((refine call_p (hln _) ?_))) | (refine ixn ?_ ?_; omega) | (apply ld_o; exact rfl) | (apply ldN_a; exact rfl) | (apply ldN_o; (exact rfl); exact rfl) | (apply stN_o; (exact rfl); (exact rfl); exact rfl) | (refine new_i (fun bk hbk => ?_)))
  all_goals exact ⟨rfl, (by first | exact ent_i | (repeat (first | exact Ent.refl | exact Ent.left | refine Ent.cons ?_ | refine Ent.app ?_)))⟩
end
end Go.Proofs.YtfompmhncnkcfaaGreatDoor
namespace Go.Proofs.YtfompmhncnkcfaaGreatDoor
open Go
set_option maxRecDepth 10000
set_option maxHeartbeats 16000000
section
variable {W0 : World} {K Kp : Own} {g : BG} {dp : DP} {c : Cfg} {np : Nat} {s : GS} {b : BM}
theorem ent_i3 {e a b d : Nat × (Obj → Prop)} {A Z : Own} : Ent W0 (d :: (a :: (b :: ((e :: A) ++ Z)))) ((e :: A) ++ Z) := ent_cnt [d, a, b] fun a => by simp only [cnt_app, cnt_cons, cnt_nil]; omega
theorem ent_i4 {e a b d f : Nat × (Obj → Prop)} {A Z : Own} : Ent W0 (d :: (f :: (a :: (b :: ((e :: A) ++ Z))))) ((e :: A) ++ Z) := ent_cnt [d, f, a, b] fun a => by simp only [cnt_app, cnt_cons, cnt_nil]; omega
theorem ent_i2 {e a b : Nat × (Obj → Prop)} {A Z : Own} : Ent W0 (a :: (b :: ((e :: A) ++ Z))) ((e :: A) ++ Z) := ent_cnt [a, b] fun a => by simp only [cnt_app, cnt_cons, cnt_nil]; omega
theorem ent_i1 {e a b : Nat × (Obj → Prop)} {A Z : Own} : Ent W0 (e :: (A ++ (a :: (b :: Z)))) ((e :: A) ++ Z) := ent_cnt [a, b] fun a => by simp only [cnt_app, cnt_cons, cnt_nil]; omega
theorem sp_i11 {x : Ins} (h : g.ok W0 K b) (hx : icheck x = 0) (hop : x.op = 11) (hc : checkM c = 0) (hpc : b.t.pc ≤ 64) (hdl : (b.d.length : Int) = c.words) (hw : b.w.length ≤ 900000) {z : Nat} (hz : adr b.t.rg x.a x.imm = z) (hzi : (z : Int) < c.words) (q : Own) :
    Spec Tryz.prog W0 69 [.pointer (some ⟨dp.rb, 0, none⟩), .pointer (some ⟨g.xb, 0, none⟩), x.v] (g.O b false ++ (dp.O c np s ++ q)) fun v own' => ∃ g1 : BG, (v = .int .i64 0 ∧ g1.ok W0 K (wrM b z (b.t.rg.get x.b.toNat)).go ∧ g1.xb = g.xb) ∧ Ent W0 own' (g1.O (wrM b z (b.t.rg.get x.b.toNat)).go false ++ (dp.O c np s ++ q)) := by
  refine spec_of mixed low_ref22_Global_inside (by simp [ir_ref22_Global_inside]) ?_
  obtain ⟨ha, hb⟩ := ic_b hx
  have ha' : x.a.toNat < 8 := by omega
  have hb' : x.b.toNat < 8 := by omega
  have hwd := (check_ok hc).1
  unfold okW at hwd
  have hln := fun own => sp_rlocal_n (W0 := W0) (b := g.xb) (o := 2) (x := x) (by simp [isL, hop]) own
  obtain ⟨op, a, b', c', imm⟩ := x
  dsimp only [Ins.v] at *
  subst hop
  have hzw : IntKind.u64.wrap (b.t.rg.get a.toNat + IntKind.u64.wrap imm) = (z : Int) := hz
  have hwr := fun q => sp_bwrite (bad := false) h (a := z) (by omega) (by omega) (b.t.rg.get b'.toNat) q
  repeat' ((try (conv => whnf)); first | (refine br_te ?_ ?_; exact rfl) | (refine br_fe ?_ ?_; exact rfl) | (apply br_pnE; (exact rfl); omega) | (refine ld_reg (t := b.t) (pre := g.pre b) (post := g.post b false) ha' ?_ ?_; (simp; omega)) | (refine ld_reg (t := b.t) (pre := g.pre b) (post := g.post b false) hb' ?_ ?_; (simp; omega)) | (refine ar_eq hzw ?_) | (refine aru ?_ ?_; omega) | (refine arw (k := .u64) ?_) | ((with_reducible show CallT _ _ _ _ _ _); first | ((refine call_p (hln _) ?_)) | ((refine call_fr (hwr _) ?_ ?_ (fun g1 v hv => ?_); (exact rfl); (exact rfl); (apply Stop.h)))) | (refine ari ?_ ?_; omega) | (refine ixn ?_ ?_; omega) | (apply ld_o; exact rfl) | (apply ldN_a; exact rfl) | (apply ldN_o; (exact rfl); exact rfl) | (apply stN_o; (exact rfl); (exact rfl); exact rfl) | (refine new_i (fun bk hbk => ?_)))
  obtain ⟨hk1, hxb⟩ := hv
  rw [← hxb]
  refine Stop.mk ?_
  repeat' ((try (conv => whnf)); first | (refine ld_th (t := b.t) (pre := g1.pre (wrM b z (b.t.rg.get b'.toNat))) (post := g1.post (wrM b z (b.t.rg.get b'.toNat)) false) (k := 0) (v := .int .i64 b.t.pc) rfl ?_ ?_; (exact rfl)) | (refine st_pcN (t := b.t) (pre := g1.pre (wrM b z (b.t.rg.get b'.toNat))) (post := g1.post (wrM b z (b.t.rg.get b'.toNat)) false) (n := b.t.pc + 1) ?_ ?_ ?_; (omega); (exact rfl)) | (refine ari ?_ ?_; omega))
  exact ⟨g1, ⟨rfl, ⟨hk1.d, hk1.m, hk1.a, hk1.al, hk1.r, hk1.w, hk1.o⟩, rfl⟩, ent_i1⟩
theorem sp_i10 {x : Ins} (h : g.ok W0 K b) (hx : icheck x = 0) (hop : x.op = 10) (hc : checkM c = 0) (hpc : b.t.pc ≤ 64) (hdl : (b.d.length : Int) = c.words) (hw : b.w.length ≤ 900000) (hr : b.r.length ≤ 900000) (ho : b.o.length ≤ 900000) {z : Nat} (hz : adr b.t.rg x.b x.imm = z) (hzi : (z : Int) < c.words) (q : Own) :
    Spec Tryz.prog W0 69 [.pointer (some ⟨dp.rb, 0, none⟩), .pointer (some ⟨g.xb, 0, none⟩), x.v] (g.O b false ++ (dp.O c np s ++ q)) fun v own' => ∃ g1 : BG, (v = .int .i64 0 ∧ g1.ok W0 K ((rdM b z).put x.a 1 (b.d.getD z 0)) ∧ g1.xb = g.xb) ∧ Ent W0 own' (g1.O ((rdM b z).put x.a 1 (b.d.getD z 0)) false ++ (dp.O c np s ++ q)) := by
  refine spec_of mixed low_ref22_Global_inside (by simp [ir_ref22_Global_inside]) ?_
  obtain ⟨ha, hb⟩ := ic_b hx
  have ha' : x.a.toNat < 8 := by omega
  have hb' : x.b.toNat < 8 := by omega
  have hwd := (check_ok hc).1
  unfold okW at hwd
  have hln := fun own => sp_rlocal_n (W0 := W0) (b := g.xb) (o := 2) (x := x) (by simp [isL, hop]) own
  obtain ⟨op, a, b', c', imm⟩ := x
  dsimp only [Ins.v] at *
  subst hop
  have hzw : IntKind.u64.wrap (b.t.rg.get b'.toNat + IntKind.u64.wrap imm) = (z : Int) := hz
  obtain ⟨dz, hdz⟩ : ∃ dz, b.d[z]? = some dz := ⟨_, List.getElem?_eq_getElem (by omega)⟩
  have hdd : b.d.getD z 0 = dz := by rw [List.getD_eq_getElem?_getD, hdz]; rfl
  rw [hdd]
  have hDR := h.d.rd (W0 := W0)
  have hR0 := h.r
  have hO0 := h.o
  have hiw := fun (own' : Own) [EntC own' g.wD] => sp_in (own := own') (cap := g.wc) ((h.w.rd (W0 := W0)).up) (by omega) z
  have hir := fun (own' : Own) [EntC own' g.rD] => sp_in (own := own') (cap := g.rc) ((h.r.rd (W0 := W0)).up) (by omega) z
  by_cases hmw : (z : Int) ∈ b.w
  · have hrm : rdM b z = b := by unfold rdM; rw [if_pos (.inl hmw)]
    rw [hrm]
    repeat' ((try (conv => whnf)); first | (refine br_te ?_ ?_; exact rfl) | (refine br_fe ?_ ?_; exact rfl) | (apply br_pnE; (exact rfl); omega) | (refine ld_reg (t := b.t) (pre := g.pre b) (post := g.post b false) hb' ?_ ?_; (simp; omega)) | (refine ar_eq hzw ?_) | (refine aru ?_ ?_; omega) | (refine arw (k := .u64) ?_) | ((with_reducible show CallT _ _ _ _ _ _); first | ((refine call_p (hln _) ?_)) | (((apply Stop.h)))) | (refine ari ?_ ?_; omega) | (refine ixn ?_ ?_; omega) | (apply ld_o; exact rfl) | (apply ldN_a; exact rfl) | (apply ldN_o; (exact rfl); exact rfl) | (apply stN_o; (exact rfl); (exact rfl); exact rfl) | (refine new_i (fun bk hbk => ?_)))
    refine Stop.mk ?_
    repeat' ((try (conv => whnf)); first | (refine when_ne ?_ ?_; exact rfl) | (refine br_fe ?_ ?_; exact rfl) | (apply when_npyE; (exact rfl); omega) | (refine st_reg (t := b.t) (pre := g.pre b) (post := g.post b false) ha' ?_ ?_; (simp; omega)) | (refine ld_o (v := .int .i64 b.t.pc) ?_ ?_; (exact rfl)) | (apply app_i (enc := ObM.enc) (T := 106) ⟨b.t.pc, 1, dz⟩ hO0; (exact rfl); (exact rfl); (omega); (exact rfl); (exact rfl); (omega); intro a1 c1 D1 hb1) | ((with_reducible show Ld _ _ _ _); first | (refine ldE0 hDR hdz rfl ?_)) | ((with_reducible show IxS _ _ _ _ _); first | ((refine ixE hDR hdz ?_ ?_; (first | rfl | omega)))) | ((with_reducible show CallT _ _ _ _ _ _); first | ((refine call_pe (hiw _) ?_ ?_ ?_; (exact rfl); exact rfl))) | (refine ari ?_ ?_; omega) | (refine ixn ?_ ?_; omega) | (apply ld_o; exact rfl) | (apply st_o; (exact rfl); exact rfl) | (refine new_i (fun bk hbk => ?_)))
    all_goals
      refine ⟨{ g with oa := a1, oc := c1, oD := D1 }, ⟨rfl, ⟨h.d, h.m, h.a, h.al, h.r, h.w, hb1⟩, rfl⟩, ?_⟩
      dsimp only [BG.O, BG.pre, BG.post, BM.put]
      simp only [List.length_append, List.length_cons, List.length_nil, Nat.zero_add]
      first | exact ent_i3 | exact ent_i4
  · by_cases hmr : (z : Int) ∈ b.r
    · have hrm : rdM b z = b := by unfold rdM; rw [if_pos (.inr hmr)]
      rw [hrm]
      repeat' ((try (conv => whnf)); first | (refine br_te ?_ ?_; exact rfl) | (refine br_fe ?_ ?_; exact rfl) | (apply br_pnE; (exact rfl); omega) | (refine ld_reg (t := b.t) (pre := g.pre b) (post := g.post b false) hb' ?_ ?_; (simp; omega)) | (refine ar_eq hzw ?_) | (refine aru ?_ ?_; omega) | (refine arw (k := .u64) ?_) | ((with_reducible show CallT _ _ _ _ _ _); first | ((refine call_p (hln _) ?_)) | (((apply Stop.h)))) | (refine ari ?_ ?_; omega) | (refine ixn ?_ ?_; omega) | (apply ld_o; exact rfl) | (apply ldN_a; exact rfl) | (apply ldN_o; (exact rfl); exact rfl) | (apply stN_o; (exact rfl); (exact rfl); exact rfl) | (refine new_i (fun bk hbk => ?_)))
      refine Stop.mk ?_
      repeat' ((try (conv => whnf)); first | (refine when_ye ?_ ?_; exact rfl) | (apply br_npyE; (exact rfl); omega) | (apply when_npnE; (exact rfl); omega) | (refine st_reg (t := b.t) (pre := g.pre b) (post := g.post b false) ha' ?_ ?_; (simp; omega)) | (refine ld_o (v := .int .i64 b.t.pc) ?_ ?_; (exact rfl)) | (apply app_i (enc := ObM.enc) (T := 106) ⟨b.t.pc, 1, dz⟩ hO0; (exact rfl); (exact rfl); (omega); (exact rfl); (exact rfl); (omega); intro a1 c1 D1 hb1) | ((with_reducible show Ld _ _ _ _); first | (refine ldE0 hDR hdz rfl ?_)) | ((with_reducible show IxS _ _ _ _ _); first | ((refine ixE hDR hdz ?_ ?_; (first | rfl | omega)))) | ((with_reducible show CallT _ _ _ _ _ _); first | ((refine call_pe (hiw _) ?_ ?_ ?_; (exact rfl); exact rfl)) | ((refine call_pe (hir _) ?_ ?_ ?_; (exact rfl); exact rfl))) | (refine ari ?_ ?_; omega) | (refine ixn ?_ ?_; omega) | (apply ld_o; exact rfl) | (apply st_o; (exact rfl); exact rfl) | (refine new_i (fun bk hbk => ?_)))
      all_goals
        refine ⟨{ g with oa := a1, oc := c1, oD := D1 }, ⟨rfl, ⟨h.d, h.m, h.a, h.al, h.r, h.w, hb1⟩, rfl⟩, ?_⟩
        dsimp only [BG.O, BG.pre, BG.post, BM.put]
        simp only [List.length_append, List.length_cons, List.length_nil, Nat.zero_add]
        first | exact ent_i3 | exact ent_i4
    · have hrm : rdM b z = { b with r := b.r ++ [(z : Int)] } := by unfold rdM; rw [if_neg (fun h => h.elim hmw hmr)]
      rw [hrm]
      repeat' ((try (conv => whnf)); first | (refine br_te ?_ ?_; exact rfl) | (refine br_fe ?_ ?_; exact rfl) | (apply br_pnE; (exact rfl); omega) | (refine ld_reg (t := b.t) (pre := g.pre b) (post := g.post b false) hb' ?_ ?_; (simp; omega)) | (refine ar_eq hzw ?_) | (refine aru ?_ ?_; omega) | (refine arw (k := .u64) ?_) | ((with_reducible show CallT _ _ _ _ _ _); first | ((refine call_p (hln _) ?_)) | (((apply Stop.h)))) | (refine ari ?_ ?_; omega) | (refine ixn ?_ ?_; omega) | (apply ld_o; exact rfl) | (apply ldN_a; exact rfl) | (apply ldN_o; (exact rfl); exact rfl) | (apply stN_o; (exact rfl); (exact rfl); exact rfl) | (refine new_i (fun bk hbk => ?_)))
      refine Stop.mk ?_
      repeat' ((try (conv => whnf)); first | (refine when_ye ?_ ?_; exact rfl) | (apply br_npnE; (exact rfl); omega) | (apply when_npnE; (exact rfl); omega) | (apply app_i (enc := encI) (T := 3) (z : Int) hR0; (exact rfl); (exact rfl); (omega); (exact rfl); (exact rfl); (omega); intro aR cR DR hbR) | (refine st_bg (t := b.t) (pre := g.pre b) (post := g.post b false) [.slice aR (b.r.length + 1) cR, .slice g.wa b.w.length g.wc, .slice g.oa b.o.length g.oc, .slice g.aa b.ad.length g.ac, .bool false] ?_ ?_ ?_ ?_; (exact rfl); (exact rfl); (exact (by decide : 13 < 18))) | (refine st_reg (t := b.t) (pre := g.pre b) (post := [.slice aR (b.r.length + 1) cR, .slice g.wa b.w.length g.wc, .slice g.oa b.o.length g.oc, .slice g.aa b.ad.length g.ac, .bool false]) ha' ?_ ?_; (simp; omega)) | (refine ld_o (v := .int .i64 b.t.pc) ?_ ?_; (exact rfl)) | (apply app_i (enc := ObM.enc) (T := 106) ⟨b.t.pc, 1, dz⟩ hO0; (exact rfl); (exact rfl); (omega); (exact rfl); (exact rfl); (omega); intro a1 c1 D1 hb1) | ((with_reducible show Ld _ _ _ _); first | (refine ldE0 hDR hdz rfl ?_)) | ((with_reducible show IxS _ _ _ _ _); first | ((refine ixE hDR hdz ?_ ?_; (first | rfl | omega)))) | ((with_reducible show CallT _ _ _ _ _ _); first | ((refine call_pe (hiw _) ?_ ?_ ?_; (exact rfl); exact rfl)) | ((refine call_pe (hir _) ?_ ?_ ?_; (exact rfl); exact rfl))) | (refine ari ?_ ?_; omega) | (refine ixn ?_ ?_; omega) | (apply ld_o; exact rfl) | (apply st_o; (exact rfl); exact rfl) | (refine new_i (fun bk hbk => ?_)))
      all_goals
        refine ⟨{ g with ra := aR, rc := cR, rD := DR, oa := a1, oc := c1, oD := D1 }, ⟨rfl, ⟨h.d, h.m, h.a, h.al, hbR, h.w, hb1⟩, rfl⟩, ?_⟩
        dsimp only [BG.O, BG.pre, BG.post, BM.put]
        simp only [List.length_append, List.length_cons, List.length_nil, Nat.zero_add]
        first | exact ent_i3 | exact ent_i4
theorem sp_i15 {x : Ins} (h : g.ok W0 K b) (hx : icheck x = 0) (hop : x.op = 15) (hc : checkM c = 0) (hpc : b.t.pc ≤ 64) {k : Nat} (hk : lfindM c (b.t.rg.get x.a.toNat) = k) (hkt : b.tk[k]? = some true) (q : Own) :
    Spec Tryz.prog W0 69 [.pointer (some ⟨dp.rb, 0, none⟩), .pointer (some ⟨g.xb, 0, none⟩), x.v] (g.O b false ++ (dp.O c np s ++ q)) fun v own' => ∃ g1 : BG, (v = .int .i64 0 ∧ g1.ok W0 K { b with tk := b.tk.set k false }.go ∧ g1.xb = g.xb) ∧ Ent W0 own' (g1.O { b with tk := b.tk.set k false }.go false ++ (dp.O c np s ++ q)) := by
  refine spec_of mixed low_ref22_Global_inside (by simp [ir_ref22_Global_inside]) ?_
  obtain ⟨ha, hb⟩ := ic_b hx
  have ha' : x.a.toNat < 8 := by omega
  have hb' : x.b.toNat < 8 := by omega
  have hwd := (check_ok hc).1
  unfold okW at hwd
  have hln := fun own => sp_rlocal_n (W0 := W0) (b := g.xb) (o := 2) (x := x) (by simp [isL, hop]) own
  obtain ⟨op, a, b', c', imm⟩ := x
  dsimp only [Ins.v] at *
  subst hop
  have hfi := fun own => sp_rfind W0 own c (b.t.rg.get a.toNat)
  rw [hk] at hfi
  have hM0 := h.m
  have hMR := hM0.rd (W0 := W0)
  have hk0 : ¬ ((k : Nat) : Int) < 0 := by omega
  repeat' ((try (conv => whnf)); first | (refine br_te ?_ ?_; exact rfl) | (refine br_fe ?_ ?_; exact rfl) | (refine ld_reg (t := b.t) (pre := g.pre b) (post := g.post b false) ha' ?_ ?_; (simp; omega)) | ((with_reducible show CallT _ _ _ _ _ _); first | ((refine call_p (hln _) ?_))) | ((with_reducible show CallQ _ _ _ _ _ _); first | ((refine call_qi (fun ex => hfi _) ?_ ?_ ?_; (exact rfl); (exact rfl); (apply Stop.h)))) | (refine ixn ?_ ?_; omega) | (apply ld_o; exact rfl) | (apply ldN_a; exact rfl) | (apply ldN_o; (exact rfl); exact rfl) | (apply stN_o; (exact rfl); (exact rfl); exact rfl) | (refine new_i (fun bk hbk => ?_)))
  refine Stop.mk ?_
  repeat' ((try (conv => whnf)); first | (refine when_ye ?_ ?_; exact rfl) | (refine br_fe ?_ ?_; exact rfl) | (apply stE_i (enc := encB) (T := 4) (j := k) (k := 0) false hM0 hkt; (omega); (omega); (exact rfl); (exact rfl); intro D1 hb1) | (refine ld_th (t := b.t) (pre := g.pre (b)) (post := g.post b false) (k := 0) (v := .int .i64 b.t.pc) rfl ?_ ?_; (exact rfl)) | (refine st_pcN (t := b.t) (pre := g.pre (b)) (post := g.post b false) (n := b.t.pc + 1) ?_ ?_ ?_; (omega); (exact rfl)) | ((with_reducible show Ld _ _ _ _); first | (refine ldE0 hMR hkt rfl ?_)) | ((with_reducible show IxS _ _ _ _ _); first | ((refine ixE hMR hkt ?_ ?_; (first | rfl | omega)))) | (refine ari ?_ ?_; omega) | (apply ld_o; exact rfl))
  refine ⟨{ g with kD := D1 }, ⟨rfl, ⟨h.d, hb1, h.a, h.al, h.r, h.w, h.o⟩, rfl⟩, ?_⟩
  dsimp only [BG.O, BG.pre, BG.post, BM.go]
  rw [List.length_set]
  exact ent_i2
end
end Go.Proofs.YtfompmhncnkcfaaGreatDoor
namespace Go.Proofs.YtfompmhncnkcfaaGreatDoor
open Go
set_option maxRecDepth 10000
set_option maxHeartbeats 16000000
section
variable {W0 : World} {K : Own} {g : BG} {dp : DP} {c : Cfg} {np : Nat} {s : GS} {b : BM}
theorem ent_i5 {e a b : Nat × (Obj → Prop)} {A Z : Own} : Ent W0 ([e] ++ (a :: (b :: (A ++ Z)))) ((e :: A) ++ Z) := ent_cnt [a, b] fun a => by simp only [cnt_app, cnt_cons, cnt_nil]; omega
theorem sp_il {x : Ins} (h : g.ok W0 K b) (hx : icheck x = 0) (hl : isL x = true) (hrg : b.t.rg.ok) (hpc : b.t.pc ≤ 64) (q : Own) :
    Spec Tryz.prog W0 69 [.pointer (some ⟨dp.rb, 0, none⟩), .pointer (some ⟨g.xb, 0, none⟩), x.v] (g.O b false ++ (dp.O c np s ++ q)) fun v own' => ∃ g1 : BG,
      (v = .int .i64 0 ∧ g1.ok W0 K { b with t := locM b.t x } ∧ g1.xb = g.xb) ∧ Ent W0 own' (g1.O { b with t := locM b.t x } false ++ (dp.O c np s ++ q)) := by
  refine spec_of mixed low_ref22_Global_inside (by simp [ir_ref22_Global_inside]) ?_
  have hly := fun r => sp_rlocal_y (W0 := W0) (b := g.xb) (T := 130) (pre := g.pre b) (post := g.post b false) (t := b.t) (o := 2) hx hl hrg hpc rfl r
  obtain ⟨op, a, b', c', imm⟩ := x
  dsimp only [Ins.v] at *
  repeat' ((try (conv => whnf)); first | (refine br_te ?_ ?_; exact rfl) | ((with_reducible show CallT _ _ _ _ _ _); first | ((refine call_fr (hly _) ?_ ?_ (fun _ v hv => ?_); (exact rfl); (exact rfl); (subst hv)))) | (apply ldN_a; exact rfl) | (apply ldN_o; (exact rfl); exact rfl) | (apply stN_o; (exact rfl); (exact rfl); exact rfl) | (refine new_i (fun bk hbk => ?_)))
  exact ⟨g, ⟨rfl, ⟨h.d, h.m, h.a, h.al, h.r, h.w, h.o⟩, rfl⟩, ent_i5⟩
theorem sp_i15o {x : Ins} (h : g.ok W0 K b) (hx : icheck x = 0) (hop : x.op = 15) (htk : b.tk.length = (blocksM c).toNat) (hk : lfindM c (b.t.rg.get x.a.toNat) < 0 ∨ b.tk.getD (lfindM c (b.t.rg.get x.a.toNat)).toNat false = false) (q : Own) :
    Pure Tryz.prog W0 69 [.pointer (some ⟨dp.rb, 0, none⟩), .pointer (some ⟨g.xb, 0, none⟩), x.v] (g.O b false ++ (dp.O c np s ++ q)) (.int .i64 8) := by
  refine pure_of (spec_of mixed low_ref22_Global_inside (by simp [ir_ref22_Global_inside]) ?_)
  obtain ⟨ha, -⟩ := ic_b hx
  have ha' : x.a.toNat < 8 := by omega
  have hln := fun own => sp_rlocal_n (W0 := W0) (b := g.xb) (o := 2) (x := x) (by simp [isL, hop]) own
  obtain ⟨op, a, b', c', imm⟩ := x
  dsimp only [Ins.v] at *
  subst hop
  have hfi := fun own => sp_rfind W0 own c (b.t.rg.get a.toNat)
  have hMR := h.m.rd (W0 := W0)
  have hfb := lfind_ok c (b.t.rg.get a.toNat)
  generalize lfindM c (b.t.rg.get a.toNat) = k at *
  repeat' ((try (conv => whnf)); first | (refine br_te ?_ ?_; exact rfl) | (refine br_fe ?_ ?_; exact rfl) | (refine ld_reg (t := b.t) (pre := g.pre b) (post := g.post b false) ha' ?_ ?_; (simp; omega)) | ((with_reducible show CallT _ _ _ _ _ _); first | ((refine call_p (hln _) ?_))) | ((with_reducible show CallQ _ _ _ _ _ _); first | ((refine call_qi (fun ex => hfi _) ?_ ?_ ?_; (exact rfl); (exact rfl); (apply Stop.h)))) | (refine ixn ?_ ?_; omega) | (apply ld_o; exact rfl) | (apply ldN_a; exact rfl) | (apply ldN_o; (exact rfl); exact rfl) | (apply stN_o; (exact rfl); (exact rfl); exact rfl) | (refine new_i (fun bk hbk => ?_)))
  refine Stop.mk ?_
  by_cases hk0 : k < 0
  · repeat' ((try (conv => whnf)); first | (refine when_ne ?_ ?_; exact rfl) | (refine br_te ?_ ?_; exact rfl) | (apply when_pyE; (exact rfl); omega))
    all_goals exact ⟨rfl, (by first | exact ent_i | (repeat (first | exact Ent.refl | exact Ent.left | refine Ent.cons ?_ | refine Ent.app ?_)))⟩
  · obtain ⟨kn, rfl⟩ := Int.eq_ofNat_of_zero_le (show 0 ≤ k by omega)
    rcases hk with hk | hk
    · exact absurd hk hk0
    · rw [Int.toNat_natCast] at hk
      obtain ⟨y, hy⟩ : ∃ y, b.tk[kn]? = some y := ⟨_, List.getElem?_eq_getElem (by omega)⟩
      have hyf : y = false := by
        rw [List.getD_eq_getElem?_getD, hy] at hk
        exact hk
      subst hyf
      repeat' ((try (conv => whnf)); first | (refine when_ye ?_ ?_; exact rfl) | (refine br_te ?_ ?_; exact rfl) | ((with_reducible show Ld _ _ _ _); first | (refine ldE0 hMR hy rfl ?_)) | ((with_reducible show IxS _ _ _ _ _); first | ((refine ixE hMR hy ?_ ?_; (first | rfl | omega)))) | (apply ld_o; exact rfl))
      all_goals exact ⟨rfl, (by first | exact ent_i | (repeat (first | exact Ent.refl | exact Ent.left | refine Ent.cons ?_ | refine Ent.app ?_)))⟩
end
end Go.Proofs.YtfompmhncnkcfaaGreatDoor
namespace Go.Proofs.YtfompmhncnkcfaaGreatDoor
open Go
set_option maxRecDepth 10000
set_option maxHeartbeats 16000000
section
variable {W0 : World} {K : Own} {g : BG} {dp : DP} {c : Cfg} {np : Nat} {s : GS} {b : BM}
theorem ent_k1 {e a b : Nat × (Obj → Prop)} {A Z : Own} : Ent W0 (a :: (b :: ((e :: A) ++ Z))) ((e :: A) ++ Z) := ent_cnt [a, b] fun a => by simp only [cnt_app, cnt_cons, cnt_nil]; omega
theorem sp_i14n {x : Ins} (h : g.ok W0 K b) (hop : x.op = 14) (htk : b.tk.length = (blocksM c).toNat) (had : ∀ a ∈ b.ad, a ≤ 9223372036854775807) (hn : alB c b.tk b.ad x.imm = none) (q : Own) [ek : EntC q K] :
    Spec Tryz.prog W0 69 [.pointer (some ⟨dp.rb, 0, none⟩), .pointer (some ⟨g.xb, 0, none⟩), x.v] (g.O b false ++ (dp.O c np s ++ q)) fun v own' => v = .int .i64 0 ∧ Ent W0 own' (g.O b true ++ (dp.O c np s ++ q)) := by
  refine spec_of mixed low_ref22_Global_inside (by simp [ir_ref22_Global_inside]) ?_
  have hln := fun own => sp_rlocal_n (W0 := W0) (b := g.xb) (o := 2) (x := x) (by simp [isL, hop]) own
  obtain ⟨op, a, b', c', imm⟩ := x
  dsimp only [Ins.v] at *
  subst hop
  have hMR := h.m.rd (W0 := W0)
  have hAR := h.a
  unfold alB at hn
  cases hadl : b.ad with
  | nil =>
    have hl0 : ¬ (0 : Int) < (b.ad.length : Nat) := by rw [hadl]; simp
    repeat' ((try (conv => whnf)); first | (refine when_ne ?_ ?_; exact rfl) | (refine br_te ?_ ?_; exact rfl) | (refine br_fe ?_ ?_; exact rfl) | (apply when_pnE; (exact rfl); omega) | ((with_reducible show CallT _ _ _ _ _ _); first | ((refine call_p (hln _) ?_))) | (apply ld_o; exact rfl) | (apply ldN_a; exact rfl) | (apply ldN_o; (exact rfl); exact rfl) | (apply st_o; (exact rfl); exact rfl) | (apply stN_o; (exact rfl); (exact rfl); exact rfl) | (refine new_i (fun bk hbk => ?_)))
    all_goals exact ⟨rfl, ent_k1⟩
  | cons a0 r =>
    have hx : b.ad[0]? = some a0 := by rw [hadl]; rfl
    have hl0 : (0 : Int) < (b.ad.length : Nat) := by rw [hadl]; simp
    have ha1 := had a0 (by rw [hadl]; exact List.mem_cons_self)
    rw [hadl] at hn
    dsimp only at hn
    by_cases ha0 : a0 < 0
    · have ha0' : ¬ 0 ≤ a0 := by omega
      repeat' ((try (conv => whnf)); first | (refine when_ye ?_ ?_; exact rfl) | (refine when_ne ?_ ?_; exact rfl) | (refine br_te ?_ ?_; exact rfl) | (refine br_fe ?_ ?_; exact rfl) | (apply br_pnE; (exact rfl); omega) | (apply when_pyE; (exact rfl); omega) | ((with_reducible show Ld _ _ _ _); first | (refine ldE0 hAR hx rfl ?_)) | ((with_reducible show IxS _ _ _ _ _); first | ((refine ixE hAR hx ?_ ?_; (first | rfl | omega)))) | ((with_reducible show CallT _ _ _ _ _ _); first | ((refine call_p (hln _) ?_))) | (apply ld_o; exact rfl) | (apply ldN_a; exact rfl) | (apply ldN_o; (exact rfl); exact rfl) | (apply st_o; (exact rfl); exact rfl) | (apply stN_o; (exact rfl); (exact rfl); exact rfl) | (refine new_i (fun bk hbk => ?_)))
      all_goals exact ⟨rfl, ent_k1⟩
    · have hfi := fun own => sp_rfind W0 own c a0
      have hcl := fun own => sp_rclass W0 own c (lfindM c a0)
      have hfb := lfind_ok c a0
      by_cases hk0 : lfindM c a0 < 0
      · generalize lfindM c a0 = k at *
        repeat' ((try (conv => whnf)); first | (refine when_ye ?_ ?_; exact rfl) | (refine when_ne ?_ ?_; exact rfl) | (refine br_te ?_ ?_; exact rfl) | (refine br_fe ?_ ?_; exact rfl) | (apply br_pyE; (exact rfl); omega) | (apply when_pyE; (exact rfl); omega) | (refine aru ?_ ?_; omega) | ((with_reducible show Ld _ _ _ _); first | (refine ldE0 hAR hx rfl ?_)) | ((with_reducible show IxS _ _ _ _ _); first | ((refine ixE hAR hx ?_ ?_; (first | rfl | omega)))) | ((with_reducible show CallT _ _ _ _ _ _); first | ((refine call_p (hln _) ?_))) | ((with_reducible show CallQ _ _ _ _ _ _); first | ((refine call_qi (fun ex => hfi _) ?_ ?_ ?_; (exact rfl); (exact rfl)))) | (apply ld_o; exact rfl) | (apply ldN_a; exact rfl) | (apply ldN_o; (exact rfl); exact rfl) | (apply st_o; (exact rfl); exact rfl) | (apply stN_o; (exact rfl); (exact rfl); exact rfl) | (refine new_i (fun bk hbk => ?_)))
        all_goals exact ⟨rfl, ent_k1⟩
      · obtain ⟨kn, hkn⟩ := Int.eq_ofNat_of_zero_le (show 0 ≤ lfindM c a0 by omega)
        rw [hkn] at hfi hcl hfb hk0 hn
        obtain ⟨y, hy⟩ : ∃ y, b.tk[kn]? = some y := ⟨_, List.getElem?_eq_getElem (by omega)⟩
        by_cases hc1 : classM c (kn : Int) ≠ imm
        · generalize classM c (kn : Int) = cm at *
          repeat' ((try (conv => whnf)); first | (refine when_ye ?_ ?_; exact rfl) | (refine when_ne ?_ ?_; exact rfl) | (refine br_te ?_ ?_; exact rfl) | (refine br_fe ?_ ?_; exact rfl) | (apply br_pyE; (exact rfl); omega) | (apply when_pyE; (exact rfl); omega) | (refine aru ?_ ?_; omega) | ((with_reducible show Ld _ _ _ _); first | (refine ldE0 hAR hx rfl ?_)) | ((with_reducible show IxS _ _ _ _ _); first | ((refine ixE hAR hx ?_ ?_; (first | rfl | omega)))) | ((with_reducible show CallT _ _ _ _ _ _); first | ((refine call_p (hln _) ?_))) | ((with_reducible show CallQ _ _ _ _ _ _); first | ((refine call_qi (fun ex => hfi _) ?_ ?_ ?_; (exact rfl); (exact rfl))) | ((refine call_qi (fun ex => hcl _) ?_ ?_ ?_; (exact rfl); (exact rfl)))) | (apply ld_o; exact rfl) | (apply ldN_a; exact rfl) | (apply ldN_o; (exact rfl); exact rfl) | (apply st_o; (exact rfl); exact rfl) | (apply stN_o; (exact rfl); (exact rfl); exact rfl) | (refine new_i (fun bk hbk => ?_)))
          all_goals exact ⟨rfl, ent_k1⟩
        · have hyt : y = true := by
            by_cases hy1 : y = true
            · exact hy1
            · have hyf : y = false := by simpa using hy1
              rw [if_neg] at hn
              · cases hn
              · rw [Int.toNat_natCast, List.getD_eq_getElem?_getD, hy, hyf]
                simp
                omega
          subst hyt
          generalize classM c (kn : Int) = cm at *
          repeat' ((try (conv => whnf)); first | (refine when_ye ?_ ?_; exact rfl) | (refine br_te ?_ ?_; exact rfl) | (refine br_fe ?_ ?_; exact rfl) | (apply br_pyE; (exact rfl); omega) | (apply when_pyE; (exact rfl); omega) | (apply when_pnE; (exact rfl); omega) | (refine aru ?_ ?_; omega) | ((with_reducible show Ld _ _ _ _); first | (refine ldE0 hAR hx rfl ?_) | (refine ldE0 hMR hy rfl ?_)) | ((with_reducible show IxS _ _ _ _ _); first | ((refine ixE hAR hx ?_ ?_; (first | rfl | omega))) | ((refine ixE hMR hy ?_ ?_; (first | rfl | omega)))) | ((with_reducible show CallT _ _ _ _ _ _); first | ((refine call_p (hln _) ?_))) | ((with_reducible show CallQ _ _ _ _ _ _); first | ((refine call_qi (fun ex => hfi _) ?_ ?_ ?_; (exact rfl); (exact rfl))) | ((refine call_qi (fun ex => hcl _) ?_ ?_ ?_; (exact rfl); (exact rfl)))) | (apply ld_o; exact rfl) | (apply ldN_a; exact rfl) | (apply ldN_o; (exact rfl); exact rfl) | (apply st_o; (exact rfl); exact rfl) | (apply stN_o; (exact rfl); (exact rfl); exact rfl) | (refine new_i (fun bk hbk => ?_)))
          all_goals exact ⟨rfl, ent_k1⟩
end
end Go.Proofs.YtfompmhncnkcfaaGreatDoor
namespace Go.Proofs.YtfompmhncnkcfaaGreatDoor
open Go
set_option maxRecDepth 10000
set_option maxHeartbeats 16000000
section
variable {W0 : World} {K : Own} {g : BG} {dp : DP} {c : Cfg} {np : Nat} {s : GS} {b : BM}
theorem ent_l6 {e a b : Nat × (Obj → Prop)} {A Z : Own} : Ent W0 (a :: (b :: ((e :: A) ++ Z))) ([b] ++ ((e :: A) ++ Z)) := ent_cnt [a] fun a => by simp only [cnt_app, cnt_cons, cnt_nil]; omega
theorem ent_l7 {e a b : Nat × (Obj → Prop)} {A Z : Own} : Ent W0 (a :: ([b] ++ ((e :: A) ++ Z))) ((e :: A) ++ Z) := ent_cnt [a, b] fun a => by simp only [cnt_app, cnt_cons, cnt_nil]; omega
theorem sp_i14 {x : Ins} (h : g.ok W0 K b) (hx : icheck x = 0) (hop : x.op = 14) (hc : checkM c = 0) (hdl : (b.d.length : Int) = c.words) (hpc : b.t.pc ≤ 64) (hw : b.w.length ≤ 900000) (ho : b.o.length ≤ 900000) (htk : b.tk.length = (blocksM c).toNat) (had : ∀ a ∈ b.ad, a ≤ 9223372036854775807) {z k : Nat} (hn : alB c b.tk b.ad x.imm = some (z, k)) (q : Own) [ek : EntC q K] :
    Spec Tryz.prog W0 69 [.pointer (some ⟨dp.rb, 0, none⟩), .pointer (some ⟨g.xb, 0, none⟩), x.v] (g.O b false ++ (dp.O c np s ++ q)) fun v own' => ∃ g1 : BG,
      (v = .int .i64 0 ∧ g1.ok W0 K ((wrL { b with ad := b.ad.tail, tk := b.tk.set k true } z (2 ^ x.imm.toNat)).put x.a 2 z) ∧ g1.xb = g.xb) ∧ Ent W0 own' (g1.O ((wrL { b with ad := b.ad.tail, tk := b.tk.set k true } z (2 ^ x.imm.toNat)).put x.a 2 z) false ++ (dp.O c np s ++ q)) := by
  refine spec_of mixed low_ref22_Global_inside (by simp [ir_ref22_Global_inside]) ?_
  obtain ⟨ha, -⟩ := ic_b hx
  have ha' : x.a.toNat < 8 := by omega
  have hwd := (check_ok hc).1
  unfold okW at hwd
  have hi := (ic_regs hx).2.2.2.2.2 hop
  have hln := fun own => sp_rlocal_n (W0 := W0) (b := g.xb) (o := 2) (x := x) (by simp [isL, hop]) own
  obtain ⟨op, a, b', c', imm⟩ := x
  dsimp only [Ins.v] at *
  subst hop
  obtain ⟨ad', hadl, hkb, hfi0, hcl0, htk0, hroom⟩ := alB_ok hn
  have hM0 := h.m
  have hMR := hM0.rd (W0 := W0)
  have hAR := h.a
  have hx0 : b.ad[0]? = some (z : Int) := by rw [hadl]; rfl
  have hal := h.al
  have hlen : b.ad.length = ad'.length + 1 := by rw [hadl]; rfl
  have hl0 : (0 : Int) < (b.ad.length : Nat) := by omega
  have hz1 := had z (by rw [hadl]; exact List.mem_cons_self)
  have hlf : lfindM c (z : Int) = k := by
    unfold alB at hn
    rw [hadl] at hn
    dsimp only at hn
    split at hn
    · cases hn
    · have := Option.some.inj hn
      simp only [Prod.mk.injEq] at this
      omega
  have hfi := fun own => sp_rfind W0 own c z
  have hcl := fun own => sp_rclass W0 own c k
  have hft := fun own => sp_rfirst W0 own c k
  rw [hlf] at hfi
  rw [hcl0] at hcl
  rw [hfi0] at hft
  obtain ⟨y, hy⟩ : ∃ y, b.tk[k]? = some y := ⟨_, List.getElem?_eq_getElem (by omega)⟩
  have hyf : y = false := by
    rw [List.getD_eq_getElem?_getD, hy] at htk0
    exact htk0
  subst hyf
  have hk0 : ¬ ((k : Nat) : Int) < 0 := by omega
  have hii : ¬ imm ≠ imm := fun h => h rfl
  have hM8 : (2 : Nat) ^ imm.toNat ≤ 8 := by
    have : imm.toNat = 0 ∨ imm.toNat = 1 ∨ imm.toNat = 2 ∨ imm.toNat = 3 := by omega
    rcases this with h | h | h | h <;> rw [h] <;> decide
  repeat' ((try (conv => whnf)); first | ((with_reducible show CallT _ _ _ _ _ _); first | ((refine call_p (hln _) ?_; (apply Stop.h)))) | (apply ldN_a; exact rfl) | (apply ldN_o; (exact rfl); exact rfl) | (apply stN_o; (exact rfl); (exact rfl); exact rfl) | (refine new_i (fun bk hbk => ?_)))
  rename_i b5 h5
  refine Stop.mk ?_
  repeat' ((try (conv => whnf)); first | (refine when_ye ?_ ?_; exact rfl) | (refine br_te ?_ ?_; exact rfl) | (refine br_fe ?_ ?_; exact rfl) | (apply when_pyE; (exact rfl); omega) | (apply when_pnE; (exact rfl); omega) | (refine aru ?_ ?_; omega) | (refine sls_f hlen ?_) | (apply stE_i (enc := encB) (T := 4) (j := k) (k := 0) true hM0 hy; (omega); (omega); (exact rfl); (exact rfl); intro D1 hb1) | ((with_reducible show Ld _ _ _ _); first | (refine ldE0 hAR hx0 rfl ?_) | (refine ldE0 hMR hy rfl ?_)) | ((with_reducible show IxS _ _ _ _ _); first | ((refine ixE hAR hx0 ?_ ?_; (first | rfl | omega))) | ((refine ixE hMR hy ?_ ?_; (first | rfl | omega)))) | ((with_reducible show CallT _ _ _ _ _ _); first | ((refine call_pe (hft _) ?_ ?_ ?_; (exact rfl); exact rfl))) | ((with_reducible show CallQ _ _ _ _ _ _); first | ((refine call_qi (fun ex => hfi _) ?_ ?_ ?_; (exact rfl); (exact rfl))) | ((refine call_qi (fun ex => hcl _) ?_ ?_ ?_; (exact rfl); (exact rfl)))) | (apply ld_o; exact rfl) | (apply ldN_a; exact rfl) | (apply st_o; (exact rfl); exact rfl))
  have hM : (1 : Int) * 2 ^ imm.toNat = ((2 ^ imm.toNat : Nat) : Int) := by simp
  generalize hMM : 2 ^ imm.toNat = M at hM8 hM hroom ⊢
  have hok1 : ({ g with kD := D1, aa := slA g.aa g.ac 1 1, ac := g.ac - 1 } : BG).ok W0 K { b with ad := b.ad.tail, tk := b.tk.set k true } := by
    refine ⟨h.d, hb1, ?_, ?_, h.r, h.w, h.o⟩
    · have := hAR.sl (c := 1) (r := b.ad.length) (m := g.ac) (Nat.le_refl _) h.al
      have e : (b.ad.drop 1).take (b.ad.length - 1) = b.ad.tail := by rw [hadl]; simp
      rw [e] at this
      exact this
    · show b.ad.tail.length ≤ g.ac - 1
      rw [hadl] at hal ⊢
      simp at hal ⊢
      omega
  obtain ⟨b1, hb1e⟩ : ∃ b1 : BM, b1 = { b with ad := b.ad.tail, tk := b.tk.set k true } := ⟨_, rfl⟩
  rw [← hb1e] at hok1 ⊢
  have hwl := wrL_w b1 z
  have hb1w : b1.w = b.w ∧ b1.d = b.d ∧ b1.o = b.o ∧ b1.t = b.t := by rw [hb1e]; exact ⟨rfl, rfl, rfl, rfl⟩
  refine loop_i (σ := Nat × BG) (fun y => [(13, .int .i64 y.1)]) (fun y => [(b5, fun o => o = Obj.cells #[.int .i64 14, .int .i64 a, .int .i64 b', .int .i64 c', .int .i64 imm] 69 (0, 0))] ++ (y.2.O (wrL b1 z y.1) false ++ (dp.O c np s ++ q))) (fun y => y.1 ≤ M ∧ y.2.ok W0 K (wrL b1 z y.1) ∧ y.2.xb = g.xb) (fun y => M - y.1) (0, { g with kD := D1, aa := slA g.aa g.ac 1 1, ac := g.ac - 1 }) ⟨Nat.zero_le _, hok1, rfl⟩ (by repeat' (first | exact True.intro | refine And.intro ?_ ?_ | exact rfl | exact vi (by omega) | (dsimp only; exact rfl) | (dsimp only; exact vi (by omega)))) ?_ rfl ?_
  · subst hb1e
    have e1 : (b.tk.set k true).length = b.tk.length := List.length_set ..
    have e2 : b.ad.tail.length = ad'.length := by rw [hadl]; rfl
    dsimp only [wrL, BG.O, BG.pre, BG.post]
    rw [e1, e2]
    exact ent_l6
  · rintro ⟨n, g'⟩ junk ⟨hn', hok, hxb⟩
    dsimp only at hn' hok hxb ⊢
    obtain ⟨w1, w2, w3, w4, w5, w6, w7⟩ := hwl n
    rw [hb1w.1] at w1
    by_cases hlt : n < M
    · have hlt' : (n : Int) < M := by omega
      have hwr := sp_bwrite (bad := false) (a := z + n) hok (by rw [w2, hb1w.2.1]; omega) (by omega) 0
      rw [Int.natCast_add, hxb] at hwr
      have hwk := spec_keep (E := [(b5, fun o => o = Obj.cells #[.int .i64 14, .int .i64 a, .int .i64 b', .int .i64 c', .int .i64 imm] 69 (0, 0))]) (q := dp.O c np s ++ q) hwr
      repeat' ((try (conv => whnf)); first | (apply br_pyE; (exact rfl); omega) | (refine shl_m ?_ hM ?_ ?_; omega; omega) | ((with_reducible show CallT _ _ _ _ _ _); first | ((refine call_to hwk ?_ ?_ ?_ (fun y v hv => ?_); (exact Ent.refl); (exact rfl); (exact rfl)))) | (refine ari ?_ ?_; omega) | (apply ld_o; exact rfl))
      exact ⟨(n + 1, y), ⟨by dsimp only; omega, hv.1, hv.2⟩, by dsimp only; omega, (by repeat' (first | exact True.intro | refine And.intro ?_ ?_ | exact rfl | exact vi (by omega) | (dsimp only; exact rfl) | (dsimp only; exact vi (by omega)))), Ent.refl⟩
    · have hnM : n = M := by omega
      subst hnM
      have hlt' : ¬ (n : Int) < n := by omega
      have hO9 := hok.o
      have hol : (wrL b1 z n).o.length ≤ 900000 := by rw [w3, hb1w.2.2.1]; exact ho
      have hte : (wrL b1 z n).t = b.t := by rw [w5, hb1w.2.2.2]
      rw [← hxb]
      have hpc9 : (wrL b1 z n).t.pc ≤ 64 := by rw [hte]; exact hpc
      generalize wrL b1 z n = B at *
      repeat' ((try (conv => whnf)); first | (apply br_pnE; (exact rfl); omega) | (refine shl_m ?_ hM ?_ ?_; omega; omega) | (refine aru ?_ ?_; omega) | (refine st_reg (t := B.t) (pre := g'.pre B) (post := g'.post B false) ha' ?_ ?_; (simp; omega)) | (refine ld_o (v := .int .i64 B.t.pc) ?_ ?_; (exact rfl)) | (apply app_i (enc := ObM.enc) (T := 106) ⟨B.t.pc, 2, z⟩ hO9; (exact rfl); (exact rfl); (omega); (exact rfl); (exact rfl); (omega); intro a9 c9 D9 hb9) | (refine ari ?_ ?_; omega) | (refine ixn ?_ ?_; omega) | (apply ld_o; exact rfl) | (apply st_o; (exact rfl); exact rfl) | (refine new_i (fun bk hbk => ?_)))
      refine ⟨{ g' with oa := a9, oc := c9, oD := D9 }, ⟨rfl, ⟨hok.d, hok.m, hok.a, hok.al, hok.r, hok.w, hb9⟩, rfl⟩, ?_⟩
      dsimp only [BG.O, BG.pre, BG.post, BM.put]
      simp only [List.length_append, List.length_cons, List.length_nil, Nat.zero_add]
      exact ent_l7
end
end Go.Proofs.YtfompmhncnkcfaaGreatDoor
