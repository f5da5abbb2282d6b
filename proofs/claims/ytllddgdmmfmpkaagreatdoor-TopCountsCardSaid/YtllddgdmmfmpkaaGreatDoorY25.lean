/- What the laws share, part 25. No condition. -/
import Derived.Test.YtllddgdmmfmpkaaGreatDoorY24
namespace Go.Proofs.YtllddgdmmfmpkaaGreatDoor
open Go
set_option maxRecDepth 10000
set_option maxHeartbeats 8000000
abbrev evP (e : EH) : Obj → Prop := fun z => z = Obj.cells #[.int .i64 e.ev, .int .i64 e.t, .int .i64 e.k, .int .i64 e.w, .slice e.ra e.rl.length e.rc, .slice e.wa e.wl.length e.wc] 79 (0, 0)
theorem ansE_at {p : List Ins} {x : GT} {a : AT} {i : Ins} (h : a.st = 2) : (x.ans p a i).at' = none := by
  rw [ans_e h]
  unfold GT.endG GT.to
  dsimp only
  (repeat' split) <;> rfl
theorem ansN_at {p : List Ins} {x : GT} {a : AT} {i : Ins} (h : a.st ≠ 2) : (x.ans p a i).at' = some a := by
  unfold GT.ans
  rw [if_neg h]
  split <;> rfl
section
variable {P : Program} {W0 : World} {own D r r1 F : Own} {f f0 : FuncId} {args args0 : List Value} {b : Nat} {p p' : Obj → Prop}
theorem call_sC {σ : Type} {R : σ → Value → Prop} {O : σ → Own → Own} {own0 : Own → Own} {K : Value → Own → Prop} [m1 : PullC b p own r1] [m2 : FrameB D r1 r] [m3 : EntC r F] (h : ∀ Q, EntC Q F → Spec P W0 f0 args0 (own0 Q) fun v own' => ∃ s, R s v ∧ Ent W0 own' (O s Q)) (hD : ∀ Q, Ent W0 ((b, p') :: (D ++ Q)) (own0 Q))
    (ep : p = p') (ek : f = f0) (ea : args = args0) (hk : ∀ s v, R s v → K v (O s r)) : CallT P W0 own f args K := by
  subst ek; subst ea; subst ep
  exact ⟨fun w hw => (h r m3 w (hD r w (Ent.of_perm (m1.h.trans (m2.h.cons _)) w hw))).mono fun _ _ ⟨_, _, he, hs, s, hR, hE⟩ => ⟨_, O s r, he, hE _ hs, hk s _ hR⟩⟩
end
theorem ev1 {W0 : World} {b : Nat} {e : EH} {D : Own} (h : RdE encI 1 W0 ((b, evP e) :: D) e.ra e.rl ∧ RdE encI 1 W0 ((b, evP e) :: D) e.wa e.wl) (h1 : e.rl.length ≤ 100000) (h2 : e.wl.length ≤ 100000) : EvO W0 (some ⟨b, 0, none⟩) 1 [e] ((b, evP e) :: D) :=
  ⟨rd_blk List.mem_cons_self (fun y hy => by rw [List.mem_singleton.1 hy]; rfl) (by simp), Nat.le_refl _, Nat.le_refl _, fun y hy => by rw [List.mem_singleton.1 hy]; exact ⟨h, h1, h2⟩⟩
section
variable {W0 : World} {own Q E : Own} {c : Cfg} {t n : Nat} {p : List Ins} {h : TH} {x : GT} {k : Int} {b e : Nat} {a : AT} {ah : AH} {mh : MH} {m : MS}
theorem sp_tAdv3 {m' : MS} {a' : AT} {ac : AcM} (hh : h.ok x) (hap : h.ap = ptr ah.b) (hok : ah.ok c a) (hM : mh.ok m.L) (hP : PhO W0 c t ah a E) (hA : okA c t m a) (hz : stepA c t m a = (m', a', ac, 3)) (hb : a'.busy = true) (Q : Own) :
    Spec Tryz.prog W0 30 [ptr h.b, ptr mh.mb] ((h.b, thP c t n p h x) :: ah.O c t a a.ph.no a.ph.en (E ++ (mh.O m ++ (h.sD ++ (h.oD ++ Q))))) fun v own' =>
    ∃ s : TR, (v = .tuple #[stV ⟨0, 3, x.ct, ac⟩, .slice s.ea s.el.length s.ec] ∧ s.ok W0 c t h { x with at' := some a' }) ∧ Ent W0 own' (s.O c t n p { x with at' := some a' } (mh.O m' ++ Q)) := by
  refine spec_of mixed low_thread_Thread_advance (by simp [ir_thread_Thread_advance]) ?_
  have hs := fun Q => sp_aStep hok hM hP hA Q
  unfold StQ AtQ at hs
  rw [hz] at hs
  dsimp only at hs
  obtain ⟨hb', ap, lb, ca, cc, sa, sc, sD, oa, oc, oD⟩ := h
  obtain ⟨hhs, hho⟩ := hh
  dsimp only at hap hhs hho ⊢
  subst hap
  have hbz := fun (y : AH) (own' : Own) (m1 : MemC y.b (atP c t y a' a'.ph.no) own') => sp_abusy (W0 := W0) (own := own') (a := a') (ah := y) (cl_of m1 rfl)
  rw [hb] at hbz
  repeat' ((try (conv => whnf)); first | (refine br_te ?_ ?_; exact rfl) | (refine br_fe ?_ ?_; exact rfl) | (refine new_i (fun bk hbk => ?_)) | ((with_reducible show CallT _ _ _ _ _ _); first | ((refine call_pe (hby _ inferInstance) ?_ ?_ ?_; (exact rfl); exact rfl)) | ((refine call_sB (b := ah.b) (D := AH.R ah c t a a.ph.en (E ++ (mh.O m ++ []))) hs (fun Q => (by refine sb_ent ?_; (repeat (first | exact sb_refl | exact sb_nil | refine sb_fr ?_ | refine sb_pu rfl ?_ | refine sb_cons ?_ | refine sb_app ?_)))) ?_ ?_ ?_ (fun y v hv => ?_); (exact rfl); (exact rfl); (exact rfl); (obtain ⟨ah1, E1⟩ := y; obtain ⟨rfl, hyb, hyo, hyp⟩ := hv; obtain ⟨ah2, rfl⟩ := AH.b_eq hyb; have hby := hbz { ah2 with b := ah.b })))) | (apply sel; exact rfl) | (apply ld_o; exact rfl) | (apply ldN_a; exact rfl) | (apply st_o; (exact rfl); exact rfl) | (apply stN_o; (exact rfl); (exact rfl); exact rfl))
  all_goals exact ⟨⟨⟨hb', ptr ah.b, lb, ca, cc, sa, sc, sD, oa, oc, oD⟩, AH.O { ah2 with b := ah.b } c t a' a'.ph.no a'.ph.en E1, some ⟨bk, 0, none⟩, 1, [⟨0, t, 3, 0, none, [], 0, none, [], 0⟩], [(bk, evP ⟨0, t, 3, 0, none, [], 0, none, [], 0⟩)]⟩, ⟨rfl, ⟨rfl, rfl, ⟨hhs, hho⟩, ⟨{ ah2 with b := ah.b }, E1, rfl, hyo, hyp, rfl⟩, ev1 ⟨RdE.nil, RdE.nil⟩ (Nat.zero_le _) (Nat.zero_le _)⟩⟩, by unfold TR.O; dsimp only; simp only [List.append_assoc, List.cons_append, List.nil_append]; exact (by refine sb_ent ?_; (repeat (first | exact sb_refl | exact sb_nil | refine sb_fr ?_ | refine sb_pu rfl ?_ | refine sb_cons ?_ | refine sb_app ?_)))⟩
theorem sp_tAdv16a {m' : MS} {a' : AT} {ac : AcM} (hh : h.ok x) (hap : h.ap = ptr ah.b) (hok : ah.ok c a) (hM : mh.ok m.L) (hP : PhO W0 c t ah a E) (hA : okA c t m a) (hz : stepA c t m a = (m', a', ac, 16)) (hd : a'.dn = true) (hcd : a'.code = 1) (hb : a'.busy = true) (Q : Own) :
    Spec Tryz.prog W0 30 [ptr h.b, ptr mh.mb] ((h.b, thP c t n p h x) :: ah.O c t a a.ph.no a.ph.en (E ++ (mh.O m ++ (h.sD ++ (h.oD ++ Q))))) fun v own' =>
    ∃ s : TR, (v = .tuple #[stV ⟨0, 16, x.ct, ac⟩, .slice s.ea s.el.length s.ec] ∧ s.ok W0 c t h { x with at' := some a' }) ∧ Ent W0 own' (s.O c t n p { x with at' := some a' } (mh.O m' ++ Q)) := by
  refine spec_of mixed low_thread_Thread_advance (by simp [ir_thread_Thread_advance]) ?_
  have hs := fun Q => sp_aStep hok hM hP hA Q
  unfold StQ AtQ at hs
  rw [hz] at hs
  dsimp only at hs
  obtain ⟨hb', ap, lb, ca, cc, sa, sc, sD, oa, oc, oD⟩ := h
  obtain ⟨hhs, hho⟩ := hh
  dsimp only at hap hhs hho ⊢
  subst hap
  have hbz := fun (y : AH) (own' : Own) (m1 : MemC y.b (atP c t y a' a'.ph.no) own') => sp_abusy (W0 := W0) (own := own') (a := a') (ah := y) (cl_of m1 rfl)
  rw [hb] at hbz
  have hdn := fun (y : AH) (own' : Own) (m1 : MemC y.b (atP c t y a' a'.ph.no) own') => sp_adecided (W0 := W0) (own := own') (b := y.b) (d := a'.dn) (cl_of m1 rfl)
  rw [hd] at hdn
  have hcz := fun (y : AH) (own' : Own) (m1 : MemC y.b (atP c t y a' a'.ph.no) own') => sp_acode (W0 := W0) (own := own') (b := y.b) (k := a'.code) (cl_of m1 rfl)
  rw [hcd] at hcz
  have hwd := fun (y : AH) (hy : y.ok c a') (own' : Own) (m1 : MemC y.b (atP c t y a' a'.ph.no) own') (m2 : MemC y.g.b (lgP c.writes y.g.aa a'.ad.length y.g.ca y.g.va a'.vl.length y.g.cv y.g.ib y.g.P) own') (m3 : EntC own' y.g.aD) (m4 : EntC own' y.nD) =>
    sp_aWords (W0 := W0) (own := own') (b := y.b) (gb := y.g.b) (w := c.words) (cl_of m1 rfl) (cl_of m1 rfl) (cl_of m1 rfl) (cl_of m2 rfl) ((hy.hg.hA.rd (W0 := W0)).up) ((hy.hn.rd (W0 := W0)).up) (by have h1 := hy.hg.hm; have h2 := hy.wr; omega) (by have := hy.ln; omega)
  repeat' ((try (conv => whnf)); first | (refine when_ye ?_ ?_; exact rfl) | (refine br_te ?_ ?_; exact rfl) | (refine br_fe ?_ ?_; exact rfl) | (refine new_i (fun bk hbk => ?_)) | ((with_reducible show CallT _ _ _ _ _ _); first | ((refine call_pe (hby _ inferInstance) ?_ ?_ ?_; (exact rfl); exact rfl)) | ((refine call_pe (hdz _ inferInstance) ?_ ?_ ?_; (exact rfl); exact rfl)) | ((refine call_pe (hcy _ inferInstance) ?_ ?_ ?_; (exact rfl); exact rfl)) | ((refine call_sB (b := ah.b) (D := AH.R ah c t a a.ph.en (E ++ (mh.O m ++ []))) hs (fun Q => (by refine sb_ent ?_; (repeat (first | exact sb_refl | exact sb_nil | refine sb_fr ?_ | refine sb_pu rfl ?_ | refine sb_cons ?_ | refine sb_app ?_)))) ?_ ?_ ?_ (fun y v hv => ?_); (exact rfl); (exact rfl); (exact rfl); (obtain ⟨ah1, E1⟩ := y; obtain ⟨rfl, hyb, hyo, hyp⟩ := hv; obtain ⟨ah2, rfl⟩ := AH.b_eq hyb; have hby := hbz { ah2 with b := ah.b }; have hdz := hdn { ah2 with b := ah.b }; have hcy := hcz { ah2 with b := ah.b }; have hwz := hwd { ah2 with b := ah.b } hyo))) | ((refine call_x (hwz _ inferInstance inferInstance inferInstance inferInstance) ?_ ?_ (fun y v hv => ?_); (exact rfl); (exact rfl); (obtain ⟨⟨a1, c1, D1⟩, ⟨a2, c2, D2⟩⟩ := y; obtain ⟨rfl, hB1, hB2⟩ := hv; dsimp only at hB1 hB2)))) | (apply sel; exact rfl) | (apply ld_o; exact rfl) | (apply ldN_a; exact rfl) | (apply st_o; (exact rfl); exact rfl) | (apply stN_o; (exact rfl); (exact rfl); exact rfl))
  all_goals exact ⟨⟨⟨hb', ptr ah.b, lb, ca, cc, sa, sc, sD, oa, oc, oD⟩, AH.O { ah2 with b := ah.b } c t a' a'.ph.no a'.ph.en E1, some ⟨bk, 0, none⟩, 1, [⟨0, t, 4, 0, a1, a'.seen, c1, a2, a'.ad.filter fun x => decide (x < c.words), c2⟩], (bk, evP ⟨0, t, 4, 0, a1, a'.seen, c1, a2, a'.ad.filter fun x => decide (x < c.words), c2⟩) :: (D1 ++ D2)⟩, ⟨rfl, ⟨rfl, rfl, ⟨hhs, hho⟩, ⟨{ ah2 with b := ah.b }, E1, rfl, hyo, hyp, rfl⟩, ev1 ⟨(hB1.rd (W0 := W0)).up, (hB2.rd (W0 := W0)).up⟩ hyo.ln (Nat.le_trans (List.length_filter_le _ _) (by have h1 := hyo.hg.hm; have h2 := hyo.wr; omega))⟩⟩, by unfold TR.O; dsimp only; simp only [List.append_assoc, List.cons_append, List.nil_append]; exact (by refine sb_ent ?_; (repeat (first | exact sb_refl | exact sb_nil | refine sb_fr ?_ | refine sb_pu rfl ?_ | refine sb_cons ?_ | refine sb_app ?_)))⟩
theorem sp_tAdv16b {m' : MS} {a' : AT} {ac : AcM} (hh : h.ok x) (hap : h.ap = ptr ah.b) (hok : ah.ok c a) (hM : mh.ok m.L) (hP : PhO W0 c t ah a E) (hA : okA c t m a) (hz : stepA c t m a = (m', a', ac, 16)) (hd : a'.dn = true) (hcd : a'.code ≠ 1) (hb : a'.busy = true) (Q : Own) :
    Spec Tryz.prog W0 30 [ptr h.b, ptr mh.mb] ((h.b, thP c t n p h x) :: ah.O c t a a.ph.no a.ph.en (E ++ (mh.O m ++ (h.sD ++ (h.oD ++ Q))))) fun v own' =>
    ∃ s : TR, (v = .tuple #[stV ⟨0, 16, x.ct, ac⟩, .slice s.ea s.el.length s.ec] ∧ s.ok W0 c t h { x with at' := some a' }) ∧ Ent W0 own' (s.O c t n p { x with at' := some a' } (mh.O m' ++ Q)) := by
  refine spec_of mixed low_thread_Thread_advance (by simp [ir_thread_Thread_advance]) ?_
  have hs := fun Q => sp_aStep hok hM hP hA Q
  unfold StQ AtQ at hs
  rw [hz] at hs
  dsimp only at hs
  obtain ⟨hb', ap, lb, ca, cc, sa, sc, sD, oa, oc, oD⟩ := h
  obtain ⟨hhs, hho⟩ := hh
  dsimp only at hap hhs hho ⊢
  subst hap
  have hbz := fun (y : AH) (own' : Own) (m1 : MemC y.b (atP c t y a' a'.ph.no) own') => sp_abusy (W0 := W0) (own := own') (a := a') (ah := y) (cl_of m1 rfl)
  rw [hb] at hbz
  have hdn := fun (y : AH) (own' : Own) (m1 : MemC y.b (atP c t y a' a'.ph.no) own') => sp_adecided (W0 := W0) (own := own') (b := y.b) (d := a'.dn) (cl_of m1 rfl)
  rw [hd] at hdn
  have hcz := fun (y : AH) (own' : Own) (m1 : MemC y.b (atP c t y a' a'.ph.no) own') => sp_acode (W0 := W0) (own := own') (b := y.b) (k := a'.code) (cl_of m1 rfl)
  have hwd := fun (y : AH) (hy : y.ok c a') (own' : Own) (m1 : MemC y.b (atP c t y a' a'.ph.no) own') (m2 : MemC y.g.b (lgP c.writes y.g.aa a'.ad.length y.g.ca y.g.va a'.vl.length y.g.cv y.g.ib y.g.P) own') (m3 : EntC own' y.g.aD) (m4 : EntC own' y.nD) =>
    sp_aWords (W0 := W0) (own := own') (b := y.b) (gb := y.g.b) (w := c.words) (cl_of m1 rfl) (cl_of m1 rfl) (cl_of m1 rfl) (cl_of m2 rfl) ((hy.hg.hA.rd (W0 := W0)).up) ((hy.hn.rd (W0 := W0)).up) (by have h1 := hy.hg.hm; have h2 := hy.wr; omega) (by have := hy.ln; omega)
  repeat' ((try (conv => whnf)); first | (refine when_ye ?_ ?_; exact rfl) | (refine br_te ?_ ?_; exact rfl) | (refine br_fe ?_ ?_; exact rfl) | (apply br_pyE; (exact rfl); omega) | (refine new_i (fun bk hbk => ?_)) | ((with_reducible show CallT _ _ _ _ _ _); first | ((refine call_pe (hby _ inferInstance) ?_ ?_ ?_; (exact rfl); exact rfl)) | ((refine call_pe (hdz _ inferInstance) ?_ ?_ ?_; (exact rfl); exact rfl)) | ((refine call_pe (hcy _ inferInstance) ?_ ?_ ?_; (exact rfl); exact rfl)) | ((refine call_sB (b := ah.b) (D := AH.R ah c t a a.ph.en (E ++ (mh.O m ++ []))) hs (fun Q => (by refine sb_ent ?_; (repeat (first | exact sb_refl | exact sb_nil | refine sb_fr ?_ | refine sb_pu rfl ?_ | refine sb_cons ?_ | refine sb_app ?_)))) ?_ ?_ ?_ (fun y v hv => ?_); (exact rfl); (exact rfl); (exact rfl); (obtain ⟨ah1, E1⟩ := y; obtain ⟨rfl, hyb, hyo, hyp⟩ := hv; obtain ⟨ah2, rfl⟩ := AH.b_eq hyb; have hby := hbz { ah2 with b := ah.b }; have hdz := hdn { ah2 with b := ah.b }; have hcy := hcz { ah2 with b := ah.b }; have hwz := hwd { ah2 with b := ah.b } hyo))) | ((refine call_x (hwz _ inferInstance inferInstance inferInstance inferInstance) ?_ ?_ (fun y v hv => ?_); (exact rfl); (exact rfl); (obtain ⟨⟨a1, c1, D1⟩, ⟨a2, c2, D2⟩⟩ := y; obtain ⟨rfl, hB1, hB2⟩ := hv; dsimp only at hB1 hB2)))) | (apply sel; exact rfl) | (apply ld_o; exact rfl) | (apply ldN_a; exact rfl) | (apply st_o; (exact rfl); exact rfl) | (apply stN_o; (exact rfl); (exact rfl); exact rfl))
  all_goals exact ⟨⟨⟨hb', ptr ah.b, lb, ca, cc, sa, sc, sD, oa, oc, oD⟩, AH.O { ah2 with b := ah.b } c t a' a'.ph.no a'.ph.en E1, some ⟨bk, 0, none⟩, 1, [⟨0, t, 4, 0, a1, a'.seen, c1, none, [], 0⟩], (bk, evP ⟨0, t, 4, 0, a1, a'.seen, c1, none, [], 0⟩) :: (D1 ++ D2)⟩, ⟨rfl, ⟨rfl, rfl, ⟨hhs, hho⟩, ⟨{ ah2 with b := ah.b }, E1, rfl, hyo, hyp, rfl⟩, ev1 ⟨(hB1.rd (W0 := W0)).up, RdE.nil⟩ hyo.ln (Nat.zero_le _)⟩⟩, by unfold TR.O; dsimp only; simp only [List.append_assoc, List.cons_append, List.nil_append]; exact (by refine sb_ent ?_; (repeat (first | exact sb_refl | exact sb_nil | refine sb_fr ?_ | refine sb_pu rfl ?_ | refine sb_cons ?_ | refine sb_app ?_)))⟩
theorem sp_tAdvE {m' : MS} {a' : AT} {ac : AcM} {ph : Int} {bi i : Ins} {cD : Own} (hF : FormsAt W0) (hh : h.ok x) (hap : h.ap = ptr ah.b) (hok : ah.ok c a) (hM : mh.ok m.L) (hP : PhO W0 c t ah a E) (hA : okA c t m a) (hl : x.seen.length ≤ 100000) (hl2 : x.obs.length ≤ 100000) (hC : RdE Ins.enc 5 W0 cD h.ca p) (hp : p.length ≤ 100000) (hbi : p[x.bg]? = some bi) (hop : bi.op = 7) (hck : (checkP p).2 = 0) (hend : endM p x.bg ≤ 100000) (hcode : a'.code = 1 ∨ a'.code = 9) (hst : a'.st = 2) (hi : p[x.th.pc]? = some i) (hz : stepA c t m a = (m', a', ac, ph)) (h3 : ph ≠ 3) (h16 : ph ≠ 16) (hb : a'.busy = false) (Q : Own) [eq : EntC Q cD] :
    Spec Tryz.prog W0 30 [ptr h.b, ptr mh.mb] ((h.b, thP c t n p h x) :: ah.O c t a a.ph.no a.ph.en (E ++ (mh.O m ++ (h.sD ++ (h.oD ++ Q))))) fun v own' =>
    ∃ s : TR, (v = .tuple #[stV ⟨0, ph, x.ct, ac⟩, .slice s.ea s.el.length s.ec] ∧ s.ok W0 c t h (x.ans p a' i)) ∧ Ent W0 own' (s.O c t n p (x.ans p a' i) (mh.O m' ++ Q)) := by
  refine spec_of mixed low_thread_Thread_advance (by simp [ir_thread_Thread_advance]) ?_
  have hs := fun Q => sp_aStep hok hM hP hA Q
  unfold StQ AtQ at hs
  rw [hz] at hs
  dsimp only at hs
  have hae := fun (y : AH) (hap : h.ap = ptr y.b) (Q : Own) (eq : EntC Q cD) => sp_tAnsE (c := c) (t := t) (n := n) (kd := a'.ph.no) (i := i) (a := a') (ah := y) hF hh hl hl2 hap hC hp hbi hop hck hend hcode hst Q
  obtain ⟨hb', ap, lb, ca, cc, sa, sc, sD, oa, oc, oD⟩ := h
  obtain ⟨hhs, hho⟩ := hh
  dsimp only at hap hhs hho ⊢
  subst hap
  have hbz := fun (y : AH) (own' : Own) (m1 : MemC y.b (atP c t y a' a'.ph.no) own') => sp_abusy (W0 := W0) (own := own') (a := a') (ah := y) (cl_of m1 rfl)
  rw [hb] at hbz
  dsimp only at hC hae
  repeat' ((try (conv => whnf)); first | (refine when_ne ?_ ?_; exact rfl) | (refine br_te ?_ ?_; exact rfl) | (refine br_fe ?_ ?_; exact rfl) | (apply br_pnE; (exact rfl); omega) | (apply when_pnE; (exact rfl); omega) | ((with_reducible show IxS _ _ _ _ _); first | ((refine ixE hC hi ?_ ?_; (first | rfl | omega)))) | ((with_reducible show LdN _ _ _ _ _); first | (refine ldNEi hC hi rfl ?_)) | ((with_reducible show CallT _ _ _ _ _ _); first | ((refine call_pe (hby _ inferInstance) ?_ ?_ ?_; (exact rfl); exact rfl)) | ((refine call_sB (b := ah.b) (D := AH.R ah c t a a.ph.en (E ++ (mh.O m ++ []))) hs (fun Q => (by refine sb_ent ?_; (repeat (first | exact sb_refl | exact sb_nil | refine sb_fr ?_ | refine sb_pu rfl ?_ | refine sb_cons ?_ | refine sb_app ?_)))) ?_ ?_ ?_ (fun y v hv => ?_); (exact rfl); (exact rfl); (exact rfl); (obtain ⟨ah1, E1⟩ := y; obtain ⟨rfl, hyb, hyo, hyp⟩ := hv; obtain ⟨ah2, rfl⟩ := AH.b_eq hyb; have hby := hbz { ah2 with b := ah.b }; have hay := hae { ah2 with b := ah.b }))) | ((refine call_sC (F := cD) (b := hb') (D := (ah.b, atP c t { ah2 with b := ah.b } a' a'.ph.no) :: (sD ++ (oD ++ []))) (hay rfl) (fun Q => by simp only [List.cons_append, List.append_assoc, List.nil_append]; exact (by refine sb_ent ?_; (repeat (first | exact sb_refl | exact sb_nil | refine sb_fr ?_ | refine sb_pu rfl ?_ | refine sb_cons ?_ | refine sb_app ?_)))) ?_ ?_ ?_ (fun h1 v hv => ?_); (exact rfl); (exact rfl); (exact rfl); (obtain ⟨rfl, hv1, hv2, hv3, hv4⟩ := hv)))) | (apply sel; exact rfl) | (apply ld_o; exact rfl) | (apply ldN_a; exact rfl) | (apply st_o; (exact rfl); exact rfl) | (apply stN_o; (exact rfl); (exact rfl); exact rfl) | (refine new_i (fun bk hbk => ?_)))
  all_goals exact ⟨⟨h1, [], none, 0, [], []⟩, ⟨rfl, ⟨hv1, hv3, hv4, by unfold AtO; rw [ansE_at hst]; exact ⟨hv2, rfl⟩, EvO.nil⟩⟩, by unfold TR.O; dsimp only; simp only [List.append_assoc, List.cons_append, List.nil_append]; exact (by refine sb_ent ?_; (repeat (first | exact sb_refl | exact sb_nil | refine sb_fr ?_ | refine sb_pu rfl ?_ | refine sb_cons ?_ | refine sb_app ?_)))⟩
end
end Go.Proofs.YtllddgdmmfmpkaaGreatDoor
namespace Go.Proofs.YtllddgdmmfmpkaaGreatDoor
open Go
set_option maxRecDepth 10000
set_option maxHeartbeats 8000000
section
variable {W0 : World} {own Q E : Own} {c : Cfg} {t n : Nat} {p : List Ins} {h : TH} {x : GT} {k : Int} {b e : Nat} {a : AT} {ah : AH} {mh : MH} {m : MS}
theorem sp_tAdvN {m' : MS} {a' : AT} {ac : AcM} {ph : Int} {i : Ins} {cD : Own} (hh : h.ok x) (hap : h.ap = ptr ah.b) (hok : ah.ok c a) (hM : mh.ok m.L) (hP : PhO W0 c t ah a E) (hA : okA c t m a) (hl : x.seen.length ≤ 100000) (hC : RdE Ins.enc 5 W0 cD h.ca p) (hpc : x.th.pc ≤ 1000000) (hii : i = ⟨10, 1, 0, 0, 0⟩ ∨ (i.op ≠ 10 ∧ i.op ≠ 14)) (hst : a'.st ≠ 2) (hi : p[x.th.pc]? = some i) (hz : stepA c t m a = (m', a', ac, ph)) (h3 : ph ≠ 3) (h16 : ph ≠ 16) (hb : a'.busy = false) (Q : Own) [eq : EntC Q cD] :
    Spec Tryz.prog W0 30 [ptr h.b, ptr mh.mb] ((h.b, thP c t n p h x) :: ah.O c t a a.ph.no a.ph.en (E ++ (mh.O m ++ (h.sD ++ (h.oD ++ Q))))) fun v own' =>
    ∃ s : TR, (v = .tuple #[stV ⟨0, ph, x.ct, ac⟩, .slice s.ea s.el.length s.ec] ∧ s.ok W0 c t h (x.ans p a' i)) ∧ Ent W0 own' (s.O c t n p (x.ans p a' i) (mh.O m' ++ Q)) := by
  refine spec_of mixed low_thread_Thread_advance (by simp [ir_thread_Thread_advance]) ?_
  have hs := fun Q => sp_aStep hok hM hP hA Q
  unfold StQ AtQ at hs
  rw [hz] at hs
  dsimp only at hs
  have hae := fun (y : AH) (hap : h.ap = ptr y.b) (Q : Own) => sp_tAnsN (W0 := W0) (c := c) (t := t) (n := n) (p := p) (kd := a'.ph.no) (i := i) (a := a') (ah := y) hh hl hap hpc hii hst Q
  obtain ⟨hb', ap, lb, ca, cc, sa, sc, sD, oa, oc, oD⟩ := h
  obtain ⟨hhs, hho⟩ := hh
  dsimp only at hap hhs hho ⊢
  subst hap
  have hbz := fun (y : AH) (own' : Own) (m1 : MemC y.b (atP c t y a' a'.ph.no) own') => sp_abusy (W0 := W0) (own := own') (a := a') (ah := y) (cl_of m1 rfl)
  rw [hb] at hbz
  dsimp only at hC hae
  repeat' ((try (conv => whnf)); first | (refine when_ne ?_ ?_; exact rfl) | (refine br_te ?_ ?_; exact rfl) | (refine br_fe ?_ ?_; exact rfl) | (apply br_pnE; (exact rfl); omega) | (apply when_pnE; (exact rfl); omega) | ((with_reducible show IxS _ _ _ _ _); first | ((refine ixE hC hi ?_ ?_; (first | rfl | omega)))) | ((with_reducible show LdN _ _ _ _ _); first | (refine ldNEi hC hi rfl ?_)) | ((with_reducible show CallT _ _ _ _ _ _); first | ((refine call_pe (hby _ inferInstance) ?_ ?_ ?_; (exact rfl); exact rfl)) | ((refine call_sB (b := ah.b) (D := AH.R ah c t a a.ph.en (E ++ (mh.O m ++ []))) hs (fun Q => (by refine sb_ent ?_; (repeat (first | exact sb_refl | exact sb_nil | refine sb_fr ?_ | refine sb_pu rfl ?_ | refine sb_cons ?_ | refine sb_app ?_)))) ?_ ?_ ?_ (fun y v hv => ?_); (exact rfl); (exact rfl); (exact rfl); (obtain ⟨ah1, E1⟩ := y; obtain ⟨rfl, hyb, hyo, hyp⟩ := hv; obtain ⟨ah2, rfl⟩ := AH.b_eq hyb; have hby := hbz { ah2 with b := ah.b }; have hay := hae { ah2 with b := ah.b }))) | ((refine call_sB (b := hb') (D := (ah.b, atP c t { ah2 with b := ah.b } a' a'.ph.no) :: (sD ++ (oD ++ []))) (hay rfl) (fun Q => by simp only [List.cons_append, List.append_assoc, List.nil_append]; exact (by refine sb_ent ?_; (repeat (first | exact sb_refl | exact sb_nil | refine sb_fr ?_ | refine sb_pu rfl ?_ | refine sb_cons ?_ | refine sb_app ?_)))) ?_ ?_ ?_ (fun h1 v hv => ?_); (exact rfl); (exact rfl); (exact rfl); (obtain ⟨rfl, hv1, hv2, hv3, hv4⟩ := hv)))) | (apply sel; exact rfl) | (apply ld_o; exact rfl) | (apply ldN_a; exact rfl) | (apply st_o; (exact rfl); exact rfl) | (apply stN_o; (exact rfl); (exact rfl); exact rfl) | (refine new_i (fun bk hbk => ?_)))
  all_goals exact ⟨⟨h1, AH.O { ah2 with b := ah.b } c t a' a'.ph.no a'.ph.en E1, none, 0, [], []⟩, ⟨rfl, ⟨hv1, hv3, hv4, by unfold AtO; rw [ansN_at hst]; exact ⟨{ ah2 with b := ah.b }, E1, hv2, hyo, hyp, rfl⟩, EvO.nil⟩⟩, by unfold TR.O; dsimp only; simp only [List.append_assoc, List.cons_append, List.nil_append]; exact (by refine sb_ent ?_; (repeat (first | exact sb_refl | exact sb_nil | refine sb_fr ?_ | refine sb_pu rfl ?_ | refine sb_cons ?_ | refine sb_app ?_)))⟩
theorem rest_busy (x : AT) : x.rest.busy = true := by unfold AT.rest; split <;> rfl
theorem step_busy {c : Cfg} {t : Int} {m : MS} {x : AT} (h : (stepA c t m x).2.2.2 = 3 ∨ (stepA c t m x).2.2.2 = 16) : (stepA c t m x).2.1.busy = true := by
  cases hp : x.ph with
  | ent k =>
    unfold stepA at h ⊢
    simp only [hp] at h ⊢
    split at h
    · rcases h with h | h <;> (dsimp only at h; omega)
    · rename_i h0
      rw [if_neg h0]
      split at h
      · rename_i h1
        rw [if_pos h1]
        rfl
      · rcases h with h | h <;> (dsimp only at h; omega)
  | dc =>
    rw [stA_dc hp]
    dsimp only
    split
    · exact rest_busy _
    · split
      · rfl
      · exact rest_busy _
  | rd k b v =>
    exfalso
    unfold stepA at h
    simp only [hp] at h
    (repeat' split at h) <;> (rcases h with h | h <;> (dsimp only at h; omega))
  | lk s ld =>
    exfalso
    rw [stA_lk hp] at h
    (repeat' split at h) <;> (rcases h with h | h <;> (dsimp only at h; omega))
  | tn b =>
    exfalso
    cases b with
    | false => rw [stA_tn0 hp] at h; rcases h with h | h <;> (dsimp only at h; omega)
    | true => rw [stA_tn1 hp] at h; rcases h with h | h <;> (dsimp only at h; omega)
  | _ => exact absurd h (by unfold stepA; simp only [hp]; decide)
theorem sp_tAdv {i bi : Ins} {cD : Own} (hF : FormsAt W0) (hh : h.ok x) (hap : h.ap = ptr ah.b) (hok : ah.ok c a) (hM : mh.ok m.L) (hP : PhO W0 c t ah a E) (hA : okA c t m a) (hl : x.seen.length ≤ 100000) (hl2 : x.obs.length ≤ 100000) (hC : RdE Ins.enc 5 W0 cD h.ca p) (hp : p.length ≤ 100000) (hpc : x.th.pc ≤ 1000000) (hi : p[x.th.pc]? = some i) (hii : i = ⟨10, 1, 0, 0, 0⟩ ∨ (i.op ≠ 10 ∧ i.op ≠ 14))
    (hbi : p[x.bg]? = some bi) (hop : bi.op = 7) (hck : (checkP p).2 = 0) (hend : endM p x.bg ≤ 100000) (hcode : (stepA c t m a).2.1.st = 2 → (stepA c t m a).2.1.code = 1 ∨ (stepA c t m a).2.1.code = 9) (Q : Own) [eq : EntC Q cD] :
    Spec Tryz.prog W0 30 [ptr h.b, ptr mh.mb] ((h.b, thP c t n p h x) :: ah.O c t a a.ph.no a.ph.en (E ++ (mh.O m ++ (h.sD ++ (h.oD ++ Q))))) fun v own' =>
    ∃ s : TR, (v = .tuple #[stV { (advG c p t m x a i).2.2.1 with t := 0 }, .slice s.ea s.el.length s.ec] ∧ s.ok W0 c t h (advG c p t m x a i).2.1) ∧ Ent W0 own' (s.O c t n p (advG c p t m x a i).2.1 (mh.O (advG c p t m x a i).1 ++ Q)) := by
  have hsb := step_busy (c := c) (t := t) (m := m) (x := a)
  unfold advG
  generalize hz : stepA c t m a = z at hcode hsb ⊢
  obtain ⟨m', a', ac, ph⟩ := z
  dsimp only at hcode hsb ⊢
  by_cases hb : a'.busy = true
  · simp only [if_pos hb]
    by_cases h3 : ph = 3
    · subst h3
      exact sp_tAdv3 hh hap hok hM hP hA hz hb Q
    · by_cases h16 : ph = 16 ∧ a'.dn = true
      · obtain ⟨rfl, hd⟩ := h16
        by_cases hc1 : a'.code = 1
        · exact sp_tAdv16a hh hap hok hM hP hA hz hd hc1 hb Q
        · exact sp_tAdv16b hh hap hok hM hP hA hz hd hc1 hb Q
      · refine sp_tAdv1 hh hap hok hM hP hA hz h3 ?_ hb Q
        by_cases h : ph = 16
        · exact .inr (by cases hd : a'.dn with | false => rfl | true => exact absurd ⟨h, hd⟩ h16)
        · exact .inl h
  · have h3 : ph ≠ 3 := fun h => hb (hsb (.inl h))
    have h16 : ph ≠ 16 := fun h => hb (hsb (.inr h))
    simp only [if_neg hb]
    have hb' : a'.busy = false := by simpa using hb
    by_cases hst : a'.st = 2
    · exact sp_tAdvE hF hh hap hok hM hP hA hl hl2 hC hp hbi hop hck hend (hcode hst) hst hi hz h3 h16 hb' Q
    · exact sp_tAdvN hh hap hok hM hP hA hl hC hpc hii hst hi hz h3 h16 hb' Q
end
end Go.Proofs.YtllddgdmmfmpkaaGreatDoor
namespace Go.Proofs.YtllddgdmmfmpkaaGreatDoor
open Go
set_option maxRecDepth 10000
set_option maxHeartbeats 8000000
abbrev iC : Ins := ⟨1, 2, 0, 0, 1⟩
abbrev iZ : Ins := ⟨0, 0, 0, 0, 0⟩
abbrev iB : Ins := ⟨7, 0, 0, 0, 8⟩
abbrev iR : Ins := ⟨10, 1, 0, 0, 0⟩
abbrev iA : Ins := ⟨3, 1, 1, 2, 0⟩
abbrev iW : Ins := ⟨11, 0, 1, 0, 0⟩
abbrev iE : Ins := ⟨8, 0, 0, 0, 0⟩
theorem read_en (c : Cfg) (x : AT) (a : Int) : (x.read c a).ph.en = 3 := by
  unfold AT.read
  split
  · rfl
  · split <;> rfl
section
variable {W0 : World} {own Q E : Own} {c : Cfg} {t n : Nat} {p : List Ins} {h : TH} {x : GT} {k : Int} {b e : Nat} {a : AT} {ah : AH} {mh : MH} {m : MS}
theorem req_en {i : Ins} (hi : i = iR ∨ i = iW ∨ i = iE) {r : Rg} : (reqA c r a i).ph.en = 3 := by
  rcases hi with rfl | rfl | rfl
  · exact read_en c a _
  · rfl
  · rfl
theorem sp_tReq {i : Ins} (hap : h.ap = ptr ah.b) (hok : ah.ok c a) (hst : a.st = 1) (hcw : 0 ≤ c.words ∧ c.words ≤ 1099511627776) (hi : i = iR ∨ i = iW ∨ i = iE) (Q : Own) :
    Spec Tryz.prog W0 57 [ptr h.b, i.v] ((h.b, thP c t n p h x) :: ah.O c t a 0 3 Q) fun v own' =>
    ∃ s : AH × Own, (v = .tuple #[] ∧ s.1.b = ah.b ∧ s.1.ok c (reqA c x.th.rg a i) ∧ PhO W0 c t s.1 (reqA c x.th.rg a i) s.2) ∧ Ent W0 own' ((h.b, thP c t n p h x) :: s.1.O c t (reqA c x.th.rg a i) (reqA c x.th.rg a i).ph.no 3 (s.2 ++ Q)) := by
  refine spec_of mixed low_thread_Thread_request (by simp [ir_thread_Thread_request]) ?_
  obtain ⟨hb, ap, lb, ca, cc, sa, sc, sD, oa, oc, oD⟩ := h
  dsimp only at hap ⊢
  subst hap
  have had := fun (own' : Own) (m1 : MemC hb (thP c t n p ⟨hb, ptr ah.b, lb, ca, cc, sa, sc, sD, oa, oc, oD⟩ x) own') => sp_tAddr (W0 := W0) (own := own') (b := hb) (k := x.th.rg.r0) (cl_of m1 rfl)
  have hw : ∀ z : Int, 0 ≤ wrapu z := fun z => (wrapu_ok z).1
  rcases hi with rfl | rfl | rfl
  · have hS := fun Q => sp_aRead (W0 := W0) (t := t) hok hst (wrapu (x.th.rg.r0 + wrapu 0)) (hw _) hcw Q
    dsimp only [Ins.v]
    repeat' ((try (conv => whnf)); first | (refine br_te ?_ ?_; exact rfl) | ((with_reducible show CallT _ _ _ _ _ _); first | ((refine call_sB (b := ah.b) (D := AH.R ah c t a 3 []) hS (fun Q => (by refine sb_ent ?_; (repeat (first | exact sb_refl | exact sb_nil | refine sb_fr ?_ | refine sb_pu rfl ?_ | refine sb_cons ?_ | refine sb_app ?_)))) ?_ ?_ ?_ (fun y v hv => ?_); (exact rfl); (exact rfl); (exact rfl); (obtain ⟨rfl, hv⟩ := hv)))) | ((with_reducible show CallQ _ _ _ _ _ _); first | ((refine call_qi (fun ex => had _ inferInstance) ?_ ?_ ?_; (exact rfl); (exact rfl)))) | (apply ld_o; exact rfl) | (refine new_i (fun bk hbk => ?_)))
    all_goals exact ⟨y, ⟨rfl, hv⟩, (by refine sb_ent ?_; (repeat (first | exact sb_refl | exact sb_nil | refine sb_fr ?_ | refine sb_pu rfl ?_ | refine sb_cons ?_ | refine sb_app ?_)))⟩
  · have hS := fun Q => sp_aWrite (W0 := W0) (t := t) hok hst (wrapu (x.th.rg.r0 + wrapu 0)) x.th.rg.r1 Q
    dsimp only [Ins.v]
    repeat' ((try (conv => whnf)); first | (refine br_te ?_ ?_; exact rfl) | (refine br_fe ?_ ?_; exact rfl) | ((with_reducible show CallT _ _ _ _ _ _); first | ((refine call_sB (b := ah.b) (D := AH.R ah c t a 3 []) hS (fun Q => (by refine sb_ent ?_; (repeat (first | exact sb_refl | exact sb_nil | refine sb_fr ?_ | refine sb_pu rfl ?_ | refine sb_cons ?_ | refine sb_app ?_)))) ?_ ?_ ?_ (fun y v hv => ?_); (exact rfl); (exact rfl); (exact rfl); (obtain ⟨rfl, hv⟩ := hv)))) | ((with_reducible show CallQ _ _ _ _ _ _); first | ((refine call_qi (fun ex => had _ inferInstance) ?_ ?_ ?_; (exact rfl); (exact rfl)))) | (refine ix1 rfl ?_) | (apply ld_o; exact rfl) | (refine new_i (fun bk hbk => ?_)))
    all_goals exact ⟨y, ⟨rfl, hv⟩, (by refine sb_ent ?_; (repeat (first | exact sb_refl | exact sb_nil | refine sb_fr ?_ | refine sb_pu rfl ?_ | refine sb_cons ?_ | refine sb_app ?_)))⟩
  · have hS := fun Q => sp_aEnd (W0 := W0) (t := t) hok hst 1 (.inl rfl) Q
    dsimp only [Ins.v]
    repeat' ((try (conv => whnf)); first | (refine br_te ?_ ?_; exact rfl) | (refine br_fe ?_ ?_; exact rfl) | ((with_reducible show CallT _ _ _ _ _ _); first | ((refine call_sB (b := ah.b) (D := AH.R ah c t a 3 []) hS (fun Q => (by refine sb_ent ?_; (repeat (first | exact sb_refl | exact sb_nil | refine sb_fr ?_ | refine sb_pu rfl ?_ | refine sb_cons ?_ | refine sb_app ?_)))) ?_ ?_ ?_ (fun y v hv => ?_); (exact rfl); (exact rfl); (exact rfl); (obtain ⟨rfl, hv⟩ := hv)))) | (apply ld_o; exact rfl) | (refine new_i (fun bk hbk => ?_)))
    all_goals exact ⟨y, ⟨rfl, hv⟩, (by refine sb_ent ?_; (repeat (first | exact sb_refl | exact sb_nil | refine sb_fr ?_ | refine sb_pu rfl ?_ | refine sb_cons ?_ | refine sb_app ?_)))⟩
theorem exe_const : exeG c p t m x iC = (m, ({ x with th := { x.th with rg := x.th.rg.set 2 1 } } : GT).to p.length (x.th.pc + 1), ⟨t, 0, if x.at'.isSome then x.ct else 0, acz⟩, []) := by
  unfold exeG
  rw [if_neg (by decide), if_neg (by decide)]
  rfl
theorem exe_add : exeG c p t m x iA = (m, ({ x with th := { x.th with rg := x.th.rg.set 1 (Alu.applyW 0 x.th.rg.r1 x.th.rg.r2) } } : GT).to p.length (x.th.pc + 1), ⟨t, 0, if x.at'.isSome then x.ct else 0, acz⟩, []) := by
  unfold exeG
  rw [if_neg (by decide), if_neg (by decide)]
  rfl
theorem exe_begin : exeG c p t m x iB = advG c p t m { x with bg := x.th.pc, sv := x.th.rg, tr := x.tr + 1, seen := [], ct := x.ct + 1 } a0T iB := by
  unfold exeG
  rw [if_pos (by decide)]
theorem exe_req {i : Ins} (hi : i = iR ∨ i = iW ∨ i = iE) (ha : x.at' = some a) : exeG c p t m x i = advG c p t m x (reqA c x.th.rg a i) i := by
  unfold exeG
  rw [ha]
  rcases hi with rfl | rfl | rfl <;> rw [if_neg (by decide), if_pos (by decide)]
theorem sp_tZero (hp : x.th.pc ≤ 1000000) (Q : Own) : Spec Tryz.prog W0 60 [ptr h.b, iZ.v] ((h.b, thP c t n p h x) :: Q) fun v own' =>
    ∃ _ : Unit, v = .tuple #[] ∧ Ent W0 own' ((h.b, thP c t n p h (x.to p.length (x.th.pc + 1))) :: Q) := by
  refine spec_un (spec_of mixed low_thread_Thread_local (by simp [ir_thread_Thread_local]) ?_)
  dsimp only [Ins.v]
  repeat' ((try (conv => whnf)); first | (refine br_fe ?_ ?_; exact rfl) | ((with_reducible show CallT _ _ _ _ _ _); first | ((refine call_bk (sp_tTo (c := c) (t := t) (n := n) (p := p) (h := h) (x := x) (x.th.pc + 1) _) ?_ ?_ ?_ (fun _ v hv => ?_); (exact rfl); (exact rfl); (exact rfl); (subst hv)))) | (refine ari ?_ ?_; omega) | (apply ld_o; exact rfl) | (refine new_i (fun bk hbk => ?_)))
  all_goals exact ⟨rfl, (by refine sb_ent ?_; (repeat (first | exact sb_refl | exact sb_nil | refine sb_fr ?_ | refine sb_pu rfl ?_ | refine sb_cons ?_ | refine sb_app ?_)))⟩
theorem exe_zero : exeG c p t m x iZ = (m, x.to p.length (x.th.pc + 1), ⟨t, 0, if x.at'.isSome then x.ct else 0, acz⟩, []) := by
  unfold exeG
  rw [if_neg (by decide), if_neg (by decide)]
  rfl
theorem sp_tExeC (hh : h.ok x) (hat : x.at' = none) (hap : h.ap = .pointer none) (hpc : x.th.pc ≤ 1000000) (Q : Own) :
    Spec Tryz.prog W0 32 [ptr h.b, ptr mh.mb, iC.v] ((h.b, thP c t n p h x) :: (mh.O m ++ (h.sD ++ (h.oD ++ Q)))) fun v own' =>
    ∃ s : TR, (v = .tuple #[stV { (exeG c p t m x iC).2.2.1 with t := 0 }, .slice s.ea s.el.length s.ec] ∧ s.ok W0 c t h (exeG c p t m x iC).2.1) ∧ Ent W0 own' (s.O c t n p (exeG c p t m x iC).2.1 (mh.O (exeG c p t m x iC).1 ++ Q)) := by
  refine spec_of mixed low_thread_Thread_execute (by simp [ir_thread_Thread_execute]) ?_
  rw [exe_const]
  obtain ⟨hb, ap, lb, ca, cc, sa, sc, sD, oa, oc, oD⟩ := h
  dsimp only at hap ⊢
  subst hap
  obtain ⟨hhs, hho⟩ := hh
  dsimp only at hhs hho
  dsimp only [Ins.v]
  rw [hat]
  repeat' ((try (conv => whnf)); first | (refine br_te ?_ ?_; exact rfl) | (refine br_fe ?_ ?_; exact rfl) | ((with_reducible show CallT _ _ _ _ _ _); first | ((refine call_bk (sp_tConst (c := c) (t := t) (n := n) (p := p) (h := ⟨hb, .pointer none, lb, ca, cc, sa, sc, sD, oa, oc, oD⟩) (x := x) hpc _) ?_ ?_ ?_ (fun _ v hv => ?_); (exact rfl); (exact rfl); (exact rfl); (subst hv)))) | (apply ld_o; exact rfl) | (apply ldN_a; exact rfl) | (apply stN_o; (exact rfl); (exact rfl); exact rfl) | (refine new_i (fun bk hbk => ?_)))
  all_goals exact ⟨⟨⟨hb, .pointer none, lb, ca, cc, sa, sc, sD, oa, oc, oD⟩, [], none, 0, [], []⟩, ⟨rfl, ⟨rfl, rfl, ⟨hhs, hho⟩, by unfold AtO GT.to; exact ⟨rfl, rfl⟩, EvO.nil⟩⟩, by unfold TR.O; dsimp only; simp only [List.append_assoc, List.cons_append, List.nil_append]; exact (by refine sb_ent ?_; (repeat (first | exact sb_refl | exact sb_nil | refine sb_fr ?_ | refine sb_pu rfl ?_ | refine sb_cons ?_ | refine sb_app ?_)))⟩
theorem sp_tExeZ (hh : h.ok x) (hat : x.at' = none) (hap : h.ap = .pointer none) (hpc : x.th.pc ≤ 1000000) (Q : Own) :
    Spec Tryz.prog W0 32 [ptr h.b, ptr mh.mb, iZ.v] ((h.b, thP c t n p h x) :: (mh.O m ++ (h.sD ++ (h.oD ++ Q)))) fun v own' =>
    ∃ s : TR, (v = .tuple #[stV { (exeG c p t m x iZ).2.2.1 with t := 0 }, .slice s.ea s.el.length s.ec] ∧ s.ok W0 c t h (exeG c p t m x iZ).2.1) ∧ Ent W0 own' (s.O c t n p (exeG c p t m x iZ).2.1 (mh.O (exeG c p t m x iZ).1 ++ Q)) := by
  refine spec_of mixed low_thread_Thread_execute (by simp [ir_thread_Thread_execute]) ?_
  rw [exe_zero]
  obtain ⟨hb, ap, lb, ca, cc, sa, sc, sD, oa, oc, oD⟩ := h
  dsimp only at hap ⊢
  subst hap
  obtain ⟨hhs, hho⟩ := hh
  dsimp only at hhs hho
  dsimp only [Ins.v]
  rw [hat]
  repeat' ((try (conv => whnf)); first | (refine br_te ?_ ?_; exact rfl) | (refine br_fe ?_ ?_; exact rfl) | ((with_reducible show CallT _ _ _ _ _ _); first | ((refine call_bk (sp_tZero (c := c) (t := t) (n := n) (p := p) (h := ⟨hb, .pointer none, lb, ca, cc, sa, sc, sD, oa, oc, oD⟩) (x := x) hpc _) ?_ ?_ ?_ (fun _ v hv => ?_); (exact rfl); (exact rfl); (exact rfl); (subst hv)))) | (apply ld_o; exact rfl) | (apply ldN_a; exact rfl) | (apply stN_o; (exact rfl); (exact rfl); exact rfl) | (refine new_i (fun bk hbk => ?_)))
  all_goals exact ⟨⟨⟨hb, .pointer none, lb, ca, cc, sa, sc, sD, oa, oc, oD⟩, [], none, 0, [], []⟩, ⟨rfl, ⟨rfl, rfl, ⟨hhs, hho⟩, by unfold AtO GT.to; dsimp only; rw [hat]; exact ⟨rfl, rfl⟩, EvO.nil⟩⟩, by unfold TR.O; dsimp only; simp only [List.append_assoc, List.cons_append, List.nil_append]; exact (by refine sb_ent ?_; (repeat (first | exact sb_refl | exact sb_nil | refine sb_fr ?_ | refine sb_pu rfl ?_ | refine sb_cons ?_ | refine sb_app ?_)))⟩
theorem sp_tExeA (hh : h.ok x) (hat : x.at' = some a) (hph : a.ph = .idle) (hap : h.ap = ptr ah.b) (hok : ah.ok c a) (hpc : x.th.pc ≤ 1000000) (hy : 0 ≤ x.th.rg.r2 ∧ x.th.rg.r2 ≤ 1000000) (Q : Own) :
    Spec Tryz.prog W0 32 [ptr h.b, ptr mh.mb, iA.v] ((h.b, thP c t n p h x) :: ah.O c t a 0 3 (mh.O m ++ (h.sD ++ (h.oD ++ Q)))) fun v own' =>
    ∃ s : TR, (v = .tuple #[stV { (exeG c p t m x iA).2.2.1 with t := 0 }, .slice s.ea s.el.length s.ec] ∧ s.ok W0 c t h (exeG c p t m x iA).2.1) ∧ Ent W0 own' (s.O c t n p (exeG c p t m x iA).2.1 (mh.O (exeG c p t m x iA).1 ++ Q)) := by
  refine spec_of mixed low_thread_Thread_execute (by simp [ir_thread_Thread_execute]) ?_
  rw [exe_add]
  obtain ⟨hb, ap, lb, ca, cc, sa, sc, sD, oa, oc, oD⟩ := h
  dsimp only at hap ⊢
  subst hap
  obtain ⟨hhs, hho⟩ := hh
  dsimp only at hhs hho
  dsimp only [Ins.v]
  rw [hat]
  repeat' ((try (conv => whnf)); first | (refine br_fe ?_ ?_; exact rfl) | ((with_reducible show CallT _ _ _ _ _ _); first | ((refine call_bk (sp_tAdd (c := c) (t := t) (n := n) (p := p) (h := ⟨hb, ptr ah.b, lb, ca, cc, sa, sc, sD, oa, oc, oD⟩) (x := x) hpc hy _) ?_ ?_ ?_ (fun _ v hv => ?_); (exact rfl); (exact rfl); (exact rfl); (subst hv)))) | (apply ld_o; exact rfl) | (apply ldN_a; exact rfl) | (apply stN_o; (exact rfl); (exact rfl); exact rfl) | (refine new_i (fun bk hbk => ?_)))
  all_goals exact ⟨⟨⟨hb, ptr ah.b, lb, ca, cc, sa, sc, sD, oa, oc, oD⟩, AH.O ah c t a 0 3 [], none, 0, [], []⟩, ⟨rfl, ⟨rfl, rfl, ⟨hhs, hho⟩, by unfold AtO GT.to; exact ⟨ah, [], rfl, hok, by unfold PhO; rw [hph], by rw [hph]; rfl⟩, EvO.nil⟩⟩, by unfold TR.O; dsimp only; simp only [List.append_assoc, List.cons_append, List.nil_append]; exact (by refine sb_ent ?_; (repeat (first | exact sb_refl | exact sb_nil | refine sb_fr ?_ | refine sb_pu rfl ?_ | refine sb_cons ?_ | refine sb_app ?_)))⟩
theorem sp_tExeB {cD : Own} (hF : FormsAt W0) (hh : h.ok x) (hr : 0 ≤ c.reads ∧ c.reads ≤ 32) (hw : 1 ≤ c.writes ∧ c.writes ≤ 32) (hct : x.ct ≤ 100000) (htr : x.tr ≤ 100000) (hM : mh.ok m.L) (hA : okA c t m a0T) (hl2 : x.obs.length ≤ 100000) (hC : RdE Ins.enc 5 W0 cD h.ca p) (hp : p.length ≤ 100000) (hpc : x.th.pc ≤ 1000000) (hbi : p[x.th.pc]? = some iB) (hck : (checkP p).2 = 0) (hend : endM p x.th.pc ≤ 100000) (Q : Own) [eq : EntC Q cD] :
    Spec Tryz.prog W0 32 [ptr h.b, ptr mh.mb, iB.v] ((h.b, thP c t n p h x) :: (mh.O m ++ (h.sD ++ (h.oD ++ Q)))) fun v own' =>
    ∃ s : TR, (v = .tuple #[stV { (exeG c p t m x iB).2.2.1 with t := 0 }, .slice s.ea s.el.length s.ec] ∧ s.ok W0 c t h (exeG c p t m x iB).2.1) ∧ Ent W0 own' (s.O c t n p (exeG c p t m x iB).2.1 (mh.O (exeG c p t m x iB).1 ++ Q)) := by
  refine spec_of mixed low_thread_Thread_execute (by simp [ir_thread_Thread_execute]) ?_
  rw [exe_begin]
  have hS := fun (X : GT) (hct : X.ct ≤ 1000000) Q => sp_tStart (W0 := W0) (c := c) (t := t) (n := n) (p := p) (h := h) (x := X) hr hw hct Q
  have hV := fun (h : TH) (hh : h.ok { x with bg := x.th.pc, sv := x.th.rg, tr := x.tr + 1, seen := [], ct := x.ct + 1 }) (ah : AH) (hap : h.ap = ptr ah.b) (hok : ah.ok c a0T) (hC : RdE Ins.enc 5 W0 cD h.ca p) (Q : Own) (eq : EntC Q cD) =>
    sp_tAdv (t := t) (n := n) (x := { x with bg := x.th.pc, sv := x.th.rg, tr := x.tr + 1, seen := [], ct := x.ct + 1 }) (E := []) (i := iB) (bi := iB) hF hh hap hok hM rfl hA (Nat.zero_le _) hl2 hC hp hpc hbi (.inr ⟨by decide, by decide⟩) hbi rfl hck hend (fun h => by cases h) Q
  obtain ⟨hb, ap, lb, ca, cc, sa, sc, sD, oa, oc, oD⟩ := h
  obtain ⟨hhs, hho⟩ := hh
  dsimp only at hhs hho hC ⊢
  dsimp only [Ins.v]
  generalize advG c p t m { x with bg := x.th.pc, sv := x.th.rg, tr := x.tr + 1, seen := [], ct := x.ct + 1 } a0T iB = z at hV ⊢
  have hS0 := fun Q => hS { x with bg := x.th.pc, sv := x.th.rg, tr := x.tr + 1 } (by dsimp only; omega) Q
  repeat' ((try (conv => whnf)); first | (refine br_te ?_ ?_; exact rfl) | ((with_reducible show CallT _ _ _ _ _ _); first | ((refine call_bk (hS0 _) ?_ ?_ ?_ (fun ah v hv => ?_); (exact rfl); (exact rfl); (exact rfl); (obtain ⟨rfl, hao⟩ := hv; have hV0 := hV ⟨hb, ptr ah.b, lb, ca, cc, none, 0, [], oa, oc, oD⟩ ⟨BufE.nil, hho⟩ ah rfl hao hC))) | ((refine call_sC (F := cD) (b := hb) (D := AH.O ah c t a0T 2 0 (mh.O m ++ (oD ++ []))) hV0 (fun Q => by simp only [List.nil_append]; exact (by refine sb_ent ?_; (repeat (first | exact sb_refl | exact sb_nil | refine sb_fr ?_ | refine sb_pu rfl ?_ | refine sb_cons ?_ | refine sb_app ?_)))) ?_ ?_ ?_ (fun s v hv => ?_); (exact rfl); (exact rfl); (exact rfl); (obtain ⟨rfl, hs⟩ := hv)))) | (refine ari ?_ ?_; omega) | (apply sel; exact rfl) | (apply ld_o; exact rfl) | (apply ldN_a; exact rfl) | (apply ldN_o; (exact rfl); exact rfl) | (apply st_o; (exact rfl); exact rfl) | (apply stN_o; (exact rfl); (exact rfl); exact rfl) | (refine new_i (fun bk hbk => ?_)))
  all_goals exact ⟨s, ⟨rfl, ⟨hs.b, hs.ca, hs.ok, hs.at', hs.ev⟩⟩, (by refine sb_ent ?_; (repeat (first | exact sb_refl | exact sb_nil | refine sb_fr ?_ | refine sb_pu rfl ?_ | refine sb_cons ?_ | refine sb_app ?_)))⟩
theorem sp_tExeQ {i : Ins} {cD : Own} (hF : FormsAt W0) (hh : h.ok x) (hat : x.at' = some a) (hap : h.ap = ptr ah.b) (hok : ah.ok c a) (hst : a.st = 1) (hcw : 0 ≤ c.words ∧ c.words ≤ 1099511627776) (hii : i = iR ∨ i = iW ∨ i = iE) (hM : mh.ok m.L) (hA : okA c t m (reqA c x.th.rg a i)) (hl : x.seen.length ≤ 100000) (hl2 : x.obs.length ≤ 100000) (hC : RdE Ins.enc 5 W0 cD h.ca p) (hp : p.length ≤ 100000) (hpc : x.th.pc ≤ 1000000) (hi : p[x.th.pc]? = some i)
    (hbi : p[x.bg]? = some iB) (hck : (checkP p).2 = 0) (hend : endM p x.bg ≤ 100000) (hcode : (stepA c t m (reqA c x.th.rg a i)).2.1.st = 2 → (stepA c t m (reqA c x.th.rg a i)).2.1.code = 1 ∨ (stepA c t m (reqA c x.th.rg a i)).2.1.code = 9) (Q : Own) [eq : EntC Q cD] :
    Spec Tryz.prog W0 32 [ptr h.b, ptr mh.mb, i.v] ((h.b, thP c t n p h x) :: ah.O c t a 0 3 (mh.O m ++ (h.sD ++ (h.oD ++ Q)))) fun v own' =>
    ∃ s : TR, (v = .tuple #[stV { (exeG c p t m x i).2.2.1 with t := 0 }, .slice s.ea s.el.length s.ec] ∧ s.ok W0 c t h (exeG c p t m x i).2.1) ∧ Ent W0 own' (s.O c t n p (exeG c p t m x i).2.1 (mh.O (exeG c p t m x i).1 ++ Q)) := by
  refine spec_of mixed low_thread_Thread_execute (by simp [ir_thread_Thread_execute]) ?_
  rw [exe_req hii hat]
  have hV := fun (y : AH) (E : Own) (hap : h.ap = ptr y.b) (hok : y.ok c (reqA c x.th.rg a i)) (hP : PhO W0 c t y (reqA c x.th.rg a i) E) (Q : Own) (eq : EntC Q cD) =>
    sp_tAdv (t := t) (n := n) (i := i) (bi := iB) hF hh hap hok hM hP hA hl hl2 hC hp hpc hi (by rcases hii with rfl | rfl | rfl <;> first | exact .inl rfl | exact .inr ⟨by decide, by decide⟩) hbi rfl hck hend hcode Q
  simp only [req_en hii] at hV
  have hQ := fun Q => sp_tReq (W0 := W0) (c := c) (t := t) (n := n) (p := p) (x := x) hap hok hst hcw hii Q
  have hop : i.op = 10 ∨ i.op = 11 ∨ i.op = 8 := by rcases hii with rfl | rfl | rfl <;> simp
  generalize advG c p t m x (reqA c x.th.rg a i) i = z at hV ⊢
  generalize reqA c x.th.rg a i = a' at *
  obtain ⟨hb, ap, lb, ca, cc, sa, sc, sD, oa, oc, oD⟩ := h
  dsimp only at hap hC hV hQ ⊢
  subst hap
  clear hi hii
  obtain ⟨op, ja, jb, jc, jm⟩ := i
  dsimp only [Ins.v] at hop hQ hV ⊢
  rcases hop with rfl | rfl | rfl
  all_goals
    repeat' ((try (conv => whnf)); first | (refine br_te ?_ ?_; exact rfl) | (refine br_fe ?_ ?_; exact rfl) | ((with_reducible show CallT _ _ _ _ _ _); first | ((refine call_sB (b := hb) (D := AH.O ah c t a 0 3 []) hQ (fun Q => (by refine sb_ent ?_; (repeat (first | exact sb_refl | exact sb_nil | refine sb_fr ?_ | refine sb_pu rfl ?_ | refine sb_cons ?_ | refine sb_app ?_)))) ?_ ?_ ?_ (fun y v hv => ?_); (exact rfl); (exact rfl); (exact rfl); (obtain ⟨ah1, E1⟩ := y; obtain ⟨rfl, hyb, hyo, hyp⟩ := hv; dsimp only at hyb hyo hyp; have hV0 := hV ah1 E1 (by rw [hyb]) hyo hyp))) | ((refine call_sC (F := cD) (b := hb) (D := AH.O ah1 c t a' a'.ph.no 3 (E1 ++ (mh.O m ++ (sD ++ (oD ++ []))))) hV0 (fun Q => (by refine sb_ent ?_; (repeat (first | exact sb_refl | exact sb_nil | refine sb_fr ?_ | refine sb_pu rfl ?_ | refine sb_cons ?_ | refine sb_app ?_)))) ?_ ?_ ?_ (fun s v hv => ?_); (exact rfl); (exact rfl); (exact rfl); (obtain ⟨rfl, hs⟩ := hv)))) | (apply sel; exact rfl) | (apply ld_o; exact rfl) | (apply ldN_a; exact rfl) | (apply stN_o; (exact rfl); (exact rfl); exact rfl) | (refine new_i (fun bk hbk => ?_)))
  all_goals exact ⟨s, ⟨rfl, hs⟩, (by refine sb_ent ?_; (repeat (first | exact sb_refl | exact sb_nil | refine sb_fr ?_ | refine sb_pu rfl ?_ | refine sb_cons ?_ | refine sb_app ?_)))⟩
end
end Go.Proofs.YtllddgdmmfmpkaaGreatDoor
namespace Go.Proofs.YtllddgdmmfmpkaaGreatDoor
open Go
set_option maxRecDepth 10000
set_option maxHeartbeats 8000000
structure GoC (c : Cfg) (p : List Ins) : Prop where
  hr : 0 ≤ c.reads ∧ c.reads ≤ 32
  hw : 1 ≤ c.writes ∧ c.writes ≤ 32
  hcw : 0 ≤ c.words ∧ c.words ≤ 1099511627776
  hp : p.length ≤ 100000
  hck : (checkP p).2 = 0
  hend : ∀ b, p[b]? = some iB → endM p b ≤ 100000
def codA (c : Cfg) (t : Int) (m : MS) (a : AT) : Prop := (stepA c t m a).2.1.st = 2 → (stepA c t m a).2.1.code = 1 ∨ (stepA c t m a).2.1.code = 9
structure GoT (c : Cfg) (p : List Ins) (t : Nat) (m : MS) (x : GT) (i : Ins) : Prop where
  hi : p[x.th.pc]? = some i
  hpc : x.th.pc ≤ 1000000
  dn : x.th.dn = false
  hl : x.seen.length ≤ 100000
  hl2 : x.obs.length ≤ 100000
  ct : x.ct ≤ 100000
  tr : x.tr ≤ 100000
  at' : match x.at' with
    | none => i = iC ∨ i = iZ ∨ (i = iB ∧ okA c t m a0T)
    | some a => p[x.bg]? = some iB ∧ ((a.busy = true ∧ okA c t m a ∧ codA c t m a ∧ (i = iR ∨ (i.op ≠ 10 ∧ i.op ≠ 14))) ∨
      (a.ph = .idle ∧ a.st = 1 ∧ ((i = iA ∧ 0 ≤ x.th.rg.r2 ∧ x.th.rg.r2 ≤ 1000000) ∨ ((i = iR ∨ i = iW ∨ i = iE) ∧ okA c t m (reqA c x.th.rg a i) ∧ codA c t m (reqA c x.th.rg a i)))))
theorem GT.dn_eq {x : GT} (e : x.th.dn = false) : ∃ x' : GT, x = { x' with th := { x'.th with dn := false } } := ⟨x, by obtain ⟨⟨_, _, _, _⟩, _, _, _, _, _, _, _, _⟩ := x; cases e; rfl⟩
section
variable {W0 : World} {own Q E A : Own} {c : Cfg} {t n : Nat} {p : List Ins} {h : TH} {x : GT} {k : Int} {b e : Nat} {a : AT} {ah : AH} {mh : MH} {m : MS} {i : Ins}
theorem advG_t : (advG c p t m x a i).2.2.1.t = t := rfl
theorem exeG_t : (exeG c p t m x i).2.2.1.t = t := by
  unfold exeG
  split
  · rfl
  · split
    · split <;> rfl
    · rfl
theorem sp_tStep {cD : Own} (hF : FormsAt W0) (hG : GoC c p) (hT : GoT c p t m x i) (hh : h.ok x) (hat : AtO W0 c t h x A) (hM : mh.ok m.L) (hC : RdE Ins.enc 5 W0 cD h.ca p) (Q : Own) [eq : EntC Q cD] :
    Spec Tryz.prog W0 14 [ptr h.b, ptr mh.mb] ((h.b, thP c t n p h x) :: (A ++ (mh.O m ++ (h.sD ++ (h.oD ++ Q))))) fun v own' =>
    ∃ s : TR, (v = .tuple #[stV (stepG c p t m x).2.2.1, .slice s.ea s.el.length s.ec, .bool true] ∧ s.ok W0 c t h (stepG c p t m x).2.1) ∧ Ent W0 own' (s.O c t n p (stepG c p t m x).2.1 (mh.O (stepG c p t m x).1 ++ Q)) := by
  refine spec_of mixed low_thread_Thread_Step (by simp [ir_thread_Thread_Step]) ?_
  obtain ⟨hi, hpc, hdn, hl, hl2, hct, htr, hgo⟩ := hT
  unfold stepG
  rw [hi]
  dsimp only
  unfold AtO at hat
  cases hx : x.at' with
  | none =>
    rw [hx] at hgo hat
    obtain ⟨hap, rfl⟩ := hat
    dsimp only at hgo ⊢
    have hV : ∀ (Q : Own), EntC Q cD → Spec Tryz.prog W0 32 [ptr h.b, ptr mh.mb, i.v] ((h.b, thP c t n p h x) :: (mh.O m ++ (h.sD ++ (h.oD ++ Q)))) fun v own' =>
        ∃ s : TR, (v = .tuple #[stV { (exeG c p t m x i).2.2.1 with t := 0 }, .slice s.ea s.el.length s.ec] ∧ s.ok W0 c t h (exeG c p t m x i).2.1) ∧ Ent W0 own' (s.O c t n p (exeG c p t m x i).2.1 (mh.O (exeG c p t m x i).1 ++ Q)) := by
      intro Q _
      rcases hgo with rfl | rfl | ⟨rfl, hA⟩
      · exact sp_tExeC hh hx hap hpc Q
      · exact sp_tExeZ hh hx hap hpc Q
      · exact sp_tExeB hF hh hG.hr hG.hw hct htr hM hA hl2 hC hG.hp hpc hi hG.hck (hG.hend _ hi) Q
    have het := exeG_t (c := c) (p := p) (t := t) (m := m) (x := x) (i := i)
    generalize exeG c p t m x i = z at hV het ⊢
    obtain ⟨m', x', ⟨st, sph, sat, sac⟩, ev⟩ := z
    dsimp only at het hV ⊢
    subst het
    obtain ⟨x0, rfl⟩ := GT.dn_eq hdn
    obtain ⟨hb', ap, lb, ca, cc, sa, sc, sD, oa, oc, oD⟩ := h
    dsimp only at hap hC hV ⊢
    subst hap
    repeat' ((try (conv => whnf)); first | (refine when_ye ?_ ?_; exact rfl) | (refine when_ne ?_ ?_; exact rfl) | (refine br_fe ?_ ?_; exact rfl) | ((with_reducible show IxS _ _ _ _ _); first | ((refine ixE hC hi ?_ ?_; (first | rfl | omega)))) | ((with_reducible show LdN _ _ _ _ _); first | (refine ldNEi hC hi rfl ?_)) | ((with_reducible show CallT _ _ _ _ _ _); first | ((refine call_sC (F := cD) (b := hb') (D := mh.O m ++ (sD ++ (oD ++ []))) hV (fun Q => (by refine sb_ent ?_; (repeat (first | exact sb_refl | exact sb_nil | refine sb_fr ?_ | refine sb_pu rfl ?_ | refine sb_cons ?_ | refine sb_app ?_)))) ?_ ?_ ?_ (fun s v hv => ?_); (exact rfl); (exact rfl); (exact rfl); (obtain ⟨⟨hb1, ap1, lb1, ca1, cc1, sa1, sc1, sD1, oa1, oc1, oD1⟩, A1, ea1, ec1, el1, eD1⟩ := s; obtain ⟨rfl, hs⟩ := hv; have hbb : hb' = hb1 := hs.b.symm; subst hbb)))) | (apply sel; exact rfl) | (apply ld_o; exact rfl) | (apply ldN_a; exact rfl) | (apply st_o; (exact rfl); exact rfl) | (apply stN_o; (exact rfl); (exact rfl); exact rfl) | (refine new_i (fun bk hbk => ?_)))
    all_goals exact ⟨⟨⟨hb', ap1, lb1, ca1, cc1, sa1, sc1, sD1, oa1, oc1, oD1⟩, A1, ea1, ec1, el1, eD1⟩, ⟨rfl, hs⟩, (by refine sb_ent ?_; (repeat (first | exact sb_refl | exact sb_nil | refine sb_fr ?_ | refine sb_pu rfl ?_ | refine sb_cons ?_ | refine sb_app ?_)))⟩
  | some a =>
    rw [hx] at hgo hat
    obtain ⟨ah, E, hap, hok, hP, rfl⟩ := hat
    dsimp only at hgo ⊢
    obtain ⟨hbi, hgo⟩ := hgo
    have hbz := fun (own' : Own) (m1 : MemC ah.b (atP c t ah a a.ph.no) own') => sp_abusy (W0 := W0) (own := own') (a := a) (ah := ah) (cl_of m1 rfl)
    rcases hgo with ⟨hb, hA, hcd, hii⟩ | ⟨hph, hst, hgo⟩
    · rw [if_pos hb]
      rw [hb] at hbz
      have hV := fun (Q : Own) (eq : EntC Q cD) => sp_tAdv (t := t) (n := n) (i := i) (bi := iB) hF hh hap hok hM hP hA hl hl2 hC hG.hp hpc hi hii hbi rfl hG.hck (hG.hend _ hbi) hcd Q
      have het := advG_t (c := c) (p := p) (t := t) (m := m) (x := x) (a := a) (i := i)
      generalize advG c p t m x a i = z at hV het ⊢
      obtain ⟨m', x', ⟨st, sph, sat, sac⟩, ev⟩ := z
      dsimp only at het hV ⊢
      subst het
      obtain ⟨x0, rfl⟩ := GT.dn_eq hdn
      obtain ⟨hb', ap, lb, ca, cc, sa, sc, sD, oa, oc, oD⟩ := h
      dsimp only at hap hC hV ⊢
      subst hap
      simp only [List.append_assoc, List.cons_append]
      repeat' ((try (conv => whnf)); first | (refine when_ye ?_ ?_; exact rfl) | (refine br_te ?_ ?_; exact rfl) | (refine br_fe ?_ ?_; exact rfl) | ((with_reducible show IxS _ _ _ _ _); first | ((refine ixE hC hi ?_ ?_; (first | rfl | omega)))) | ((with_reducible show LdN _ _ _ _ _); first | (refine ldNEi hC hi rfl ?_)) | ((with_reducible show CallT _ _ _ _ _ _); first | ((refine call_pe (hbz _ inferInstance) ?_ ?_ ?_; (exact rfl); exact rfl)) | ((refine call_sC (F := cD) (b := hb') (D := AH.O ah c t a a.ph.no a.ph.en (E ++ (mh.O m ++ (sD ++ (oD ++ []))))) hV (fun Q => (by refine sb_ent ?_; (repeat (first | exact sb_refl | exact sb_nil | refine sb_fr ?_ | refine sb_pu rfl ?_ | refine sb_cons ?_ | refine sb_app ?_)))) ?_ ?_ ?_ (fun s v hv => ?_); (exact rfl); (exact rfl); (exact rfl); (obtain ⟨⟨hb1, ap1, lb1, ca1, cc1, sa1, sc1, sD1, oa1, oc1, oD1⟩, A1, ea1, ec1, el1, eD1⟩ := s; obtain ⟨rfl, hs⟩ := hv; have hbb : hb' = hb1 := hs.b.symm; subst hbb)))) | (apply sel; exact rfl) | (apply ld_o; exact rfl) | (apply ldN_a; exact rfl) | (apply st_o; (exact rfl); exact rfl) | (apply stN_o; (exact rfl); (exact rfl); exact rfl) | (refine new_i (fun bk hbk => ?_)))
      all_goals exact ⟨⟨⟨hb', ap1, lb1, ca1, cc1, sa1, sc1, sD1, oa1, oc1, oD1⟩, A1, ea1, ec1, el1, eD1⟩, ⟨rfl, hs⟩, (by refine sb_ent ?_; (repeat (first | exact sb_refl | exact sb_nil | refine sb_fr ?_ | refine sb_pu rfl ?_ | refine sb_cons ?_ | refine sb_app ?_)))⟩
    · have hb : a.busy = false := by unfold AT.busy; rw [hph]
      have hE : E = [] := by unfold PhO at hP; rw [hph] at hP; exact hP
      subst hE
      rw [hb] at hbz
      rw [if_neg (by rw [hb]; decide)]
      rw [show a.ph.no = 0 by rw [hph]; rfl] at hbz ⊢
      rw [show a.ph.en = 3 by rw [hph]; rfl]
      have hV : ∀ (Q : Own), EntC Q cD → Spec Tryz.prog W0 32 [ptr h.b, ptr mh.mb, i.v] ((h.b, thP c t n p h x) :: ah.O c t a 0 3 (mh.O m ++ (h.sD ++ (h.oD ++ Q)))) fun v own' =>
          ∃ s : TR, (v = .tuple #[stV { (exeG c p t m x i).2.2.1 with t := 0 }, .slice s.ea s.el.length s.ec] ∧ s.ok W0 c t h (exeG c p t m x i).2.1) ∧ Ent W0 own' (s.O c t n p (exeG c p t m x i).2.1 (mh.O (exeG c p t m x i).1 ++ Q)) := by
        intro Q _
        rcases hgo with ⟨rfl, hy⟩ | ⟨hii, hA, hcd⟩
        · exact sp_tExeA hh hx hph hap hok hpc hy Q
        · exact sp_tExeQ hF hh hx hap hok hst hG.hcw hii hM hA hl hl2 hC hG.hp hpc hi hbi hG.hck (hG.hend _ hbi) hcd Q
      have het := exeG_t (c := c) (p := p) (t := t) (m := m) (x := x) (i := i)
      generalize exeG c p t m x i = z at hV het ⊢
      obtain ⟨m', x', ⟨st, sph, sat, sac⟩, ev⟩ := z
      dsimp only at het hV ⊢
      subst het
      obtain ⟨x0, rfl⟩ := GT.dn_eq hdn
      obtain ⟨hb', ap, lb, ca, cc, sa, sc, sD, oa, oc, oD⟩ := h
      dsimp only at hap hC hV ⊢
      subst hap
      simp only [List.append_assoc, List.cons_append, List.nil_append]
      repeat' ((try (conv => whnf)); first | (refine when_ye ?_ ?_; exact rfl) | (refine br_fe ?_ ?_; exact rfl) | ((with_reducible show IxS _ _ _ _ _); first | ((refine ixE hC hi ?_ ?_; (first | rfl | omega)))) | ((with_reducible show LdN _ _ _ _ _); first | (refine ldNEi hC hi rfl ?_)) | ((with_reducible show CallT _ _ _ _ _ _); first | ((refine call_pe (hbz _ inferInstance) ?_ ?_ ?_; (exact rfl); exact rfl)) | ((refine call_sC (F := cD) (b := hb') (D := AH.O ah c t a 0 3 (mh.O m ++ (sD ++ (oD ++ [])))) hV (fun Q => (by refine sb_ent ?_; (repeat (first | exact sb_refl | exact sb_nil | refine sb_fr ?_ | refine sb_pu rfl ?_ | refine sb_cons ?_ | refine sb_app ?_)))) ?_ ?_ ?_ (fun s v hv => ?_); (exact rfl); (exact rfl); (exact rfl); (obtain ⟨⟨hb1, ap1, lb1, ca1, cc1, sa1, sc1, sD1, oa1, oc1, oD1⟩, A1, ea1, ec1, el1, eD1⟩ := s; obtain ⟨rfl, hs⟩ := hv; have hbb : hb' = hb1 := hs.b.symm; subst hbb)))) | (apply sel; exact rfl) | (apply ld_o; exact rfl) | (apply ldN_a; exact rfl) | (apply st_o; (exact rfl); exact rfl) | (apply stN_o; (exact rfl); (exact rfl); exact rfl) | (refine new_i (fun bk hbk => ?_)))
      all_goals exact ⟨⟨⟨hb', ap1, lb1, ca1, cc1, sa1, sc1, sD1, oa1, oc1, oD1⟩, A1, ea1, ec1, el1, eD1⟩, ⟨rfl, hs⟩, (by refine sb_ent ?_; (repeat (first | exact sb_refl | exact sb_nil | refine sb_fr ?_ | refine sb_pu rfl ?_ | refine sb_cons ?_ | refine sb_app ?_)))⟩
end
end Go.Proofs.YtllddgdmmfmpkaaGreatDoor
