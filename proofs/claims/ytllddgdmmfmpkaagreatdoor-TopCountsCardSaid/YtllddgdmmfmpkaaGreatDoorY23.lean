/- What the laws share, part 23. No condition. -/
import Derived.Test.YtllddgdmmfmpkaaGreatDoorY22
namespace Go.Proofs.YtllddgdmmfmpkaaGreatDoor
open Go
set_option maxRecDepth 10000
set_option maxHeartbeats 8000000
section
variable {W0 : World} {own Q E : Own} {c : Cfg} {t : Nat} {h : AH} {x : AT} {k w : Int} {b e : Nat} {mh : MH} {m : MS}
theorem sto_iff2 : x.sto = true ↔ (x.code = 1 ∧ x.ad.length ≠ 0) := by
  unfold AT.sto
  rw [decide_eq_true_iff]
  exact ⟨fun h => ⟨h.1, fun e => h.2 (List.length_eq_zero_iff.1 e)⟩, fun h => ⟨h.1, fun e => h.2 (by rw [e]; rfl)⟩⟩
theorem sp_sDc {E1 E2 : Own} (hh : h.ok c x) (hM : mh.ok m.L) (hE : TnO h true x.tk true E1) (hE2 : LkQ t h x E2) (hcl : 0 ≤ c.clock ∧ c.clock ≤ 1099511627776) (Q : Own) : Spec Tryz.prog W0 77 [ptr h.b, ptr mh.mb] (h.O c t x 8 3 ((E1 ++ E2) ++ (mh.O m ++ Q)))
    (AtQ W0 c t h.b (if x.sto = true ∧ m.ck ≥ c.clock then { x with ck := m.ck, code := 6 }.rest else if x.sto = true then { x with ck := m.ck, dn := true, ph := .wr x.ad x.vl } else { x with ck := m.ck, dn := true }.rest) 3 (mh.O m ++ Q) (.tuple #[(acL 3 0 m.ck).v, .int .i64 16])) := by
  unfold AtQ
  refine spec_of mixed low_attempt_Attempt_stepDecide (by simp [ir_attempt_Attempt_stepDecide]) ?_
  have hs1 := fun (own' : Own) (m1 : MemC h.b (atP c t h { x with ck := m.ck } 8) own') (m2 : MemC h.g.b (lgP c.writes h.g.aa x.ad.length h.g.ca h.g.va x.vl.length h.g.cv h.g.ib h.g.P) own') => sp_stores (W0 := W0) (cl_of m1 rfl) (cl_of m1 rfl) (cl_of m2 rfl)
  have hs2 := fun (own' : Own) (m1 : MemC h.b (atP c t h { x with ck := m.ck, dn := true } 8) own') (m2 : MemC h.g.b (lgP c.writes h.g.aa x.ad.length h.g.ca h.g.va x.vl.length h.g.cv h.g.ib h.g.P) own') => sp_stores (W0 := W0) (cl_of m1 rfl) (cl_of m1 rfl) (cl_of m2 rfl)
  have hrs := fun (cd : Int) (dn : Bool) Q => sp_arest (W0 := W0) (t := t) (k := 8) (c := c) (x := { x with ck := m.ck, code := cd, dn := dn }) (h := h) (E1 := E1) (E2 := E2) ⟨hh.1, hh.2, hh.3, hh.4, hh.5, hh.6, hh.7, hh.8, hh.9⟩ hE (by refine LkQ.of ?_ ?_ ?_ hE2 <;> rfl) Q
  by_cases hs : x.sto = true
  · have hd : decide (x.code = 1 ∧ x.ad.length ≠ 0) = true := decide_eq_true (sto_iff2.1 hs)
    simp only [hd] at hs1 hs2
    by_cases hg : m.ck ≥ c.clock
    · simp only [if_pos (And.intro hs hg)]
      have hg2 : (acL (((2 : Nat) : Int) + 1) ((0 : Nat) : Int) m.ck).got ≥ c.clock := hg
      repeat' ((try (conv => whnf)); first | (refine when_ye ?_ ?_; exact rfl) | (apply br_pyE; (exact rfl); omega) | ((with_reducible show CallT _ _ _ _ _ _); first | ((refine call_ld 2 0 hM (by decide) rfl ?_ ?_ ?_; (exact rfl); (exact rfl))) | ((refine call_sB (b := h.b) (D := AH.R h c t x 3 (E1 ++ (E2 ++ []))) (hrs 6 x.dn) (fun Q => by simp only [List.append_assoc]; exact (by refine sb_ent ?_; (repeat (first | exact sb_refl | exact sb_nil | refine sb_fr ?_ | refine sb_pu rfl ?_ | refine sb_cons ?_ | refine sb_app ?_)))) ?_ ?_ ?_ (fun s v hv => ?_); (exact rfl); (exact rfl); (exact rfl); (obtain ⟨rfl, hs⟩ := hv)))) | ((with_reducible show CallQ _ _ _ _ _ _); first | ((refine call_qi (fun ex => hs1 _ inferInstance inferInstance) ?_ ?_ ?_; (exact rfl); (exact rfl)))) | (refine aru ?_ ?_; omega) | (apply sel; exact rfl) | (apply ld_o; exact rfl) | (apply ldN_a; exact rfl) | (apply st_o; (exact rfl); exact rfl) | (apply stN_o; (exact rfl); (exact rfl); exact rfl) | (refine new_i (fun bk hbk => ?_)))
      all_goals exact ⟨s, ⟨rfl, hs⟩, (by refine sb_ent ?_; (repeat (first | exact sb_refl | exact sb_nil | refine sb_fr ?_ | refine sb_pu rfl ?_ | refine sb_cons ?_ | refine sb_app ?_)))⟩
    · simp only [if_neg (fun e : x.sto = true ∧ m.ck ≥ c.clock => hg e.2), if_pos hs]
      have hg2 : ¬ (acL (((2 : Nat) : Int) + 1) ((0 : Nat) : Int) m.ck).got ≥ c.clock := hg
      have hml : x.ad.length ≤ 1000000 := by
        have h1 := hh.hg.hm
        have h2 := hh.wr
        omega
      have hvl := hh.hg.hl
      have hAd := fun (own' : Own) (m2 : MemC h.g.b (lgP c.writes h.g.aa x.ad.length h.g.ca h.g.va x.vl.length h.g.cv h.g.ib h.g.P) own') (m3 : EntC own' h.g.aD) => sp_lgAddrs (W0 := W0) (own := own') (cl_of m2 rfl) ((hh.hg.hA.rd (W0 := W0)).up) hml
      have hVl := fun (own' : Own) (m2 : MemC h.g.b (lgP c.writes h.g.aa x.ad.length h.g.ca h.g.va x.vl.length h.g.cv h.g.ib h.g.P) own') (m3 : EntC own' h.g.vD) => sp_lgVals (W0 := W0) (own := own') (cl_of m2 rfl) ((hh.hg.hV.rd (W0 := W0)).up) (by omega)
      have hnw := fun (a a2 : Option Addr) (cc cc2 : Nat) (D D2 : Own) (hB : BufE encI 3 1 a cc x.ad D) (hB2 : BufE encU 33 1 a2 cc2 x.vl D2) (own' : Own) (m : EntC own' D) (m3 : EntC own' D2) => sp_newWrite (W0 := W0) (own := own') (c := cc) (c2 := cc2) ((hB.rd (W0 := W0)).up) ((hB2.rd (W0 := W0)).up) hml hvl hB.le hB2.le
      repeat' ((try (conv => whnf)); first | (refine when_ye ?_ ?_; exact rfl) | (refine br_te ?_ ?_; exact rfl) | (apply br_pnE; (exact rfl); omega) | ((with_reducible show CallT _ _ _ _ _ _); first | ((refine call_pe (hs2 _ inferInstance inferInstance) ?_ ?_ ?_; (exact rfl); exact rfl)) | ((refine call_ld 2 0 hM (by decide) rfl ?_ ?_ ?_; (exact rfl); (exact rfl))) | ((refine call_x (hAd _ inferInstance inferInstance) ?_ ?_ (fun y v hv => ?_); (exact rfl); (exact rfl); (obtain ⟨a1, c1, D1⟩ := y; obtain ⟨rfl, hB1⟩ := hv; dsimp only at hB1; try have hnz := hnw _ _ _ _ _ _ hB1 hB2))) | ((refine call_x (hVl _ inferInstance inferInstance) ?_ ?_ (fun y v hv => ?_); (exact rfl); (exact rfl); (obtain ⟨a2, c2, D2⟩ := y; obtain ⟨rfl, hB2⟩ := hv; dsimp only at hB2; try have hnz := hnw _ _ _ _ _ _ hB1 hB2))) | ((refine call_x (hnz _ inferInstance inferInstance) ?_ ?_ (fun y v hv => ?_); (exact rfl); (exact rfl); (obtain ⟨wb, ⟨a4, c4, D4⟩, ⟨a5, c5, D5⟩⟩ := y; obtain ⟨rfl, hB4, hB5⟩ := hv; dsimp only at hB4 hB5)))) | ((with_reducible show CallQ _ _ _ _ _ _); first | ((refine call_qi (fun ex => hs1 _ inferInstance inferInstance) ?_ ?_ ?_; (exact rfl); (exact rfl)))) | (refine aru ?_ ?_; omega) | (apply sel; exact rfl) | (apply ld_o; exact rfl) | (apply ldN_a; exact rfl) | (apply st_o; (exact rfl); exact rfl) | (apply stN_o; (exact rfl); (exact rfl); exact rfl) | (refine new_i (fun bk hbk => ?_)) | (refine Both.mk ?_ ?_))
      all_goals exact ⟨({ h with wr := ptr wb }, (wb, wrP a4 x.ad.length c4 a5 x.vl.length c5) :: (D4 ++ (D5 ++ E1))), ⟨rfl, rfl, ⟨hh.1, hh.2, hh.3, hh.4, hh.5, hh.6, hh.7, hh.8, hh.9⟩, ⟨E1, wb, a4, c4, D4, a5, c5, D5, by refine TnO.of ?_ hE; rfl, rfl, ⟨hB4.rd, hB4.le⟩, ⟨hB5.rd, hB5.le⟩, rfl⟩⟩, by show Ent W0 _ (AH.O _ c t _ 9 3 _); simp only [List.append_assoc, List.cons_append]; exact (by refine sb_ent ?_; (repeat (first | exact sb_refl | exact sb_nil | refine sb_fr ?_ | refine sb_pu rfl ?_ | refine sb_cons ?_ | refine sb_app ?_)))⟩
  · simp only [if_neg (fun e : x.sto = true ∧ m.ck ≥ c.clock => hs e.1), if_neg hs]
    have hd : decide (x.code = 1 ∧ x.ad.length ≠ 0) = false := decide_eq_false fun e => hs (sto_iff2.2 e)
    simp only [hd] at hs1 hs2
    repeat' ((try (conv => whnf)); first | (refine when_ne ?_ ?_; exact rfl) | (refine br_fe ?_ ?_; exact rfl) | ((with_reducible show CallT _ _ _ _ _ _); first | ((refine call_pe (hs2 _ inferInstance inferInstance) ?_ ?_ ?_; (exact rfl); exact rfl)) | ((refine call_ld 2 0 hM (by decide) rfl ?_ ?_ ?_; (exact rfl); (exact rfl))) | ((refine call_sB (b := h.b) (D := AH.R h c t x 3 (E1 ++ (E2 ++ []))) (hrs x.code true) (fun Q => by simp only [List.append_assoc]; exact (by refine sb_ent ?_; (repeat (first | exact sb_refl | exact sb_nil | refine sb_fr ?_ | refine sb_pu rfl ?_ | refine sb_cons ?_ | refine sb_app ?_)))) ?_ ?_ ?_ (fun s v hv => ?_); (exact rfl); (exact rfl); (exact rfl); (obtain ⟨rfl, hs⟩ := hv)))) | ((with_reducible show CallQ _ _ _ _ _ _); first | ((refine call_qi (fun ex => hs1 _ inferInstance inferInstance) ?_ ?_ ?_; (exact rfl); (exact rfl)))) | (apply sel; exact rfl) | (apply ld_o; exact rfl) | (apply ldN_a; exact rfl) | (apply st_o; (exact rfl); exact rfl) | (apply stN_o; (exact rfl); (exact rfl); exact rfl) | (refine new_i (fun bk hbk => ?_)))
    all_goals exact ⟨s, ⟨rfl, hs⟩, (by refine sb_ent ?_; (repeat (first | exact sb_refl | exact sb_nil | refine sb_fr ?_ | refine sb_pu rfl ?_ | refine sb_cons ?_ | refine sb_app ?_)))⟩
end
end Go.Proofs.YtllddgdmmfmpkaaGreatDoor
namespace Go.Proofs.YtllddgdmmfmpkaaGreatDoor
open Go
set_option maxRecDepth 10000
set_option maxHeartbeats 8000000
theorem AH.wr_eq {h : AH} {v u : Value} (e : h.wr = v) (e2 : h.tn = u) : ∃ h' : AH, h = { h' with wr := v, tn := u } := ⟨h, by cases h; cases e; cases e2; rfl⟩
section
variable {W0 : World} {own Q E : Own} {c : Cfg} {t : Nat} {h : AH} {x : AT} {k w : Int} {b e : Nat} {mh : MH} {m : MS}
theorem sp_sWr0 {E1 : Own} {wb wc vc o : Nat} {wa va : Option Addr} {wD vD : Own} {l l2 : List Int} {v : Int} (hh : h.ok c x) (hM : mh.ok m.L) (hE : TnO h true x.tk true E1) (hwr : h.wr = ptr wb) (hL : RdE encI 1 W0 wD wa ((o : Int) :: l)) (hL2 : RdE encU 1 W0 vD va (v :: l2)) (hc1 : l.length + 1 ≤ wc) (hc2 : l2.length + 1 ≤ vc)
    (hj : m.d[o]? = some w) (hl : l ≠ []) (Q : Own) : Spec Tryz.prog W0 78 [ptr h.b, ptr mh.mb] (h.O c t x 9 3 ((wb, wrP wa (l.length + 1) wc va (l2.length + 1) vc) :: (wD ++ (vD ++ (E1 ++ (mh.O m ++ Q))))))
    (AtQ W0 c t h.b { x with ph := .wr l l2 } 3 (mh.O { m with d := m.d.set o v } ++ Q) (.tuple #[(acS 1 o w v).v, .int .i64 17])) := by
  unfold AtQ
  refine spec_of mixed low_attempt_Attempt_stepWrite (by simp [ir_attempt_Attempt_stepWrite]) ?_
  obtain ⟨tb, htn, rfl⟩ := hE.h
  obtain ⟨h', rfl⟩ := AH.wr_eq hwr htn
  have hst := fun (Q : Own) (e1 : EntC Q wD) (e2 : EntC Q vD) => sp_wrStep (W0 := W0) (F := Q) (b := wb) (c := wc) (c2 := vc) hM (hL.up) (hL2.up) hj Q
  have hdn := fun (own' : Own) (m2 : MemC wb (wrP (slA wa wc 1 1) l.length (wc - 1) (slA va vc 1 1) l2.length (vc - 1)) own') => sp_wrDone (W0 := W0) (own := own') (cl_of m2 rfl)
  have hz : decide (l.length = 0) = false := decide_eq_false fun e => hl (List.length_eq_zero_iff.1 e)
  simp only [hz] at hdn
  repeat' ((try (conv => whnf)); first | (refine br_fe ?_ ?_; exact rfl) | ((with_reducible show CallT _ _ _ _ _ _); first | ((refine call_pe (hdn _ inferInstance) ?_ ?_ ?_; (exact rfl); exact rfl)) | ((refine call_sb (D := mh.O m) (hst _ inferInstance inferInstance) ?_ ?_ ?_ (fun _ v hv => ?_); (exact rfl); (exact rfl); (exact rfl); (subst hv)))) | (apply ld_o; exact rfl) | (apply ldN_a; exact rfl) | (apply stN_o; (exact rfl); (exact rfl); exact rfl) | (refine new_i (fun bk hbk => ?_)))
  all_goals exact ⟨({ h' with wr := ptr wb, tn := ptr tb }, (wb, wrP (slA wa wc 1 1) l.length (wc - 1) (slA va vc 1 1) l2.length (vc - 1)) :: (wD ++ (vD ++ [(tb, tnP true x.tk true)]))), ⟨rfl, rfl, ⟨hh.1, hh.2, hh.3, hh.4, hh.5, hh.6, hh.7, hh.8, hh.9⟩, ⟨_, wb, _, _, wD, _, _, vD, ⟨tb, rfl, rfl⟩, rfl, ⟨RdE.tl hL hc1, by omega⟩, ⟨RdE.tl hL2 hc2, by omega⟩, rfl⟩⟩, by show Ent W0 _ (AH.O _ c t _ 9 3 _); simp only [List.append_assoc, List.cons_append, List.nil_append]; exact (by refine sb_ent ?_; (repeat (first | exact sb_refl | exact sb_nil | refine sb_fr ?_ | refine sb_pu rfl ?_ | refine sb_cons ?_ | refine sb_app ?_)))⟩
end
end Go.Proofs.YtllddgdmmfmpkaaGreatDoor
namespace Go.Proofs.YtllddgdmmfmpkaaGreatDoor
open Go
set_option maxRecDepth 10000
set_option maxHeartbeats 8000000
section
variable {W0 : World} {c : Cfg} {t : Nat} {h : AH} {x x' : AT} {e e' : Nat} {mh : MH} {m m' : MS} {r : AcM} {ph : Int} {E : Own}
theorem sp_w2 (hS : ∀ Q, Spec Tryz.prog W0 71 [ptr h.b, ptr mh.mb] (h.O c t x 2 e (E ++ (mh.O m ++ Q))) (AtQ W0 c t h.b x' e' (mh.O m' ++ Q) (.tuple #[r.v, .int .i64 ph]))) (Q : Own) : Spec Tryz.prog W0 47 [ptr h.b, ptr mh.mb] (h.O c t x 2 e (E ++ (mh.O m ++ Q))) (AtQ W0 c t h.b x' e' (mh.O m' ++ Q) (.tuple #[r.v, .int .i64 ph])) := by
  unfold AtQ at *
  refine spec_of mixed low_attempt_Attempt_Step (by simp [ir_attempt_Attempt_Step]) ?_
  repeat' ((try (conv => whnf)); first | (refine br_te ?_ ?_; exact rfl) | (refine br_fe ?_ ?_; exact rfl) | ((with_reducible show CallT _ _ _ _ _ _); first | ((refine call_to (hS ((bk, azP) :: Q)) (by refine sb_ent ?_; (repeat (first | exact sb_refl | exact sb_nil | refine sb_fr ?_ | refine sb_pu rfl ?_ | refine sb_cons ?_ | refine sb_app ?_))) ?_ ?_ (fun s v hv => ?_); (exact rfl); (exact rfl); (obtain ⟨rfl, hs⟩ := hv)))) | (apply sel; exact rfl) | (apply ld_o; exact rfl) | (apply ldN_a; exact rfl) | (apply stN_o; (exact rfl); (exact rfl); exact rfl) | (refine new_i (fun bk hbk => ?_)))
  all_goals exact ⟨s, ⟨rfl, hs⟩, (by refine sb_ent ?_; (repeat (first | exact sb_refl | exact sb_nil | refine sb_fr ?_ | refine sb_pu rfl ?_ | refine sb_cons ?_ | refine sb_app ?_)))⟩
theorem sp_w3 (hS : ∀ Q, Spec Tryz.prog W0 72 [ptr h.b, ptr mh.mb] (h.O c t x 3 e (E ++ (mh.O m ++ Q))) (AtQ W0 c t h.b x' e' (mh.O m' ++ Q) (.tuple #[r.v, .int .i64 ph]))) (Q : Own) : Spec Tryz.prog W0 47 [ptr h.b, ptr mh.mb] (h.O c t x 3 e (E ++ (mh.O m ++ Q))) (AtQ W0 c t h.b x' e' (mh.O m' ++ Q) (.tuple #[r.v, .int .i64 ph])) := by
  unfold AtQ at *
  refine spec_of mixed low_attempt_Attempt_Step (by simp [ir_attempt_Attempt_Step]) ?_
  repeat' ((try (conv => whnf)); first | (refine br_te ?_ ?_; exact rfl) | (refine br_fe ?_ ?_; exact rfl) | ((with_reducible show CallT _ _ _ _ _ _); first | ((refine call_to (hS ((bk, azP) :: Q)) (by refine sb_ent ?_; (repeat (first | exact sb_refl | exact sb_nil | refine sb_fr ?_ | refine sb_pu rfl ?_ | refine sb_cons ?_ | refine sb_app ?_))) ?_ ?_ (fun s v hv => ?_); (exact rfl); (exact rfl); (obtain ⟨rfl, hs⟩ := hv)))) | (apply sel; exact rfl) | (apply ld_o; exact rfl) | (apply ldN_a; exact rfl) | (apply stN_o; (exact rfl); (exact rfl); exact rfl) | (refine new_i (fun bk hbk => ?_)))
  all_goals exact ⟨s, ⟨rfl, hs⟩, (by refine sb_ent ?_; (repeat (first | exact sb_refl | exact sb_nil | refine sb_fr ?_ | refine sb_pu rfl ?_ | refine sb_cons ?_ | refine sb_app ?_)))⟩
theorem sp_w5 (hS : ∀ Q, Spec Tryz.prog W0 74 [ptr h.b, ptr mh.mb] (h.O c t x 5 e (E ++ (mh.O m ++ Q))) (AtQ W0 c t h.b x' e' (mh.O m' ++ Q) (.tuple #[r.v, .int .i64 ph]))) (Q : Own) : Spec Tryz.prog W0 47 [ptr h.b, ptr mh.mb] (h.O c t x 5 e (E ++ (mh.O m ++ Q))) (AtQ W0 c t h.b x' e' (mh.O m' ++ Q) (.tuple #[r.v, .int .i64 ph])) := by
  unfold AtQ at *
  refine spec_of mixed low_attempt_Attempt_Step (by simp [ir_attempt_Attempt_Step]) ?_
  repeat' ((try (conv => whnf)); first | (refine br_te ?_ ?_; exact rfl) | (refine br_fe ?_ ?_; exact rfl) | ((with_reducible show CallT _ _ _ _ _ _); first | ((refine call_to (hS ((bk, azP) :: Q)) (by refine sb_ent ?_; (repeat (first | exact sb_refl | exact sb_nil | refine sb_fr ?_ | refine sb_pu rfl ?_ | refine sb_cons ?_ | refine sb_app ?_))) ?_ ?_ (fun s v hv => ?_); (exact rfl); (exact rfl); (obtain ⟨rfl, hs⟩ := hv)))) | (apply sel; exact rfl) | (apply ld_o; exact rfl) | (apply ldN_a; exact rfl) | (apply stN_o; (exact rfl); (exact rfl); exact rfl) | (refine new_i (fun bk hbk => ?_)))
  all_goals exact ⟨s, ⟨rfl, hs⟩, (by refine sb_ent ?_; (repeat (first | exact sb_refl | exact sb_nil | refine sb_fr ?_ | refine sb_pu rfl ?_ | refine sb_cons ?_ | refine sb_app ?_)))⟩
theorem sp_w6 (hS : ∀ Q, Spec Tryz.prog W0 75 [ptr h.b, ptr mh.mb] (h.O c t x 6 e (E ++ (mh.O m ++ Q))) (AtQ W0 c t h.b x' e' (mh.O m' ++ Q) (.tuple #[r.v, .int .i64 ph]))) (Q : Own) : Spec Tryz.prog W0 47 [ptr h.b, ptr mh.mb] (h.O c t x 6 e (E ++ (mh.O m ++ Q))) (AtQ W0 c t h.b x' e' (mh.O m' ++ Q) (.tuple #[r.v, .int .i64 ph])) := by
  unfold AtQ at *
  refine spec_of mixed low_attempt_Attempt_Step (by simp [ir_attempt_Attempt_Step]) ?_
  repeat' ((try (conv => whnf)); first | (refine br_te ?_ ?_; exact rfl) | (refine br_fe ?_ ?_; exact rfl) | ((with_reducible show CallT _ _ _ _ _ _); first | ((refine call_to (hS ((bk, azP) :: Q)) (by refine sb_ent ?_; (repeat (first | exact sb_refl | exact sb_nil | refine sb_fr ?_ | refine sb_pu rfl ?_ | refine sb_cons ?_ | refine sb_app ?_))) ?_ ?_ (fun s v hv => ?_); (exact rfl); (exact rfl); (obtain ⟨rfl, hs⟩ := hv)))) | (apply sel; exact rfl) | (apply ld_o; exact rfl) | (apply ldN_a; exact rfl) | (apply stN_o; (exact rfl); (exact rfl); exact rfl) | (refine new_i (fun bk hbk => ?_)))
  all_goals exact ⟨s, ⟨rfl, hs⟩, (by refine sb_ent ?_; (repeat (first | exact sb_refl | exact sb_nil | refine sb_fr ?_ | refine sb_pu rfl ?_ | refine sb_cons ?_ | refine sb_app ?_)))⟩
theorem sp_w7 (hS : ∀ Q, Spec Tryz.prog W0 76 [ptr h.b, ptr mh.mb] (h.O c t x 7 e (E ++ (mh.O m ++ Q))) (AtQ W0 c t h.b x' e' (mh.O m' ++ Q) (.tuple #[r.v, .int .i64 ph]))) (Q : Own) : Spec Tryz.prog W0 47 [ptr h.b, ptr mh.mb] (h.O c t x 7 e (E ++ (mh.O m ++ Q))) (AtQ W0 c t h.b x' e' (mh.O m' ++ Q) (.tuple #[r.v, .int .i64 ph])) := by
  unfold AtQ at *
  refine spec_of mixed low_attempt_Attempt_Step (by simp [ir_attempt_Attempt_Step]) ?_
  repeat' ((try (conv => whnf)); first | (refine br_te ?_ ?_; exact rfl) | (refine br_fe ?_ ?_; exact rfl) | ((with_reducible show CallT _ _ _ _ _ _); first | ((refine call_to (hS ((bk, azP) :: Q)) (by refine sb_ent ?_; (repeat (first | exact sb_refl | exact sb_nil | refine sb_fr ?_ | refine sb_pu rfl ?_ | refine sb_cons ?_ | refine sb_app ?_))) ?_ ?_ (fun s v hv => ?_); (exact rfl); (exact rfl); (obtain ⟨rfl, hs⟩ := hv)))) | (apply sel; exact rfl) | (apply ld_o; exact rfl) | (apply ldN_a; exact rfl) | (apply stN_o; (exact rfl); (exact rfl); exact rfl) | (refine new_i (fun bk hbk => ?_)))
  all_goals exact ⟨s, ⟨rfl, hs⟩, (by refine sb_ent ?_; (repeat (first | exact sb_refl | exact sb_nil | refine sb_fr ?_ | refine sb_pu rfl ?_ | refine sb_cons ?_ | refine sb_app ?_)))⟩
theorem sp_w8 (hS : ∀ Q, Spec Tryz.prog W0 77 [ptr h.b, ptr mh.mb] (h.O c t x 8 e (E ++ (mh.O m ++ Q))) (AtQ W0 c t h.b x' e' (mh.O m' ++ Q) (.tuple #[r.v, .int .i64 ph]))) (Q : Own) : Spec Tryz.prog W0 47 [ptr h.b, ptr mh.mb] (h.O c t x 8 e (E ++ (mh.O m ++ Q))) (AtQ W0 c t h.b x' e' (mh.O m' ++ Q) (.tuple #[r.v, .int .i64 ph])) := by
  unfold AtQ at *
  refine spec_of mixed low_attempt_Attempt_Step (by simp [ir_attempt_Attempt_Step]) ?_
  repeat' ((try (conv => whnf)); first | (refine br_te ?_ ?_; exact rfl) | (refine br_fe ?_ ?_; exact rfl) | ((with_reducible show CallT _ _ _ _ _ _); first | ((refine call_to (hS ((bk, azP) :: Q)) (by refine sb_ent ?_; (repeat (first | exact sb_refl | exact sb_nil | refine sb_fr ?_ | refine sb_pu rfl ?_ | refine sb_cons ?_ | refine sb_app ?_))) ?_ ?_ (fun s v hv => ?_); (exact rfl); (exact rfl); (obtain ⟨rfl, hs⟩ := hv)))) | (apply sel; exact rfl) | (apply ld_o; exact rfl) | (apply ldN_a; exact rfl) | (apply stN_o; (exact rfl); (exact rfl); exact rfl) | (refine new_i (fun bk hbk => ?_)))
  all_goals exact ⟨s, ⟨rfl, hs⟩, (by refine sb_ent ?_; (repeat (first | exact sb_refl | exact sb_nil | refine sb_fr ?_ | refine sb_pu rfl ?_ | refine sb_cons ?_ | refine sb_app ?_)))⟩
theorem sp_w9 (hS : ∀ Q, Spec Tryz.prog W0 78 [ptr h.b, ptr mh.mb] (h.O c t x 9 e (E ++ (mh.O m ++ Q))) (AtQ W0 c t h.b x' e' (mh.O m' ++ Q) (.tuple #[r.v, .int .i64 ph]))) (Q : Own) : Spec Tryz.prog W0 47 [ptr h.b, ptr mh.mb] (h.O c t x 9 e (E ++ (mh.O m ++ Q))) (AtQ W0 c t h.b x' e' (mh.O m' ++ Q) (.tuple #[r.v, .int .i64 ph])) := by
  unfold AtQ at *
  refine spec_of mixed low_attempt_Attempt_Step (by simp [ir_attempt_Attempt_Step]) ?_
  repeat' ((try (conv => whnf)); first | (refine br_te ?_ ?_; exact rfl) | (refine br_fe ?_ ?_; exact rfl) | ((with_reducible show CallT _ _ _ _ _ _); first | ((refine call_to (hS ((bk, azP) :: Q)) (by refine sb_ent ?_; (repeat (first | exact sb_refl | exact sb_nil | refine sb_fr ?_ | refine sb_pu rfl ?_ | refine sb_cons ?_ | refine sb_app ?_))) ?_ ?_ (fun s v hv => ?_); (exact rfl); (exact rfl); (obtain ⟨rfl, hs⟩ := hv)))) | (apply sel; exact rfl) | (apply ld_o; exact rfl) | (apply ldN_a; exact rfl) | (apply stN_o; (exact rfl); (exact rfl); exact rfl) | (refine new_i (fun bk hbk => ?_)))
  all_goals exact ⟨s, ⟨rfl, hs⟩, (by refine sb_ent ?_; (repeat (first | exact sb_refl | exact sb_nil | refine sb_fr ?_ | refine sb_pu rfl ?_ | refine sb_cons ?_ | refine sb_app ?_)))⟩
theorem sp_w10 (hS : ∀ Q, Spec Tryz.prog W0 79 [ptr h.b, ptr mh.mb] (h.O c t x 10 e (E ++ (mh.O m ++ Q))) (AtQ W0 c t h.b x' e' (mh.O m' ++ Q) (.tuple #[r.v, .int .i64 ph]))) (Q : Own) : Spec Tryz.prog W0 47 [ptr h.b, ptr mh.mb] (h.O c t x 10 e (E ++ (mh.O m ++ Q))) (AtQ W0 c t h.b x' e' (mh.O m' ++ Q) (.tuple #[r.v, .int .i64 ph])) := by
  unfold AtQ at *
  refine spec_of mixed low_attempt_Attempt_Step (by simp [ir_attempt_Attempt_Step]) ?_
  repeat' ((try (conv => whnf)); first | (refine br_te ?_ ?_; exact rfl) | (refine br_fe ?_ ?_; exact rfl) | ((with_reducible show CallT _ _ _ _ _ _); first | ((refine call_to (hS ((bk, azP) :: Q)) (by refine sb_ent ?_; (repeat (first | exact sb_refl | exact sb_nil | refine sb_fr ?_ | refine sb_pu rfl ?_ | refine sb_cons ?_ | refine sb_app ?_))) ?_ ?_ (fun s v hv => ?_); (exact rfl); (exact rfl); (obtain ⟨rfl, hs⟩ := hv)))) | (apply sel; exact rfl) | (apply ld_o; exact rfl) | (apply ldN_a; exact rfl) | (apply stN_o; (exact rfl); (exact rfl); exact rfl) | (refine new_i (fun bk hbk => ?_)))
  all_goals exact ⟨s, ⟨rfl, hs⟩, (by refine sb_ent ?_; (repeat (first | exact sb_refl | exact sb_nil | refine sb_fr ?_ | refine sb_pu rfl ?_ | refine sb_cons ?_ | refine sb_app ?_)))⟩
end
end Go.Proofs.YtllddgdmmfmpkaaGreatDoor
namespace Go.Proofs.YtllddgdmmfmpkaaGreatDoor
open Go
set_option maxRecDepth 10000
set_option maxHeartbeats 8000000
theorem rep_set (n i : Nat) (v : Int) (hi : i < n) : (List.replicate i v ++ List.replicate (n - i) 0).set i v = List.replicate (i + 1) v ++ List.replicate (n - (i + 1)) 0 := by
  rw [List.set_append_right _ _ (by simp), List.length_replicate, Nat.sub_self, show n - i = (n - (i + 1)) + 1 by omega, List.replicate_succ, List.set_cons_zero, List.replicate_succ', List.append_assoc]
  rfl
abbrev axP (a : AcM) : Obj → Prop := fun z => z = Obj.cells #[.int .i64 a.k, .int .i64 a.c, .int .i64 a.i, .int .u64 a.got, .int .u64 a.put, .bool a.dn] 49 (0, 0)
theorem RdE.memU {W0 : World} {own : Own} {l : List Int} {T : TypeId} {b : Nat} [m : MemC b (fun o => o = Obj.cells (l.map encU).flatten.toArray T) own] : RdE encU 1 W0 own (some ⟨b, 0, none⟩) l := rd_blk m.h (fun _ _ => rfl) (by rw [List.toList_toArray])
section
variable {W0 : World} {own Q E : Own} {c : Cfg} {t : Nat} {h : AH} {x : AT} {k w : Int} {b e : Nat} {mh : MH} {m : MS}
theorem sp_sWr1 {E1 : Own} {wb wc vc o : Nat} {wa va : Option Addr} {wD vD : Own} {l2 : List Int} {v : Int} (hh : h.ok c x) (hM : mh.ok m.L) (hE : TnO h true x.tk true E1) (hwr : h.wr = ptr wb) (hL : RdE encI 1 W0 wD wa [(o : Int)]) (hL2 : RdE encU 1 W0 vD va (v :: l2))
    (hj : m.d[o]? = some w) (hs : x.dn = true ∧ x.sto = true) (hck : 0 ≤ x.ck ∧ x.ck < 1099511627776) (Q : Own) : Spec Tryz.prog W0 78 [ptr h.b, ptr mh.mb] (h.O c t x 9 3 ((wb, wrP wa 1 wc va (l2.length + 1) vc) :: (wD ++ (vD ++ (E1 ++ (mh.O m ++ Q))))))
    (AtQ W0 c t h.b { x with ph := .rl x.oc (x.oc.map fun _ => (x.ck + 1) * 64) } 3 (mh.O { m with d := m.d.set o v } ++ Q) (.tuple #[(acS 1 o w v).v, .int .i64 17])) := by
  unfold AtQ
  rw [show (x.oc.map fun _ => (x.ck + 1) * 64) = List.replicate x.oc.length ((x.ck + 1) * 64) from List.map_const']
  refine spec_of mixed low_attempt_Attempt_stepWrite (by simp [ir_attempt_Attempt_stepWrite]) ?_
  obtain ⟨tb, htn, rfl⟩ := hE.h
  obtain ⟨h', rfl⟩ := AH.wr_eq hwr htn
  have hlo := hh.lo
  have hst := fun (Q : Own) (e1 : EntC Q wD) (e2 : EntC Q vD) => sp_wrStep (W0 := W0) (F := Q) (b := wb) (c := wc) (c2 := vc) (l := []) hM (hL.up) (hL2.up) hj Q
  have hdn := fun (own' : Own) (m2 : MemC wb (wrP (slA wa wc 1 1) 0 (wc - 1) (slA va vc 1 1) l2.length (vc - 1)) own') => sp_wrDone (W0 := W0) (own := own') (cl_of m2 rfl)
  repeat' ((try (conv => whnf)); first | (refine br_te ?_ ?_; exact rfl) | (refine mkC (enc := encU) x.oc.length 0 rfl rfl rfl (by omega) (fun bx => ?_)) | ((with_reducible show CallT _ _ _ _ _ _); first | ((refine call_pe (hdn _ inferInstance) ?_ ?_ ?_; (exact rfl); exact rfl)) | ((refine call_sb (D := mh.O m) (hst _ inferInstance inferInstance) ?_ ?_ ?_ (fun _ v hv => ?_); (exact rfl); (exact rfl); (exact rfl); (subst hv)))) | (apply ld_o; exact rfl) | (apply stN_o; (exact rfl); (exact rfl); exact rfl) | (refine new_i (fun bk hbk => ?_)))
  rename_i bk2 _ _
  have hver := fun (own' : Own) (m1 : MemC h'.b (atP c t { h' with wr := ptr wb, tn := ptr tb } x 9) own') (m2 : MemC h'.g.b (lgP c.writes h'.g.aa x.ad.length h'.g.ca h'.g.va x.vl.length h'.g.cv h'.g.ib h'.g.P) own') => sp_aversion (W0 := W0) (own := own') (b := h'.b) (cl_of m1 rfl) (cl_of m1 rfl) (by omega) (cl_of m1 rfl) (cl_of m1 rfl) (cl_of m2 rfl)
  rw [if_pos ⟨hs.1, sto_iff2.1 hs.2⟩] at hver
  have hfr := fun (own' : Own) => sp_wfree (W0 := W0) (own := own') (x.ck + 1) (by omega)
  refine loop_i (σ := Nat) (fun i => [(30, .int .i64 i)]) (fun i => canE encU 33 bx (List.replicate i ((x.ck + 1) * 64) ++ List.replicate (x.oc.length - i) 0) :: ((bk, axP (acS 1 o w v)) :: (bk2, azP) :: AH.O { h' with wr := ptr wb, tn := ptr tb } c t x 9 3 ((wb, wrP (slA wa wc 1 1) 0 (wc - 1) (slA va vc 1 1) l2.length (vc - 1)) :: (wD ++ (vD ++ ([(tb, tnP true x.tk true)] ++ (mh.O { m with d := m.d.set o v } ++ Q))))))) (fun i => i ≤ x.oc.length) (fun i => x.oc.length - i) 0 (Nat.zero_le _) (by repeat' (first | exact True.intro | refine And.intro ?_ ?_ | exact rfl | exact vi (by omega) | (dsimp only; exact rfl) | (dsimp only; exact vi (by omega)))) (by rw [List.replicate_zero, List.nil_append, Nat.sub_zero]; exact (by refine sb_ent ?_; (repeat (first | exact sb_refl | exact sb_nil | refine sb_fr ?_ | refine sb_pu rfl ?_ | refine sb_cons ?_ | refine sb_app ?_)))) rfl ?_
  rintro i junk hi
  have hw : ∀ z ∈ (List.replicate i ((x.ck + 1) * 64) ++ List.replicate (x.oc.length - i) 0 : List Int), (encU z).length = 1 := fun _ _ => rfl
  by_cases hlt : i < x.oc.length
  · have hx : (List.replicate i ((x.ck + 1) * 64) ++ List.replicate (x.oc.length - i) 0 : List Int)[i]? = some 0 := by
      rw [List.getElem?_append_right (by simp), List.length_replicate, Nat.sub_self, List.getElem?_replicate, if_pos (by omega)]
    have hlt' : (i : Int) < x.oc.length := by omega
    have hln : x.oc.length = (List.replicate i ((x.ck + 1) * 64) ++ List.replicate (x.oc.length - i) 0 : List Int).length := by simp; omega
    repeat' ((try (conv => whnf)); first | (apply br_pyE; (exact rfl); omega) | ((with_reducible show IxS _ _ _ _ _); first | ((refine ixC hx hln ?_ ?_; (first | rfl | omega)))) | ((with_reducible show CallT _ _ _ _ _ _); first | ((refine call_pe (hver _ inferInstance inferInstance) ?_ ?_ ?_; (exact rfl); exact rfl)) | ((refine call_pe (hfr _) ?_ ?_ ?_; (exact rfl); exact rfl))) | ((with_reducible show StT _ _ _ _ _); first | ((refine stC (T := 33) (k := 0) (((x.ck + 1) * 64)) hw hx ?_ ?_ ?_ ?_ ?_; (exact rfl); (omega); (exact rfl); (exact rfl)))) | (refine ari ?_ ?_; omega) | (apply sel; exact rfl))
    refine ⟨i + 1, hlt, by omega, (by repeat' (first | exact True.intro | refine And.intro ?_ ?_ | exact rfl | exact vi (by omega) | (dsimp only; exact rfl) | (dsimp only; exact vi (by omega)))), ?_⟩
    rw [← rep_set _ _ _ hlt]
    exact (by refine sb_ent ?_; (repeat (first | exact sb_refl | exact sb_nil | refine sb_fr ?_ | refine sb_pu rfl ?_ | refine sb_cons ?_ | refine sb_app ?_)))
  · have hlt' : ¬ (i : Int) < x.oc.length := by omega
    obtain rfl : i = x.oc.length := by omega
    rw [Nat.sub_self, List.replicate_zero, List.append_nil]
    have hnr := fun (own' : Own) (m : EntC own' h'.oD) (m3 : MemC bx (fun z => z = Obj.cells ((List.replicate x.oc.length ((x.ck + 1) * 64)).map encU).flatten.toArray 33) own') => sp_newRel (W0 := W0) (own := own') (c := h'.oc) (c2 := x.oc.length) ((hh.ho.rd (W0 := W0)).up) (RdE.memU (T := 33) (l := List.replicate x.oc.length ((x.ck + 1) * 64)) (b := bx)) (by omega) List.length_replicate hh.ho.le (by rw [List.length_replicate]; exact Nat.le_refl _)
    rw [List.length_replicate] at hnr
    repeat' ((try (conv => whnf)); first | (apply br_pnE; (exact rfl); omega) | ((with_reducible show CallT _ _ _ _ _ _); first | ((refine call_x (hnr _ inferInstance inferInstance) ?_ ?_ (fun y v hv => ?_); (exact rfl); (exact rfl); (obtain ⟨rb, ⟨a4, c4, D4⟩, ⟨a5, c5, D5⟩⟩ := y; obtain ⟨rfl, hB4, hB5⟩ := hv; dsimp only at hB4 hB5)))) | (apply ld_o; exact rfl) | (apply ldN_a; exact rfl) | (apply st_o; (exact rfl); exact rfl) | (apply stN_o; (exact rfl); (exact rfl); exact rfl))
    have hlr : (List.replicate x.oc.length ((x.ck + 1) * 64)).length = x.oc.length := List.length_replicate
    have hB5e := hB5.le
    rw [hlr] at hB5e
    exact ⟨({ h' with wr := ptr wb, tn := ptr tb, rl := ptr rb }, (rb, rlP a4 x.oc.length c4 a5 x.oc.length c5) :: (D4 ++ (D5 ++ [(tb, tnP true x.tk true)]))), ⟨rfl, rfl, ⟨hh.1, hh.2, hh.3, hh.4, hh.5, hh.6, hh.7, hh.8, hh.9⟩, ⟨_, rb, a4, c4, D4, a5, c5, D5, ⟨tb, rfl, rfl⟩, rfl, ⟨hB4.rd, hB4.le⟩, ⟨hB5.rd, hB5.le⟩, by rw [hlr]⟩⟩, by show Ent W0 _ (AH.O _ c t _ 10 3 _); simp only [List.append_assoc, List.cons_append, List.nil_append]; exact (by refine sb_ent ?_; (repeat (first | exact sb_refl | exact sb_nil | refine sb_fr ?_ | refine sb_pu rfl ?_ | refine sb_cons ?_ | refine sb_app ?_)))⟩
end
end Go.Proofs.YtllddgdmmfmpkaaGreatDoor
namespace Go.Proofs.YtllddgdmmfmpkaaGreatDoor
open Go
set_option maxRecDepth 10000
set_option maxHeartbeats 8000000
section
variable {W0 : World} {own Q : Own} {c : Cfg} {t : Nat} {h : AH} {x : AT} {k w : Int} {b e : Nat} {mh : MH} {m : MS}
theorem sp_sEnt0 (hh : h.ok c x) (hM : mh.ok m.L) (hj : m.sl[t]? = some w) (Q : Own) : Spec Tryz.prog W0 71 [ptr h.b, ptr mh.mb] (h.O c t x 2 0 (mh.O m ++ Q))
    (AtQ W0 c t h.b { x with ph := .ent 1 } 1 (mh.O { m with sl := m.sl.set t 1 } ++ Q) (.tuple #[(acS 6 t w 1).v, .int .i64 2])) := by
  unfold AtQ
  refine spec_of mixed low_attempt_Attempt_stepEnter (by simp [ir_attempt_Attempt_stepEnter]) ?_
  have hs0 := fun (own' : Own) (m2 : MemC h.eb (enP t 0 x.rv) own') => sp_snap (W0 := W0) (n := 0) (cl_of m2 rfl) (cl_of m2 rfl) hh.rv
  have hs1 := fun (own' : Own) (m2 : MemC h.eb (enP t 1 x.rv) own') => sp_snap (W0 := W0) (n := 1) (cl_of m2 rfl) (cl_of m2 rfl) hh.rv
  have hd := fun (own' : Own) (m2 : MemC h.eb (enP t 1 x.rv) own') => sp_enDone (W0 := W0) (n := 1) (cl_of m2 rfl)
  simp only [show decide ((1 : Int) = 3) = false from rfl, if_pos (show (0 : Int) ≤ 1 by decide), if_pos (show (1 : Int) ≤ 1 by decide)] at hs0 hs1 hd
  repeat' ((try (conv => whnf)); first | (refine br_fe ?_ ?_; exact rfl) | ((with_reducible show CallT _ _ _ _ _ _); first | ((refine call_pe (hs0 _ inferInstance) ?_ ?_ ?_; (exact rfl); exact rfl)) | ((refine call_pe (hs1 _ inferInstance) ?_ ?_ ?_; (exact rfl); exact rfl)) | ((refine call_pe (hd _ inferInstance) ?_ ?_ ?_; (exact rfl); exact rfl)) | ((refine call_sb (D := mh.O m) (sp_enter0 (b := h.eb) (c := x.rv) hM hj _) ?_ ?_ ?_ (fun _ v hv => ?_); (exact rfl); (exact rfl); (exact rfl); (subst hv)))) | (apply ld_o; exact rfl) | (apply ldN_a; exact rfl) | (apply stN_o; (exact rfl); (exact rfl); exact rfl) | (refine new_i (fun bk hbk => ?_)))
  all_goals exact ⟨(h, []), ⟨rfl, rfl, ⟨hh.1, hh.2, hh.3, hh.4, hh.5, hh.6, hh.7, hh.8, hh.9⟩, rfl⟩, (by refine sb_ent ?_; (repeat (first | exact sb_refl | exact sb_nil | refine sb_fr ?_ | refine sb_pu rfl ?_ | refine sb_cons ?_ | refine sb_app ?_)))⟩
theorem sp_sEnt1 (hh : h.ok c x) (hM : mh.ok m.L) (hck : 0 ≤ m.ck ∧ m.ck ≤ 1099511627776) (Q : Own) : Spec Tryz.prog W0 71 [ptr h.b, ptr mh.mb] (h.O c t x 2 1 (mh.O m ++ Q))
    (AtQ W0 c t h.b { x with rv := m.ck, ph := .ent 2 } 2 (mh.O m ++ Q) (.tuple #[(acL 3 0 m.ck).v, .int .i64 3])) := by
  unfold AtQ
  refine spec_of mixed low_attempt_Attempt_stepEnter (by simp [ir_attempt_Attempt_stepEnter]) ?_
  have hs0 := fun (own' : Own) (m2 : MemC h.eb (enP t 1 x.rv) own') => sp_snap (W0 := W0) (n := 1) (cl_of m2 rfl) (cl_of m2 rfl) hh.rv
  have hs1 := fun (own' : Own) (m2 : MemC h.eb (enP t 2 m.ck) own') => sp_snap (W0 := W0) (n := 2) (cl_of m2 rfl) (cl_of m2 rfl) hck
  have hd := fun (own' : Own) (m2 : MemC h.eb (enP t 2 m.ck) own') => sp_enDone (W0 := W0) (n := 2) (cl_of m2 rfl)
  simp only [show decide ((2 : Int) = 3) = false from rfl, if_neg (show ¬ (2 : Int) ≤ 1 by decide), if_pos (show (1 : Int) ≤ 1 by decide)] at hs0 hs1 hd
  have hne : (-1 : Int) ≠ m.ck := by omega
  repeat' ((try (conv => whnf)); first | (refine br_fe ?_ ?_; exact rfl) | (apply br_pyE; (exact rfl); omega) | ((with_reducible show CallT _ _ _ _ _ _); first | ((refine call_pe (hs0 _ inferInstance) ?_ ?_ ?_; (exact rfl); exact rfl)) | ((refine call_pe (hs1 _ inferInstance) ?_ ?_ ?_; (exact rfl); exact rfl)) | ((refine call_pe (hd _ inferInstance) ?_ ?_ ?_; (exact rfl); exact rfl)) | ((refine call_sb (D := mh.O m) (sp_enter1 (b := h.eb) (t := t) (c := x.rv) hM _) ?_ ?_ ?_ (fun _ v hv => ?_); (exact rfl); (exact rfl); (exact rfl); (subst hv)))) | (apply ld_o; exact rfl) | (apply ldN_a; exact rfl) | (apply stN_o; (exact rfl); (exact rfl); exact rfl) | (refine new_i (fun bk hbk => ?_)))
  all_goals exact ⟨(h, []), ⟨rfl, rfl, ⟨hh.1, hh.2, hh.3, hh.4, hh.5, hh.6, hh.7, hck, hh.9⟩, rfl⟩, (by refine sb_ent ?_; (repeat (first | exact sb_refl | exact sb_nil | refine sb_fr ?_ | refine sb_pu rfl ?_ | refine sb_cons ?_ | refine sb_app ?_)))⟩
theorem sp_sEnt2 (hh : h.ok c x) (hM : mh.ok m.L) (hj : m.sl[t]? = some w) (Q : Own) : Spec Tryz.prog W0 71 [ptr h.b, ptr mh.mb] (h.O c t x 2 2 (mh.O m ++ Q))
    (AtQ W0 c t h.b { x with ph := .idle } 3 (mh.O { m with sl := m.sl.set t (wrapu (x.rv + 2)) } ++ Q) (.tuple #[(acS 6 t w (wrapu (x.rv + 2))).v, .int .i64 4])) := by
  unfold AtQ
  refine spec_of mixed low_attempt_Attempt_stepEnter (by simp [ir_attempt_Attempt_stepEnter]) ?_
  have hs0 := fun (own' : Own) (m2 : MemC h.eb (enP t 2 x.rv) own') => sp_snap (W0 := W0) (n := 2) (cl_of m2 rfl) (cl_of m2 rfl) hh.rv
  have hd := fun (own' : Own) (m2 : MemC h.eb (enP t 3 x.rv) own') => sp_enDone (W0 := W0) (n := 3) (cl_of m2 rfl)
  simp only [if_neg (show ¬ (2 : Int) ≤ 1 by decide)] at hs0
  repeat' ((try (conv => whnf)); first | (refine br_te ?_ ?_; exact rfl) | ((with_reducible show CallT _ _ _ _ _ _); first | ((refine call_pe (hs0 _ inferInstance) ?_ ?_ ?_; (exact rfl); exact rfl)) | ((refine call_pe (hd _ inferInstance) ?_ ?_ ?_; (exact rfl); exact rfl)) | ((refine call_sb (D := mh.O m) (sp_enter2 (b := h.eb) (c := x.rv) hM hj _) ?_ ?_ ?_ (fun _ v hv => ?_); (exact rfl); (exact rfl); (exact rfl); (subst hv)))) | (apply ld_o; exact rfl) | (apply ldN_a; exact rfl) | (apply st_o; (exact rfl); exact rfl) | (apply stN_o; (exact rfl); (exact rfl); exact rfl) | (refine new_i (fun bk hbk => ?_)))
  all_goals exact ⟨(h, []), ⟨rfl, rfl, ⟨hh.1, hh.2, hh.3, hh.4, hh.5, hh.6, hh.7, hh.8, hh.9⟩, rfl⟩, (by refine sb_ent ?_; (repeat (first | exact sb_refl | exact sb_nil | refine sb_fr ?_ | refine sb_pu rfl ?_ | refine sb_cons ?_ | refine sb_app ?_)))⟩
end
end Go.Proofs.YtllddgdmmfmpkaaGreatDoor
namespace Go.Proofs.YtllddgdmmfmpkaaGreatDoor
open Go
set_option maxRecDepth 10000
set_option maxHeartbeats 8000000
theorem AH.rd_eq {h : AH} {v u : Value} {l : Int} (e : h.rd = v) (e2 : h.ld = l) (e3 : h.us = u) : ∃ h' : AH, h = { h' with rd := v, ld := l, us := u } := ⟨h, by cases h; cases e; cases e2; cases e3; rfl⟩
section
variable {W0 : World} {own Q : Own} {c : Cfg} {t : Nat} {h : AH} {x : AT} {k w bf vl : Int} {b e r ab o : Nat} {mh : MH} {m : MS}
theorem sp_sRd0 (hh : h.ok c x) (hM : mh.ok m.L) (hrd : h.rd = ptr r) (hld : h.ld = 0) (hus : h.us = fnv 97 [ptr ab]) (ho : orecM c x.addr = (o : Int)) (hj : m.o[o]? = some w) (hw : okU w) (Q : Own) :
    Spec Tryz.prog W0 72 [ptr h.b, ptr mh.mb] (h.O c t x 3 3 ([(r, rdP x.addr o x.rv 0 0 0 false), (ab, abP h.b)] ++ (mh.O m ++ Q)))
    (AtQ W0 c t h.b (if hldO w ≥ 0 ∨ verO w > x.rv then x.undo 9 else { x with ph := .rd 1 w 0 }) 3 (mh.O m ++ Q) (.tuple #[(acL 2 o w).v, .int .i64 5])) := by
  unfold AtQ
  refine spec_of mixed low_attempt_Attempt_stepRead (by simp [ir_attempt_Attempt_stepRead]) ?_
  obtain ⟨h', rfl⟩ := AH.rd_eq hrd hld hus
  have hst := fun Q => sp_read0 (W0 := W0) (b := r) (a := x.addr) (o := o) (rv := x.rv) hM hj hw Q
  by_cases h1 : hldO w ≥ 0 ∨ verO w > x.rv
  · simp only [if_pos h1] at hst ⊢
    have hdn := fun (own' : Own) (m2 : MemC r (rdP x.addr o x.rv 3 w 0 true) own') => sp_rdDone (W0 := W0) (n := 3) (cl_of m2 rfl)
    have hcf := fun (own' : Own) (m2 : MemC r (rdP x.addr o x.rv 3 w 0 true) own') => sp_rdConf (W0 := W0) (d := true) (cl_of m2 rfl)
    repeat' ((try (conv => whnf)); first | (refine br_te ?_ ?_; exact rfl) | (refine br_fe ?_ ?_; exact rfl) | ((with_reducible show CallT _ _ _ _ _ _); first | ((refine call_pe (hdn _ inferInstance) ?_ ?_ ?_; (exact rfl); exact rfl)) | ((refine call_pe (hcf _ inferInstance) ?_ ?_ ?_; (exact rfl); exact rfl)) | ((refine call_sb (D := mh.O m) (hst _) ?_ ?_ ?_ (fun _ v hv => ?_); (exact rfl); (exact rfl); (exact rfl); (subst hv))) | ((refine call_bk (sp_undo (h := { h' with rd := ptr r, ld := 1, us := fnv 97 [ptr ab] }) (c := c) (t := t) (x := x) (k := 3) 9 _) ?_ ?_ ?_ (fun _ v hv => ?_); (exact rfl); (exact rfl); (exact rfl); (subst hv)))) | (refine ari ?_ ?_; omega) | (apply ld_o; exact rfl) | (apply ldN_a; exact rfl) | (apply st_o; (exact rfl); exact rfl) | (apply stN_o; (exact rfl); (exact rfl); exact rfl) | (refine new_i (fun bk hbk => ?_)) | (refine Both.mk ?_ ?_))
    all_goals exact ⟨({ h' with rd := ptr r, ld := 1, us := fnv 97 [ptr ab] }, []), ⟨rfl, rfl, ⟨hh.1, hh.2, hh.3, hh.4, hh.5, hh.6, hh.7, hh.8, hh.9⟩, rfl⟩, (by refine sb_ent ?_; (repeat (first | exact sb_refl | exact sb_nil | refine sb_fr ?_ | refine sb_pu rfl ?_ | refine sb_cons ?_ | refine sb_app ?_)))⟩
  · simp only [if_neg h1] at hst ⊢
    have hdn := fun (own' : Own) (m2 : MemC r (rdP x.addr o x.rv 1 w 0 false) own') => sp_rdDone (W0 := W0) (n := 1) (cl_of m2 rfl)
    simp only [show decide ((1 : Int) = 3) = false from rfl] at hdn
    repeat' ((try (conv => whnf)); first | (refine br_te ?_ ?_; exact rfl) | ((with_reducible show CallT _ _ _ _ _ _); first | ((refine call_pe (hdn _ inferInstance) ?_ ?_ ?_; (exact rfl); exact rfl)) | ((refine call_sb (D := mh.O m) (hst _) ?_ ?_ ?_ (fun _ v hv => ?_); (exact rfl); (exact rfl); (exact rfl); (subst hv)))) | (refine ari ?_ ?_; omega) | (apply ld_o; exact rfl) | (apply ldN_a; exact rfl) | (apply st_o; (exact rfl); exact rfl) | (apply stN_o; (exact rfl); (exact rfl); exact rfl) | (refine new_i (fun bk hbk => ?_)) | (refine Both.mk ?_ ?_))
    all_goals exact ⟨({ h' with rd := ptr r, ld := 1, us := fnv 97 [ptr ab] }, [(r, rdP x.addr o x.rv 1 w 0 false), (ab, abP h'.b)]), ⟨rfl, rfl, ⟨hh.1, hh.2, hh.3, hh.4, hh.5, hh.6, hh.7, hh.8, hh.9⟩, ⟨rfl, r, ab, rfl, rfl, by dsimp only; rw [ho]⟩⟩, (by refine sb_ent ?_; (repeat (first | exact sb_refl | exact sb_nil | refine sb_fr ?_ | refine sb_pu rfl ?_ | refine sb_cons ?_ | refine sb_app ?_)))⟩
theorem sp_sRd1 {j : Nat} (hh : h.ok c x) (hM : mh.ok m.L) (hrd : h.rd = ptr r) (hld : h.ld = 1) (hus : h.us = fnv 97 [ptr ab]) (ho : orecM c x.addr = (o : Int)) (ha : x.addr = (j : Int)) (hj : m.d[j]? = some w) (Q : Own) :
    Spec Tryz.prog W0 72 [ptr h.b, ptr mh.mb] (h.O c t x 3 3 ([(r, rdP j o x.rv 1 bf 0 false), (ab, abP h.b)] ++ (mh.O m ++ Q)))
    (AtQ W0 c t h.b { x with ph := .rd 2 bf w } 3 (mh.O m ++ Q) (.tuple #[(acL 1 j w).v, .int .i64 6])) := by
  unfold AtQ
  refine spec_of mixed low_attempt_Attempt_stepRead (by simp [ir_attempt_Attempt_stepRead]) ?_
  obtain ⟨h', rfl⟩ := AH.rd_eq hrd hld hus
  have hdn := fun (own' : Own) (m2 : MemC r (rdP j o x.rv 2 bf w false) own') => sp_rdDone (W0 := W0) (n := 2) (cl_of m2 rfl)
  simp only [show decide ((2 : Int) = 3) = false from rfl] at hdn
  repeat' ((try (conv => whnf)); first | (refine br_te ?_ ?_; exact rfl) | ((with_reducible show CallT _ _ _ _ _ _); first | ((refine call_pe (hdn _ inferInstance) ?_ ?_ ?_; (exact rfl); exact rfl)) | ((refine call_sb (D := mh.O m) (sp_read1 (b := r) (o := o) (rv := x.rv) (bf := bf) hM hj _) ?_ ?_ ?_ (fun _ v hv => ?_); (exact rfl); (exact rfl); (exact rfl); (subst hv)))) | (refine ari ?_ ?_; omega) | (apply ld_o; exact rfl) | (apply ldN_a; exact rfl) | (apply st_o; (exact rfl); exact rfl) | (apply stN_o; (exact rfl); (exact rfl); exact rfl) | (refine new_i (fun bk hbk => ?_)) | (refine Both.mk ?_ ?_))
  all_goals exact ⟨({ h' with rd := ptr r, ld := 2, us := fnv 97 [ptr ab] }, [(r, rdP j o x.rv 2 bf w false), (ab, abP h'.b)]), ⟨rfl, rfl, ⟨hh.1, hh.2, hh.3, hh.4, hh.5, hh.6, hh.7, hh.8, hh.9⟩, ⟨rfl, r, ab, rfl, rfl, by dsimp only; rw [ho, ha]⟩⟩, (by refine sb_ent ?_; (repeat (first | exact sb_refl | exact sb_nil | refine sb_fr ?_ | refine sb_pu rfl ?_ | refine sb_cons ?_ | refine sb_app ?_)))⟩
end
end Go.Proofs.YtllddgdmmfmpkaaGreatDoor
namespace Go.Proofs.YtllddgdmmfmpkaaGreatDoor
open Go
set_option maxRecDepth 10000
set_option maxHeartbeats 8000000
theorem addS_len {cap : Int} {l s : List Int} {o : Int} (h : addS cap l o = some s) : s.length ≤ l.length + 1 := by
  unfold addS at h
  split at h
  · cases h; omega
  · split at h
    · cases h
    · cases h; rw [List.length_append]; exact Nat.le_refl _
theorem addI_len {l : List Int} {a : Int} : (addI l a).length ≤ l.length + 1 := by
  unfold addI
  split
  · omega
  · rw [List.length_append]; exact Nat.le_refl _
section
variable {W0 : World} {own Q : Own} {c : Cfg} {t : Nat} {h : AH} {x : AT} {k w bf vl : Int} {b e r ab o : Nat} {mh : MH} {m : MS}
theorem sp_sRd2 (hh : h.ok c x) (hM : mh.ok m.L) (hrd : h.rd = ptr r) (hld : h.ld = 2) (hus : h.us = fnv 97 [ptr ab]) (hj : m.o[o]? = some w) (haw : x.addr < c.words) (hl1 : x.set.length < 100000) (hl2 : x.seen.length < 100000) (Q : Own) :
    Spec Tryz.prog W0 72 [ptr h.b, ptr mh.mb] (h.O c t x 3 3 ([(r, rdP x.addr o x.rv 2 bf vl false), (ab, abP h.b)] ++ (mh.O m ++ Q)))
    (AtQ W0 c t h.b (if w ≠ bf then x.undo 9 else match addS c.reads x.set (orecM c x.addr) with
        | none => { x with seen := addI x.seen x.addr }.undo 3
        | some s => { x with seen := addI x.seen x.addr, set := s, val := vl, ph := .idle }) 3 (mh.O m ++ Q) (.tuple #[(acL 2 o w).v, .int .i64 7])) := by
  unfold AtQ
  refine spec_of mixed low_attempt_Attempt_stepRead (by simp [ir_attempt_Attempt_stepRead]) ?_
  obtain ⟨h', rfl⟩ := AH.rd_eq hrd hld hus
  have hst := fun Q => sp_read2 (W0 := W0) (b := r) (a := x.addr) (o := o) (rv := x.rv) (bf := bf) (vl := vl) hM hj Q
  have hdn := fun (d : Bool) (own' : Own) (m2 : MemC r (rdP x.addr o x.rv 3 bf vl d) own') => sp_rdDone (W0 := W0) (n := 3) (cl_of m2 rfl)
  by_cases h1 : w ≠ bf
  · simp only [if_pos h1, decide_eq_true h1] at hst ⊢
    have hcf := fun (own' : Own) (m2 : MemC r (rdP x.addr o x.rv 3 bf vl true) own') => sp_rdConf (W0 := W0) (d := true) (cl_of m2 rfl)
    repeat' ((try (conv => whnf)); first | (refine br_te ?_ ?_; exact rfl) | (refine br_fe ?_ ?_; exact rfl) | ((with_reducible show CallT _ _ _ _ _ _); first | ((refine call_pe (hdn _ _ inferInstance) ?_ ?_ ?_; (exact rfl); exact rfl)) | ((refine call_pe (hcf _ inferInstance) ?_ ?_ ?_; (exact rfl); exact rfl)) | ((refine call_sb (D := mh.O m) (hst _) ?_ ?_ ?_ (fun _ v hv => ?_); (exact rfl); (exact rfl); (exact rfl); (subst hv))) | ((refine call_bk (sp_undo (h := { h' with rd := ptr r, ld := 3, us := fnv 97 [ptr ab] }) (c := c) (t := t) (x := x) (k := 3) 9 _) ?_ ?_ ?_ (fun _ v hv => ?_); (exact rfl); (exact rfl); (exact rfl); (subst hv)))) | (refine ari ?_ ?_; omega) | (apply ld_o; exact rfl) | (apply ldN_a; exact rfl) | (apply st_o; (exact rfl); exact rfl) | (apply stN_o; (exact rfl); (exact rfl); exact rfl) | (refine new_i (fun bk hbk => ?_)) | (refine Both.mk ?_ ?_))
    all_goals exact ⟨({ h' with rd := ptr r, ld := 3, us := fnv 97 [ptr ab] }, []), ⟨rfl, rfl, ⟨hh.1, hh.2, hh.3, hh.4, hh.5, hh.6, hh.7, hh.8, hh.9⟩, rfl⟩, (by refine sb_ent ?_; (repeat (first | exact sb_refl | exact sb_nil | refine sb_fr ?_ | refine sb_pu rfl ?_ | refine sb_cons ?_ | refine sb_app ?_)))⟩
  · simp only [if_neg h1, decide_eq_false h1] at hst ⊢
    have hcf := fun (own' : Own) (m2 : MemC r (rdP x.addr o x.rv 3 bf vl false) own') => sp_rdConf (W0 := W0) (d := false) (cl_of m2 rfl)
    have hvl := fun (own' : Own) (m2 : MemC r (rdP x.addr o x.rv 3 bf vl false) own') => sp_rdVal (W0 := W0) (cl_of m2 rfl) (cl_of m2 rfl) (cl_of m2 rfl)
    have hq := hh.hn
    have hcn := fun (own' : Own) (m3 : EntC own' h'.nD) => sp_contains_int (W0 := W0) (own := own') (cap := h'.nc) ((hh.hn.rd (W0 := W0)).up) (by omega) x.addr
    have hsa := fun Q => sp_setAdd (W0 := W0) (b := h'.sb) (cap := c.reads) hh.hs (by omega) (orecM c x.addr) Q
    by_cases hs : x.addr ∈ x.seen
    · have hai : addI x.seen x.addr = x.seen := if_pos hs
      simp only [decide_eq_true hs] at hcn
      rw [hai]
      cases hA : addS c.reads x.set (orecM c x.addr) with
      | none =>
        simp only [hA, Option.isSome_none, Option.getD_none] at hsa ⊢
        repeat' ((try (conv => whnf)); first | (refine when_ye ?_ ?_; exact rfl) | (refine br_te ?_ ?_; exact rfl) | (refine br_fe ?_ ?_; exact rfl) | (apply when_pyE; (exact rfl); omega) | ((with_reducible show CallT _ _ _ _ _ _); first | ((refine call_pe (hdn _ _ inferInstance) ?_ ?_ ?_; (exact rfl); exact rfl)) | ((refine call_pe (hcf _ inferInstance) ?_ ?_ ?_; (exact rfl); exact rfl)) | ((refine call_sb (D := mh.O m) (hst _) ?_ ?_ ?_ (fun _ v hv => ?_); (exact rfl); (exact rfl); (exact rfl); (subst hv))) | ((refine call_sb (D := h'.sD) (hsa _) ?_ ?_ ?_ (fun y v hv => ?_); (exact rfl); (exact rfl); (exact rfl); (obtain ⟨a3, c3, D3⟩ := y; obtain ⟨rfl, hB3⟩ := hv; dsimp only at hB3))) | ((refine call_bk (sp_undo (h := { h' with rd := ptr r, ld := 3, us := fnv 97 [ptr ab] }) (c := c) (t := t) (x := x) (k := 3) 3 _) ?_ ?_ ?_ (fun _ v hv => ?_); (solve | exact rfl | (unfold atP; simp only [List.length_append]; rfl)); (exact rfl); (exact rfl); (subst hv)))) | ((with_reducible show CallQ _ _ _ _ _ _); first | ((refine call_qi (fun ex => hcn _ inferInstance) ?_ ?_ ?_; (exact rfl); (exact rfl))) | ((refine call_qi (fun ex => sp_orec W0 _ c x.addr) ?_ ?_ ?_; (exact rfl); (exact rfl)))) | (refine ari ?_ ?_; omega) | (apply ld_o; exact rfl) | (apply ldN_a; exact rfl) | (apply ldN_o; (exact rfl); exact rfl) | (apply st_o; (exact rfl); exact rfl) | (apply stN_o; (exact rfl); (exact rfl); exact rfl) | (refine new_i (fun bk hbk => ?_)) | (refine Both.mk ?_ ?_))
        all_goals exact ⟨({ h' with rd := ptr r, ld := 3, us := fnv 97 [ptr ab], sa := a3, sc := c3, sD := D3 }, []), ⟨rfl, rfl, ⟨hB3, hh.2, hh.3, hh.4, hh.5, hh.6, hh.7, hh.8, hh.9⟩, rfl⟩, (by refine sb_ent ?_; (repeat (first | exact sb_refl | exact sb_nil | refine sb_fr ?_ | refine sb_pu rfl ?_ | refine sb_cons ?_ | refine sb_app ?_)))⟩
      | some s =>
        have hsl := addS_len hA
        simp only [hA, Option.isSome_some, Option.getD_some] at hsa ⊢
        repeat' ((try (conv => whnf)); first | (refine when_ye ?_ ?_; exact rfl) | (refine br_fe ?_ ?_; exact rfl) | (apply when_pyE; (exact rfl); omega) | (refine CallV.mk ⟨ok_r2, ?_⟩) | ((with_reducible show CallT _ _ _ _ _ _); first | ((refine call_pe (hdn _ _ inferInstance) ?_ ?_ ?_; (exact rfl); exact rfl)) | ((refine call_pe (hcf _ inferInstance) ?_ ?_ ?_; (exact rfl); exact rfl)) | ((refine call_sb (D := mh.O m) (hst _) ?_ ?_ ?_ (fun _ v hv => ?_); (exact rfl); (exact rfl); (exact rfl); (subst hv))) | ((refine call_sb (D := h'.sD) (hsa _) ?_ ?_ ?_ (fun y v hv => ?_); (exact rfl); (exact rfl); (exact rfl); (obtain ⟨a3, c3, D3⟩ := y; obtain ⟨rfl, hB3⟩ := hv; dsimp only at hB3))) | ((refine call_sb (b := h'.b) (D := [(ab, abP h'.b)]) (sp_read2c (h := { h' with rd := ptr r, ld := 3, us := fnv 97 [ptr ab] }) (c := c) (t := t) (x := x) (k := 0) vl _) ?_ ?_ ?_ (fun _ v hv => ?_); (solve | exact rfl | (unfold atP; simp only [List.length_append]; rfl)); (exact rfl); (exact rfl); (subst hv)))) | ((with_reducible show CallQ _ _ _ _ _ _); first | ((refine call_qi (fun ex => hcn _ inferInstance) ?_ ?_ ?_; (exact rfl); (exact rfl))) | ((refine call_qi (fun ex => sp_orec W0 _ c x.addr) ?_ ?_ ?_; (exact rfl); (exact rfl))) | ((refine call_qi (fun ex => hvl _ inferInstance) ?_ ?_ ?_; (exact rfl); (exact rfl)))) | (refine ari ?_ ?_; omega) | (apply ld_o; exact rfl) | (apply ldN_a; exact rfl) | (apply ldN_o; (exact rfl); exact rfl) | (apply st_o; (exact rfl); exact rfl) | (apply stN_o; (exact rfl); (exact rfl); exact rfl) | (refine new_i (fun bk hbk => ?_)) | (refine Both.mk ?_ ?_))
        all_goals exact ⟨({ h' with rd := ptr r, ld := 3, us := fnv 97 [ptr ab], sa := a3, sc := c3, sD := D3 }, []), ⟨rfl, rfl, ⟨hB3, hh.2, hh.3, hh.4, by dsimp only; omega, hh.6, hh.7, hh.8, hh.9⟩, rfl⟩, (by refine sb_ent ?_; (repeat (first | exact sb_refl | exact sb_nil | refine sb_fr ?_ | refine sb_pu rfl ?_ | refine sb_cons ?_ | refine sb_app ?_)))⟩
    · have hai : addI x.seen x.addr = x.seen ++ [x.addr] := if_neg hs
      have hal := addI_len (l := x.seen) (a := x.addr)
      simp only [decide_eq_false hs] at hcn
      rw [hai] at hal ⊢
      cases hA : addS c.reads x.set (orecM c x.addr) with
      | none =>
        simp only [hA, Option.isSome_none, Option.getD_none] at hsa ⊢
        repeat' ((try (conv => whnf)); first | (refine when_ye ?_ ?_; exact rfl) | (refine br_te ?_ ?_; exact rfl) | (refine br_fe ?_ ?_; exact rfl) | (apply when_pyE; (exact rfl); omega) | (apply app_i (enc := encI) (T := 3) x.addr hq; (exact rfl); (exact rfl); (omega); (exact rfl); (exact rfl); (omega); intro a5 c5 D5 hb5) | ((with_reducible show CallT _ _ _ _ _ _); first | ((refine call_pe (hdn _ _ inferInstance) ?_ ?_ ?_; (exact rfl); exact rfl)) | ((refine call_pe (hcf _ inferInstance) ?_ ?_ ?_; (exact rfl); exact rfl)) | ((refine call_sb (D := mh.O m) (hst _) ?_ ?_ ?_ (fun _ v hv => ?_); (exact rfl); (exact rfl); (exact rfl); (subst hv))) | ((refine call_sb (D := h'.sD) (hsa _) ?_ ?_ ?_ (fun y v hv => ?_); (exact rfl); (exact rfl); (exact rfl); (obtain ⟨a3, c3, D3⟩ := y; obtain ⟨rfl, hB3⟩ := hv; dsimp only at hB3))) | ((refine call_bk (sp_undo (h := { h' with rd := ptr r, ld := 3, us := fnv 97 [ptr ab], na := a5, nc := c5, nD := D5 }) (c := c) (t := t) (x := { x with seen := x.seen ++ [x.addr] }) (k := 3) 3 _) ?_ ?_ ?_ (fun _ v hv => ?_); (solve | exact rfl | (unfold atP; simp only [List.length_append]; rfl)); (exact rfl); (exact rfl); (subst hv)))) | ((with_reducible show CallQ _ _ _ _ _ _); first | ((refine call_qi (fun ex => hcn _ inferInstance) ?_ ?_ ?_; (exact rfl); (exact rfl))) | ((refine call_qi (fun ex => sp_orec W0 _ c x.addr) ?_ ?_ ?_; (exact rfl); (exact rfl)))) | (refine ari ?_ ?_; omega) | (apply ld_o; exact rfl) | (apply ldN_a; exact rfl) | (apply ldN_o; (exact rfl); exact rfl) | (apply st_o; (exact rfl); exact rfl) | (apply stN_o; (exact rfl); (exact rfl); exact rfl) | (refine new_i (fun bk hbk => ?_)) | (refine Both.mk ?_ ?_))
        all_goals exact ⟨({ h' with rd := ptr r, ld := 3, us := fnv 97 [ptr ab], na := a5, nc := c5, nD := D5, sa := a3, sc := c3, sD := D3 }, []), ⟨rfl, rfl, ⟨hB3, hb5, hh.3, hh.4, hh.5, by show (x.seen ++ [x.addr]).length ≤ 100000; omega, hh.7, hh.8, hh.9⟩, rfl⟩, (by refine sb_ent ?_; (repeat (first | exact sb_refl | exact sb_nil | refine sb_fr ?_ | refine sb_pu rfl ?_ | refine sb_cons ?_ | refine sb_app ?_)))⟩
      | some s =>
        have hsl := addS_len hA
        simp only [hA, Option.isSome_some, Option.getD_some] at hsa ⊢
        repeat' ((try (conv => whnf)); first | (refine when_ye ?_ ?_; exact rfl) | (refine br_te ?_ ?_; exact rfl) | (refine br_fe ?_ ?_; exact rfl) | (apply when_pyE; (exact rfl); omega) | (apply app_i (enc := encI) (T := 3) x.addr hq; (exact rfl); (exact rfl); (omega); (exact rfl); (exact rfl); (omega); intro a5 c5 D5 hb5) | (refine CallV.mk ⟨ok_r2, ?_⟩) | ((with_reducible show CallT _ _ _ _ _ _); first | ((refine call_pe (hdn _ _ inferInstance) ?_ ?_ ?_; (exact rfl); exact rfl)) | ((refine call_pe (hcf _ inferInstance) ?_ ?_ ?_; (exact rfl); exact rfl)) | ((refine call_sb (D := mh.O m) (hst _) ?_ ?_ ?_ (fun _ v hv => ?_); (exact rfl); (exact rfl); (exact rfl); (subst hv))) | ((refine call_sb (D := h'.sD) (hsa _) ?_ ?_ ?_ (fun y v hv => ?_); (exact rfl); (exact rfl); (exact rfl); (obtain ⟨a3, c3, D3⟩ := y; obtain ⟨rfl, hB3⟩ := hv; dsimp only at hB3))) | ((refine call_sb (b := h'.b) (D := [(ab, abP h'.b)]) (sp_read2c (h := { h' with rd := ptr r, ld := 3, us := fnv 97 [ptr ab], na := a5, nc := c5, nD := D5 }) (c := c) (t := t) (x := { x with seen := x.seen ++ [x.addr] }) (k := 0) vl _) ?_ ?_ ?_ (fun _ v hv => ?_); (solve | exact rfl | (unfold atP; simp only [List.length_append]; rfl)); (exact rfl); (exact rfl); (subst hv)))) | ((with_reducible show CallQ _ _ _ _ _ _); first | ((refine call_qi (fun ex => hcn _ inferInstance) ?_ ?_ ?_; (exact rfl); (exact rfl))) | ((refine call_qi (fun ex => sp_orec W0 _ c x.addr) ?_ ?_ ?_; (exact rfl); (exact rfl))) | ((refine call_qi (fun ex => hvl _ inferInstance) ?_ ?_ ?_; (exact rfl); (exact rfl)))) | (refine ari ?_ ?_; omega) | (apply ld_o; exact rfl) | (apply ldN_a; exact rfl) | (apply ldN_o; (exact rfl); exact rfl) | (apply st_o; (exact rfl); exact rfl) | (apply stN_o; (exact rfl); (exact rfl); exact rfl) | (refine new_i (fun bk hbk => ?_)) | (refine Both.mk ?_ ?_))
        all_goals exact ⟨({ h' with rd := ptr r, ld := 3, us := fnv 97 [ptr ab], na := a5, nc := c5, nD := D5, sa := a3, sc := c3, sD := D3 }, []), ⟨rfl, rfl, ⟨hB3, hb5, hh.3, hh.4, by dsimp only; omega, by dsimp only; omega, hh.7, hh.8, hh.9⟩, rfl⟩, (by refine sb_ent ?_; (repeat (first | exact sb_refl | exact sb_nil | refine sb_fr ?_ | refine sb_pu rfl ?_ | refine sb_cons ?_ | refine sb_app ?_)))⟩
end
end Go.Proofs.YtllddgdmmfmpkaaGreatDoor
