/- What the laws share, part 27. No condition. -/
import Derived.Test.YtfompmhncnkcfaaGreatDoorW26
namespace Go.Proofs.YtfompmhncnkcfaaGreatDoor
open Go
set_option maxRecDepth 10000
set_option maxHeartbeats 16000000
section
variable {W0 : World} {Kp K : Own} {g : DP} {c : Cfg} {ps : List PH} {s : GS}
theorem sp_rtx {t : Nat} {th : Thr} {ph : PH} (hT : ThOk c ps s t th ph) (h : g.ok W0 Kp ps s) (hp : checkP ph.p = (0, 0)) {x0 : Ins} (hx0 : ph.p[th.pc]? = some x0) (h7 : x0.op = 7) (hst : stB ph.p th.pc < 0) (htk : s.tk.length = (blocksM c).toNat) (f : Int) {aa : Option Addr} {ad : List Int} {ac : Nat} (hA : RdE encI 1 W0 K aa ad) (hal : ad.length ≤ ac) (had : ∀ a ∈ ad, a ≤ 9223372036854775807) (q : Own) [ek : EntC q Kp] [ek2 : EntC q K] :
    Spec Tryz.prog W0 43 [.pointer (some ⟨g.rb, 0, none⟩), chV t f aa ad.length ac] (g.O c ps.length s ++ q) (TxP W0 Kp g c ps s t th ph f ad q) := by
  by_cases hf : f = 0
  · subst hf
    exact sp_rtx0 hT h hp hx0 h7 hst htk hA hal had q
  · exact sp_rtxf hT h hp hx0 h7 hst hf q
theorem ent_rdo1 {W0 : World} {e b : Nat × (Obj → Prop)} {G q : Own} : Ent W0 (e :: (b :: (G ++ q))) (G ++ ([e, b] ++ q)) := ent_cnt [] fun a => by simp only [cnt_app, cnt_cons, cnt_nil]; omega
theorem ent_rdo2 {W0 : World} {e b : Nat × (Obj → Prop)} {G q : Own} : Ent W0 (G ++ ([e, b] ++ q)) (G ++ q) := ent_cnt [e, b] fun a => by simp only [cnt_app, cnt_cons, cnt_nil]; omega
theorem sp_rdo (h : g.ok W0 Kp ps s) (hG : GOk c (ps.map PH.p) s) (hn : s.n ≤ 5000) (t f : Int) {aa : Option Addr} {ad : List Int} {ac : Nat} (hA : RdE encI 1 W0 K aa ad) (hal : ad.length ≤ ac) (had : ∀ a ∈ ad, a ≤ 9223372036854775807) (q : Own) [ek : EntC q Kp] [ek2 : EntC q K] :
    Spec Tryz.prog W0 15 [.pointer (some ⟨g.rb, 0, none⟩), chV t f aa ad.length ac] (g.O c ps.length s ++ q) fun v own' => ∃ g' : DP,
      (v = .int .i64 (doM c (ps.map PH.p) s ⟨t, f, ad⟩).1 ∧ g'.ok W0 Kp ps (doM c (ps.map PH.p) s ⟨t, f, ad⟩).2 ∧ g'.rb = g.rb) ∧ Ent W0 own' (g'.O c ps.length (doM c (ps.map PH.p) s ⟨t, f, ad⟩).2 ++ q) := by
  refine spec_of mixed low_ref22_Global_Do (by simp [ir_ref22_Global_Do]) ?_
  have hTR := h.t.rd (W0 := W0)
  by_cases hr : t < 0 ∨ (s.T.length : Int) ≤ t ∨ ∃ (j : Nat) (th : Thr), t = j ∧ s.T[j]? = some th ∧ th.dn = true
  · have hd : doM c (ps.map PH.p) s ⟨t, f, ad⟩ = (70, s) := by
      unfold doM chM
      rcases hr with hr | hr | ⟨j, th, rfl, hth, hdn⟩
      · rw [if_pos hr]
      · by_cases h0 : t < 0
        · rw [if_pos h0]
        · rw [if_neg h0, List.getElem?_eq_none (by show s.T.length ≤ t.toNat; omega)]
      · rw [if_neg (by show ¬ ((j : Nat) : Int) < 0; omega)]
        simp only [Int.toNat_natCast, hth]
        cases hp : (ps.map PH.p)[j]? with
        | none => rfl
        | some p => simp only [hdn, if_true]
    rw [hd]
    rcases hr with ht | ht | ⟨j, th, rfl, hth, hdn⟩
    · repeat' ((try (conv => whnf)); first | (refine when_ne ?_ ?_; exact rfl) | (refine br_te ?_ ?_; exact rfl) | (apply when_pyE; (exact rfl); omega) | (apply ld_o; exact rfl) | (refine new_i (fun bk hbk => ?_)))
      all_goals exact ⟨g, ⟨rfl, h, rfl⟩, (by first | exact ent_i | (repeat (first | exact Ent.refl | exact Ent.left | refine Ent.cons ?_ | refine Ent.app ?_)))⟩
    · by_cases h0 : t < 0
      all_goals
        repeat' ((try (conv => whnf)); first | (refine when_ye ?_ ?_; exact rfl) | (refine when_ne ?_ ?_; exact rfl) | (refine br_te ?_ ?_; exact rfl) | (apply when_pyE; (exact rfl); omega) | (apply when_pnE; (exact rfl); omega) | (apply ld_o; exact rfl) | (refine new_i (fun bk hbk => ?_)))
        all_goals exact ⟨g, ⟨rfl, h, rfl⟩, (by first | exact ent_i | (repeat (first | exact Ent.refl | exact Ent.left | refine Ent.cons ?_ | refine Ent.app ?_)))⟩
    · have htl := (List.getElem?_eq_some_iff.1 hth).1
      obtain ⟨pc, rg, oc, dn⟩ := th
      dsimp only at hdn
      subst hdn
      repeat' ((try (conv => whnf)); first | (refine when_ye ?_ ?_; exact rfl) | (refine br_te ?_ ?_; exact rfl) | (apply when_pnE; (exact rfl); omega) | ((with_reducible show Ld _ _ _ _); first | (refine ldEk hTR hth rfl ?_)) | ((with_reducible show IxS _ _ _ _ _); first | ((refine ixE hTR hth ?_ ?_; (first | rfl | omega)))) | (apply ld_o; exact rfl) | (refine new_i (fun bk hbk => ?_)))
      all_goals exact ⟨g, ⟨rfl, h, rfl⟩, (by first | exact ent_i | (repeat (first | exact Ent.refl | exact Ent.left | refine Ent.cons ?_ | refine Ent.app ?_)))⟩
  · have ht0 : 0 ≤ t ∧ t < s.T.length := ⟨by omega, by omega⟩
    obtain ⟨j, rfl⟩ := Int.eq_ofNat_of_zero_le ht0.1
    have hjl : j < s.T.length := by omega
    obtain ⟨th, hth⟩ : ∃ th, s.T[j]? = some th := ⟨_, List.getElem?_eq_getElem hjl⟩
    have htl := hG.tl
    rw [List.length_map] at htl
    obtain ⟨ph, hph⟩ : ∃ ph, ps[j]? = some ph := ⟨_, List.getElem?_eq_getElem (by omega)⟩
    have hpp := ps_get hph
    have hpv := hG.pv ph.p (List.mem_of_getElem? hpp)
    obtain ⟨hrg, hpc, hst, hdn, hoc⟩ := hG.th j th ph.p hth hpp
    have hdf : th.dn = false := by
      cases hd : th.dn with
      | false => rfl
      | true => exact absurd (.inr (.inr ⟨j, th, rfl, hth, hd⟩)) hr
    have hpcl : th.pc < ph.p.length := by
      rw [hdf] at hdn
      have := of_decide_eq_false hdn.symm
      omega
    obtain ⟨x, hx⟩ : ∃ x, ph.p[th.pc]? = some x := ⟨_, List.getElem?_eq_getElem hpcl⟩
    have hpl := ck_len hpv
    have hxi := out_op hpv hx hst
    have hT : ThOk c ps s j th ph := ⟨hth, hph, hG.c0, hrg, hG.dl, hG.dr, by rw [hG.ol, hG.tl], fun l hl => by have := hG.ob l hl; omega, by have := hG.el; omega⟩
    have hd : doM c (ps.map PH.p) s ⟨j, f, ad⟩ = match (if x.op = 7 then txM c ph.p s th j f ad else if ad = [] then sgM c ph.p s th j f x else none) with
      | some s' => (0, { s' with n := s.n + 1 })
      | none => (70, s) := by
      unfold doM chM
      rw [if_neg (by show ¬ ((j : Nat) : Int) < 0; omega)]
      simp only [Int.toNat_natCast, hth, hpp, hdf, Bool.false_eq_true, if_false, hx]
      cases (if x.op = 7 then txM c ph.p s th j f ad else if ad = [] then sgM c ph.p s th j f x else none) <;> rfl
    rw [hd]
    clear hd
    have hPR := h.kp ph (List.mem_of_getElem? hph)
    have hKK := h.k
    have e1 : ((s.n + 1 : Nat) : Int) = (s.n : Int) + 1 := by omega
    have hfin : ∀ (y : GS × DP × Thr), y.2.1.ok W0 Kp ps y.1 → y.1.T[j]? = some y.2.2 → ∀ D, BufE Thr.enc 66 11 y.2.1.ta y.2.1.tc (y.1.T.set j { y.2.2 with dn := decide (y.2.2.pc = ph.p.length) }) D → ({ y.2.1 with tD := D } : DP).ok W0 Kp ps { (exS y.1 j ph.p.length y.2.2) with n := s.n + 1 } := fun y hk _ D hD =>
      ⟨hk.d, hk.m, hk.k, hk.kp, hD, hk.e, hk.em, hk.ev, hk.o, hk.os, hk.ol⟩
    by_cases h7 : x.op = 7
    · rw [if_pos h7]
      have hbe := fun (b1 b2 : Nat) => sp_rtx (c := c) hT h hpv hx h7 hst hG.kl f hA hal had ([(b2, fun o => o = Obj.cells x.enc.toArray 69 (0, 0)), ChB b1 j f aa ad.length ac] ++ q)
      generalize ho : txM c ph.p s th j f ad = o
      obtain ⟨pc, rg, oc, dn⟩ := th
      dsimp only at hdf hx hpcl hpc
      subst hdf
      obtain ⟨op, a, b', c', imm⟩ := x
      dsimp only [Ins.v] at *
      subst h7
      repeat' ((try (conv => whnf)); first | (refine new_i (fun b1 hb1 => ?_); (apply Stop.h)))
      refine Stop.mk ?_
      repeat' ((try (conv => whnf)); first | (refine when_ye ?_ ?_; exact rfl) | (refine br_te ?_ ?_; exact rfl) | (refine br_fe ?_ ?_; exact rfl) | (apply when_pnE; (exact rfl); omega) | (refine new_i (fun b2 hb2 => ?_)) | ((with_reducible show Ld _ _ _ _); first | (refine ldE0 hTR hth rfl ?_) | (refine ldEk hTR hth rfl ?_) | (refine ldE0 hKK hph rfl ?_)) | ((with_reducible show IxS _ _ _ _ _); first | ((refine ixE hTR hth ?_ ?_; (first | rfl | omega))) | ((refine ixE hKK hph ?_ ?_; (first | rfl | omega))) | ((refine ixE hPR hx ?_ ?_; (first | rfl | omega)))) | ((with_reducible show LdN _ _ _ _ _); first | (refine ldNEi hPR hx rfl ?_)) | ((with_reducible show CallT _ _ _ _ _ _); first | ((refine call_or (hbe b1 b2) ?_ ?_ ?_ (fun v hv => ?_) (fun y v hv => ?_); (exact ent_rdo1); (exact rfl); (exact rfl); all_goals (apply Stop.h)))) | (apply ld_o; exact rfl) | (apply ldN_a; exact rfl) | (apply stN_o; (exact rfl); (exact rfl); exact rfl))
      · obtain ⟨rfl, hv2⟩ := hv
        rw [ho] at hv2
        subst hv2
        refine Stop.mk ?_
        repeat' ((try (conv => whnf)); first | (refine br_te ?_ ?_; exact rfl))
        exact ⟨g, ⟨rfl, h, rfl⟩, ent_rdo2⟩
      · obtain ⟨rfl, hth1, hv2, hn1, hk1, hrb1⟩ := hv
        rw [ho] at hv2
        subst hv2
        have hT1 := hk1.t
        have hTR1 := hT1.rd (W0 := W0)
        have hKK1 := hk1.k
        have hfn := hfin y hk1 hth1
        have hdd : decide ((y.2.2.pc : Int) = ph.p.length) = decide (y.2.2.pc = ph.p.length) := dd (by omega)
        rw [← hrb1]
        refine Stop.mk ?_
        repeat' ((try (conv => whnf)); first | (refine br_fe ?_ ?_; exact rfl) | (apply stE_i (enc := Thr.enc) (T := 66) (j := j) (k := 10) { y.2.2 with dn := decide (y.2.2.pc = ph.p.length) } hT1 hth1; (exact rfl); (omega); (rw [hdd]; exact rfl); (exact rfl); intro D2 hb2) | ((with_reducible show Ld _ _ _ _); first | (refine ldE0 hTR1 hth1 rfl ?_) | (refine ldE0 hKK1 hph rfl ?_)) | ((with_reducible show IxS _ _ _ _ _); first | ((refine ixE hTR1 hth1 ?_ ?_; (first | rfl | omega))) | ((refine ixE hKK1 hph ?_ ?_; (first | rfl | omega)))) | (refine ari ?_ ?_; omega) | (apply ld_o; exact rfl) | (apply st_o; (exact rfl); exact rfl))
        all_goals
          refine ⟨{ y.2.1 with tD := D2 }, ⟨rfl, hfn D2 hb2, rfl⟩, ?_⟩
          dsimp only [DP.O, DP.cells, exS]
          rw [List.length_set, e1, ← hn1]
          exact ent_rdo2
    · rw [if_neg h7]
      by_cases had0 : ad = []
      · rw [if_pos had0]
        have hl : (ad.length : Int) = 0 := by rw [had0]; rfl
        have hsi := fun (b1 b2 : Nat) => sp_rsingle (c := c) hT h hxi.1 (by omega) ⟨hpcl, hpl⟩ f aa ad.length ac ([(b2, fun o => o = Obj.cells x.enc.toArray 69 (0, 0)), ChB b1 j f aa ad.length ac] ++ q)
        generalize sgM c ph.p s th j f x = o at *
        obtain ⟨pc, rg, oc, dn⟩ := th
        dsimp only at hdf hx hpcl hpc
        subst hdf
        obtain ⟨op, a, b', c', imm⟩ := x
        dsimp only [Ins.v] at *
        repeat' ((try (conv => whnf)); first | (refine new_i (fun b1 hb1 => ?_); (apply Stop.h)))
        refine Stop.mk ?_
        repeat' ((try (conv => whnf)); first | (refine when_ye ?_ ?_; exact rfl) | (refine br_fe ?_ ?_; exact rfl) | (apply br_pnE; (exact rfl); omega) | (apply when_pyE; (exact rfl); omega) | (apply when_pnE; (exact rfl); omega) | (refine new_i (fun b2 hb2 => ?_)) | ((with_reducible show Ld _ _ _ _); first | (refine ldE0 hTR hth rfl ?_) | (refine ldEk hTR hth rfl ?_) | (refine ldE0 hKK hph rfl ?_)) | ((with_reducible show IxS _ _ _ _ _); first | ((refine ixE hTR hth ?_ ?_; (first | rfl | omega))) | ((refine ixE hKK hph ?_ ?_; (first | rfl | omega))) | ((refine ixE hPR hx ?_ ?_; (first | rfl | omega)))) | ((with_reducible show LdN _ _ _ _ _); first | (refine ldNEi hPR hx rfl ?_)) | ((with_reducible show CallT _ _ _ _ _ _); first | ((refine call_or (hsi b1 b2) ?_ ?_ ?_ (fun v hv => ?_) (fun y v hv => ?_); (exact ent_rdo1); (exact rfl); (exact rfl); all_goals (apply Stop.h)))) | (apply ld_o; exact rfl) | (apply ldN_a; exact rfl) | (apply stN_o; (exact rfl); (exact rfl); exact rfl))
        · obtain ⟨rfl, rfl⟩ := hv
          refine Stop.mk ?_
          repeat' ((try (conv => whnf)); first | (refine br_te ?_ ?_; exact rfl))
          exact ⟨g, ⟨rfl, h, rfl⟩, ent_rdo2⟩
        · obtain ⟨rfl, hth1, rfl, hn1, hk1, hrb1⟩ := hv
          have hT1 := hk1.t
          have hTR1 := hT1.rd (W0 := W0)
          have hKK1 := hk1.k
          have hfn := hfin y hk1 hth1
          have hdd : decide ((y.2.2.pc : Int) = ph.p.length) = decide (y.2.2.pc = ph.p.length) := dd (by omega)
          rw [← hrb1]
          refine Stop.mk ?_
          repeat' ((try (conv => whnf)); first | (refine br_fe ?_ ?_; exact rfl) | (apply stE_i (enc := Thr.enc) (T := 66) (j := j) (k := 10) { y.2.2 with dn := decide (y.2.2.pc = ph.p.length) } hT1 hth1; (exact rfl); (omega); (rw [hdd]; exact rfl); (exact rfl); intro D2 hb2) | ((with_reducible show Ld _ _ _ _); first | (refine ldE0 hTR1 hth1 rfl ?_) | (refine ldE0 hKK1 hph rfl ?_)) | ((with_reducible show IxS _ _ _ _ _); first | ((refine ixE hTR1 hth1 ?_ ?_; (first | rfl | omega))) | ((refine ixE hKK1 hph ?_ ?_; (first | rfl | omega)))) | (refine ari ?_ ?_; omega) | (apply ld_o; exact rfl) | (apply st_o; (exact rfl); exact rfl))
          all_goals
            refine ⟨{ y.2.1 with tD := D2 }, ⟨rfl, hfn D2 hb2, rfl⟩, ?_⟩
            dsimp only [DP.O, DP.cells, exS]
            rw [List.length_set, e1, ← hn1]
            exact ent_rdo2
      · rw [if_neg had0]
        have hl : ¬ (ad.length : Int) = 0 := fun e => had0 (List.eq_nil_of_length_eq_zero (by omega))
        obtain ⟨pc, rg, oc, dn⟩ := th
        dsimp only at hdf hx hpcl hpc
        subst hdf
        obtain ⟨op, a, b', c', imm⟩ := x
        dsimp only [Ins.v] at *
        repeat' ((try (conv => whnf)); first | (refine when_ye ?_ ?_; exact rfl) | (refine when_ne ?_ ?_; exact rfl) | (refine br_te ?_ ?_; exact rfl) | (refine br_fe ?_ ?_; exact rfl) | (apply br_pnE; (exact rfl); omega) | (apply when_pnE; (exact rfl); omega) | ((with_reducible show Ld _ _ _ _); first | (refine ldE0 hTR hth rfl ?_) | (refine ldEk hTR hth rfl ?_) | (refine ldE0 hKK hph rfl ?_)) | ((with_reducible show IxS _ _ _ _ _); first | ((refine ixE hTR hth ?_ ?_; (first | rfl | omega))) | ((refine ixE hKK hph ?_ ?_; (first | rfl | omega))) | ((refine ixE hPR hx ?_ ?_; (first | rfl | omega)))) | ((with_reducible show LdN _ _ _ _ _); first | (refine ldNEi hPR hx rfl ?_)) | (apply ld_o; exact rfl) | (apply stN_o; (exact rfl); (exact rfl); exact rfl) | (refine new_i (fun bk hbk => ?_)))
        exact ⟨g, ⟨rfl, h, rfl⟩, (by first | exact ent_i | (repeat (first | exact Ent.refl | exact Ent.left | refine Ent.cons ?_ | refine Ent.app ?_)))⟩
end
end Go.Proofs.YtfompmhncnkcfaaGreatDoor
namespace Go.Proofs.YtfompmhncnkcfaaGreatDoor
open Go
set_option maxRecDepth 10000
set_option maxHeartbeats 8000000
section
variable {W0 : World} {own : Own}
theorem ent_te {bk b5 : Nat × (Obj → Prop)} {D3 D4 D5 X Z : Own} : Ent W0 (bk :: (D4 ++ (D3 ++ (b5 :: (D5 ++ (X ++ Z)))))) (D5 ++ ((D3 ++ (D4 ++ X)) ++ Z)) := ent_cnt [bk, b5] fun a => by simp only [cnt_app, cnt_cons, cnt_nil]; omega
theorem sp_twinEvents {ea : Option Addr} {L : List EH} {ec : Nat} (hE : RdE EH.enc 6 W0 own ea L) (hl : L.length ≤ 1000000) (hv : ∀ e ∈ L, (RdE encI 1 W0 own e.ra e.rl ∧ RdE encI 1 W0 own e.wa e.wl) ∧ e.rl.length ≤ 1000000 ∧ e.wl.length ≤ 1000000) :
    Spec Tryz.prog W0 48 [.slice ea L.length ec] own fun v own' => ∃ y : List EH × Own × Option Addr × Nat × Own,
      (v = .slice y.2.2.1 y.1.length y.2.2.2.1 ∧ y.1.map EH.m = L.map EH.m ∧ BufE EH.enc 75 6 y.2.2.1 y.2.2.2.1 y.1 y.2.2.2.2 ∧ ∀ e ∈ y.1, RdE encI 1 W0 y.2.1 e.ra e.rl ∧ RdE encI 1 W0 y.2.1 e.wa e.wl) ∧ Ent W0 own' (y.2.2.2.2 ++ (y.2.1 ++ own)) := by
  refine spec_of mixed low_kit_TwinEvents (by simp [ir_kit_TwinEvents]) ?_
  skip
  refine loop_i (σ := Nat × List EH × Own × Option Addr × Nat × Own) (fun y => [(3, .slice y.2.2.2.1 y.2.1.length y.2.2.2.2.1), (4, .int .i64 y.1)])
    (fun y => y.2.2.2.2.2 ++ (y.2.2.1 ++ own))
    (fun y => y.1 ≤ L.length ∧ y.2.1.map EH.m = (L.take y.1).map EH.m ∧ BufE EH.enc 75 6 y.2.2.2.1 y.2.2.2.2.1 y.2.1 y.2.2.2.2.2 ∧ ∀ e ∈ y.2.1, RdE encI 1 W0 y.2.2.1 e.ra e.rl ∧ RdE encI 1 W0 y.2.2.1 e.wa e.wl)
    (fun y => L.length - y.1) (0, [], [], none, 0, []) ⟨Nat.zero_le _, rfl, BufE.nil, fun _ h => by cases h⟩ (by repeat' (first | exact True.intro | refine And.intro ?_ ?_ | exact rfl | exact vi (by omega) | (dsimp only; exact rfl) | (dsimp only; exact vi (by omega)))) Ent.refl rfl ?_
  rintro ⟨i, L', X', a', c', eD⟩ junk ⟨hi, hm, hB, hX⟩
  dsimp only at hi hm hB hX ⊢
  have hll := len_m hm hi
  by_cases hil : i < L.length
  · obtain ⟨e, hx⟩ : ∃ e, L[i]? = some e := ⟨_, List.getElem?_eq_getElem hil⟩
    have hem := List.mem_of_getElem? hx
    obtain ⟨⟨hvr, hvw⟩, hie⟩ := hv e hem
    obtain ⟨ev, et, ekk, ew, era, erl, erc, ewa, ewl, ewc⟩ := e
    dsimp only at hvr hvw hie
    have hcr := fun (own' : Own) [EntC own' own] => sp_twinInts (cap := erc) (RdE.up (own := own') hvr) (by omega)
    have hcw := fun (own' : Own) [EntC own' own] => sp_twinInts (cap := ewc) (RdE.up (own := own') hvw) (by omega)
    repeat' ((try (conv => whnf)); first | (apply br_pyE; (exact rfl); omega) | (refine new_i (fun b5 h5 => ?_); (apply Stop.h)) | ((with_reducible show IxS _ _ _ _ _); first | ((refine ixE hE hx ?_ ?_; (first | rfl | omega)))) | ((with_reducible show LdN _ _ _ _ _); first | (refine ldNEi hE hx rfl ?_)))
    refine Stop.mk ?_
    repeat' ((try (conv => whnf)); first | (apply app_i (enc := EH.enc) (T := 75) ⟨ev, et, ekk, ew, a3, erl, c3, a4, ewl, c4⟩ hB; (exact rfl); (exact rfl); (omega); (exact rfl); (exact rfl); (omega); intro a9 c9 D5 hb1) | ((with_reducible show CallT _ _ _ _ _ _); first | ((refine call_x (hcr _) ?_ ?_ (fun y v hv => ?_); (exact rfl); (exact rfl); (obtain ⟨a3, c3, D3⟩ := y; obtain ⟨rfl, hB3⟩ := hv; dsimp only at hB3))) | ((refine call_x (hcw _) ?_ ?_ (fun y v hv => ?_); (exact rfl); (exact rfl); (obtain ⟨a4, c4, D4⟩ := y; obtain ⟨rfl, hB4⟩ := hv; dsimp only at hB4)))) | (refine ari ?_ ?_; omega) | (apply ld_o; exact rfl) | (apply ldN_a; exact rfl) | (apply st_o; (exact rfl); exact rfl) | (apply stN_o; (exact rfl); (exact rfl); exact rfl) | (refine new_i (fun bk hbk => ?_)) | (refine Both.mk ?_ ?_))
    all_goals
      refine ⟨(i + 1, L' ++ [⟨ev, et, ekk, ew, a3, erl, c3, a4, ewl, c4⟩], D3 ++ (D4 ++ X'), a9, c9, D5), ⟨hil, take_m hm hx rfl, hb1, fun e he => ?_⟩, (by show L.length - (i + 1) < L.length - i; omega), ?_, ?_⟩
      · rcases List.mem_append.1 he with he | he
        · exact ⟨(hX e he).1.up, (hX e he).2.up⟩
        · rw [List.mem_singleton.1 he]
          exact ⟨RdE.up (hB3.rd (W0 := W0)), RdE.up (hB4.rd (W0 := W0))⟩
      · have hlen : (L' ++ [(⟨ev, et, ekk, ew, a3, erl, c3, a4, ewl, c4⟩ : EH)]).length = L'.length + 1 := by simp
        dsimp only
        rw [hlen]
        exact (by repeat' (first | exact True.intro | refine And.intro ?_ ?_ | exact rfl | exact vi (by omega) | (dsimp only; exact rfl) | (dsimp only; exact vi (by omega))))
      · exact ent_te
  · have hiN : i = L.length := by omega
    subst hiN
    rw [List.take_length] at hm
    repeat' ((try (conv => whnf)); first | (apply br_pnE; (exact rfl); omega))
    exact ⟨(L', X', a', c', eD), ⟨rfl, hm, hB, hX⟩, Ent.refl⟩
end
end Go.Proofs.YtfompmhncnkcfaaGreatDoor
namespace Go.Proofs.YtfompmhncnkcfaaGreatDoor
open Go
set_option maxRecDepth 10000
set_option maxHeartbeats 16000000
section
variable {W0 : World} {Kp : Own} {g : DP} {c : Cfg} {ps : List PH} {s : GS}
theorem ent_p1 {e b : Nat × (Obj → Prop)} {A B X Z : Own} : Ent W0 (e :: (B ++ (X ++ (A ++ (b :: Z))))) (b :: (e :: (A ++ (B ++ (X ++ Z))))) := ent_cnt [] fun a => by simp only [cnt_app, cnt_cons, cnt_nil]; omega
theorem ent_p2 {e b : Nat × (Obj → Prop)} {A B X Z : Own} : Ent W0 (B ++ (X ++ (e :: (A ++ (b :: Z))))) (b :: (e :: (A ++ (B ++ (X ++ Z))))) := ent_cnt [] fun a => by simp only [cnt_app, cnt_cons, cnt_nil]; omega
theorem ent_p3 {e b : Nat × (Obj → Prop)} {A B X Z : Own} : Ent W0 (B ++ (X ++ (A ++ (e :: (b :: Z))))) (b :: (e :: (A ++ (B ++ (X ++ Z))))) := ent_cnt [] fun a => by simp only [cnt_app, cnt_cons, cnt_nil]; omega
theorem ent_p4 {a b : Nat × (Obj → Prop)} {D4 D1 D2 X Z : Own} : Ent W0 (D4 ++ (a :: (b :: (D1 ++ (D2 ++ (X ++ Z)))))) (a :: (b :: (D1 ++ (D4 ++ (D2 ++ (X ++ ([] ++ ([] ++ Z)))))))) := ent_cnt [] fun a => by simp only [cnt_app, cnt_cons, cnt_nil]; omega
theorem buf0 {α : Type} {enc : α → List Value} {T : TypeId} {sz : Nat} {a : Option Addr} : BufE enc T sz a 0 [] [] := ⟨fun _ h => (by cases h), .inl ⟨rfl, rfl, rfl⟩⟩
theorem ent_p5 {bk b0 b2 b3 : Nat × (Obj → Prop)} {D1 D2 D4 D3 D5 X S Z : Own} : Ent W0 (bk :: (D3 ++ (b0 :: (b2 :: (b3 :: (D1 ++ (D4 ++ (D2 ++ (X ++ (D5 ++ (S ++ Z))))))))))) (b2 :: (b3 :: (D1 ++ (D4 ++ (D2 ++ (X ++ (D5 ++ ((S ++ D3) ++ Z)))))))) := ent_cnt [bk, b0] fun a => by simp only [cnt_app, cnt_cons, cnt_nil]; omega
theorem sp_rresult (h : g.ok W0 Kp ps s) (hd : s.d.length ≤ 500000) (hT : s.T.length ≤ 500000) (hE : s.E.length ≤ 500000) (hO : s.O.length ≤ 500000) (hOl : ∀ l ∈ s.O, l.length ≤ 500000) (hin : ∀ e ∈ s.E, e.r.length ≤ 500000 ∧ e.wl.length ≤ 500000) (q : Own) :
    Spec Tryz.prog W0 18 [.pointer (some ⟨g.rb, 0, none⟩)] (g.O c ps.length s ++ q) fun v own' => ∃ r : RG,
      (v = r.v s ∧ r.ok W0 s) ∧ Ent W0 own' (r.D ++ (g.O c ps.length s ++ q)) := by
  have hEl : g.L.length = s.E.length := by rw [← h.em, List.length_map]
  have hSl : g.S.length = s.O.length := by rw [← h.ol, List.length_map]
  have hOR := h.o.rd (W0 := W0)
  have hTR := h.t.rd (W0 := W0)
  refine spec_of mixed lowc_ref22_Global_Result (by simp [irc_ref22_Global_Result]) ?_
  have hcd := fun (own' : Own) [EntC own' g.dD] => sp_twinWords (cap := g.dc) (RdE.up (own := own') (h.d.rd (W0 := W0))) (by omega)
  have hce := fun (own' : Own) (e1 : EntC own' g.eD) (e2 : EntC own' g.X) => sp_twinEvents (ec := g.ec) (RdE.up (own := own') (h.e.rd (W0 := W0))) (by omega) (fun e he => ⟨⟨(h.ev e he).1.up, (h.ev e he).2.up⟩, by have := hin e.m (by rw [← h.em]; exact List.mem_map_of_mem he); unfold EH.m at this; dsimp only at this; omega⟩)
  repeat' ((try (conv => whnf)); first | (refine new_i (fun b2 h2 => ?_); (apply Stop.h)))
  refine Stop.mk ?_
  skip
  refine cut_i (σ := Nat × (Option Addr × Nat × Own) × (List EH × Own × Option Addr × Nat × Own)) 65512 (fun y => [(3, .pointer (some ⟨y.1, 0, none⟩))])
    (fun y => (b2, fun o => o = Obj.cells #[.slice none 0 0, .slice none 0 0, .slice none 0 0, .slice none 0 0] 52 (0, 0)) :: ((y.1, fun o => o = Obj.cells #[.slice y.2.1.1 s.d.length y.2.1.2.1, .slice none 0 0, .slice y.2.2.2.2.1 y.2.2.1.length y.2.2.2.2.2.1, .slice none 0 0] 52 (0, 0)) :: (y.2.1.2.2 ++ (y.2.2.2.2.2.2 ++ (y.2.2.2.1 ++ (g.O c ps.length s ++ q))))))
    (fun y => BufE encU 63 1 y.2.1.1 y.2.1.2.1 s.d y.2.1.2.2 ∧ y.2.2.1.map EH.m = g.L.map EH.m ∧ BufE EH.enc 75 6 y.2.2.2.2.1 y.2.2.2.2.2.1 y.2.2.1 y.2.2.2.2.2.2 ∧ ∀ e ∈ y.2.2.1, RdE encI 1 W0 y.2.2.2.1 e.ra e.rl ∧ RdE encI 1 W0 y.2.2.2.1 e.wa e.wl) rfl ?_ ?_
  · repeat' ((try (conv => whnf)); first | (refine new_i (fun b3 h3 => ?_)) | ((with_reducible show CallT _ _ _ _ _ _); first | ((refine call_x (hcd _) ?_ ?_ (fun y v hv => ?_); (exact rfl); (exact rfl); (obtain ⟨a1, c1, D1⟩ := y; obtain ⟨rfl, hB⟩ := hv; dsimp only at hB))) | ((refine call_x (hce _ inferInstance inferInstance) ?_ ?_ (fun y v hv => ?_); (exact rfl); (exact rfl); (obtain ⟨L2, X2, a2, c2, D2⟩ := y; obtain ⟨rfl, hm2, hB2, hX2⟩ := hv; dsimp only at hm2 hB2 hX2)))) | (apply ld_o; exact rfl) | (apply stN_o; (exact rfl); (exact rfl); exact rfl) | (refine Both.mk ?_ ?_))
    all_goals
      refine ⟨(b3, (a1, c1, D1), (L2, X2, a2, c2, D2)), ⟨hB, hm2, hB2, hX2⟩, (by repeat' (first | exact True.intro | refine And.intro ?_ ?_ | exact rfl | exact vi (by omega) | (dsimp only; exact rfl) | (dsimp only; exact vi (by omega)))), ?_⟩
      first | exact ent_p1 | exact ent_p2 | exact ent_p3
  · rintro ⟨b3, ⟨a1, c1, D1⟩, ⟨L2, X2, a2, c2, D2⟩⟩ junk ⟨hB1, hm2, hB2, hX2⟩
    dsimp only at hB1 hm2 hB2 hX2 ⊢
    repeat' ((try (conv => whnf)); first | (refine app_c (enc := Thr.enc) (l := []) (l2 := s.T) BufE.nil (At.head (D := []) (r := _)) (RdE.up hTR) rfl rfl (by omega) (fun _ _ => rfl) (fun _ => by simp; omega) (fun a4 c4 D4 hb4 => ?_); (rw [List.length_nil, Nat.zero_add s.T.length]); (apply Stop.h)) | (apply ld_o; exact rfl))
    rw [List.nil_append] at hb4
    refine Stop.mk ?_
    repeat' ((try (conv => whnf)); first | (apply st_o; (exact rfl); exact rfl))
    refine loop_i (σ := Nat × List ObS × Option Addr × Nat × Own) (fun y => [(4, .int .i64 y.1)])
      (fun y => (b2, fun o => o = Obj.cells #[.slice none 0 0, .slice none 0 0, .slice none 0 0, .slice none 0 0] 52 (0, 0)) :: ((b3, fun o => o = Obj.cells #[.slice a1 s.d.length c1, .slice a4 s.T.length c4, .slice a2 L2.length c2, .slice y.2.2.1 y.2.1.length y.2.2.2.1] 52 (0, 0)) :: (D1 ++ (D4 ++ (D2 ++ (X2 ++ (y.2.2.2.2 ++ (ownS y.2.1 ++ (g.O c ps.length s ++ q)))))))))
      (fun y => y.1 ≤ g.S.length ∧ y.2.1.map ObS.l = (g.S.take y.1).map ObS.l ∧ BufE ObS.enc 72 1 y.2.2.1 y.2.2.2.1 y.2.1 y.2.2.2.2 ∧ ∀ x ∈ y.2.1, BufE ObM.enc 106 3 x.a x.cap x.l x.D)
      (fun y => g.S.length - y.1) (0, [], none, 0, []) ⟨Nat.zero_le _, rfl, BufE.nil, fun _ h => by cases h⟩ (by repeat' (first | exact True.intro | refine And.intro ?_ ?_ | exact rfl | exact vi (by omega) | (dsimp only; exact rfl) | (dsimp only; exact vi (by omega)))) ?_ rfl ?_
    · exact ent_p4
    · rintro ⟨j, S', oa, oc, oD⟩ junk ⟨hj, hmS, hBS, hSS⟩
      dsimp only at hj hmS hBS hSS ⊢
      have hllS := len_m hmS hj
      by_cases hjl : j < g.S.length
      · obtain ⟨x, hx⟩ : ∃ x, g.S[j]? = some x := ⟨_, List.getElem?_eq_getElem hjl⟩
        have hxm := List.mem_of_getElem? hx
        have hxB := (h.os x hxm).rd (W0 := W0)
        have hxl := hOl x.l (by rw [← h.ol]; exact List.mem_map_of_mem hxm)
        have hsp := ownS_split hx
        obtain ⟨xa, xc, xl, xD⟩ := x
        dsimp only at hxB hxl hsp
        dsimp only [DP.O]
        rw [hsp]
        repeat' ((try (conv => whnf)); first | (apply br_pyE; (exact rfl); omega) | (refine app_c (enc := ObM.enc) (l := []) (l2 := xl) buf0 (At.head (D := []) (r := _)) (RdE.up hxB) rfl rfl (by omega) (fun _ _ => rfl) (fun _ => by simp; omega) (fun a3 c3 D3 hb3 => ?_); (rw [List.length_nil, Nat.zero_add xl.length]); (rw [List.nil_append] at hb3)) | (apply app_i (enc := ObS.enc) (T := 72) ⟨a3, c3, xl, D3⟩ hBS; (exact rfl); (exact rfl); (omega); (exact rfl); (exact rfl); (omega); intro a9 c9 D5 hb5) | ((with_reducible show Ld _ _ _ _); first | (refine ldE0 hOR hx rfl ?_)) | ((with_reducible show IxS _ _ _ _ _); first | ((refine ixE hOR hx ?_ ?_; (first | rfl | omega)))) | (refine ari ?_ ?_; omega) | (apply ld_o; exact rfl) | (apply st_o; (exact rfl); exact rfl) | (refine new_i (fun bk hbk => ?_)) | (refine Both.mk ?_ ?_))
        all_goals
          refine ⟨(j + 1, S' ++ [⟨a3, c3, xl, D3⟩], a9, c9, D5), ⟨hjl, take_m hmS hx rfl, hb5, fun e he => ?_⟩, (by show g.S.length - (j + 1) < g.S.length - j; omega), (by repeat' (first | exact True.intro | refine And.intro ?_ ?_ | exact rfl | exact vi (by omega) | (dsimp only; exact rfl) | (dsimp only; exact vi (by omega)))), ?_⟩
          · rcases List.mem_append.1 he with he | he
            · exact hSS e he
            · rw [List.mem_singleton.1 he]
              exact hb3
          · have hlen : (S' ++ [(⟨a3, c3, xl, D3⟩ : ObS)]).length = S'.length + 1 := by simp
            dsimp only
            rw [hlen, ownS_app]
            exact ent_p5
      · have hjN : j = g.S.length := by omega
        subst hjN
        rw [List.take_length] at hmS
        repeat' ((try (conv => whnf)); first | (apply br_pnE; (exact rfl); omega) | (apply ld_o; exact rfl) | (apply ldN_a; exact rfl) | (apply stN_o; (exact rfl); (exact rfl); exact rfl))
        exact ⟨⟨a1, c1, D1, a4, c4, D4, a2, c2, D2, L2, X2, oa, oc, oD, S'⟩, ⟨rfl, ⟨hB1, hb4, hB2, by rw [hm2, h.em], hX2, hBS, hSS, by rw [hmS, h.ol]⟩⟩, ent_rz⟩
end
end Go.Proofs.YtfompmhncnkcfaaGreatDoor
namespace Go.Proofs.YtfompmhncnkcfaaGreatDoor
open Go
set_option maxRecDepth 10000
set_option maxHeartbeats 16000000
theorem ent_n1 {W0 : World} {e m : Nat × (Obj → Prop)} {A Z : Own} : Ent W0 (e :: (m :: (A ++ Z))) (e :: (A ++ (m :: Z))) := ent_cnt [] fun a => by simp only [cnt_app, cnt_cons, cnt_nil]; omega
theorem ent_n2 {W0 : World} {e m : Nat × (Obj → Prop)} {A Z : Own} : Ent W0 (e :: (A ++ (m :: Z))) (e :: (A ++ (m :: Z))) := Ent.refl
theorem ent_n3 {W0 : World} {bk bk2 gb mb b1 : Nat × (Obj → Prop)} {D1 D3 D8 D9 L Z : Own} : Ent W0 (bk :: (bk2 :: (D3 ++ (gb :: (D1 ++ (mb :: (D8 ++ (L ++ (D9 ++ (b1 :: Z)))))))))) (gb :: (D1 ++ (mb :: (D8 ++ ((L ++ D3) ++ (D9 ++ (b1 :: Z))))))) := ent_cnt [bk, bk2] fun a => by simp only [cnt_app, cnt_cons, cnt_nil]; omega
theorem ent_n4 {W0 : World} {gb mb b1 : Nat × (Obj → Prop)} {D1 D5 kD tD L Z : Own} : Ent W0 (D5 ++ (gb :: (D1 ++ (mb :: (kD ++ (L ++ (tD ++ (b1 :: Z)))))))) ((gb :: (D1 ++ (mb :: (tD ++ ([] ++ (D5 ++ ([] ++ []))))))) ++ ((kD ++ L) ++ Z)) := ent_cnt [b1] fun a => by simp only [cnt_app, cnt_cons, cnt_nil]; omega
theorem ownL_rd {W0 : World} {kD : Own} {ys : List PB} {x : PB} {a : Option Addr} {l : List Ins} (hx : x ∈ ys) (h : RdE Ins.enc 5 W0 x.D a l) : RdE Ins.enc 5 W0 (kD ++ ownL ys) a l := by
  obtain ⟨l1, l2, rfl⟩ := List.append_of_mem hx
  refine h.ent ?_
  simp only [ownL, List.map_append, List.map_cons, List.flatten_append, List.flatten_cons]
  exact ent_cnt (kD ++ ((l1.map PB.D).flatten ++ (l2.map PB.D).flatten)) fun a => by simp only [cnt_app]; omega
theorem psG_none : ∀ (ps : List PH) (t : Nat), psG ps t = none → ∀ h ∈ ps, checkP h.p = (0, 0)
  | [], _, _, _, h => by cases h
  | x :: l, t, hn, y, hy => by
    unfold psG at hn
    split at hn
    · cases hn
    · rename_i h0
      rcases List.mem_cons.1 hy with rfl | hy
      · have h0' : (checkP y.p).2 = 0 := by omega
        exact checkP_zero.1 h0'
      · exact psG_none l (t + 1) hn y hy
theorem psG_e : ∀ (ps : List PH) (t : Nat) (r : Int × Int × Int), psG ps t = some r → r.2.2 ≠ 0
  | [], _, _, h => by cases h
  | x :: l, t, r, hn => by
    unfold psG at hn
    split at hn
    · rename_i h0
      rw [← Option.some.inj hn]; exact h0
    · exact psG_e l (t + 1) r hn
theorem csM_0 {c : Cfg} {il : Nat} {ps : List PH} (h : (csM c il ps []).2.2 = 0) : csM c il ps [] = (0, 0, 0) ∧ checkM c = 0 ∧ (1 ≤ ps.length ∧ ps.length ≤ 16) ∧ (il : Int) = c.words ∧ ∀ h ∈ ps, checkP h.p = (0, 0) := by
  unfold csM at h ⊢
  by_cases h0 : checkM c = 0
  · rw [if_neg (by omega)] at h ⊢
    by_cases h1 : ps.length < 1 ∨ 16 < ps.length
    · rw [if_pos h1] at h; exact absurd h (by decide)
    · rw [if_neg h1] at h ⊢
      by_cases h2 : (il : Int) ≠ c.words
      · rw [if_pos h2] at h; exact absurd h (by decide)
      · rw [if_neg h2] at h ⊢
        cases hp : psG ps 0 with
        | some r => rw [hp] at h; exact absurd h (psG_e ps 0 r hp)
        | none => exact ⟨rfl, h0, by omega, by omega, psG_none ps 0 hp⟩
  · rw [if_pos h0] at h; exact absurd h h0
def thr0 (p : List Ins) : Thr := ⟨0, ⟨0, 0, 0, 0, 0, 0, 0, 0⟩, 0, decide (p.length = 0)⟩
section
variable {W0 : World} {own : Own} {c : Cfg} {ia pa ka : Option Addr} {ic pc kc : Nat} {ps : List PH} {il ks : List Int}
theorem sp_new (hF : FormsAt W0) (hI : RdE encU 1 W0 own ia il) (hil : il.length ≤ 1000000) (hP : RdE PH.enc 1 W0 own pa ps) (hQ : ∀ h ∈ ps, RdE Ins.enc 5 W0 own h.a h.p) :
    Spec Tryz.prog W0 11 [scrV c ia il.length ic pa ps.length pc ka ks.length kc] own fun v own' =>
      ((v = .tuple #[.pointer none, .int .i64 (csM c il.length ps []).1, .int .i64 (csM c il.length ps []).2.1, .int .i64 (csM c il.length ps []).2.2] ∧ (csM c il.length ps []).2.2 ≠ 0) ∧ Ent W0 own' own) ∨
      ∃ y : GP × List PB × Own, (v = .tuple #[.pointer (some ⟨y.1.gb, 0, none⟩), .int .i64 0, .int .i64 0, .int .i64 0] ∧ csM c il.length ps [] = (0, 0, 0) ∧
        y.1.ok W0 (y.2.2 ++ ownL y.2.1) (y.2.1.map PB.h) (newM c il (ps.map PH.p)) ∧ y.1.ev W0 ∧ (y.2.1.map PB.h).map PH.p = ps.map PH.p ∧ y.1.L = []) ∧ Ent W0 own' (y.1.O c (y.2.1.map PB.h).length (newM c il (ps.map PH.p)) ++ ((y.2.2 ++ ownL y.2.1) ++ own)) := by
  refine spec_of mixed lowc_sgl_New (by simp [irc_sgl_New]) ?_
  have hcs := fun (own' : Own) [EntC own' own] => sp_cs (c := c) (ia := ia) (il := il.length) (ic := ic) (pc := pc) (ka := none) (ks := []) (kc := 0) (own := own') hF (RdE.up hP) (fun h hh => RdE.up (hQ h hh)) RdE.nil
  by_cases he : (csM c il.length ps []).2.2 = 0
  · obtain ⟨h0, hc0, hpl, hiw, hck⟩ := csM_0 he
    rw [h0] at hcs ⊢
    have hcl := fun (own' : Own) [EntC own' own] => sp_clone_uint64 (cap := ic) (RdE.up (own := own') hI) (by omega)
    repeat' ((try (conv => whnf)); first | (refine new_i (fun b1 h1 => ?_); (apply Stop.h)))
    refine Stop.mk ?_
    repeat' ((try (conv => whnf)); first | (refine br_fe ?_ ?_; exact rfl) | ((with_reducible show CallT _ _ _ _ _ _); first | ((refine call_pe (hcs _) ?_ ?_ ?_; (exact rfl); exact rfl))) | (apply sel; exact rfl) | (apply ldN_a; exact rfl) | (apply st_o; (exact rfl); exact rfl))
    refine cut_i (σ := Nat × Nat × Option Addr × Nat × Own) 535822340 (fun y => [(2, .pointer (some ⟨y.1, 0, none⟩))])
      (fun y => (y.1, fun o => o = Obj.cells (.slice y.2.2.1 il.length y.2.2.2.1 :: .map (some y.2.1) :: cfL c [.slice none 0 0, .slice none 0 0, .slice none 0 0, .slice none 0 0, .int .i64 0]).toArray 91 (0, 0)) :: (y.2.2.2.2 ++ ((y.2.1, mapO (mpV [])) :: ((b1, fun o => o = Obj.cells (scrC c (.slice ia il.length ic) (.slice pa ps.length pc) (.slice none 0 0)) 32 (0, 0)) :: own))))
      (fun y => BufE encU 63 1 y.2.2.1 y.2.2.2.1 il y.2.2.2.2) rfl ?_ ?_
    · repeat' ((try (conv => whnf)); first | (refine NewM.mk (fun mb hmb => ?_)) | (refine new_i (fun gb hgb => ?_)) | ((with_reducible show CallT _ _ _ _ _ _); first | ((refine call_x (hcl _) ?_ ?_ (fun y v hv => ?_); (exact rfl); (exact rfl); (obtain ⟨a1, c1, D1⟩ := y; obtain ⟨rfl, hB⟩ := hv; dsimp only at hB)))) | (apply ld_o; exact rfl) | (apply ldN_o; (exact rfl); exact rfl) | (refine Both.mk ?_ ?_))
      all_goals
        refine ⟨(gb, mb, a1, c1, D1), hB, (by repeat' (first | exact True.intro | refine And.intro ?_ ?_ | exact rfl | exact vi (by omega) | (dsimp only; exact rfl) | (dsimp only; exact vi (by omega)))), ?_⟩
        first | exact ent_n1 | exact ent_n2
    · rintro ⟨gb, mb, a1, c1, D1⟩ junk hB1
      dsimp only at hB1 ⊢
      repeat' ((try (conv => whnf)); first | (apply ld_o; exact rfl))
      refine loop_i (σ := Nat × List PB × (Option Addr × Nat × Own) × (Option Addr × Nat × Own)) (fun y => [(32, .int .i64 y.1)])
        (fun y => (gb, fun o => o = Obj.cells (.slice a1 il.length c1 :: .map (some mb) :: cfL c [.slice y.2.2.1.1 (y.2.1.map PB.h).length y.2.2.1.2.1, .slice y.2.2.2.1 ((ps.take y.1).map fun h => thr0 h.p).length y.2.2.2.2.1, .slice none 0 0, .slice none 0 0, .int .i64 0]).toArray 91 (0, 0)) :: (D1 ++ ((mb, mapO (mpV [])) :: (y.2.2.1.2.2 ++ (ownL y.2.1 ++ (y.2.2.2.2.2 ++ ((b1, fun o => o = Obj.cells (scrC c (.slice ia il.length ic) (.slice pa ps.length pc) (.slice none 0 0)) 32 (0, 0)) :: own)))))))
        (fun y => y.1 ≤ ps.length ∧ (y.2.1.map PB.h).map PH.p = (ps.take y.1).map PH.p ∧ BufE PH.enc 67 1 y.2.2.1.1 y.2.2.1.2.1 (y.2.1.map PB.h) y.2.2.1.2.2 ∧ (∀ x ∈ y.2.1, x.ok) ∧ BufE Thr.enc 66 11 y.2.2.2.1 y.2.2.2.2.1 ((ps.take y.1).map fun h => thr0 h.p) y.2.2.2.2.2)
        (fun y => ps.length - y.1) (0, [], (none, 0, []), (none, 0, [])) ⟨Nat.zero_le _, rfl, BufE.nil, (fun _ h => (by cases h)), BufE.nil⟩ (by repeat' (first | exact True.intro | refine And.intro ?_ ?_ | exact rfl | exact vi (by omega) | (dsimp only; exact rfl) | (dsimp only; exact vi (by omega)))) Ent.refl rfl ?_
      rintro ⟨i, ys, ⟨ka', kc', kD⟩, ⟨ta, tc, tD⟩⟩ junk ⟨hi, hm, hBk, hys, hBt⟩
      dsimp only at hi hm hBk hys hBt ⊢
      have hyl : (ys.map PB.h).length = i := len_m hm hi
      have htl : ((ps.take i).map fun h => thr0 h.p).length = i := by simp; omega
      by_cases hil : i < ps.length
      · obtain ⟨x, hx⟩ : ∃ x, ps[i]? = some x := ⟨_, List.getElem?_eq_getElem hil⟩
        have hxm := List.mem_of_getElem? hx
        have hxP := hQ x hxm
        have hxl := ck_len (hck x hxm)
        obtain ⟨xa, xc, xp⟩ := x
        dsimp only at hxP hxl
        have hci := fun (own' : Own) [EntC own' own] => sp_clone_Instr (cap := xc) (RdE.up (own := own') hxP) (by omega)
        have hthr : ∀ b : Bool, b = decide (xp.length = 0) → [.int .i64 0, .int .u64 0, .int .u64 0, .int .u64 0, .int .u64 0, .int .u64 0, .int .u64 0, .int .u64 0, .int .u64 0, .int .i64 0, .bool b] = (thr0 xp).enc := fun b hb => by rw [hb]; rfl
        repeat' ((try (conv => whnf)); first | (apply br_pyE; (exact rfl); omega) | (apply app_i (enc := PH.enc) (T := 67) ⟨a3, c3, xp⟩ hBk; (exact rfl); (exact rfl); (omega); (exact rfl); (exact rfl); (omega); intro a8 c8 D8 hb8) | (apply app_i (enc := Thr.enc) (T := 66) (thr0 xp) hBt; (refine hthr _ ?_; simp); (exact rfl); (omega); (exact rfl); (exact rfl); (omega); intro a9 c9 D9 hb9) | ((with_reducible show Ld _ _ _ _); first | (refine ldE0 hP hx rfl ?_)) | ((with_reducible show IxS _ _ _ _ _); first | ((refine ixE hP hx ?_ ?_; (first | rfl | omega)))) | ((with_reducible show CallT _ _ _ _ _ _); first | ((refine call_x (hci _) ?_ ?_ (fun y v hv => ?_); (exact rfl); (exact rfl); (obtain ⟨a3, c3, D3⟩ := y; obtain ⟨rfl, hB3⟩ := hv; dsimp only at hB3)))) | (refine ari ?_ ?_; omega) | (apply ld_o; exact rfl) | (apply st_o; (exact rfl); exact rfl) | (refine new_i (fun bk hbk => ?_)) | (refine Both.mk ?_ ?_))
        all_goals
          have hsn : ys.map PB.h ++ [⟨a3, c3, xp⟩] = (ys ++ [(⟨⟨a3, c3, xp⟩, D3⟩ : PB)]).map PB.h := by simp
          have htk : ((ps.take i).map fun h => thr0 h.p) ++ [thr0 xp] = (ps.take (i + 1)).map fun h => thr0 h.p := by
            rw [List.take_add_one, hx]; simp
          rw [hsn] at hb8
          rw [htk] at hb9
          refine ⟨(i + 1, ys ++ [⟨⟨a3, c3, xp⟩, D3⟩], (a8, c8, D8), (a9, c9, D9)), ⟨hil, by rw [← hsn]; exact take_m hm hx rfl, hb8, fun x hx => ?_, hb9⟩, (by show ps.length - (i + 1) < ps.length - i; omega), (by repeat' (first | exact True.intro | refine And.intro ?_ ?_ | exact rfl | exact vi (by omega) | (dsimp only; exact rfl) | (dsimp only; exact vi (by omega)))), ?_⟩
          · rcases List.mem_append.1 hx with hx | hx
            · exact hys x hx
            · rw [List.mem_singleton.1 hx]; exact hB3
          · have e1 : ((ys ++ [(⟨⟨a3, c3, xp⟩, D3⟩ : PB)]).map PB.h).length = (ys.map PB.h).length + 1 := by simp
            have e2 : ((ps.take (i + 1)).map fun h => thr0 h.p).length = ((ps.take i).map fun h => thr0 h.p).length + 1 := by rw [← htk]; simp
            dsimp only
            rw [e1, e2, ownL_snoc]
            exact ent_n3
      · have hiN : i = ps.length := by omega
        subst hiN
        rw [List.take_length] at hm hBt ⊢
        repeat' ((try (conv => whnf)); first | (apply br_pnE; (exact rfl); omega) | (refine mkE (enc := ObS.enc) ⟨none, 0, [], []⟩ rfl rfl (by omega) (fun a5 c5 D5 hb5 => ?_)) | (apply ld_o; exact rfl) | (apply st_o; (exact rfl); exact rfl))
        have hT : (newM c il (ps.map PH.p)).T = ps.map fun h => thr0 h.p := by simp [newM, thr0]
        have hz : ownS (List.replicate (ys.map PB.h).length (⟨none, 0, [], []⟩ : ObS)) = [] := by simp [ownS]
        replace hb5 : BufE ObS.enc 72 1 a5 c5 (List.replicate (ys.map PB.h).length ⟨none, 0, [], []⟩) D5 := hb5
        refine .inr ⟨(⟨gb, mb, [], a1, c1, D1, ka', kc', ta, tc, tD, none, 0, [], [], [], a5, c5, D5, List.replicate (ys.map PB.h).length ⟨none, 0, [], []⟩⟩, ys, kD), ⟨rfl, rfl, ⟨hB1, ?_, RdE.up (hBk.rd (W0 := W0)), ?_, hT ▸ hBt, BufE.nil, rfl, hb5, ?_, ?_⟩, (fun _ h => (by cases h)), hm, rfl⟩, ?_⟩
        · intro k
          show false = _
          simp only [newM, List.getD_eq_getElem?_getD, List.getElem?_replicate]
          split <;> rfl
        · intro h hh
          obtain ⟨x, hx, rfl⟩ := List.mem_map.1 hh
          exact ownL_rd hx ((hys x hx).rd (W0 := W0))
        · intro x hx
          rw [List.eq_of_mem_replicate hx]
          exact BufE.nil
        · have e : ps.length = (ys.map PB.h).length := hyl.symm
          simp only [newM, List.map_map, List.map_replicate]
          rw [← e]
          exact (List.map_const' ..).symm
        · dsimp only [GP.O, GP.cells]
          rw [hT, hz, List.length_replicate]
          exact ent_n4
  · generalize csM c il.length ps [] = z at *
    obtain ⟨zt, za, ze⟩ := z
    dsimp only at he
    repeat' ((try (conv => whnf)); first | (apply br_pyE; (exact rfl); omega) | ((with_reducible show CallT _ _ _ _ _ _); first | ((refine call_pe (hcs _) ?_ ?_ ?_; (exact rfl); exact rfl))) | (apply sel; exact rfl) | (apply ldN_a; exact rfl) | (apply st_o; (exact rfl); exact rfl) | (refine new_i (fun bk hbk => ?_)))
    all_goals exact .inl ⟨⟨rfl, he⟩, (by first | exact ent_i | (repeat (first | exact Ent.refl | exact Ent.left | refine Ent.cons ?_ | refine Ent.app ?_)))⟩
end
end Go.Proofs.YtfompmhncnkcfaaGreatDoor
namespace Go.Proofs.YtfompmhncnkcfaaGreatDoor
open Go
set_option maxRecDepth 10000
set_option maxHeartbeats 16000000
section
variable {W0 : World} {own : Own} {c : Cfg} {ia pa ka : Option Addr} {ic pc kc : Nat} {ps : List PH} {il ks : List Int}
abbrev ScE (b : Nat) (c : Cfg) (i p k : Value) : Nat × (Obj → Prop) := (b, fun o => o = Obj.cells (scrC c i p k) 32 (0, 0))
theorem ent_q1 {e b d : Nat × (Obj → Prop)} {A B Z : Own} : Ent W0 (e :: (B ++ (A ++ (b :: (d :: Z))))) (b :: (d :: (e :: (A ++ (B ++ Z))))) := ent_cnt [] fun a => by simp only [cnt_app, cnt_cons, cnt_nil]; omega
theorem ent_q2 {e b d : Nat × (Obj → Prop)} {A B Z : Own} : Ent W0 (B ++ (e :: (A ++ (b :: (d :: Z))))) (b :: (d :: (e :: (A ++ (B ++ Z))))) := ent_cnt [] fun a => by simp only [cnt_app, cnt_cons, cnt_nil]; omega
theorem ent_q3 {e b d : Nat × (Obj → Prop)} {A B Z : Own} : Ent W0 (B ++ (A ++ (e :: (b :: (d :: Z))))) (b :: (d :: (e :: (A ++ (B ++ Z))))) := ent_cnt [] fun a => by simp only [cnt_app, cnt_cons, cnt_nil]; omega
theorem ent_q4 {e b1 b2 : Nat × (Obj → Prop)} {A B kD L Z : Own} : Ent W0 (b1 :: (b2 :: (e :: (kD ++ (L ++ (A ++ (B ++ Z))))))) (kD ++ (L ++ (A ++ (B ++ Z)))) := ent_cnt [b1, b2, e] fun a => by simp only [cnt_app, cnt_cons, cnt_nil]; omega
theorem ent_q5 {bk e b1 b2 : Nat × (Obj → Prop)} {A B D3 D8 L Z : Own} : Ent W0 (bk :: (D3 ++ (b1 :: (b2 :: (e :: (D8 ++ (L ++ (A ++ (B ++ Z))))))))) (b1 :: (b2 :: (e :: (D8 ++ ((L ++ D3) ++ (A ++ (B ++ Z))))))) := ent_cnt [bk] fun a => by simp only [cnt_app, cnt_cons, cnt_nil]; omega
theorem sp_twinScript (hI : RdE encU 1 W0 own ia il) (hil : il.length ≤ 1000000) (hP : RdE PH.enc 1 W0 own pa ps) (hpl : ps.length ≤ 1000) (hQ : ∀ h ∈ ps, RdE Ins.enc 5 W0 own h.a h.p ∧ h.p.length ≤ 1000000) (hK : RdE encI 1 W0 own ka ks) (hkl : ks.length ≤ 1000000) :
    Spec Tryz.prog W0 33 [scrV c ia il.length ic pa ps.length pc ka ks.length kc] own fun v own' => ∃ y : (Option Addr × Nat × Own) × (Option Addr × Nat × Own) × List PB × (Option Addr × Nat × Own),
      (v = scrV c y.1.1 il.length y.1.2.1 y.2.2.2.1 (y.2.2.1.map PB.h).length y.2.2.2.2.1 y.2.1.1 ks.length y.2.1.2.1 ∧ (y.2.2.1.map PB.h).map PH.p = ps.map PH.p ∧ BufE PH.enc 67 1 y.2.2.2.1 y.2.2.2.2.1 (y.2.2.1.map PB.h) y.2.2.2.2.2 ∧ ∀ x ∈ y.2.2.1, x.ok) ∧
      Ent W0 own' (y.2.2.2.2.2 ++ (ownL y.2.2.1 ++ (y.1.2.2 ++ (y.2.1.2.2 ++ own)))) := by
  refine spec_of mixed lowc_kit_TwinScript (by simp [irc_kit_TwinScript]) ?_
  have hcw := fun (own' : Own) [EntC own' own] => sp_twinWords (cap := ic) (RdE.up (own := own') hI) (by omega)
  have hci := fun (own' : Own) [EntC own' own] => sp_twinInts (cap := kc) (RdE.up (own := own') hK) (by omega)
  repeat' ((try (conv => whnf)); first | (refine new_i (fun b1 h1 => ?_); (apply Stop.h)))
  refine Stop.mk ?_
  repeat' ((try (conv => whnf)); first | (refine new_i (fun b2 h2 => ?_); (apply Stop.h)))
  refine Stop.mk ?_
  skip
  refine cut_i (σ := Nat × (Option Addr × Nat × Own) × (Option Addr × Nat × Own)) 16360 (fun y => [(3, .pointer (some ⟨y.1, 0, none⟩))])
    (fun y => ScE b2 ⟨0, 0, 0, 0, 0, 0, 0, 0, 0, 0, 0, 0, false⟩ (.slice none 0 0) (.slice none 0 0) (.slice none 0 0) :: (ScE b1 c (.slice ia il.length ic) (.slice pa ps.length pc) (.slice ka ks.length kc) :: (ScE y.1 c (.slice y.2.1.1 il.length y.2.1.2.1) (.slice none 0 0) (.slice y.2.2.1 ks.length y.2.2.2.1) :: (y.2.1.2.2 ++ (y.2.2.2.2 ++ own)))))
    (fun y => BufE encU 63 1 y.2.1.1 y.2.1.2.1 il y.2.1.2.2) rfl ?_ ?_
  · repeat' ((try (conv => whnf)); first | (refine new_i (fun b3 h3 => ?_)) | ((with_reducible show CallT _ _ _ _ _ _); first | ((refine call_x (hcw _) ?_ ?_ (fun y v hv => ?_); (exact rfl); (exact rfl); (obtain ⟨a1, c1, D1⟩ := y; obtain ⟨rfl, hB⟩ := hv; dsimp only at hB))) | ((refine call_x (hci _) ?_ ?_ (fun y v hv => ?_); (exact rfl); (exact rfl); (obtain ⟨a2, c2, D2⟩ := y; obtain ⟨rfl, hB2⟩ := hv; dsimp only at hB2)))) | (apply ld_o; exact rfl) | (apply ldN_o; (exact rfl); exact rfl) | (apply stN_o; (exact rfl); (exact rfl); exact rfl) | (refine Both.mk ?_ ?_))
    all_goals
      refine ⟨(b3, (a1, c1, D1), (a2, c2, D2)), hB, (by repeat' (first | exact True.intro | refine And.intro ?_ ?_ | exact rfl | exact vi (by omega) | (dsimp only; exact rfl) | (dsimp only; exact vi (by omega)))), ?_⟩
      first | exact ent_q1 | exact ent_q2 | exact ent_q3
  · rintro ⟨b3, ⟨a1, c1, D1⟩, ⟨a2, c2, D2⟩⟩ junk _
    dsimp only
    skip
    refine loop_i (σ := Nat × List PB × (Option Addr × Nat × Own)) (fun y => [(4, .int .i64 y.1)])
      (fun y => ScE b2 ⟨0, 0, 0, 0, 0, 0, 0, 0, 0, 0, 0, 0, false⟩ (.slice none 0 0) (.slice none 0 0) (.slice none 0 0) :: (ScE b1 c (.slice ia il.length ic) (.slice pa ps.length pc) (.slice ka ks.length kc) :: (ScE b3 c (.slice a1 il.length c1) (.slice y.2.2.1 (y.2.1.map PB.h).length y.2.2.2.1) (.slice a2 ks.length c2) :: (y.2.2.2.2 ++ (ownL y.2.1 ++ (D1 ++ (D2 ++ own)))))))
      (fun y => y.1 ≤ ps.length ∧ (y.2.1.map PB.h).map PH.p = (ps.take y.1).map PH.p ∧ BufE PH.enc 67 1 y.2.2.1 y.2.2.2.1 (y.2.1.map PB.h) y.2.2.2.2 ∧ (∀ x ∈ y.2.1, x.ok))
      (fun y => ps.length - y.1) (0, [], (none, 0, [])) ⟨Nat.zero_le _, rfl, BufE.nil, (fun _ h => (by cases h))⟩ (by repeat' (first | exact True.intro | refine And.intro ?_ ?_ | exact rfl | exact vi (by omega) | (dsimp only; exact rfl) | (dsimp only; exact vi (by omega)))) Ent.refl rfl ?_
    rintro ⟨i, ys, ⟨ka', kc', kD⟩⟩ junk ⟨hi, hm, hBk, hys⟩
    dsimp only at hi hm hBk hys ⊢
    have hyl : (ys.map PB.h).length = i := len_m hm hi
    by_cases hil : i < ps.length
    · obtain ⟨x, hx⟩ : ∃ x, ps[i]? = some x := ⟨_, List.getElem?_eq_getElem hil⟩
      obtain ⟨hxP, hxl⟩ := hQ x (List.mem_of_getElem? hx)
      obtain ⟨xa, xc, xp⟩ := x
      dsimp only at hxP hxl
      have hci := fun (own' : Own) [EntC own' own] => sp_twinProgram (cap := xc) (RdE.up (own := own') hxP) (by omega)
      repeat' ((try (conv => whnf)); first | (apply br_pyE; (exact rfl); omega) | (apply app_i (enc := PH.enc) (T := 67) ⟨a3, c3, xp⟩ hBk; (exact rfl); (exact rfl); (omega); (exact rfl); (exact rfl); (omega); intro a8 c8 D8 hb8) | ((with_reducible show Ld _ _ _ _); first | (refine ldE0 hP hx rfl ?_)) | ((with_reducible show IxS _ _ _ _ _); first | ((refine ixE hP hx ?_ ?_; (first | rfl | omega)))) | ((with_reducible show CallT _ _ _ _ _ _); first | ((refine call_x (hci _) ?_ ?_ (fun y v hv => ?_); (exact rfl); (exact rfl); (obtain ⟨a3, c3, D3⟩ := y; obtain ⟨rfl, hB3⟩ := hv; dsimp only at hB3)))) | (refine ari ?_ ?_; omega) | (apply ld_o; exact rfl) | (apply st_o; (exact rfl); exact rfl) | (refine new_i (fun bk hbk => ?_)) | (refine Both.mk ?_ ?_))
      all_goals
        have hsn : ys.map PB.h ++ [⟨a3, c3, xp⟩] = (ys ++ [(⟨⟨a3, c3, xp⟩, D3⟩ : PB)]).map PB.h := by simp
        rw [hsn] at hb8
        refine ⟨(i + 1, ys ++ [⟨⟨a3, c3, xp⟩, D3⟩], (a8, c8, D8)), ⟨hil, by rw [← hsn]; exact take_m hm hx rfl, hb8, fun x hx => ?_⟩, (by show ps.length - (i + 1) < ps.length - i; omega), (by repeat' (first | exact True.intro | refine And.intro ?_ ?_ | exact rfl | exact vi (by omega) | (dsimp only; exact rfl) | (dsimp only; exact vi (by omega)))), ?_⟩
        · rcases List.mem_append.1 hx with hx | hx
          · exact hys x hx
          · rw [List.mem_singleton.1 hx]; exact hB3
        · have e1 : ((ys ++ [(⟨⟨a3, c3, xp⟩, D3⟩ : PB)]).map PB.h).length = (ys.map PB.h).length + 1 := by simp
          dsimp only
          rw [e1, ownL_snoc]
          exact ent_q5
    · have hiN : i = ps.length := by omega
      subst hiN
      rw [List.take_length] at hm
      repeat' ((try (conv => whnf)); first | (apply br_pnE; (exact rfl); omega) | (apply ld_o; exact rfl) | (apply ldN_a; exact rfl) | (apply stN_o; (exact rfl); (exact rfl); exact rfl))
      exact ⟨((a1, c1, D1), (a2, c2, D2), ys, (ka', kc', kD)), ⟨rfl, hm, hBk, hys⟩, ent_q4⟩
end
end Go.Proofs.YtfompmhncnkcfaaGreatDoor
namespace Go.Proofs.YtfompmhncnkcfaaGreatDoor
open Go
set_option maxRecDepth 10000
theorem ok0 : okU 0 := ⟨by decide, by decide⟩
theorem new_ok {c : Cfg} {il : List Int} {P : List (List Ins)} (h0 : checkM c = 0) (hl : (il.length : Int) = c.words) (hw : ∀ x ∈ il, okU x) (hP : ∀ p ∈ P, checkP p = (0, 0)) : GOk c P (newM c il P) := by
  refine ⟨h0, hP, hl, hw, by simp [newM], by simp [newM], by simp [newM], fun t th p ht hp => ?_, Nat.zero_le _, ⟨fun _ h => (by cases h), fun _ _ h => (by cases h)⟩, fun l hl => ?_⟩
  · simp only [newM, List.getElem?_map, hp, Option.map_some, Option.some.injEq] at ht
    subst ht
    refine ⟨fun k => ?_, Nat.zero_le _, (by show (-1 : Int) < 0; decide), ?_, ok0⟩
    · by_cases hk : k < 8
      · rcases lt8 hk with rfl | rfl | rfl | rfl | rfl | rfl | rfl | rfl <;> exact ok0
      · obtain ⟨m, rfl⟩ : ∃ m, k = m + 8 := ⟨k - 8, by omega⟩
        exact ok0
    · show decide (p.length = 0) = decide (0 = p.length)
      by_cases h : p.length = 0
      · rw [h]
      · rw [decide_eq_false h, decide_eq_false (by omega)]
  · obtain ⟨_, _, rfl⟩ := List.mem_map.1 hl
    exact Nat.zero_le _
def runsM (c : Cfg) (P : List (List Ins)) : List ChM → Nat → GS → GS ⊕ Nat
  | [], _, s => .inl s
  | ch :: l, k, s => if (doM c P s ch).1 = 0 then runsM c P l (k + 1) (doM c P s ch).2 else .inr k
theorem do_code {c : Cfg} {P : List (List Ins)} {s : GS} {ch : ChM} (h : (doM c P s ch).1 ≠ 0) : doM c P s ch = (70, s) := by
  unfold doM at h ⊢
  split at h
  · exact absurd rfl h
  · rfl
end Go.Proofs.YtfompmhncnkcfaaGreatDoor
