/- What the laws share, part 2. No condition. -/
import Derived.Test.YtfompmhncnkcfaaGreatDoorX1
namespace Go.Proofs.YtfompmhncnkcfaaGreatDoor
open Go
set_option maxRecDepth 10000
set_option maxHeartbeats 16000000
section
variable {W0 : World} {b l : Nat × (Obj → Prop)} {D R K C X Z : Own}
theorem ent_ru1 : Ent W0 (b :: (D ++ (R ++ Z))) (R ++ (b :: (D ++ Z))) := ent_cnt [] fun a => by simp only [cnt_app, cnt_cons, cnt_nil]; omega
theorem ent_ru2 : Ent W0 (l :: (R ++ (b :: (D ++ (K ++ (C ++ (X ++ Z))))))) (R ++ (K ++ (C ++ ((D ++ X) ++ Z)))) := ent_cnt [l, b] fun a => by simp only [cnt_app, cnt_cons, cnt_nil]; omega
theorem ent_ru3 : Ent W0 (R ++ (b :: (D ++ (K ++ (C ++ (X ++ Z)))))) (R ++ (K ++ (C ++ ((D ++ X) ++ Z)))) := ent_cnt [b] fun a => by simp only [cnt_app, cnt_cons, cnt_nil]; omega
end
section
variable {W0 : World} {own : Own} {la : Option Addr} {lc : Nat} {ls : List IH} {pa : Option Addr} {pc : Nat} {pl : List CH} {c2 : Cfg} {ia2 pa2 ka2 : Option Addr} {ic2 pc2 kc2 : Nat} {ps2 : List PH} {il2 ks2 : List Int}
theorem sp_SglRuns (hF : FormsAt W0) (n0 n1 n2 n3 n4 : Int) (hh : inKs [n0, n1, n2, n3, n4]) (hL : RdE IH.enc 1 W0 own la ls) (hll : ls.length ≤ 17592186043904) (hQ : ∀ h ∈ ls, RdE encI 1 W0 own h.a h.l ∧ h.l.length ≤ 17592186043904)
    (hPi : RdE CH.enc 3 W0 own pa pl) (hPa : ∀ x ∈ pl, RdE encI 1 W0 own x.a x.ad ∧ ∀ a ∈ x.ad, a ≤ 9223372036854775807) (st : Bool)
    (hI2 : RdE encU 1 W0 own ia2 il2) (hw2 : ∀ x ∈ il2, 0 ≤ x ∧ x ≤ 18446744073709551615) (hP2 : RdE PH.enc 1 W0 own pa2 ps2) (hQ2 : ∀ h ∈ ps2, RdE Ins.enc 5 W0 own h.a h.p) :
    Pure Tryz.prog W0 4 [arrV n0 n1 n2 n3 n4, .slice la ls.length lc, .slice pa pl.length pc, .bool st, scrV c2 ia2 il2.length ic2 pa2 ps2.length pc2 ka2 ks2.length kc2] own (.bool true) := by
  refine pure_of (spec_of mixed low_law22_SglRuns (by simp [ir_law22_SglRuns]) ?_)
  have haw := fun own => sp_awake (W0 := W0) (own := own) hF
  have hsc := fun (own' : Own) [EntC own' own] => sp_lscript (lc := lc) (own := own') n0 n1 n2 n3 n4 hh hL.up hll (fun h hx => ⟨(hQ h hx).1.up, (hQ h hx).2⟩) st
  repeat' ((try (conv => whnf)); first | (refine new_i (fun b5 h5 => ?_); (apply Stop.h)))
  refine Stop.mk ?_
  repeat' ((try (conv => whnf)); first | (refine new_i (fun b9 h9 => ?_); (apply Stop.h)))
  refine Stop.mk ?_
  repeat' ((try (conv => whnf)); first | ((with_reducible show CallT _ _ _ _ _ _); first | ((refine call_or (hsc _) Ent.refl ?_ ?_ (fun v hv => ?_) (fun m v hv => ?_); (exact rfl); (exact rfl); all_goals (apply Stop.h)))) | (apply ldN_a; exact rfl))
  · subst hv
    refine Stop.mk ?_
    repeat' ((try (conv => whnf)); first | (refine when_ne ?_ ?_; exact rfl) | (refine br_te ?_ ?_; exact rfl) | ((with_reducible show CallT _ _ _ _ _ _); first | ((refine call_pe (haw _) ?_ ?_ ?_; (exact rfl); exact rfl))) | (apply sel; exact rfl) | (apply stN_o; (exact rfl); (exact rfl); exact rfl) | (refine new_i (fun bk hbk => ?_)))
    all_goals exact ⟨rfl, (by first | exact ent_i | (repeat (first | exact Ent.refl | exact Ent.left | refine Ent.cons ?_ | refine Ent.app ?_)))⟩
  · obtain ⟨rfl, hm⟩ := hv
    have hmv : m.v = scrV m.c m.ia m.il.length m.ic m.pa (m.ps.map PB.h).length m.pc m.ka 0 m.kc := by simp only [MS.v, List.length_map]
    rw [hmv]
    refine Stop.mk ?_
    by_cases hb : pl.length ≤ 40 ∧ ps2.length ≤ 20 ∧ il2.length ≤ 80
    · obtain ⟨hp40, hp20, hp80⟩ := hb
      repeat' ((try (conv => whnf)); first | (refine new_i (fun b11 h11 => ?_); (apply Stop.h)) | (apply sel; exact rfl))
      have hrn := fun (own' : Own) [EntC own' m.O] => sp_rnewm (W0 := W0) (own := own') hm
      refine Stop.mk ?_
      repeat' ((try (conv => whnf)); first | (refine when_ye ?_ ?_; exact rfl) | (apply br_pnE; (exact rfl); omega) | (apply when_pnE; (exact rfl); omega) | ((with_reducible show CallT _ _ _ _ _ _); first | ((refine call_x (hrn _) ?_ ?_ (fun y v hv => ?_); (exact rfl); (exact rfl); (apply Stop.h)))) | (apply ld_o; exact rfl) | (apply ldN_a; exact rfl) | (apply stN_o; (exact rfl); (exact rfl); exact rfl))
      obtain ⟨r, zs, rD⟩ := y
      obtain ⟨rfl, hrok, hrp⟩ := hv
      dsimp only at hrok hrp ⊢
      have hG := hm.g0
      have hP16 := hm.pl16
      have hn0' : (newM m.c m.il m.P).n = 0 := rfl
      generalize newM m.c m.il m.P = s0 at *
      generalize m.P = P at *
      generalize hKr : rD ++ ownL zs = Kr at *
      generalize zs.map PB.h = pr at *
      have hpx := hPi
      refine Stop.mk ?_
      skip
      refine loop_i (σ := Nat × DP × GS × (List CH × Option Addr × Nat × Own) × Own) (fun y => [(15, .int .i64 y.1), (14, .slice y.2.2.2.1.2.1 y.2.2.2.1.1.length y.2.2.2.1.2.2.1)])
        (fun y => y.2.1.O m.c pr.length y.2.2.1 ++ (Kr ++ (y.2.2.2.1.2.2.2 ++ (y.2.2.2.2 ++ ((b11, fun o => o = Obj.cells (scrC m.c (.slice m.ia m.il.length m.ic) (.slice m.pa (m.ps.map PB.h).length m.pc) (.slice m.ka 0 m.kc)) 32 (0, 0)) :: (m.O ++ ((b9, fun o => o = Obj.cells (scrC c2 (.slice ia2 il2.length ic2) (.slice pa2 ps2.length pc2) (.slice ka2 ks2.length kc2)) 32 (0, 0)) :: ((b5, fun o => o = Obj.cells #[.int .i64 n0, .int .i64 n1, .int .i64 n2, .int .i64 n3, .int .i64 n4] 22 (0, 0)) :: own))))))))
        (fun y => y.1 ≤ pl.length ∧ y.2.1.ok W0 Kr pr y.2.2.1 ∧ y.2.1.rb = r.rb ∧ GOk m.c P y.2.2.1 ∧ y.2.2.1.n ≤ y.1 ∧ BufE CH.enc 43 3 y.2.2.2.1.2.1 y.2.2.2.1.2.2.1 y.2.2.2.1.1 y.2.2.2.1.2.2.2 ∧
          (∀ x ∈ y.2.2.2.1.1, RdE encI 1 W0 y.2.2.2.2 x.a x.ad ∧ x.ad.length ≤ x.ac ∧ ∀ a ∈ x.ad, a ≤ 9223372036854775807) ∧ y.2.2.2.1.1.length ≤ y.1)
        (fun y => pl.length - y.1) (0, r, s0, ([], none, 0, []), []) ⟨Nat.zero_le _, hrok, rfl, hG, (by show s0.n ≤ 0; omega), BufE.nil, (fun _ h => (by cases h)), Nat.zero_le _⟩ (by repeat' (first | exact True.intro | refine And.intro ?_ ?_ | exact rfl | exact vi (by omega) | (dsimp only; exact rfl) | (dsimp only; exact vi (by omega)))) Ent.refl rfl ?_
      rintro ⟨k, r1, s1, ⟨xs, ca, cc, cD⟩, X⟩ junk ⟨hk, hrk1, hrb1, hG1, hn1, hCB, hXA, hxl⟩
      dsimp only at hk hrk1 hrb1 hG1 hn1 hCB hXA hxl ⊢
      by_cases hkl : k < pl.length
      · obtain ⟨x, hx⟩ : ∃ x, pl[k]? = some x := ⟨_, List.getElem?_eq_getElem hkl⟩
        obtain ⟨hxA, hxr⟩ := hPa x (List.mem_of_getElem? hx)
        obtain ⟨xt, xf, xa, xad, xac⟩ := x
        dsimp only at hxA hxr
        have hch := fun (Q : Own) [EntC Q Kr] [EntC Q own] => sp_choiceL (c := m.c) (kc := xac) hrb1 hrk1 hG1 hrp hP16 xt xf hxA hxr Q
        repeat' ((try (conv => whnf)); first | (apply br_pyE; (exact rfl); omega) | ((with_reducible show IxS _ _ _ _ _); first | ((refine ixE hpx hx ?_ ?_; (first | rfl | omega)))) | ((with_reducible show LdN _ _ _ _ _); first | (refine ldNEi hpx hx rfl ?_)) | ((with_reducible show CallT _ _ _ _ _ _); first | ((refine call_to (hch _) Ent.refl ?_ ?_ (fun y v hv => ?_); (exact rfl); (exact rfl); (apply Stop.h)))))
        obtain ⟨⟨ct, cf, ca1, cad, cac⟩, dD⟩ := y
        obtain ⟨rfl, hcA, hcl, hcr⟩ := hv
        dsimp only at hcA hcl hcr ⊢
        have hd2 := fun (Q : Own) [EntC Q Kr] [EntC Q dD] => sp_rdoL (c := m.c) hrb1 hrk1 hG1 hrp (by omega) ct cf hcA hcl hcr Q
        have hG2 := do_ok hG1 (ch := ⟨ct, cf, cad⟩) hcr
        have hn2 := do_le (c := m.c) (P := P) (s := s1) (ch := ⟨ct, cf, cad⟩)
        generalize doM m.c P s1 ⟨ct, cf, cad⟩ = z at *
        obtain ⟨zc, s2⟩ := z
        dsimp only at hd2 hG2 hn2
        have hXA2 : ∀ x ∈ xs ++ [(⟨ct, cf, ca1, cad, cac⟩ : CH)], RdE encI 1 W0 (dD ++ X) x.a x.ad ∧ x.ad.length ≤ x.ac ∧ ∀ a ∈ x.ad, a ≤ 9223372036854775807 := fun x hx => by
          rcases List.mem_append.1 hx with hx | hx
          · exact ⟨(hXA x hx).1.up, (hXA x hx).2⟩
          · rw [List.mem_singleton.1 hx]; exact ⟨hcA.up, hcl, hcr⟩
        have hlen : (xs ++ [(⟨ct, cf, ca1, cad, cac⟩ : CH)]).length = xs.length + 1 := by simp
        refine Stop.mk ?_
        by_cases hz : zc = 0 ∨ (k : Int) % 7 = 6
        · have hcase : zc = 0 ∨ (zc ≠ 0 ∧ (k : Int) % 7 = 6) := by omega
          rcases hcase with hz0 | ⟨hz0, h6⟩
          · repeat' ((try (conv => whnf)); first | (refine when_ne ?_ ?_; exact rfl) | (refine br_te ?_ ?_; exact rfl) | (apply when_pyE; (exact rfl); omega) | (apply app_i (enc := CH.enc) (T := 43) (⟨ct, cf, ca1, cad, cac⟩ : CH) hCB; (exact rfl); (exact rfl); (omega); (exact rfl); (exact rfl); (omega); intro a2 c2' D2 hb2) | ((with_reducible show CallT _ _ _ _ _ _); first | ((refine call_to (hd2 _) ent_ru1 ?_ ?_ (fun r2 v hv => ?_); (exact rfl); (exact rfl); (obtain ⟨rfl, hrk2, hrb2⟩ := hv)))) | (refine ari ?_ ?_; omega) | (apply ldN_a; exact rfl) | (apply stN_o; (exact rfl); (exact rfl); exact rfl) | (refine new_i (fun bk hbk => ?_)))
            all_goals
              refine ⟨(k + 1, r2, s2, (xs ++ [⟨ct, cf, ca1, cad, cac⟩], a2, c2', D2), dD ++ X), ⟨hkl, hrk2, hrb2, hG2, (by show s2.n ≤ k + 1; omega), hb2, hXA2, (by show (xs ++ [(⟨ct, cf, ca1, cad, cac⟩ : CH)]).length ≤ k + 1; omega)⟩, (by show pl.length - (k + 1) < pl.length - k; omega), ?_, ?_⟩
              · dsimp only
                rw [hlen]
                exact (by repeat' (first | exact True.intro | refine And.intro ?_ ?_ | exact rfl | exact vi (by omega) | (dsimp only; exact rfl) | (dsimp only; exact vi (by omega))))
              · exact ent_ru2
          · repeat' ((try (conv => whnf)); first | (refine when_ye ?_ ?_; exact rfl) | (apply br_pyE; (exact rfl); omega) | (apply when_pnE; (exact rfl); omega) | (apply app_i (enc := CH.enc) (T := 43) (⟨ct, cf, ca1, cad, cac⟩ : CH) hCB; (exact rfl); (exact rfl); (omega); (exact rfl); (exact rfl); (omega); intro a2 c2' D2 hb2) | ((with_reducible show CallT _ _ _ _ _ _); first | ((refine call_to (hd2 _) ent_ru1 ?_ ?_ (fun r2 v hv => ?_); (exact rfl); (exact rfl); (obtain ⟨rfl, hrk2, hrb2⟩ := hv)))) | (refine ari ?_ ?_; omega) | (apply ldN_a; exact rfl) | (apply stN_o; (exact rfl); (exact rfl); exact rfl) | (refine new_i (fun bk hbk => ?_)) | (refine rem_i ?_ ?_; omega))
            all_goals
              refine ⟨(k + 1, r2, s2, (xs ++ [⟨ct, cf, ca1, cad, cac⟩], a2, c2', D2), dD ++ X), ⟨hkl, hrk2, hrb2, hG2, (by show s2.n ≤ k + 1; omega), hb2, hXA2, (by show (xs ++ [(⟨ct, cf, ca1, cad, cac⟩ : CH)]).length ≤ k + 1; omega)⟩, (by show pl.length - (k + 1) < pl.length - k; omega), ?_, ?_⟩
              · dsimp only
                rw [hlen]
                exact (by repeat' (first | exact True.intro | refine And.intro ?_ ?_ | exact rfl | exact vi (by omega) | (dsimp only; exact rfl) | (dsimp only; exact vi (by omega))))
              · exact ent_ru2
        · have hz0 : zc ≠ 0 := by omega
          have h6 : ¬ (k : Int) % 7 = 6 := by omega
          repeat' ((try (conv => whnf)); first | (refine when_ye ?_ ?_; exact rfl) | (apply br_pnE; (exact rfl); omega) | (apply when_pnE; (exact rfl); omega) | ((with_reducible show CallT _ _ _ _ _ _); first | ((refine call_to (hd2 _) ent_ru1 ?_ ?_ (fun r2 v hv => ?_); (exact rfl); (exact rfl); (obtain ⟨rfl, hrk2, hrb2⟩ := hv)))) | (refine ari ?_ ?_; omega) | (apply ldN_a; exact rfl) | (apply stN_o; (exact rfl); (exact rfl); exact rfl) | (refine new_i (fun bk hbk => ?_)) | (refine rem_i ?_ ?_; omega))
          all_goals exact ⟨(k + 1, r2, s2, (xs, ca, cc, cD), dD ++ X), ⟨hkl, hrk2, hrb2, hG2, (by show s2.n ≤ k + 1; omega), hCB, (fun x hx => hXA2 x (List.mem_append_left _ hx)), (by show xs.length ≤ k + 1; omega)⟩, (by show pl.length - (k + 1) < pl.length - k; omega), (by repeat' (first | exact True.intro | refine And.intro ?_ ?_ | exact rfl | exact vi (by omega) | (dsimp only; exact rfl) | (dsimp only; exact vi (by omega)))), ent_ru3⟩
      · have hkN : k = pl.length := by omega
        subst hkN
        clear hkl hk
        have hxr : ∀ x ∈ xs, ∀ a ∈ x.ad, a ≤ 9223372036854775807 := fun x hx => (hXA x hx).2.2
        have hr1 := fun (own' : Own) [EntC own' m.O] [EntC own' cD] [EntC own' X] => sp_RunL (own := own') (cc := cc) hF hm (hCB.rd.up) (fun x hx => ⟨(hXA x hx).1.up, (hXA x hx).2⟩) (by omega)
        have hr2 := fun (own' : Own) [EntC own' m.O] [EntC own' cD] [EntC own' X] => sp_rRunL (own := own') (cc := cc) hm (hCB.rd.up) (fun x hx => ⟨(hXA x hx).1.up, (hXA x hx).2⟩) (by omega)
        have hz := out_sz (c := m.c) (ps := m.ps.map PB.h) hm.ilu hxr (by omega)
        generalize outM m.c m.il (m.ps.map PB.h) (xs.map CH.m) = oo at *
        obtain ⟨os, oi, oe⟩ := oo
        dsimp only at hr1 hr2 hz
        have hba := fun own' => sp_rbare (W0 := W0) c2 ia2 pa2 ka2 il2.length ic2 ps2.length pc2 ks2.length kc2 own'
        have hcs := fun (own' : Own) [EntC own' own] => sp_rcs (c := c2) (ia := ia2) (il := il2.length) (ic := ic2) (pc := pc2) (ka := none) (ks := []) (kc := 0) (own := own') hP2.up (fun h hh => (hQ2 h hh).up) RdE.nil
        have hnw := fun (own' : Own) [EntC own' own] => sp_new (own := own') (c := c2) (ic := ic2) (pc := pc2) (ka := ka2) (ks := ks2) (kc := kc2) hF hI2.up (by omega) hP2.up (fun h hh => (hQ2 h hh).up)
        have hr3 := fun (own' : Own) [EntC own' own] => sp_RunU (own := own') (c := c2) (ic := ic2) (pc := pc2) (ka := ka2) (ks := ks2) (kc := kc2) (ca := none) (cc := 0) (cl := []) hF hI2.up (by omega) hw2 hP2.up (fun h hh => (hQ2 h hh).up) RdE.nil (fun _ h => (by cases h)) (Nat.zero_le _)
        have hout : outM c2 il2 ps2 (([] : List CH).map CH.m) = if (csM c2 il2.length ps2 []).2.2 ≠ 0 then (gs0, 0, (csM c2 il2.length ps2 []).2.2) else (newM c2 il2 (ps2.map PH.p), 0, 0) := rfl
        rw [hout] at hr3
        clear hout
        generalize csM c2 il2.length ps2 [] = z at *
        obtain ⟨zt, za, ze⟩ := z
        dsimp only at hcs hnw hr3
        repeat' ((try (conv => whnf)); first | (apply br_pnE; (exact rfl); omega) | ((with_reducible show CallT _ _ _ _ _ _); first | ((refine call_x (hr1 _) ?_ ?_ (fun y1 v hv => ?_); (exact rfl); (exact rfl); (obtain ⟨rfl, hy1⟩ := hv))) | ((refine call_x (hr2 _) ?_ ?_ (fun y2 v hv => ?_); (exact rfl); (exact rfl); (obtain ⟨rfl, hy2⟩ := hv))) | ((refine call_pe (hba _) ?_ ?_ ?_; (exact rfl); exact rfl)) | ((refine call_pe (hcs _) ?_ ?_ ?_; (exact rfl); exact rfl)) | ((refine call_or (hnw _) Ent.refl ?_ ?_ (fun v hv => ?_) (fun y v hv => ?_); (exact rfl); (exact rfl); all_goals (apply Stop.h)))) | (apply sel; exact rfl) | (apply ldN_a; exact rfl) | (apply stN_o; (exact rfl); (exact rfl); exact rfl) | (refine new_i (fun bk hbk => ?_)))
        all_goals have hgl := fun (own' : Own) (e1 : EntC own' y1.D) (e2 : EntC own' y2.D) => sp_kglobal (hy1.at (e1.h W0)) (hy2.at (e2.h W0)) hz
        · obtain ⟨rfl, he⟩ := hv
          rw [if_pos he] at hr3
          have he' : ¬ ze = 0 := he
          refine Stop.mk ?_
          repeat' ((try (conv => whnf)); first | (refine when_ye ?_ ?_; exact rfl) | (apply when_pyE; (exact rfl); omega) | (apply when_pnE; (exact rfl); omega) | (apply when_pyE; (exact rfl); (solve | simp [he'] | (simp [he']; omega))) | ((with_reducible show CallT _ _ _ _ _ _); first | ((refine call_x (hr3 _) ?_ ?_ (fun y3 v hv => ?_); (exact rfl); (exact rfl); (obtain ⟨rfl, hy3⟩ := hv))) | ((refine call_pe (hgl _ inferInstance inferInstance) ?_ ?_ ?_; (exact rfl); exact rfl)) | ((refine call_pe (haw _) ?_ ?_ ?_; (exact rfl); exact rfl))) | (apply sel; exact rfl) | (apply ld_o; exact rfl) | (apply ldN_a; exact rfl) | (apply stN_o; (exact rfl); (exact rfl); exact rfl) | (refine new_i (fun bk hbk => ?_)))
          all_goals exact ⟨ret1 rfl, (by first | exact ent_i | (repeat (first | exact Ent.refl | exact Ent.left | refine Ent.cons ?_ | refine Ent.app ?_)))⟩
        · obtain ⟨g, ys, kD⟩ := y
          obtain ⟨rfl, he, -⟩ := hv
          simp only [Prod.mk.injEq] at he
          obtain ⟨rfl, rfl, rfl⟩ := he
          rw [if_neg (by decide)] at hr3
          refine Stop.mk ?_
          repeat' ((try (conv => whnf)); first | (refine when_ye ?_ ?_; exact rfl) | (refine when_ne ?_ ?_; exact rfl) | (apply when_pyE; (exact rfl); omega) | ((with_reducible show CallT _ _ _ _ _ _); first | ((refine call_x (hr3 _) ?_ ?_ (fun y3 v hv => ?_); (exact rfl); (exact rfl); (obtain ⟨rfl, hy3⟩ := hv))) | ((refine call_pe (hgl _ inferInstance inferInstance) ?_ ?_ ?_; (exact rfl); exact rfl)) | ((refine call_pe (haw _) ?_ ?_ ?_; (exact rfl); exact rfl))) | (apply sel; exact rfl) | (apply ldN_a; exact rfl) | (apply stN_o; (exact rfl); (exact rfl); exact rfl) | (refine new_i (fun bk hbk => ?_)))
          all_goals exact ⟨ret1 rfl, (by first | exact ent_i | (repeat (first | exact Ent.refl | exact Ent.left | refine Ent.cons ?_ | refine Ent.app ?_)))⟩
    · repeat' ((try (conv => whnf)); first | (refine when_ye ?_ ?_; exact rfl) | (refine when_ne ?_ ?_; exact rfl) | (refine br_te ?_ ?_; exact rfl) | (apply br_pyE; (exact rfl); omega) | ((with_reducible show CallT _ _ _ _ _ _); first | ((refine call_pe (haw _) ?_ ?_ ?_; (exact rfl); exact rfl))) | (apply sel; exact rfl) | (apply ld_o; exact rfl) | (apply stN_o; (exact rfl); (exact rfl); exact rfl) | (refine new_i (fun bk hbk => ?_)) | (apply when_dF; (exact rfl); (exact rfl); all_goals intro hc))
      all_goals exact ⟨rfl, (by first | exact ent_i | (repeat (first | exact Ent.refl | exact Ent.left | refine Ent.cons ?_ | refine Ent.app ?_)))⟩
end
end Go.Proofs.YtfompmhncnkcfaaGreatDoor
