/- What the laws share, part 29. No condition. -/
import Derived.Test.YtfompmhncnkcfaaGreatDoorW28
namespace Go.Proofs.YtfompmhncnkcfaaGreatDoor
open Go
set_option maxRecDepth 10000
set_option maxHeartbeats 16000000
theorem rem_m {m n : Int} {K : Int → Prop} (hn : n ≠ 0) (h : K (m.tmod n)) : Rem m n K := ⟨hn, h⟩
theorem quo_m {k : IntKind} {m n : Int} {K : Int → Prop} (hn : n ≠ 0) (h : K (k.wrap (m.tdiv n))) : Quo k m n K := ⟨hn, h⟩
section
variable {W0 : World} {own : Own} {a : Option Addr} {l : List Int} {cap : Nat}
theorem getD_le {l : List Int} {M : Int} (h : ∀ x ∈ l, x ≤ M) (h0 : 0 ≤ M) (j : Nat) : l.getD j 0 ≤ M := by
  rw [List.getD_eq_getElem?_getD]
  cases hj : l[j]? with
  | none => exact h0
  | some y => exact h y (List.mem_of_getElem? hj)
theorem sp_kat (hR : RdE encI 1 W0 own a l) (j : Nat) : Pure Tryz.prog W0 36 [.slice a l.length cap, .int .i64 j] own (.int .i64 (l.getD j 0)) := by
  refine pure_of (spec_of mixed low_kit_At (by simp [ir_kit_At]) ?_)
  rw [List.getD_eq_getElem?_getD]
  by_cases hj : j < l.length
  · obtain ⟨x, hx⟩ : ∃ x, l[j]? = some x := ⟨_, List.getElem?_eq_getElem hj⟩
    repeat' ((try (conv => whnf)); first | (refine when_ye ?_ ?_; exact rfl) | (apply br_pyE; (exact rfl); omega) | ((with_reducible show Ld _ _ _ _); first | (refine ldE0 hR hx rfl ?_)) | ((with_reducible show IxS _ _ _ _ _); first | ((refine ixE hR hx ?_ ?_; (first | rfl | omega)))))
    all_goals exact ⟨by rw [hx]; rfl, (by first | exact ent_i | (repeat (first | exact Ent.refl | exact Ent.left | refine Ent.cons ?_ | refine Ent.app ?_)))⟩
  · repeat' ((try (conv => whnf)); first | (refine when_ye ?_ ?_; exact rfl) | (apply br_pnE; (exact rfl); omega))
    all_goals exact ⟨by rw [List.getElem?_eq_none (by omega)]; rfl, (by first | exact ent_i | (repeat (first | exact Ent.refl | exact Ent.left | refine Ent.cons ?_ | refine Ent.app ?_)))⟩
theorem ent_x9 {e : Nat × (Obj → Prop)} {D Z : Own} {b4 b3 : Nat × (Obj → Prop)} : Ent W0 (e :: (D ++ (b4 :: (b3 :: Z)))) (D ++ Z) := ent_cnt [e, b4, b3] fun a => by simp only [cnt_app, cnt_cons, cnt_nil]; omega
theorem ent_x8 {e : Nat × (Obj → Prop)} {D U Z : Own} {b4 b3 : Nat × (Obj → Prop)} : Ent W0 (e :: (D ++ (U ++ (b4 :: (b3 :: Z))))) (e :: (D ++ (b4 :: (b3 :: Z)))) := ent_cnt U fun a => by simp only [cnt_app, cnt_cons]; omega
end
section
variable {W0 : World} {Kp K : Own} {g : DP} {c : Cfg} {ps : List PH} {P : List (List Ins)} {s : GS}
abbrev PickB (b3 : Nat) (t f : Int) (aa : Option Addr) (al ac : Nat) : Nat × (Obj → Prop) := (b3, fun o => o = Obj.cells #[.int .i64 t, .int .i64 f, .slice aa al ac] 45 (0, 0))
theorem sp_choice (h : g.ok W0 Kp ps s) (hG : GOk c P s) (hP : ps.map PH.p = P) (hPl : P.length ≤ 1000) (kt kf : Int) {ka : Option Addr} {kl : List Int} {kc : Nat} (hA : RdE encI 1 W0 K ka kl) (hkr : ∀ a ∈ kl, a ≤ 9223372036854775807) (q : Own) [ek : EntC q Kp] [ek2 : EntC q K] :
    Spec Tryz.prog W0 13 [.pointer (some ⟨g.rb, 0, none⟩), chV kt kf ka kl.length kc] (g.O c ps.length s ++ q) fun v own' => ∃ y : CH × Own,
      (v = chV y.1.t y.1.f y.1.a y.1.ad.length y.1.ac ∧ RdE encI 1 W0 y.2 y.1.a y.1.ad ∧ y.1.ad.length ≤ y.1.ac ∧ ∀ a ∈ y.1.ad, a ≤ 9223372036854775807) ∧ Ent W0 own' (y.2 ++ (g.O c ps.length s ++ q)) := by
  refine spec_of mixed lowc_law22_choice (by simp [irc_law22_choice]) ?_
  have hTl := hG.tl
  have hTR := h.t.rd (W0 := W0)
  have hMR := h.m.rd (W0 := W0)
  have hKK := h.k
  have hml := hG.kl
  have hbd := blocks_bd c
  have hpa := fun own' => sp_place W0 own' kt (s.T.length + 1) ⟨by omega, by omega⟩
  have hpb := fun own' => sp_place W0 own' kf 6 ⟨by omega, by omega⟩
  have hpc := fun own' => sp_place W0 own' (IntKind.i64.wrap (kf.tdiv 6)) 8 ⟨by omega, by omega⟩
  have hpd := place_bd kt (show (0 : Int) < s.T.length + 1 by omega)
  generalize placeM kt (s.T.length + 1) = tz at *
  generalize placeM kf 6 = fz at *
  generalize placeM (IntKind.i64.wrap (kf.tdiv 6)) 8 = fy at *
  obtain ⟨t, rfl⟩ := Int.eq_ofNat_of_zero_le hpd.1
  have hka := fun (own' : Own) [EntC own' K] (j : Nat) => sp_kat (cap := kc) (RdE.up (own := own') hA) j
  repeat' ((try (conv => whnf)); first | (refine new_i (fun b3 h3 => ?_); (apply Stop.h)))
  refine Stop.mk ?_
  repeat' ((try (conv => whnf)); first | (refine new_i (fun b4 h4 => ?_); (apply Stop.h)))
  refine Stop.mk ?_
  repeat' ((try (conv => whnf)); first | (refine new_i (fun b5 h5 => ?_)) | ((with_reducible show CallQ _ _ _ _ _ _); first | ((refine call_qq (fun _ => hpa _) ?_ ?_ ?_; (exact rfl); exact rfl))) | (refine ari ?_ ?_; omega) | (apply ld_o; exact rfl) | (apply stN_o; (exact rfl); (exact rfl); exact rfl))
  refine cut_i (σ := Int) (2 ^ 30 - 2 ^ 21) (fun _ => []) (fun f => ChB b5 t f none 0 0 :: (ChB b4 0 0 none 0 0 :: (PickB b3 kt kf ka kl.length kc :: (g.O c ps.length s ++ q)))) (fun _ => True) rfl ?_ ?_
  · by_cases hf0 : fz = 0
    · repeat' ((try (conv => whnf)); first | (apply br_pyE; (exact rfl); omega) | (refine quo_m (by decide) ?_) | ((with_reducible show CallT _ _ _ _ _ _); first | ((refine call_pe (hpb _) ?_ ?_ ?_; (exact rfl); exact rfl)) | ((refine call_pe (hpc _) ?_ ?_ ?_; (exact rfl); exact rfl))) | (apply ld_o; exact rfl) | (apply st_o; (exact rfl); exact rfl))
      exact ⟨fy, trivial, trivial, Ent.refl⟩
    · repeat' ((try (conv => whnf)); first | (apply br_pnE; (exact rfl); omega) | ((with_reducible show CallT _ _ _ _ _ _); first | ((refine call_pe (hpb _) ?_ ?_ ?_; (exact rfl); exact rfl))) | (apply ld_o; exact rfl))
      exact ⟨0, trivial, trivial, Ent.refl⟩
  intro f junk _
  have hret : ∀ f : Int, ∃ y : CH × Own, (chV t f none 0 0 = chV y.1.t y.1.f y.1.a y.1.ad.length y.1.ac ∧ RdE encI 1 W0 y.2 y.1.a y.1.ad ∧ y.1.ad.length ≤ y.1.ac ∧ ∀ a ∈ y.1.ad, a ≤ 9223372036854775807) ∧ Ent W0 (ChB b5 t f none 0 0 :: (ChB b4 t f none 0 0 :: (PickB b3 kt kf ka kl.length kc :: (g.O c ps.length s ++ q)))) (y.2 ++ (g.O c ps.length s ++ q)) := fun f =>
    ⟨(⟨t, f, none, [], 0⟩, []), ⟨rfl, RdE.nil, Nat.le_refl _, fun _ h => by cases h⟩, ent_x9 (D := [])⟩
  by_cases htn : t = s.T.length
  · have htn' : (t : Int) = s.T.length := by omega
    repeat' ((try (conv => whnf)); first | (refine when_ne ?_ ?_; exact rfl) | (refine br_te ?_ ?_; exact rfl) | (apply when_pyE; (exact rfl); omega) | (apply ld_o; exact rfl) | (apply ldN_a; exact rfl) | (apply stN_o; (exact rfl); (exact rfl); exact rfl))
    all_goals exact hret f
  have htn' : ¬ (t : Int) = s.T.length := by omega
  obtain ⟨th, hth⟩ : ∃ th, s.T[t]? = some th := ⟨_, List.getElem?_eq_getElem (by omega)⟩
  have hpsl : ps.length = P.length := by rw [← hP, List.length_map]
  obtain ⟨ph, hph⟩ : ∃ ph, ps[t]? = some ph := ⟨_, List.getElem?_eq_getElem (by omega)⟩
  have hpp := ps_get hph
  rw [hP] at hpp
  have hpv := hG.pv ph.p (List.mem_of_getElem? hpp)
  obtain ⟨hrg, hpcc, hst, hdn, hoc⟩ := hG.th t th ph.p hth hpp
  obtain ⟨pc, rg, oc, dn⟩ := th
  dsimp only at hpcc hst hdn hoc
  cases dn with
  | true =>
    repeat' ((try (conv => whnf)); first | (refine when_ye ?_ ?_; exact rfl) | (refine when_ne ?_ ?_; exact rfl) | (refine br_te ?_ ?_; exact rfl) | (apply when_pnE; (exact rfl); omega) | ((with_reducible show Ld _ _ _ _); first | (refine ldEk hTR hth rfl ?_)) | ((with_reducible show IxS _ _ _ _ _); first | ((refine ixE hTR hth ?_ ?_; (first | rfl | omega)))) | (apply ld_o; exact rfl) | (apply ldN_a; exact rfl) | (apply stN_o; (exact rfl); (exact rfl); exact rfl))
    all_goals exact hret f
  | false =>
    by_cases hf0 : f = 0
    · subst hf0
      have hpcl : pc < ph.p.length := by
        have := of_decide_eq_false hdn.symm
        omega
      have hpl := ck_len hpv
      obtain ⟨x, hx⟩ : ∃ x, ph.p[pc]? = some x := ⟨_, List.getElem?_eq_getElem hpcl⟩
      have hPR := h.kp ph (List.mem_of_getElem? hph)
      have e00 : ¬ (0 : Int) ≠ 0 := fun h => h rfl
      have hxop : ∃ xo : Int, x.op = xo := ⟨_, rfl⟩
      repeat' ((try (conv => whnf)); first | (refine when_ye ?_ ?_; exact rfl) | (refine br_fe ?_ ?_; exact rfl) | (apply when_pnE; (exact rfl); omega) | ((with_reducible show Ld _ _ _ _); first | (refine ldEk hTR hth rfl ?_) | (refine ldE0 hKK hph rfl ?_)) | ((with_reducible show IxS _ _ _ _ _); first | ((refine ixE hTR hth ?_ ?_; (first | rfl | omega))) | ((refine ixE hKK hph ?_ ?_; (first | rfl | omega)))) | (apply ld_o; exact rfl))
      refine cut_i (σ := (Option Addr × Nat × Own) × List Int) (2 ^ 176 - 2 ^ 64 + 2 ^ 7 + 2 ^ 8 + 2 ^ 9 + 2 ^ 10) (fun _ => []) (fun y => ChB b5 t 0 y.1.1 y.2.length y.1.2.1 :: (y.1.2.2 ++ (ChB b4 0 0 none 0 0 :: (PickB b3 kt kf ka kl.length kc :: (g.O c ps.length s ++ q)))))
        (fun y => BufE encI 3 1 y.1.1 y.1.2.1 y.2 y.1.2.2 ∧ (∀ a ∈ y.2, a ≤ 9223372036854775807) ∧ y.2.length ≤ 64) rfl ?_ ?_
      · repeat' ((try (conv => whnf)); first | (refine ari (e := (pc : Int) + 1) ?_ ?_; omega) | ((with_reducible show Ld _ _ _ _); first | (refine ldE0 hTR hth rfl ?_)) | ((with_reducible show IxS _ _ _ _ _); first | ((refine ixE hTR hth ?_ ?_; (first | rfl | omega)))) | (apply ld_o; exact rfl))
        refine loop_i (σ := Nat × (List Int × Option Addr × Nat × Own) × (Option Addr × Nat × Own) × List Int) (fun y => [(8, .int .i64 y.1), (7, .slice y.2.1.2.1 y.2.1.1.length y.2.1.2.2.1)])
          (fun y => ChB b5 t 0 y.2.2.1.1 y.2.2.2.length y.2.2.1.2.1 :: (y.2.2.1.2.2 ++ (y.2.1.2.2.2 ++ (ChB b4 0 0 none 0 0 :: (PickB b3 kt kf ka kl.length kc :: (g.O c ps.length s ++ q))))))
          (fun y => y.1 ≤ ph.p.length ∧ BufE encI 3 1 y.2.1.2.1 y.2.1.2.2.1 y.2.1.1 y.2.1.2.2.2 ∧ y.2.1.1.length ≤ y.1 ∧ BufE encI 3 1 y.2.2.1.1 y.2.2.1.2.1 y.2.2.2 y.2.2.1.2.2 ∧ (∀ a ∈ y.2.2.2, a ≤ 9223372036854775807) ∧ y.2.2.2.length ≤ y.1)
          (fun y => ph.p.length - y.1) (pc + 1, ([], none, 0, []), (none, 0, []), []) ⟨hpcl, BufE.nil, Nat.zero_le _, BufE.nil, (fun _ h => by cases h), Nat.zero_le _⟩ (by repeat' (first | exact True.intro | refine And.intro ?_ ?_ | exact rfl | exact vi (by omega) | (dsimp only; exact rfl) | (dsimp only; exact vi (by omega)))) Ent.refl rfl ?_
        rintro ⟨i, ⟨ul, ua, uc, uD⟩, ⟨a, ac, aD⟩, al⟩ junk ⟨hi, hU, hul, hAd, har, hal⟩
        dsimp only at hi hU hul hAd har hal ⊢
        have hUR := hU.rd (W0 := W0)
        by_cases hil : i < ph.p.length
        · obtain ⟨z, hz⟩ : ∃ z, ph.p[i]? = some z := ⟨_, List.getElem?_eq_getElem hil⟩
          by_cases hx7 : x.op = 7
          · by_cases hz8 : z.op = 8
            · have hz8' : ¬ z.op ≠ 8 := fun h => h hz8
              repeat' ((try (conv => whnf)); first | (refine when_ye ?_ ?_; exact rfl) | (apply br_pnE; (exact rfl); omega) | (apply when_pyE; (exact rfl); omega) | ((with_reducible show Ld _ _ _ _); first | (refine ldE0 hTR hth rfl ?_) | (refine ldE0 hPR hx rfl ?_) | (refine ldE0 hPR hz rfl ?_)) | ((with_reducible show IxS _ _ _ _ _); first | ((refine ixE hTR hth ?_ ?_; (first | rfl | omega))) | ((refine ixE hPR hx ?_ ?_; (first | rfl | omega))) | ((refine ixE hPR hz ?_ ?_; (first | rfl | omega)))) | (apply ld_o; exact rfl))
              exact ⟨((a, ac, aD), al), ⟨hAd, har, (by show al.length ≤ 64; omega)⟩, trivial, ent_x8⟩
            · by_cases hz14 : z.op = 14
              · have hz14' : ¬ z.op ≠ 14 := fun h => h hz14
                have hka1 := fun (own' : Own) [EntC own' K] => hka own' al.length
                have hv0 := getD_le hkr (by decide) al.length
                generalize kl.getD al.length 0 = v0 at *
                repeat' ((try (conv => whnf)); first | (refine when_ye ?_ ?_; exact rfl) | (apply br_pyE; (exact rfl); omega) | (apply br_pnE; (exact rfl); omega) | (apply when_pyE; (exact rfl); omega) | ((with_reducible show Ld _ _ _ _); first | (refine ldE0 hTR hth rfl ?_) | (refine ldE0 hPR hx rfl ?_) | (refine ldE0 hPR hz rfl ?_)) | ((with_reducible show IxS _ _ _ _ _); first | ((refine ixE hTR hth ?_ ?_; (first | rfl | omega))) | ((refine ixE hPR hx ?_ ?_; (first | rfl | omega))) | ((refine ixE hPR hz ?_ ?_; (first | rfl | omega)))) | ((with_reducible show CallT _ _ _ _ _ _); first | ((refine call_pe (hka1 _) ?_ ?_ ?_; (exact rfl); exact rfl))) | (apply ld_o; exact rfl))
                refine cut_i (σ := Int × List Int × Option Addr × Nat × Own) (2 ^ 170 - 2 ^ 116 + 2 ^ 7 + 2 ^ 9 + 2 ^ 10) (fun y => [(9, .int .i64 y.1), (7, .slice y.2.2.1 y.2.1.length y.2.2.2.1)])
                  (fun y => ChB b5 t 0 a al.length ac :: (aD ++ (y.2.2.2.2 ++ (ChB b4 0 0 none 0 0 :: (PickB b3 kt kf ka kl.length kc :: (g.O c ps.length s ++ q))))))
                  (fun y => y.1 ≤ 9223372036854775807 ∧ BufE encI 3 1 y.2.2.1 y.2.2.2.1 y.2.1 y.2.2.2.2 ∧ y.2.1.length ≤ ul.length + 1) rfl ?_ ?_
                · skip
                  refine loop_i (σ := Nat) (fun b => [(10, .int .i64 b), (9, .int .i64 v0), (7, .slice ua ul.length uc)])
                    (fun _ => ChB b5 t 0 a al.length ac :: (aD ++ (uD ++ (ChB b4 0 0 none 0 0 :: (PickB b3 kt kf ka kl.length kc :: (g.O c ps.length s ++ q))))))
                    (fun b => b ≤ s.tk.length) (fun b => s.tk.length - b) 0 (Nat.zero_le _) (by repeat' (first | exact True.intro | refine And.intro ?_ ?_ | exact rfl | exact vi (by omega) | (dsimp only; exact rfl) | (dsimp only; exact vi (by omega)))) Ent.refl rfl ?_
                  intro b junk hb
                  dsimp only at hb ⊢
                  by_cases hbl : b < s.tk.length
                  · obtain ⟨y, hy⟩ : ∃ y, s.tk[b]? = some y := ⟨_, List.getElem?_eq_getElem hbl⟩
                    have hft := (first_bd (c := c) (b := b) (by omega) (by omega)).2
                    have hin := fun (own' : Own) [EntC own' uD] => sp_in (own := own') (cap := uc) (hUR.up) (by omega) b
                    have hcl := fun own' => sp_rclass W0 own' c b
                    have hfi := fun own' => sp_rfirst W0 own' c b
                    generalize firstM c b = fb at *
                    generalize classM c b = cb at *
                    have hcont : ∃ b' : Nat, b' ≤ s.tk.length ∧ s.tk.length - b' < s.tk.length - b ∧ b' = b + 1 := ⟨b + 1, hbl, by omega, rfl⟩
                    cases y with
                    | true =>
                      repeat' ((try (conv => whnf)); first | (refine when_ne ?_ ?_; exact rfl) | (refine br_fe ?_ ?_; exact rfl) | (apply br_pyE; (exact rfl); omega) | ((with_reducible show Ld _ _ _ _); first | (refine ldE0 hMR hy rfl ?_)) | ((with_reducible show IxS _ _ _ _ _); first | ((refine ixE hMR hy ?_ ?_; (first | rfl | omega)))) | (refine ari ?_ ?_; omega) | (apply ld_o; exact rfl))
                      all_goals exact ⟨b + 1, hbl, (by show s.tk.length - (b + 1) < s.tk.length - b; omega), (by repeat' (first | exact True.intro | refine And.intro ?_ ?_ | exact rfl | exact vi (by omega) | (dsimp only; exact rfl) | (dsimp only; exact vi (by omega)))), Ent.refl⟩
                    | false =>
                      by_cases hbi : (b : Int) ∈ ul
                      · repeat' ((try (conv => whnf)); first | (refine when_ye ?_ ?_; exact rfl) | (refine when_ne ?_ ?_; exact rfl) | (refine br_fe ?_ ?_; exact rfl) | (apply br_pyE; (exact rfl); omega) | (apply when_npyE; (exact rfl); omega) | ((with_reducible show Ld _ _ _ _); first | (refine ldE0 hMR hy rfl ?_)) | ((with_reducible show IxS _ _ _ _ _); first | ((refine ixE hMR hy ?_ ?_; (first | rfl | omega)))) | ((with_reducible show CallQ _ _ _ _ _ _); first | ((refine call_qi (fun ex => hin _) ?_ ?_ ?_; (exact rfl); (exact rfl)))) | (refine ari ?_ ?_; omega) | (apply ld_o; exact rfl))
                        all_goals exact ⟨b + 1, hbl, (by show s.tk.length - (b + 1) < s.tk.length - b; omega), (by repeat' (first | exact True.intro | refine And.intro ?_ ?_ | exact rfl | exact vi (by omega) | (dsimp only; exact rfl) | (dsimp only; exact vi (by omega)))), Ent.refl⟩
                      · by_cases hci : cb = z.imm
                        · by_cases hv6 : v0.tmod 7 = 6
                          · have hv6' : ¬ v0.tmod 7 ≠ 6 := fun h => h hv6
                            repeat' ((try (conv => whnf)); first | (refine when_ye ?_ ?_; exact rfl) | (apply br_pyE; (exact rfl); omega) | (apply br_pnE; (exact rfl); omega) | (apply when_pyE; (exact rfl); omega) | (apply when_npnE; (exact rfl); omega) | (refine rem_m (by decide) ?_) | ((with_reducible show Ld _ _ _ _); first | (refine ldE0 hMR hy rfl ?_) | (refine ldEk hPR hz rfl ?_)) | ((with_reducible show IxS _ _ _ _ _); first | ((refine ixE hMR hy ?_ ?_; (first | rfl | omega))) | ((refine ixE hPR hz ?_ ?_; (first | rfl | omega)))) | ((with_reducible show CallQ _ _ _ _ _ _); first | ((refine call_qi (fun ex => hin _) ?_ ?_ ?_; (exact rfl); (exact rfl))) | ((refine call_qq (fun _ => hcl _) ?_ ?_ ?_; (exact rfl); exact rfl))) | (refine ari ?_ ?_; omega) | (apply ld_o; exact rfl) | (apply ldN_o; (exact rfl); exact rfl))
                            all_goals exact ⟨b + 1, hbl, (by show s.tk.length - (b + 1) < s.tk.length - b; omega), (by repeat' (first | exact True.intro | refine And.intro ?_ ?_ | exact rfl | exact vi (by omega) | (dsimp only; exact rfl) | (dsimp only; exact vi (by omega)))), Ent.refl⟩
                          · repeat' ((try (conv => whnf)); first | (refine when_ye ?_ ?_; exact rfl) | (apply br_pyE; (exact rfl); omega) | (apply when_pyE; (exact rfl); omega) | (apply when_npnE; (exact rfl); omega) | (refine rem_m (by decide) ?_) | (apply app_i (enc := encI) (T := 3) (b : Int) hU; (exact rfl); (exact rfl); (omega); (exact rfl); (exact rfl); (omega); intro a2 c2 D2 hb2) | ((with_reducible show Ld _ _ _ _); first | (refine ldE0 hMR hy rfl ?_) | (refine ldEk hPR hz rfl ?_)) | ((with_reducible show IxS _ _ _ _ _); first | ((refine ixE hMR hy ?_ ?_; (first | rfl | omega))) | ((refine ixE hPR hz ?_ ?_; (first | rfl | omega)))) | ((with_reducible show CallT _ _ _ _ _ _); first | ((refine call_pe (hfi _) ?_ ?_ ?_; (exact rfl); exact rfl))) | ((with_reducible show CallQ _ _ _ _ _ _); first | ((refine call_qi (fun ex => hin _) ?_ ?_ ?_; (exact rfl); (exact rfl))) | ((refine call_qq (fun _ => hcl _) ?_ ?_ ?_; (exact rfl); exact rfl))) | (apply ld_o; exact rfl) | (apply ldN_o; (exact rfl); exact rfl) | (refine new_i (fun bk hbk => ?_)))
                            all_goals
                              have hlen : (ul ++ [(b : Int)]).length = ul.length + 1 := by simp
                              refine ⟨(fb, ul ++ [(b : Int)], a2, c2, D2), ⟨(by show fb ≤ 9223372036854775807; omega), hb2, (by show (ul ++ [(b : Int)]).length ≤ ul.length + 1; omega)⟩, ?_, (by first | exact ent_i | (repeat (first | exact Ent.refl | exact Ent.left | refine Ent.cons ?_ | refine Ent.app ?_)))⟩
                              dsimp only
                              rw [hlen]
                              exact (by repeat' (first | exact True.intro | refine And.intro ?_ ?_ | exact rfl | exact vi (by omega) | (dsimp only; exact rfl) | (dsimp only; exact vi (by omega))))
                        · repeat' ((try (conv => whnf)); first | (refine when_ye ?_ ?_; exact rfl) | (refine when_ne ?_ ?_; exact rfl) | (refine br_fe ?_ ?_; exact rfl) | (apply br_pyE; (exact rfl); omega) | (apply when_pnE; (exact rfl); omega) | (apply when_npnE; (exact rfl); omega) | ((with_reducible show Ld _ _ _ _); first | (refine ldE0 hMR hy rfl ?_) | (refine ldEk hPR hz rfl ?_)) | ((with_reducible show IxS _ _ _ _ _); first | ((refine ixE hMR hy ?_ ?_; (first | rfl | omega))) | ((refine ixE hPR hz ?_ ?_; (first | rfl | omega)))) | ((with_reducible show CallQ _ _ _ _ _ _); first | ((refine call_qi (fun ex => hin _) ?_ ?_ ?_; (exact rfl); (exact rfl))) | ((refine call_qq (fun _ => hcl _) ?_ ?_ ?_; (exact rfl); exact rfl))) | (refine ari ?_ ?_; omega) | (apply ld_o; exact rfl) | (apply ldN_o; (exact rfl); exact rfl))
                          all_goals exact ⟨b + 1, hbl, (by show s.tk.length - (b + 1) < s.tk.length - b; omega), (by repeat' (first | exact True.intro | refine And.intro ?_ ?_ | exact rfl | exact vi (by omega) | (dsimp only; exact rfl) | (dsimp only; exact vi (by omega)))), Ent.refl⟩
                  · have hbN : b = s.tk.length := by omega
                    subst hbN
                    repeat' ((try (conv => whnf)); first | (apply br_pnE; (exact rfl); omega) | (apply ld_o; exact rfl))
                    exact ⟨(v0, ul, ua, uc, uD), ⟨hv0, hU, Nat.le_succ _⟩, (by repeat' (first | exact True.intro | refine And.intro ?_ ?_ | exact rfl | exact vi (by omega) | (dsimp only; exact rfl) | (dsimp only; exact vi (by omega)))), Ent.refl⟩
                · rintro ⟨v, ul2, ua2, uc2, uD2⟩ junk ⟨hv, hU2, hul2⟩
                  dsimp only at hv hU2 hul2 ⊢
                  repeat' ((try (conv => whnf)); first | (apply app_i (enc := encI) (T := 3) v hAd; (exact rfl); (exact rfl); (omega); (exact rfl); (exact rfl); (omega); intro a2 c2 D2 hb2) | (refine ari ?_ ?_; omega) | (apply ld_o; exact rfl) | (apply st_o; (exact rfl); exact rfl) | (refine new_i (fun bk hbk => ?_)))
                  all_goals
                    refine ⟨(i + 1, (ul2, ua2, uc2, uD2), (a2, c2, D2), al ++ [v]), ⟨hil, hU2, by show ul2.length ≤ i + 1; omega, hb2, fun y hy => ?_, by simp; omega⟩, (by show ph.p.length - (i + 1) < ph.p.length - i; omega), (by repeat' (first | exact True.intro | refine And.intro ?_ ?_ | exact rfl | exact vi (by omega) | (dsimp only; exact rfl) | (dsimp only; exact vi (by omega)))), ?_⟩
                    · rcases List.mem_append.1 hy with hy | hy
                      · exact har y hy
                      · rw [List.mem_singleton.1 hy]; exact hv
                    · dsimp only
                      rw [List.length_append]
                      exact (by first | exact ent_i | (repeat (first | exact Ent.refl | exact Ent.left | refine Ent.cons ?_ | refine Ent.app ?_)))
              · repeat' ((try (conv => whnf)); first | (refine when_ye ?_ ?_; exact rfl) | (apply br_pyE; (exact rfl); omega) | (apply when_pyE; (exact rfl); omega) | ((with_reducible show Ld _ _ _ _); first | (refine ldE0 hTR hth rfl ?_) | (refine ldE0 hPR hx rfl ?_) | (refine ldE0 hPR hz rfl ?_)) | ((with_reducible show IxS _ _ _ _ _); first | ((refine ixE hTR hth ?_ ?_; (first | rfl | omega))) | ((refine ixE hPR hx ?_ ?_; (first | rfl | omega))) | ((refine ixE hPR hz ?_ ?_; (first | rfl | omega)))) | (refine ari ?_ ?_; omega) | (apply ld_o; exact rfl))
                exact ⟨(i + 1, (ul, ua, uc, uD), (a, ac, aD), al), ⟨hil, hU, by show ul.length ≤ i + 1; omega, hAd, har, by show al.length ≤ i + 1; omega⟩, (by show ph.p.length - (i + 1) < ph.p.length - i; omega), (by repeat' (first | exact True.intro | refine And.intro ?_ ?_ | exact rfl | exact vi (by omega) | (dsimp only; exact rfl) | (dsimp only; exact vi (by omega)))), Ent.refl⟩
          · repeat' ((try (conv => whnf)); first | (refine when_ye ?_ ?_; exact rfl) | (refine when_ne ?_ ?_; exact rfl) | (refine br_fe ?_ ?_; exact rfl) | (apply when_pyE; (exact rfl); omega) | (apply when_pnE; (exact rfl); omega) | ((with_reducible show Ld _ _ _ _); first | (refine ldE0 hTR hth rfl ?_) | (refine ldE0 hPR hx rfl ?_)) | ((with_reducible show IxS _ _ _ _ _); first | ((refine ixE hTR hth ?_ ?_; (first | rfl | omega))) | ((refine ixE hPR hx ?_ ?_; (first | rfl | omega)))) | (apply ld_o; exact rfl))
            exact ⟨((a, ac, aD), al), ⟨hAd, har, (by show al.length ≤ 64; omega)⟩, trivial, ent_x8⟩
        · repeat' ((try (conv => whnf)); first | (refine when_ne ?_ ?_; exact rfl) | (refine br_fe ?_ ?_; exact rfl) | (apply when_pnE; (exact rfl); omega))
          exact ⟨((a, ac, aD), al), ⟨hAd, har, (by show al.length ≤ 64; omega)⟩, trivial, ent_x8⟩
      · rintro ⟨⟨a, ac, aD⟩, al⟩ junk ⟨hAd, har, hal⟩
        dsimp only at hAd har hal ⊢
        have hka5 := fun (own' : Own) [EntC own' K] => hka own' 5
        generalize kl.getD 5 0 = v5 at *
        have hle := hAd.le
        have hAR := hAd.rd (W0 := W0)
        by_cases h4 : v5.tmod 5 = 4
        · by_cases hl0 : (0 : Int) < al.length
          · obtain ⟨m, hm⟩ : ∃ m, al.length = m + 1 := ⟨al.length - 1, by omega⟩
            have hS := hAR.sl (c := 1) (r := al.length) (m := ac) (Nat.le_refl _) hle
            have hSl : ((al.drop 1).take (al.length - 1)).length = m := by simp; omega
            repeat' ((try (conv => whnf)); first | (refine when_ye ?_ ?_; exact rfl) | (apply br_pyE; (exact rfl); omega) | (apply when_pyE; (exact rfl); omega) | (refine rem_m (by decide) ?_) | (refine sls_f hm ?_) | ((with_reducible show CallT _ _ _ _ _ _); first | ((refine call_pe (hka5 _) ?_ ?_ ?_; (exact rfl); exact rfl))) | (apply ld_o; exact rfl) | (apply ldN_a; exact rfl) | (apply st_o; (exact rfl); exact rfl) | (apply stN_o; (exact rfl); (exact rfl); exact rfl))
            refine ⟨(⟨t, 0, slA a ac 1 1, (al.drop 1).take (al.length - 1), ac - 1⟩, aD), ⟨?_, hS, ?_, fun y hy => har y (List.mem_of_mem_drop (List.mem_of_mem_take hy))⟩, ent_x9⟩
            · dsimp only; rw [hSl]; rfl
            · dsimp only; rw [hSl]; omega
          · repeat' ((try (conv => whnf)); first | (refine when_ye ?_ ?_; exact rfl) | (apply br_pnE; (exact rfl); omega) | (apply when_pyE; (exact rfl); omega) | (refine rem_m (by decide) ?_) | ((with_reducible show CallT _ _ _ _ _ _); first | ((refine call_pe (hka5 _) ?_ ?_ ?_; (exact rfl); exact rfl))) | (apply ld_o; exact rfl) | (apply ldN_a; exact rfl) | (apply stN_o; (exact rfl); (exact rfl); exact rfl))
            exact ⟨(⟨t, 0, a, al, ac⟩, aD), ⟨rfl, hAR, hle, har⟩, ent_x9⟩
        · repeat' ((try (conv => whnf)); first | (refine when_ne ?_ ?_; exact rfl) | (refine br_fe ?_ ?_; exact rfl) | (apply when_pnE; (exact rfl); omega) | (refine rem_m (by decide) ?_) | ((with_reducible show CallT _ _ _ _ _ _); first | ((refine call_pe (hka5 _) ?_ ?_ ?_; (exact rfl); exact rfl))) | (apply ld_o; exact rfl) | (apply ldN_a; exact rfl) | (apply stN_o; (exact rfl); (exact rfl); exact rfl))
          exact ⟨(⟨t, 0, a, al, ac⟩, aD), ⟨rfl, hAR, hle, har⟩, ent_x9⟩
    · repeat' ((try (conv => whnf)); first | (refine when_ye ?_ ?_; exact rfl) | (apply br_pyE; (exact rfl); omega) | (apply when_pnE; (exact rfl); omega) | ((with_reducible show Ld _ _ _ _); first | (refine ldEk hTR hth rfl ?_)) | ((with_reducible show IxS _ _ _ _ _); first | ((refine ixE hTR hth ?_ ?_; (first | rfl | omega)))) | (apply ld_o; exact rfl) | (apply ldN_a; exact rfl) | (apply stN_o; (exact rfl); (exact rfl); exact rfl))
      all_goals exact hret f
end
end Go.Proofs.YtfompmhncnkcfaaGreatDoor
namespace Go.Proofs.YtfompmhncnkcfaaGreatDoor
open Go
set_option maxRecDepth 10000
set_option maxHeartbeats 8000000
section
variable {W0 : World} {Kp K : Own} {g : GP} {c : Cfg} {ps : List PH} {P : List (List Ins)} {s : GS} {gb : Nat}
theorem sp_resL (hgb : g.gb = gb) (h : g.ok W0 Kp ps s) (hv : g.ev W0) (hz : SzG s) (q : Own) :
    Spec Tryz.prog W0 17 [.pointer (some ⟨gb, 0, none⟩)] (g.O c ps.length s ++ q) fun v own' => ∃ r : RG, (v = r.v s ∧ r.ok W0 s) ∧ Ent W0 own' (r.D ++ (g.O c ps.length s ++ q)) := by
  subst hgb
  exact sp_result (c := c) h hv hz.d hz.t hz.e hz.o hz.ol hz.ev q
theorem sp_doL (hF : FormsAt W0) (hgb : g.gb = gb) (h : g.ok W0 Kp ps s) (hv : g.ev W0) (hG : GOk c P s) (hP : ps.map PH.p = P) (hn : s.n ≤ 5000) (t f : Int) {aa : Option Addr} {ad : List Int} {ac : Nat} (hA : RdE encI 1 W0 K aa ad) (hal : ad.length ≤ ac) (had : ∀ a ∈ ad, a ≤ 9223372036854775807) (q : Own) [ek : EntC q Kp] [ek2 : EntC q K] :
    Spec Tryz.prog W0 14 [.pointer (some ⟨gb, 0, none⟩), chV t f aa ad.length ac] (g.O c ps.length s ++ q) fun v own' => ∃ g' : GP,
      (v = .int .i64 (doM c P s ⟨t, f, ad⟩).1 ∧ g'.ok W0 Kp ps (doM c P s ⟨t, f, ad⟩).2 ∧ g'.ev W0 ∧ g'.gb = gb) ∧ Ent W0 own' (g'.O c ps.length (doM c P s ⟨t, f, ad⟩).2 ++ q) := by
  subst hgb; subst hP
  exact sp_do (c := c) hF h hv hG hn t f hA hal had q
end
end Go.Proofs.YtfompmhncnkcfaaGreatDoor
namespace Go.Proofs.YtfompmhncnkcfaaGreatDoor
open Go
set_option maxRecDepth 10000
set_option maxHeartbeats 16000000
theorem ent_l1 {W0 : World} {a b : Nat × (Obj → Prop)} {A Z : Own} : Ent W0 (a :: (A ++ (b :: Z))) (A ++ ([a, b] ++ Z)) := ent_cnt [] fun a => by simp only [cnt_app, cnt_cons, cnt_nil]; omega
abbrev arrV (n0 n1 n2 n3 n4 : Int) : Value := .agg #[.int .i64 n0, .int .i64 n1, .int .i64 n2, .int .i64 n3, .int .i64 n4]
end Go.Proofs.YtfompmhncnkcfaaGreatDoor
namespace Go.Proofs.YtfompmhncnkcfaaGreatDoor
open Go
set_option maxRecDepth 10000
set_option maxHeartbeats 8000000
theorem do_le {c : Cfg} {P : List (List Ins)} {s : GS} {ch : ChM} : (doM c P s ch).2.n ≤ s.n + 1 := by
  by_cases h : (doM c P s ch).1 = 0
  · rw [do_n h]; exact Nat.le_refl _
  · rw [do_code h]; exact Nat.le_succ _
section
variable {W0 : World} {own : Own} {m : MS} {st : Bool}
theorem sp_rnewm (h : m.ok st) [e : EntC own m.O] :
    Spec Tryz.prog W0 12 [scrV m.c m.ia m.il.length m.ic m.pa (m.ps.map PB.h).length m.pc m.ka 0 m.kc] own fun v own' => ∃ y : DP × List PB × Own,
      (v = .pointer (some ⟨y.1.rb, 0, none⟩) ∧ y.1.ok W0 (y.2.2 ++ ownL y.2.1) (y.2.1.map PB.h) (newM m.c m.il m.P) ∧ (y.2.1.map PB.h).map PH.p = m.P) ∧
      Ent W0 own' (y.1.O m.c (y.2.1.map PB.h).length (newM m.c m.il m.P) ++ ((y.2.2 ++ ownL y.2.1) ++ own)) :=
  sp_rnew (ks := []) (h.ri.up) (by have h1 := h.il; have h2 := (check_ok h.c0).1; unfold okW at h2; omega) (h.rp.up) (by have := h.pl; rw [List.length_map]; omega) (fun y hy => ⟨(h.rq y hy).up, by
    obtain ⟨x, hx, rfl⟩ := List.mem_map.1 hy
    exact ck_len (h.q x hx).2⟩) RdE.nil (Nat.zero_le _)
end
section
variable {W0 : World} {Kp K : Own} {g : DP} {c : Cfg} {ps : List PH} {P : List (List Ins)} {s : GS} {rb : Nat}
theorem sp_rdoL (hrb : g.rb = rb) (h : g.ok W0 Kp ps s) (hG : GOk c P s) (hP : ps.map PH.p = P) (hn : s.n ≤ 5000) (t f : Int) {aa : Option Addr} {ad : List Int} {ac : Nat} (hA : RdE encI 1 W0 K aa ad) (hal : ad.length ≤ ac) (had : ∀ a ∈ ad, a ≤ 9223372036854775807) (q : Own) [ek : EntC q Kp] [ek2 : EntC q K] :
    Spec Tryz.prog W0 15 [.pointer (some ⟨rb, 0, none⟩), chV t f aa ad.length ac] (g.O c ps.length s ++ q) fun v own' => ∃ g' : DP,
      (v = .int .i64 (doM c P s ⟨t, f, ad⟩).1 ∧ g'.ok W0 Kp ps (doM c P s ⟨t, f, ad⟩).2 ∧ g'.rb = rb) ∧ Ent W0 own' (g'.O c ps.length (doM c P s ⟨t, f, ad⟩).2 ++ q) := by
  subst hrb; subst hP
  exact sp_rdo (c := c) h hG hn t f hA hal had q
theorem sp_rresL (hrb : g.rb = rb) (h : g.ok W0 Kp ps s) (hz : SzG s) (q : Own) :
    Spec Tryz.prog W0 18 [.pointer (some ⟨rb, 0, none⟩)] (g.O c ps.length s ++ q) fun v own' => ∃ r : RG, (v = r.v s ∧ r.ok W0 s) ∧ Ent W0 own' (r.D ++ (g.O c ps.length s ++ q)) := by
  subst hrb
  exact sp_rresult (c := c) h hz.d hz.t hz.e hz.o hz.ol hz.ev q
theorem sp_choiceL (hrb : g.rb = rb) (h : g.ok W0 Kp ps s) (hG : GOk c P s) (hP : ps.map PH.p = P) (hPl : P.length ≤ 16) (kt kf : Int) {ka : Option Addr} {kl : List Int} {kc : Nat} (hA : RdE encI 1 W0 K ka kl) (hkr : ∀ a ∈ kl, a ≤ 9223372036854775807) (q : Own) [ek : EntC q Kp] [ek2 : EntC q K] :
    Spec Tryz.prog W0 13 [.pointer (some ⟨rb, 0, none⟩), chV kt kf ka kl.length kc] (g.O c ps.length s ++ q) fun v own' => ∃ y : CH × Own,
      (v = chV y.1.t y.1.f y.1.a y.1.ad.length y.1.ac ∧ RdE encI 1 W0 y.2 y.1.a y.1.ad ∧ y.1.ad.length ≤ y.1.ac ∧ ∀ a ∈ y.1.ad, a ≤ 9223372036854775807) ∧ Ent W0 own' (y.2 ++ (g.O c ps.length s ++ q)) := by
  subst hrb
  exact sp_choice h hG hP (by omega) kt kf hA hkr q
end
end Go.Proofs.YtfompmhncnkcfaaGreatDoor
namespace Go.Proofs.YtfompmhncnkcfaaGreatDoor
open Go
set_option maxRecDepth 10000
set_option maxHeartbeats 16000000
section
variable {W0 : World} {b : Nat × (Obj → Prop)} {D R R1 R2 K G Z : Own}
theorem ent_fw1 : Ent W0 (b :: (D ++ (R ++ (K ++ (G ++ Z))))) (G ++ (b :: (D ++ (R ++ (K ++ Z))))) := ent_cnt [] fun a => by simp only [cnt_app, cnt_cons, cnt_nil]; omega
theorem ent_fw2 : Ent W0 (G ++ (b :: (D ++ (R ++ (K ++ Z))))) (R ++ (G ++ (b :: (D ++ (K ++ Z))))) := ent_cnt [] fun a => by simp only [cnt_app, cnt_cons, cnt_nil]; omega
theorem ent_fw3 : Ent W0 (R ++ (G ++ Z)) (G ++ (R ++ Z)) := ent_cnt [] fun a => by simp only [cnt_app, cnt_nil]; omega
theorem ent_fw4 : Ent W0 (R1 ++ (G ++ (R ++ Z))) (R ++ (R1 ++ (G ++ Z))) := ent_cnt [] fun a => by simp only [cnt_app, cnt_nil]; omega
theorem ent_fw5 : Ent W0 (R2 ++ (R ++ (R1 ++ (G ++ (b :: (D ++ (K ++ Z))))))) (R ++ (K ++ (G ++ Z))) := ent_cnt (R2 ++ (R1 ++ (b :: D))) fun a => by simp only [cnt_app, cnt_cons]; omega
theorem ent_fw6 {a c : Nat × (Obj → Prop)} {M A B : Own} : Ent W0 (R ++ (K ++ (G ++ (A ++ (M ++ ([a, c] ++ B)))))) B := ent_cnt (R ++ (K ++ (G ++ (A ++ (M ++ [a, c]))))) fun a => by simp only [cnt_app, cnt_cons, cnt_nil]; omega
end
section
variable {W0 : World} {own : Own} {la : Option Addr} {lc : Nat} {ls : List IH} {pa : Option Addr} {pc : Nat} {pl : List CH}
theorem sp_SglFollows (hF : FormsAt W0) (n0 n1 n2 n3 n4 : Int) (hh : inKs [n0, n1, n2, n3, n4]) (hL : RdE IH.enc 1 W0 own la ls) (hll : ls.length ≤ 17592186043904) (hQ : ∀ h ∈ ls, RdE encI 1 W0 own h.a h.l ∧ h.l.length ≤ 17592186043904)
    (hPi : RdE CH.enc 3 W0 own pa pl) (hPa : ∀ x ∈ pl, RdE encI 1 W0 own x.a x.ad ∧ ∀ a ∈ x.ad, a ≤ 9223372036854775807) (st : Bool) :
    Pure Tryz.prog W0 3 [arrV n0 n1 n2 n3 n4, .slice la ls.length lc, .slice pa pl.length pc, .bool st] own (.bool true) := by
  refine pure_of (spec_of mixed low_law22_SglFollows (by simp [ir_law22_SglFollows]) ?_)
  have haw := fun own => sp_awake (W0 := W0) (own := own) hF
  have hsc := fun (own' : Own) [EntC own' own] => sp_lscript (lc := lc) (own := own') n0 n1 n2 n3 n4 hh hL.up hll (fun h hx => ⟨(hQ h hx).1.up, (hQ h hx).2⟩) st
  repeat' ((try (conv => whnf)); first | (refine new_i (fun b3 h3 => ?_); (apply Stop.h)))
  refine Stop.mk ?_
  repeat' ((try (conv => whnf)); first | ((with_reducible show CallT _ _ _ _ _ _); first | ((refine call_or (hsc _) Ent.refl ?_ ?_ (fun v hv => ?_) (fun m v hv => ?_); (exact rfl); (exact rfl); all_goals (apply Stop.h)))) | (apply ldN_a; exact rfl))
  · subst hv
    refine Stop.mk ?_
    repeat' ((try (conv => whnf)); first | (refine when_ne ?_ ?_; exact rfl) | (refine br_te ?_ ?_; exact rfl) | ((with_reducible show CallT _ _ _ _ _ _); first | ((refine call_pe (haw _) ?_ ?_ ?_; (exact rfl); exact rfl))) | (apply sel; exact rfl) | (apply stN_o; (exact rfl); (exact rfl); exact rfl) | (refine new_i (fun bk hbk => ?_)))
    all_goals exact ⟨rfl, (by first | exact ent_i | (repeat (first | exact Ent.refl | exact Ent.left | refine Ent.cons ?_ | refine Ent.app ?_)))⟩
  · obtain ⟨rfl, hm⟩ := hv
    have hmv : m.v = scrV m.c m.ia m.il.length m.ic m.pa (m.ps.map PB.h).length m.pc m.ka 0 m.kc := by simp only [MS.v, List.length_map]
    rw [hmv]
    refine Stop.mk ?_
    by_cases hp60 : pl.length ≤ 60
    · have hp60' : ¬ (60 : Int) < pl.length := by omega
      repeat' ((try (conv => whnf)); first | (refine new_i (fun b7 h7 => ?_); (apply Stop.h)) | (apply sel; exact rfl))
      refine Stop.mk ?_
      have hnw := sp_newm hF hm ([(b7, fun o => o = Obj.cells (scrC m.c (.slice m.ia m.il.length m.ic) (.slice m.pa (m.ps.map PB.h).length m.pc) (.slice m.ka 0 m.kc)) 32 (0, 0)), (b3, fun o => o = Obj.cells #[.int .i64 n0, .int .i64 n1, .int .i64 n2, .int .i64 n3, .int .i64 n4] 22 (0, 0))] ++ own)
      rw [hmv] at hnw
      repeat' ((try (conv => whnf)); first | (refine when_ye ?_ ?_; exact rfl) | (apply br_pnE; (exact rfl); omega) | ((with_reducible show CallT _ _ _ _ _ _); first | ((refine call_to hnw ?_ ?_ ?_ (fun y v hv => ?_); (exact ent_l1); (exact rfl); (exact rfl); (apply Stop.h)))) | (apply ldN_a; exact rfl) | (apply stN_o; (exact rfl); (exact rfl); exact rfl))
      obtain ⟨g, ys, kD⟩ := y
      obtain ⟨rfl, hok, hev, hpp⟩ := hv
      dsimp only at hok hev hpp ⊢
      have hrn := fun (own' : Own) [EntC own' m.O] => sp_rnewm (W0 := W0) (own := own') hm
      refine Stop.mk ?_
      repeat' ((try (conv => whnf)); first | ((with_reducible show CallT _ _ _ _ _ _); first | ((refine call_x (hrn _) ?_ ?_ (fun y v hv => ?_); (exact rfl); (exact rfl); (apply Stop.h)))) | (apply sel; exact rfl) | (apply ldN_a; exact rfl))
      obtain ⟨r, zs, rD⟩ := y
      obtain ⟨rfl, hrok, hrp⟩ := hv
      dsimp only at hrok hrp ⊢
      have hG := hm.g0
      have hP16 := hm.pl16
      have hn0' : (newM m.c m.il m.P).n = 0 := rfl
      generalize newM m.c m.il m.P = s0 at *
      generalize m.P = P at *
      generalize hKp : kD ++ ownL ys = Kp at *
      generalize hKr : rD ++ ownL zs = Kr at *
      generalize ys.map PB.h = pk at *
      generalize zs.map PB.h = pr at *
      have hpx := hPi
      refine Stop.mk ?_
      repeat' ((try (conv => whnf)); first | (refine when_ye ?_ ?_; exact rfl) | (refine br_fe ?_ ?_; exact rfl))
      refine loop_i (σ := Nat × GP × DP × GS) (fun y => [(16, .int .i64 y.1)])
        (fun y => y.2.2.1.O m.c pr.length y.2.2.2 ++ (Kr ++ (y.2.1.O m.c pk.length y.2.2.2 ++ (Kp ++ (m.O ++ ([(b7, fun o => o = Obj.cells (scrC m.c (.slice m.ia m.il.length m.ic) (.slice m.pa (m.ps.map PB.h).length m.pc) (.slice m.ka 0 m.kc)) 32 (0, 0)), (b3, fun o => o = Obj.cells #[.int .i64 n0, .int .i64 n1, .int .i64 n2, .int .i64 n3, .int .i64 n4] 22 (0, 0))] ++ own))))))
        (fun y => y.1 ≤ pl.length ∧ y.2.1.ok W0 Kp pk y.2.2.2 ∧ y.2.1.ev W0 ∧ y.2.1.gb = g.gb ∧ y.2.2.1.ok W0 Kr pr y.2.2.2 ∧ y.2.2.1.rb = r.rb ∧ GOk m.c P y.2.2.2 ∧ y.2.2.2.n ≤ y.1)
        (fun y => pl.length - y.1) (0, g, r, s0) ⟨Nat.zero_le _, hok, hev, rfl, hrok, rfl, hG, by show s0.n ≤ 0; omega⟩ (by repeat' (first | exact True.intro | refine And.intro ?_ ?_ | exact rfl | exact vi (by omega) | (dsimp only; exact rfl) | (dsimp only; exact vi (by omega)))) Ent.refl rfl ?_
      rintro ⟨k, g1, r1, s1⟩ junk ⟨hk, hok1, hev1, hgb1, hrk1, hrb1, hG1, hn1⟩
      dsimp only at hk hok1 hev1 hgb1 hrk1 hrb1 hG1 hn1 ⊢
      by_cases hkl : k < pl.length
      · obtain ⟨x, hx⟩ : ∃ x, pl[k]? = some x := ⟨_, List.getElem?_eq_getElem hkl⟩
        obtain ⟨hxA, hxr⟩ := hPa x (List.mem_of_getElem? hx)
        obtain ⟨xt, xf, xa, xad, xac⟩ := x
        dsimp only at hxA hxr
        have hch := fun (Q : Own) [EntC Q Kr] [EntC Q own] => sp_choiceL (c := m.c) (kc := xac) hrb1 hrk1 hG1 hrp hP16 xt xf hxA hxr Q
        repeat' ((try (conv => whnf)); first | (apply br_pyE; (exact rfl); omega) | ((with_reducible show IxS _ _ _ _ _); first | ((refine ixE hpx hx ?_ ?_; (first | rfl | omega)))) | ((with_reducible show LdN _ _ _ _ _); first | (refine ldNEi hpx hx rfl ?_)) | ((with_reducible show CallT _ _ _ _ _ _); first | ((refine call_to (hch _) Ent.refl ?_ ?_ (fun y v hv => ?_); (exact rfl); (exact rfl); (apply Stop.h)))))
        obtain ⟨⟨ct, cf, ca, cad, cac⟩, cD⟩ := y
        obtain ⟨rfl, hcA, hcl, hcr⟩ := hv
        dsimp only at hcA hcl hcr ⊢
        have hd1 := fun (Q : Own) [EntC Q Kp] [EntC Q cD] => sp_doL (c := m.c) hF hgb1 hok1 hev1 hG1 hpp (by omega) ct cf hcA hcl hcr Q
        have hd2 := fun (Q : Own) [EntC Q Kr] [EntC Q cD] => sp_rdoL (c := m.c) hrb1 hrk1 hG1 hrp (by omega) ct cf hcA hcl hcr Q
        have hG2 := do_ok hG1 (ch := ⟨ct, cf, cad⟩) hcr
        have hn2 := do_le (c := m.c) (P := P) (s := s1) (ch := ⟨ct, cf, cad⟩)
        generalize doM m.c P s1 ⟨ct, cf, cad⟩ = z at *
        obtain ⟨zc, s2⟩ := z
        dsimp only at hd1 hd2 hG2 hn2
        have hz2 := hG2.sz (by omega) hP16
        have hne : ¬ zc ≠ zc := fun h => h rfl
        refine Stop.mk ?_
        repeat' ((try (conv => whnf)); first | ((with_reducible show CallT _ _ _ _ _ _); first | ((refine call_to (hd1 _) ent_fw1 ?_ ?_ (fun g2 v hv => ?_); (exact rfl); (exact rfl); (apply Stop.h)))) | (apply ldN_a; exact rfl) | (apply stN_o; (exact rfl); (exact rfl); exact rfl) | (refine new_i (fun bk hbk => ?_)) | (refine Both.mk ?_ ?_))
        all_goals
          obtain ⟨rfl, hok2, hev2, hgb2⟩ := hv
          refine Stop.mk ?_
          repeat' ((try (conv => whnf)); first | ((with_reducible show CallT _ _ _ _ _ _); first | ((refine call_to (hd2 _) ent_fw2 ?_ ?_ (fun r2 v hv => ?_); (exact rfl); (exact rfl); (apply Stop.h)))) | (apply ldN_a; exact rfl))
          obtain ⟨rfl, hrk2, hrb2⟩ := hv
          have hr1 := fun q => sp_resL (c := m.c) hgb2 hok2 hev2 hz2 q
          have hr2 := fun q => sp_rresL (c := m.c) hrb2 hrk2 hz2 q
          refine Stop.mk ?_
          repeat' ((try (conv => whnf)); first | (refine when_ye ?_ ?_; exact rfl) | (apply when_pnE; (exact rfl); omega) | ((with_reducible show CallT _ _ _ _ _ _); first | ((refine call_to (hr1 _) ent_fw3 ?_ ?_ (fun y1 v hv => ?_); (exact rfl); (exact rfl); (apply Stop.h)))))
          obtain ⟨rfl, hy1⟩ := hv
          refine Stop.mk ?_
          repeat' ((try (conv => whnf)); first | (refine when_ye ?_ ?_; exact rfl) | ((with_reducible show CallT _ _ _ _ _ _); first | ((refine call_to (hr2 _) ent_fw4 ?_ ?_ (fun y2 v hv => ?_); (exact rfl); (exact rfl); (apply Stop.h)))))
          obtain ⟨rfl, hy2⟩ := hv
          have hgl := fun (own' : Own) (e1 : EntC own' y1.D) (e2 : EntC own' y2.D) => sp_kglobal (hy1.at (e1.h W0)) (hy2.at (e2.h W0)) hz2
          refine Stop.mk ?_
          repeat' ((try (conv => whnf)); first | (refine when_ye ?_ ?_; exact rfl) | (refine br_fe ?_ ?_; exact rfl) | ((with_reducible show CallQ _ _ _ _ _ _); first | ((refine call_qi (fun ex => hgl _ inferInstance inferInstance) ?_ ?_ ?_; (exact rfl); (exact rfl)))) | (refine ari ?_ ?_; omega))
          exact ⟨(k + 1, g2, r2, s2), ⟨hkl, hok2, hev2, hgb2, hrk2, hrb2, hG2, by show s2.n ≤ k + 1; omega⟩, (by show pl.length - (k + 1) < pl.length - k; omega), (by repeat' (first | exact True.intro | refine And.intro ?_ ?_ | exact rfl | exact vi (by omega) | (dsimp only; exact rfl) | (dsimp only; exact vi (by omega)))), ent_fw5⟩
      · have hkN : k = pl.length := by omega
        subst hkN
        repeat' ((try (conv => whnf)); first | (apply br_pnE; (exact rfl); omega) | ((with_reducible show CallT _ _ _ _ _ _); first | ((refine call_pe (haw _) ?_ ?_ ?_; (exact rfl); exact rfl))))
        exact ⟨ret1 rfl, ent_fw6⟩
    · have hp60' : (60 : Int) < pl.length := by omega
      repeat' ((try (conv => whnf)); first | (refine when_ye ?_ ?_; exact rfl) | (apply br_pyE; (exact rfl); omega) | ((with_reducible show CallT _ _ _ _ _ _); first | ((refine call_pe (haw _) ?_ ?_ ?_; (exact rfl); exact rfl))) | (apply sel; exact rfl) | (apply stN_o; (exact rfl); (exact rfl); exact rfl) | (refine new_i (fun bk hbk => ?_)))
      all_goals exact ⟨rfl, (by first | exact ent_i | (repeat (first | exact Ent.refl | exact Ent.left | refine Ent.cons ?_ | refine Ent.app ?_)))⟩
end
end Go.Proofs.YtfompmhncnkcfaaGreatDoor
namespace Go.Proofs.YtfompmhncnkcfaaGreatDoor
open Go Go.ChangeShapes Go.WideShapes Go.ChangeAt Go.RowKit
set_option maxRecDepth 100000
section
variable {H : Type} {enc : TypeId × Value → H} {w : World} {spare : Nat → Bool} {held : Bool} {v : Value} {d : DataW H} {p : List MemPlace} {fuel : Nat} {cs : List Value} {x : DataW H × List MemPlace}
theorem trod_pick (h : DataW.trod enc Tryz.prog w 0 spare held fuel 45 cs = some x) : ∃ y : CH, cs = y.enc ∧ (RdE encI 1 w [] y.a y.ad ∧ ∀ a ∈ y.ad, a ≤ 9223372036854775807) := by
  obtain ⟨hl, m0, y0, h0⟩ := trod_at 0 (off := 0) (ft := 3) (n := 1) (by kernel_rfl) (by kernel_rfl) h
  obtain ⟨_, m1, y1, h1⟩ := trod_at 1 (off := 1) (ft := 3) (n := 1) (by kernel_rfl) (by kernel_rfl) h
  obtain ⟨_, m2, y2, h2⟩ := trod_at 2 (off := 2) (ft := 30) (n := 1) (by kernel_rfl) (by kernel_rfl) h
  obtain ⟨n0, e0, _⟩ := trod_i64 Tryz.underlying3 h0
  obtain ⟨n1, e1, _⟩ := trod_i64 Tryz.underlying3 h1
  obtain ⟨a, l, cap, e2, hr, hk, _⟩ := trod_ints Tryz.underlying30 Tryz.underlying3 (by kernel_rfl) h2
  have hl' : cs.length = 3 := hl.trans (by kernel_rfl)
  refine ⟨⟨n0, n1, a, l, cap⟩, ?_, hr, fun y hy => (hk y hy).2⟩
  match cs, hl' with
  | [c0, c1, c2], _ =>
    simp at e0 e1 e2
    rw [e0, e1, e2]
theorem picks_open {b0 : Nat} (hv : Value.okWide Tryz.prog w .any b0 24 v) (ht : DataW.Trod enc Tryz.prog w 0 spare held 24 v d p) :
    ∃ a l cap, v = .slice a (List.length l) cap ∧ RdE CH.enc 3 w [] a l ∧ ∀ x ∈ l, RdE encI 1 w [] x.a x.ad ∧ ∀ y ∈ x.ad, y ≤ 9223372036854775807 := by
  obtain ⟨fuel, h⟩ := ht
  obtain ⟨a, l, cap, e, hr, hq, _⟩ := trod_sl (en := CH.enc) (sz := 3) (Φ := fun y : CH => RdE encI 1 w [] y.a y.ad ∧ ∀ a ∈ y.ad, a ≤ 9223372036854775807) Tryz.underlying24 (by kernel_rfl) (by omega) (fun _ _ _ h => trod_pick h) h
  exact ⟨a, l, cap, one_of rfl e (slice_agg Tryz.underlying24 hv), hr, hq⟩
end
end Go.Proofs.YtfompmhncnkcfaaGreatDoor
