/- What the laws share, part 29. No condition. -/
import Derived.Test.YtllddgdmmfmpkaaGreatDoorY28
namespace Go.Proofs.YtllddgdmmfmpkaaGreatDoor
open Go
set_option maxRecDepth 10000
set_option maxHeartbeats 16000000
theorem ownB_at {W0 : World} {l : List OB} {x : OB} (h : x ∈ l) : Ent W0 (ownB l) x.D := by
  obtain ⟨l1, l2, rfl⟩ := List.append_of_mem h
  unfold ownB
  rw [List.map_append, List.map_cons, List.flatten_append, List.flatten_cons]
  exact Ent.right.trans Ent.left
theorem scT_17 {e : TE} {l : List TE} {v c r : Int} {w : Bool} (h : e.ph = 17) (hs : scT (e :: l) v c w = some r) : scT l e.put c true = some r := by
  unfold scT at hs
  simp only [if_pos h] at hs
  split at hs
  · cases hs
  · exact hs
theorem scT_19 {e : TE} {l : List TE} {v c r : Int} {w : Bool} (h : e.ph ≠ 17) (h2 : e.ph = 19) (hs : scT (e :: l) v c w = some r) : v = 100 + (c + 1) ∧ scT l v (c + 1) false = some r := by
  unfold scT at hs
  simp only [if_neg h, if_pos h2] at hs
  split at hs
  · cases hs
  · rename_i hh
    exact ⟨Decidable.byContradiction fun e => by first | exact hh ⟨rfl, e⟩ | exact hh ⟨trivial, e⟩ | exact hh e, hs⟩
theorem scT_o {e : TE} {l : List TE} {v c r : Int} {w : Bool} (h : e.ph ≠ 17) (h2 : e.ph ≠ 19) (hs : scT (e :: l) v c w = some r) : (w = false → v = 100 + c) ∧ scT l v c w = some r := by
  unfold scT at hs
  simp only [if_neg h, if_neg h2] at hs
  split at hs
  · cases hs
  · rename_i hh
    exact ⟨fun hw => Decidable.byContradiction fun e => hh ⟨hw, e⟩, hs⟩
section
variable {W0 : World} {own : Own}
theorem new_ty {cs : Array Value} {K : Nat → Own → Prop} (T : TypeId) (h : ∀ b, W0.heap.size ≤ b → K b ((b, fun o => o = Obj.cells cs T) :: own)) : New W0 own (.cells cs T) K := ⟨fun b hb _ => h b hb⟩
theorem sp_topCounts {ka : Option Addr} {kc : Nat} {ks : List Int} (hF : FormsAt W0) (th rd oc : Int) (hK : RdE encI 1 W0 own ka ks) (hkl : ks.length ≤ 17592186043904) : Pure Tryz.prog W0 3 [.int .i64 th, .int .i64 rd, .int .i64 oc, .slice ka ks.length kc] own (.bool true) := by
  refine pure_of (spec_of mixed low_top_TopCounts (by simp [ir_top_TopCounts]) ?_)
  have haw := fun own => sp_awakeT (W0 := W0) hF own
  by_cases h300 : (ks.length : Int) > 300
  · repeat' ((try (conv => whnf)); first | (apply br_pyE; (exact rfl); omega) | ((with_reducible show CallT _ _ _ _ _ _); first | ((refine call_pe (haw _) ?_ ?_ ?_; (exact rfl); exact rfl))))
    all_goals exact ⟨rfl, (by first | exact ent_i | (repeat (first | exact Ent.refl | exact Ent.left | refine Ent.cons ?_ | refine Ent.app ?_)))⟩
  obtain ⟨n, hn⟩ : ∃ n : Nat, 2 + plT th 3 = n := ⟨(2 + plT th 3).toNat, by have := plT_rng th (n := 3) (by decide); omega⟩
  obtain ⟨R, hR⟩ : ∃ R : Nat, 1 + plT rd 4 = R := ⟨(1 + plT rd 4).toNat, by have := plT_rng rd (n := 4) (by decide); omega⟩
  obtain ⟨o, ho⟩ : ∃ o : Nat, 1 + plT oc 3 = o := ⟨(1 + plT oc 3).toNat, by have := plT_rng oc (n := 3) (by decide); omega⟩
  have hnr := plT_rng th (n := 3) (by decide)
  have hRr := plT_rng rd (n := 4) (by decide)
  have hor := plT_rng oc (n := 3) (by decide)
  have hp3 := fun own => sp_plT W0 own th (n := 3) (by decide)
  have hp4 := fun own => sp_plT W0 own rd (n := 4) (by decide)
  have hpo := fun own => sp_plT W0 own oc (n := 3) (by decide)
  repeat' ((try (conv => whnf)); first | (apply br_pnE; (exact rfl); omega) | (refine new_i (fun bq hbq => ?_)) | ((with_reducible show CallT _ _ _ _ _ _); first | ((refine call_pe (hp3 _) ?_ ?_ ?_; (exact rfl); exact rfl))) | (refine ari ?_ ?_; omega))
  refine loop_i (σ := Nat × Option Addr × Nat × Own) (fun s => [(12, .int .i64 s.1), (11, .slice s.2.1 (List.replicate s.1 (⟨some ⟨bq, 0, none⟩, 6, part⟩ : PH)).length s.2.2.1)]) (fun s => (bq, fun z => z = Obj.cells (part.map Ins.enc).flatten.toArray 26) :: (s.2.2.2 ++ own))
    (fun s => s.1 ≤ n ∧ BufE PH.enc 27 1 s.2.1 s.2.2.1 (List.replicate s.1 ⟨some ⟨bq, 0, none⟩, 6, part⟩) s.2.2.2) (fun s => n - s.1) (0, none, 0, []) ⟨Nat.zero_le _, BufE.nil⟩ (by repeat' (first | exact True.intro | refine And.intro ?_ ?_ | exact rfl | exact vi (by omega) | (dsimp only; exact rfl) | (dsimp only; exact vi (by omega)))) (by simp only [List.nil_append]; exact (by refine sb_ent ?_; (repeat (first | exact sb_refl | exact sb_nil | refine sb_fr ?_ | refine sb_pu rfl ?_ | refine sb_cons ?_ | refine sb_app ?_)))) rfl ?_
  rintro ⟨i, pa, pc, pD⟩ junk ⟨hi, hBp⟩
  dsimp only at hi hBp ⊢
  have hlr : (List.replicate i (⟨some ⟨bq, 0, none⟩, 6, part⟩ : PH)).length = i := List.length_replicate
  by_cases hlt : i < n
  · have hlt' : (i : Int) < 2 + plT th 3 := by omega
    repeat' ((try (conv => whnf)); first | (apply br_pyE; (exact rfl); omega) | (refine new_i (fun be hbe => ?_)) | (apply app_i (enc := PH.enc) (T := 27) (⟨some ⟨bq, 0, none⟩, 6, part⟩ : PH) hBp; (exact rfl); (exact rfl); (omega); (exact rfl); (exact rfl); (omega); intro a5 c5 D5 hb5) | (refine ari ?_ ?_; omega))
    all_goals
      rw [← List.replicate_succ'] at hb5
      refine ⟨(i + 1, a5, c5, D5), ⟨hlt, hb5⟩, by simp only; omega, ?_, (by refine sb_ent ?_; (repeat (first | exact sb_refl | exact sb_nil | refine sb_fr ?_ | refine sb_pu rfl ?_ | refine sb_cons ?_ | refine sb_app ?_)))⟩
      dsimp only
      rw [List.replicate_succ', List.length_append]
      exact (by repeat' (first | exact True.intro | refine And.intro ?_ ?_ | exact rfl | exact vi (by omega) | (dsimp only; exact rfl) | (dsimp only; exact vi (by omega))))
  · obtain rfl : i = n := by omega
    have hlt' : ¬ (i : Int) < 2 + plT th 3 := by omega
    have hc' : (⟨2, 1 + plT oc 3, 0, 0, 0, 0, 0, 2, 2, 0, 0, 1000, false⟩ : Cfg) = cfT o := by rw [ho]; rfl
    have hrp := fun (own' : Own) (ia : Option Addr) (ic : Nat) (m1 : EntC own' pD) (m2 : MemC bq (fun z => z = Obj.cells (part.map Ins.enc).flatten.toArray 26) own') (m3 : EntC own' own) =>
      sp_repeat (W0 := W0) (own := own') (c := ⟨2, 1 + plT oc 3, 0, 0, 0, 0, 0, 2, 2, 0, 0, 1000, false⟩) (ia := ia) (il := 2) (ic := ic) (pc := pc) (qc := 6) (kc := kc) (n := i) (R := R) ((hBp.rd (W0 := W0)).up) (rd_blk m2.h (fun x hx => by revert x; decide) (by rw [List.toList_toArray])) hK.up (by omega) (by omega) (by omega)
    rw [← hR] at hrp
    dsimp only [Cfg.v, Cfg.cs] at hrp
    have hrn := fun (own' : Own) (ia pa2 ka2 : Option Addr) (ic pc2 kc2 : Nat) (ps : List PW) (hI : RdE encU 1 W0 own' ia [100, 7]) (hP2 : RdE PH.enc 1 W0 own' pa2 (ps.map PW.h)) (hpl : ps.length = i) (hps : ∀ x ∈ ps, x.ok ∧ x.h.p = codeT R) (me : EntC own' (ownW ps)) (hK2 : RdE encI 1 W0 own' ka2 (ks.map fun z => plT z i)) =>
      sp_runT (W0 := W0) (own := own') (oc := o) (R := R) (n := i) (ps := ps.map PW.h) (ic := ic) (pc := pc2) (kc := kc2) hF (by omega) (by omega) (by omega) (by omega) hI hP2 (by rw [List.length_map]; exact hpl) (fun h hh => by obtain ⟨x, hx, rfl⟩ := List.mem_map.1 hh; exact (hps x hx).2) (fun h hh => by obtain ⟨x, hx, rfl⟩ := List.mem_map.1 hh; exact (((hps x hx).1.rd (W0 := W0)).ent (ownW_at hx)).ent (me.h W0)) hK2
    simp only [← hc'] at hrn
    repeat' ((try (conv => whnf)); first | (refine br_fe ?_ ?_; exact rfl) | (apply br_pnE; (exact rfl); omega) | (refine new_ty 41 (fun b14 h14 => ?_)) | ((with_reducible show CallT _ _ _ _ _ _); first | ((refine call_pe (hpo _) ?_ ?_ ?_; (exact rfl); exact rfl)) | ((refine call_x (hrp _ ?_ ?_ inferInstance inferInstance inferInstance) ?_ ?_ (fun y v hv => ?_); rotate_left 2; (exact rfl); (exact rfl); (obtain ⟨⟨pa2, pc2, pD2⟩, ps, ⟨ka2, kc2, kD2⟩⟩ := y; obtain ⟨rfl, hBp2, hpl2, hps2, hBk2⟩ := hv; dsimp only at hBp2 hpl2 hps2 hBk2))) | ((refine call_x (hrn _ ?_ _ _ ?_ pc2 kc2 ps ?_ ((hBp2.rd (W0 := W0)).up) hpl2 hps2 inferInstance ((hBk2.rd (W0 := W0)).up)) ?_ ?_ (fun y v hv => ?_); rotate_left 3; (exact rfl); (exact rfl); (obtain ⟨⟨cs, ta, tc, tD, sa, sc, sD, ea, en, ec, oa, oc2, oD, ol⟩, L, S⟩ := y; obtain ⟨rfl, hro, hL, hSl, hob, cf, hsc, hcf, hsm1, hsm2⟩ := hv; dsimp only at hro hL hSl hob hsc hcf hsm1 hsm2; obtain ⟨a1, a2, a3, a4, a5, n1, c1, n2, c2, n3, c3, n4, c4, n5, c5, x1, x2, x3, hcs2⟩ := hro.sh; dsimp only at hcs2; subst hcs2)))) | ((with_reducible show CallQ _ _ _ _ _ _); first | ((refine call_qi (fun ex => hp4 _) ?_ ?_ ?_; (exact rfl); (exact rfl)))) | (refine ari ?_ ?_; omega) | (apply sel; exact rfl) | (apply ldN_a; exact rfl) | (apply stN_o; (exact rfl); (exact rfl); exact rfl) | (refine new_i (fun bk hbk => ?_)) | (refine Both.mk ?_ ?_))
    all_goals try exact rd_blk MemC.h (fun _ _ => rfl) rfl
    all_goals
      refine loop_i (σ := Nat × Int × Nat × Bool) (fun s => [(22, .int .i64 s.1), (18, uv s.2.1), (19, uv s.2.2.1), (21, .bool s.2.2.2)]) (fun _ => (b14, fun z => z = Obj.cells #[.slice a1 n1 c1, .slice a2 n2 c2, uv x1, uv x2, uv x3, .slice a3 n3 c3, .slice a4 n4 c4, .slice a5 n5 c5, .slice ta (L.map fun y => y.x.th).length tc, .slice sa S.length sc, .slice ea en ec, .slice oa ol.length oc2] 41 (0, 0)) :: (tD ++ (sD ++ (oD ++ (ownB ol ++ own)))))
        (fun s => s.1 ≤ S.length ∧ s.2.2.1 ≤ s.1 ∧ scT ((S.drop s.1).map teM) s.2.1 s.2.2.1 s.2.2.2 = some (cf : Int)) (fun s => S.length - s.1) (0, 100, 0, false) ⟨Nat.zero_le _, Nat.le_refl _, hsc⟩ (by repeat' (first | exact True.intro | refine And.intro ?_ ?_ | exact rfl | exact vi (by omega) | (dsimp only; exact rfl) | (dsimp only; exact vi (by omega)))) (by refine sb_ent ?_; (repeat (first | exact sb_refl | exact sb_nil | refine sb_fr ?_ | refine sb_pu rfl ?_ | refine sb_cons ?_ | refine sb_app ?_))) rfl ?_
      rintro ⟨j, v, cm, wr⟩ junk2 ⟨hj, hcm, hsj⟩
      dsimp only at hj hcm hsj ⊢
      by_cases hjt : j < S.length
      · obtain ⟨x, hx⟩ : ∃ x, S[j]? = some x := ⟨_, List.getElem?_eq_getElem hjt⟩
        have hjt' : (j : Int) < S.length := by omega
        have hSR := hro.hs.rd (W0 := W0)
        dsimp only at hSR
        rw [drop_of hx, List.map_cons] at hsj
        by_cases h17 : x.ph = 17
        · have hsk := scT_17 (e := teM x) h17 hsj
          repeat' ((try (conv => whnf)); first | (refine when_ne ?_ ?_; exact rfl) | (refine br_fe ?_ ?_; exact rfl) | (apply br_pyE; (exact rfl); omega) | (refine new_i (fun be hbe => ?_)) | ((with_reducible show IxS _ _ _ _ _); first | ((refine ixE hSR hx ?_ ?_; (first | rfl | omega)))) | ((with_reducible show LdN _ _ _ _ _); first | (refine ldNEi hSR hx rfl ?_)) | (refine ari ?_ ?_; omega) | (apply ld_o; exact rfl) | (apply stN_o; (exact rfl); (exact rfl); exact rfl))
          all_goals exact ⟨(j + 1, x.ac.put, cm, true), ⟨hjt, Nat.le_succ_of_le hcm, hsk⟩, by simp only; omega, (by repeat' (first | exact True.intro | refine And.intro ?_ ?_ | exact rfl | exact vi (by omega) | (dsimp only; exact rfl) | (dsimp only; exact vi (by omega)))), (by refine sb_ent ?_; (repeat (first | exact sb_refl | exact sb_nil | refine sb_fr ?_ | refine sb_pu rfl ?_ | refine sb_cons ?_ | refine sb_app ?_)))⟩
        · by_cases h19 : x.ph = 19
          · obtain ⟨hv, hsk⟩ := scT_19 (e := teM x) h17 h19 hsj
            repeat' ((try (conv => whnf)); first | (refine when_ye ?_ ?_; exact rfl) | (apply br_pyE; (exact rfl); omega) | (apply br_pnE; (exact rfl); omega) | (refine new_i (fun be hbe => ?_)) | ((with_reducible show IxS _ _ _ _ _); first | ((refine ixE hSR hx ?_ ?_; (first | rfl | omega)))) | ((with_reducible show LdN _ _ _ _ _); first | (refine ldNEi hSR hx rfl ?_)) | (refine ari ?_ ?_; omega) | (refine aru ?_ ?_; omega) | (apply ld_o; exact rfl) | (apply stN_o; (exact rfl); (exact rfl); exact rfl))
            all_goals exact ⟨(j + 1, v, cm + 1, false), ⟨hjt, Nat.succ_le_succ hcm, hsk⟩, by simp only; omega, (by repeat' (first | exact True.intro | refine And.intro ?_ ?_ | exact rfl | exact vi (by omega) | (dsimp only; exact rfl) | (dsimp only; exact vi (by omega)))), (by refine sb_ent ?_; (repeat (first | exact sb_refl | exact sb_nil | refine sb_fr ?_ | refine sb_pu rfl ?_ | refine sb_cons ?_ | refine sb_app ?_)))⟩
          · obtain ⟨hv, hsk⟩ := scT_o (e := teM x) h17 h19 hsj
            cases wr with
            | true =>
              clear hv
              repeat' ((try (conv => whnf)); first | (refine when_ne ?_ ?_; exact rfl) | (refine br_fe ?_ ?_; exact rfl) | (apply br_pyE; (exact rfl); omega) | (apply br_pnE; (exact rfl); omega) | (refine new_i (fun be hbe => ?_)) | ((with_reducible show IxS _ _ _ _ _); first | ((refine ixE hSR hx ?_ ?_; (first | rfl | omega)))) | ((with_reducible show LdN _ _ _ _ _); first | (refine ldNEi hSR hx rfl ?_)) | (refine ari ?_ ?_; omega) | (apply ld_o; exact rfl) | (apply stN_o; (exact rfl); (exact rfl); exact rfl))
              all_goals exact ⟨(j + 1, v, cm, true), ⟨hjt, Nat.le_succ_of_le hcm, hsk⟩, by simp only; omega, (by repeat' (first | exact True.intro | refine And.intro ?_ ?_ | exact rfl | exact vi (by omega) | (dsimp only; exact rfl) | (dsimp only; exact vi (by omega)))), (by refine sb_ent ?_; (repeat (first | exact sb_refl | exact sb_nil | refine sb_fr ?_ | refine sb_pu rfl ?_ | refine sb_cons ?_ | refine sb_app ?_)))⟩
            | false =>
              have hv2 := hv rfl
              repeat' ((try (conv => whnf)); first | (refine when_ye ?_ ?_; exact rfl) | (apply br_pyE; (exact rfl); omega) | (apply br_pnE; (exact rfl); omega) | (refine new_i (fun be hbe => ?_)) | ((with_reducible show IxS _ _ _ _ _); first | ((refine ixE hSR hx ?_ ?_; (first | rfl | omega)))) | ((with_reducible show LdN _ _ _ _ _); first | (refine ldNEi hSR hx rfl ?_)) | (refine ari ?_ ?_; omega) | (refine aru ?_ ?_; omega) | (apply ld_o; exact rfl) | (apply stN_o; (exact rfl); (exact rfl); exact rfl))
              all_goals exact ⟨(j + 1, v, cm, false), ⟨hjt, Nat.le_succ_of_le hcm, hsk⟩, by simp only; omega, (by repeat' (first | exact True.intro | refine And.intro ?_ ?_ | exact rfl | exact vi (by omega) | (dsimp only; exact rfl) | (dsimp only; exact vi (by omega)))), (by refine sb_ent ?_; (repeat (first | exact sb_refl | exact sb_nil | refine sb_fr ?_ | refine sb_pu rfl ?_ | refine sb_cons ?_ | refine sb_app ?_)))⟩
      · obtain rfl : j = S.length := by omega
        have hjt' : ¬ (S.length : Int) < S.length := by omega
        rw [List.drop_length, List.map_nil, scT] at hsj
        have hcf2 : (cm : Int) = cf := Option.some.inj hsj
        repeat' ((try (conv => whnf)); first | (apply br_pnE; (exact rfl); omega) | (apply ld_o; exact rfl))
        have hOR := hro.ho.rd (W0 := W0)
        dsimp only at hOR
        have hom : ol.map OB.l = L.map fun y => y.x.obs := hro.ob
        have hol : ol.length = i := by have := congrArg List.length hom; rw [List.length_map, List.length_map] at this; omega
        have hob2 : ∀ q ∈ ol, q.l.length ≤ 100000 := fun q hq => by
          have : q.l ∈ ol.map OB.l := List.mem_map.2 ⟨q, hq, rfl⟩
          rw [hom] at this
          obtain ⟨z, hz, e⟩ := List.mem_map.1 this
          rw [← e]
          exact hob z hz
        refine loop_i (σ := Nat × Nat) (fun s => [(24, .int .i64 s.1), (20, uv s.2)]) (fun _ => (b14, fun z => z = Obj.cells #[.slice a1 n1 c1, .slice a2 n2 c2, uv x1, uv x2, uv x3, .slice a3 n3 c3, .slice a4 n4 c4, .slice a5 n5 c5, .slice ta (L.map fun y => y.x.th).length tc, .slice sa S.length sc, .slice ea en ec, .slice oa ol.length oc2] 41 (0, 0)) :: (tD ++ (sD ++ (oD ++ (ownB ol ++ own)))))
          (fun s => s.1 ≤ ol.length ∧ s.2 = smO ((ol.take s.1).map OB.l) ∧ s.2 ≤ 100000 * s.1) (fun s => ol.length - s.1) (0, 0) ⟨Nat.zero_le _, rfl, Nat.le_refl _⟩ (by repeat' (first | exact True.intro | refine And.intro ?_ ?_ | exact rfl | exact vi (by omega) | (dsimp only; exact rfl) | (dsimp only; exact vi (by omega)))) (by refine sb_ent ?_; (repeat (first | exact sb_refl | exact sb_nil | refine sb_fr ?_ | refine sb_pu rfl ?_ | refine sb_cons ?_ | refine sb_app ?_))) rfl ?_
        rintro ⟨q, u⟩ junk3 ⟨hq, hu, hul⟩
        dsimp only at hq hu hul ⊢
        by_cases hqt : q < ol.length
        · obtain ⟨y, hy⟩ : ∃ y, ol[q]? = some y := ⟨_, List.getElem?_eq_getElem hqt⟩
          have hqt' : (q : Int) < ol.length := by omega
          have hym := List.mem_of_getElem? hy
          have hyR := ((hro.hv y hym).rd (W0 := W0)).ent (ownB_at (W0 := W0) hym)
          have hyl := hob2 y hym
          have hsm : smO ((ol.take (q + 1)).map OB.l) = smO ((ol.take q).map OB.l) + cmO y.l := by
            rw [List.take_add_one, hy, List.map_append, smO_app]
            show _ + (cmO y.l + 0) = _
            omega
          have hcy := cmO_le y.l
          repeat' ((try (conv => whnf)); first | (apply br_pyE; (exact rfl); omega) | (apply ld_o; exact rfl))
          refine loop_i (σ := Nat × Nat) (fun s => [(25, .int .i64 s.1), (20, uv s.2)]) (fun _ => (b14, fun z => z = Obj.cells #[.slice a1 n1 c1, .slice a2 n2 c2, uv x1, uv x2, uv x3, .slice a3 n3 c3, .slice a4 n4 c4, .slice a5 n5 c5, .slice ta (L.map fun y => y.x.th).length tc, .slice sa S.length sc, .slice ea en ec, .slice oa ol.length oc2] 41 (0, 0)) :: (tD ++ (sD ++ (oD ++ (ownB ol ++ own)))))
            (fun s => s.1 ≤ y.l.length ∧ s.2 = u + cmO (y.l.take s.1) ∧ s.2 ≤ u + s.1) (fun s => y.l.length - s.1) (0, u) ⟨Nat.zero_le _, rfl, Nat.le_refl _⟩ (by repeat' (first | exact True.intro | refine And.intro ?_ ?_ | exact rfl | exact vi (by omega) | (dsimp only; exact rfl) | (dsimp only; exact vi (by omega)))) (by refine sb_ent ?_; (repeat (first | exact sb_refl | exact sb_nil | refine sb_fr ?_ | refine sb_pu rfl ?_ | refine sb_cons ?_ | refine sb_app ?_))) rfl ?_
          rintro ⟨k, u2⟩ junk4 ⟨hk, hu2, hul2⟩
          dsimp only at hk hu2 hul2 ⊢
          by_cases hkt : k < y.l.length
          · obtain ⟨z, hz⟩ : ∃ z, y.l[k]? = some z := ⟨_, List.getElem?_eq_getElem hkt⟩
            have hkt' : (k : Int) < y.l.length := by omega
            have hck : cmO (y.l.take (k + 1)) = cmO (y.l.take k) + if z.k = 3 ∧ z.v = 1 then 1 else 0 := by
              rw [List.take_add_one, hz, cmO_app]
              rfl
            by_cases hz3 : z.k = 3
            · by_cases hz1 : z.v = 1
              · rw [if_pos ⟨hz3, hz1⟩] at hck
                repeat' ((try (conv => whnf)); first | (refine when_ye ?_ ?_; exact rfl) | (apply br_pyE; (exact rfl); omega) | (apply when_pyE; (exact rfl); omega) | ((with_reducible show Ld _ _ _ _); first | (refine ldE0 hOR hy rfl ?_) | (refine ldEk hyR hz rfl ?_)) | ((with_reducible show IxS _ _ _ _ _); first | ((refine ixE hOR hy ?_ ?_; (first | rfl | omega))) | ((refine ixE hyR hz ?_ ?_; (first | rfl | omega)))) | (refine ari ?_ ?_; omega) | (refine aru ?_ ?_; omega) | (apply ld_o; exact rfl))
                all_goals exact ⟨(k + 1, u2 + 1), ⟨hkt, by dsimp only; omega, by dsimp only; omega⟩, by simp only; omega, (by repeat' (first | exact True.intro | refine And.intro ?_ ?_ | exact rfl | exact vi (by omega) | (dsimp only; exact rfl) | (dsimp only; exact vi (by omega)))), (by refine sb_ent ?_; (repeat (first | exact sb_refl | exact sb_nil | refine sb_fr ?_ | refine sb_pu rfl ?_ | refine sb_cons ?_ | refine sb_app ?_)))⟩
              · rw [if_neg (fun e => hz1 e.2)] at hck
                repeat' ((try (conv => whnf)); first | (refine when_ye ?_ ?_; exact rfl) | (apply br_pyE; (exact rfl); omega) | (apply br_pnE; (exact rfl); omega) | (apply when_pyE; (exact rfl); omega) | ((with_reducible show Ld _ _ _ _); first | (refine ldE0 hOR hy rfl ?_) | (refine ldEk hyR hz rfl ?_)) | ((with_reducible show IxS _ _ _ _ _); first | ((refine ixE hOR hy ?_ ?_; (first | rfl | omega))) | ((refine ixE hyR hz ?_ ?_; (first | rfl | omega)))) | (refine ari ?_ ?_; omega) | (apply ld_o; exact rfl))
                all_goals exact ⟨(k + 1, u2), ⟨hkt, by dsimp only; omega, by dsimp only; omega⟩, by simp only; omega, (by repeat' (first | exact True.intro | refine And.intro ?_ ?_ | exact rfl | exact vi (by omega) | (dsimp only; exact rfl) | (dsimp only; exact vi (by omega)))), (by refine sb_ent ?_; (repeat (first | exact sb_refl | exact sb_nil | refine sb_fr ?_ | refine sb_pu rfl ?_ | refine sb_cons ?_ | refine sb_app ?_)))⟩
            · rw [if_neg (fun e => hz3 e.1)] at hck
              repeat' ((try (conv => whnf)); first | (refine when_ne ?_ ?_; exact rfl) | (refine br_fe ?_ ?_; exact rfl) | (apply br_pyE; (exact rfl); omega) | (apply when_pnE; (exact rfl); omega) | ((with_reducible show Ld _ _ _ _); first | (refine ldE0 hOR hy rfl ?_) | (refine ldEk hyR hz rfl ?_)) | ((with_reducible show IxS _ _ _ _ _); first | ((refine ixE hOR hy ?_ ?_; (first | rfl | omega))) | ((refine ixE hyR hz ?_ ?_; (first | rfl | omega)))) | (refine ari ?_ ?_; omega) | (apply ld_o; exact rfl))
              all_goals exact ⟨(k + 1, u2), ⟨hkt, by dsimp only; omega, by dsimp only; omega⟩, by simp only; omega, (by repeat' (first | exact True.intro | refine And.intro ?_ ?_ | exact rfl | exact vi (by omega) | (dsimp only; exact rfl) | (dsimp only; exact vi (by omega)))), (by refine sb_ent ?_; (repeat (first | exact sb_refl | exact sb_nil | refine sb_fr ?_ | refine sb_pu rfl ?_ | refine sb_cons ?_ | refine sb_app ?_)))⟩
          · obtain rfl : k = y.l.length := by omega
            have hkt' : ¬ (y.l.length : Int) < y.l.length := by omega
            rw [List.take_length] at hu2
            repeat' ((try (conv => whnf)); first | (apply br_pnE; (exact rfl); omega) | ((with_reducible show Ld _ _ _ _); first | (refine ldE0 hOR hy rfl ?_)) | ((with_reducible show IxS _ _ _ _ _); first | ((refine ixE hOR hy ?_ ?_; (first | rfl | omega)))) | (refine ari ?_ ?_; omega) | (apply ld_o; exact rfl))
            all_goals exact ⟨(q + 1, u2), ⟨hqt, by dsimp only; omega, by dsimp only; omega⟩, by simp only; omega, (by repeat' (first | exact True.intro | refine And.intro ?_ ?_ | exact rfl | exact vi (by omega) | (dsimp only; exact rfl) | (dsimp only; exact vi (by omega)))), (by refine sb_ent ?_; (repeat (first | exact sb_refl | exact sb_nil | refine sb_fr ?_ | refine sb_pu rfl ?_ | refine sb_cons ?_ | refine sb_app ?_)))⟩
        · obtain rfl : q = ol.length := by omega
          have hqt' : ¬ (ol.length : Int) < ol.length := by omega
          rw [List.take_length, hom] at hu
          rw [← hu] at hsm1 hsm2
          have e1 : (u : Int) ≤ cm := by omega
          have e2 : (cm : Int) ≤ u + (2 + plT th 3) := by omega
          repeat' ((try (conv => whnf)); first | (refine when_ye ?_ ?_; exact rfl) | (apply br_pnE; (exact rfl); omega) | (apply when_pyE; (exact rfl); omega) | ((with_reducible show CallT _ _ _ _ _ _); first | ((refine call_pe (haw _) ?_ ?_ ?_; (exact rfl); exact rfl))) | (refine aru ?_ ?_; omega) | (apply ld_o; exact rfl))
          all_goals (try (skip))
          all_goals exact ⟨rfl, (by refine sb_ent ?_; (repeat (first | exact sb_refl | exact sb_nil | refine sb_fr ?_ | refine sb_pu rfl ?_ | refine sb_cons ?_ | refine sb_app ?_)))⟩
end
end Go.Proofs.YtllddgdmmfmpkaaGreatDoor
