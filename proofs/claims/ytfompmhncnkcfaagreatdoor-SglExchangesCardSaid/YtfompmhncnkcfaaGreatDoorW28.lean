/- What the laws share, part 28. No condition. -/
import Derived.Test.YtfompmhncnkcfaaGreatDoorW27
namespace Go.Proofs.YtfompmhncnkcfaaGreatDoor
open Go
set_option maxRecDepth 10000
set_option maxHeartbeats 16000000
section
variable {W0 : World} {own : Own} {c : Cfg} {ia pa ka : Option Addr} {ic pc kc : Nat} {ps : List PH} {il ks : List Int}
theorem ent_s4 {g b : Nat × (Obj → Prop)} {D0 D1 D2 D3 kD L Z : Own} : Ent W0 (g :: (D3 ++ (D2 ++ (kD ++ (L ++ (D1 ++ (D0 ++ (b :: Z)))))))) (b :: (g :: (D2 ++ (D3 ++ (kD ++ (L ++ Z)))))) := ent_cnt (D1 ++ D0) fun a => by simp only [cnt_app, cnt_cons]; omega
theorem ent_s5 {x y b g : Nat × (Obj → Prop)} {D2 D3 T O kD L Z : Own} : Ent W0 (x :: (y :: (b :: (g :: (D2 ++ (D3 ++ (T ++ (O ++ (kD ++ (L ++ Z)))))))))) (b :: (g :: (D2 ++ (D3 ++ (T ++ (O ++ (kD ++ (L ++ Z)))))))) := ent_cnt [x, y] fun a => by simp only [cnt_app, cnt_cons, cnt_nil]; omega
theorem ent_s6 {b g : Nat × (Obj → Prop)} {D2 D3 T O kD L Z : Own} : Ent W0 (b :: (g :: (D2 ++ (D3 ++ (T ++ (O ++ (kD ++ (L ++ Z)))))))) ((g :: (D2 ++ (D3 ++ (T ++ ([] ++ (O ++ ([] ++ []))))))) ++ ((kD ++ L) ++ Z)) := ent_cnt [b] fun a => by simp only [cnt_app, cnt_cons, cnt_nil]; omega
theorem sp_rnew (hI : RdE encU 1 W0 own ia il) (hil : il.length ≤ 1000000) (hP : RdE PH.enc 1 W0 own pa ps) (hpl : ps.length ≤ 16) (hQ : ∀ h ∈ ps, RdE Ins.enc 5 W0 own h.a h.p ∧ h.p.length ≤ 64) (hK : RdE encI 1 W0 own ka ks) (hkl : ks.length ≤ 1000000) :
    Spec Tryz.prog W0 12 [scrV c ia il.length ic pa ps.length pc ka ks.length kc] own fun v own' => ∃ y : DP × List PB × Own,
      (v = .pointer (some ⟨y.1.rb, 0, none⟩) ∧ y.1.ok W0 (y.2.2 ++ ownL y.2.1) (y.2.1.map PB.h) (newM c il (ps.map PH.p)) ∧ (y.2.1.map PB.h).map PH.p = ps.map PH.p) ∧
      Ent W0 own' (y.1.O c (y.2.1.map PB.h).length (newM c il (ps.map PH.p)) ++ ((y.2.2 ++ ownL y.2.1) ++ own)) := by
  refine spec_of mixed lowc_ref22_New (by simp [irc_ref22_New]) ?_
  have hbd := blocks_bd c
  have hts := fun (own' : Own) [EntC own' own] => sp_twinScript (c := c) (ic := ic) (pc := pc) (kc := kc) (own := own') (RdE.up hI) hil (RdE.up hP) (by omega) (fun h hh => ⟨(hQ h hh).1.up, by have := (hQ h hh).2; omega⟩) (RdE.up hK) hkl
  have hcw := fun (own' : Own) [EntC own' own] => sp_twinWords (cap := ic) (RdE.up (own := own') hI) (by omega)
  have hbl := fun own => sp_rblocks W0 own c
  repeat' ((try (conv => whnf)); first | (refine new_i (fun b1 h1 => ?_); (apply Stop.h)))
  refine Stop.mk ?_
  skip
  refine cut_i (σ := Nat × Value × Value × (List PB × Option Addr × Nat × Own) × (Option Addr × Nat × Own) × (Option Addr × Nat × Own)) 65512 (fun y => [(3, .pointer (some ⟨y.1, 0, none⟩))])
    (fun y => ScE b1 c (.slice ia il.length ic) (.slice pa ps.length pc) (.slice ka ks.length kc) :: ((y.1, fun o => o = Obj.cells (cfL c [y.2.1, .slice y.2.2.2.1.2.1 (y.2.2.2.1.1.map PB.h).length y.2.2.2.1.2.2.1, y.2.2.1, .slice y.2.2.2.2.1.1 il.length y.2.2.2.2.1.2.1, .slice y.2.2.2.2.2.1 (blocksM c).toNat y.2.2.2.2.2.2.1, .slice none 0 0, .slice none 0 0, .slice none 0 0, .int .i64 0]).toArray 79 (0, 0)) :: (y.2.2.2.2.1.2.2 ++ (y.2.2.2.2.2.2.2 ++ (y.2.2.2.1.2.2.2 ++ (ownL y.2.2.2.1.1 ++ own))))))
    (fun y => (y.2.2.2.1.1.map PB.h).map PH.p = ps.map PH.p ∧ BufE PH.enc 67 1 y.2.2.2.1.2.1 y.2.2.2.1.2.2.1 (y.2.2.2.1.1.map PB.h) y.2.2.2.1.2.2.2 ∧ (∀ x ∈ y.2.2.2.1.1, x.ok) ∧ BufE encU 63 1 y.2.2.2.2.1.1 y.2.2.2.2.1.2.1 il y.2.2.2.2.1.2.2 ∧ BufE encB 4 1 y.2.2.2.2.2.1 y.2.2.2.2.2.2.1 (List.replicate (blocksM c).toNat false) y.2.2.2.2.2.2.2) rfl ?_ ?_
  · repeat' ((try (conv => whnf)); first | (refine mkE (enc := encB) false rfl rfl (by omega) (fun a3 c3 D3 hb3 => ?_)) | (refine new_i (fun gb hgb => ?_)) | ((with_reducible show CallT _ _ _ _ _ _); first | ((refine call_x (hts _) ?_ ?_ (fun y v hv => ?_); (exact rfl); (exact rfl); (obtain ⟨⟨a1, c1, D1⟩, ⟨a0, c0, D0⟩, ys, ⟨a5, c5, kD⟩⟩ := y; obtain ⟨rfl, hpp, hBk, hys⟩ := hv; dsimp only at hpp hBk hys))) | ((refine call_x (hcw _) ?_ ?_ (fun y v hv => ?_); (exact rfl); (exact rfl); (obtain ⟨a2, c2, D2⟩ := y; obtain ⟨rfl, hB2⟩ := hv; dsimp only at hB2)))) | ((with_reducible show CallQ _ _ _ _ _ _); first | ((refine call_qi (fun ex => hbl _) ?_ ?_ ?_; (exact rfl); (exact rfl)))) | (apply ld_o; exact rfl) | (apply ldN_a; exact rfl) | (apply ldN_o; (exact rfl); exact rfl) | (refine Both.mk ?_ ?_))
    all_goals
      refine ⟨(gb, .slice a1 il.length c1, .slice a0 ks.length c0, (ys, a5, c5, kD), (a2, c2, D2), (a3, c3, D3)), ⟨hpp, hBk, hys, hB2, hb3⟩, (by repeat' (first | exact True.intro | refine And.intro ?_ ?_ | exact rfl | exact vi (by omega) | (dsimp only; exact rfl) | (dsimp only; exact vi (by omega)))), ?_⟩
      exact ent_s4
  · rintro ⟨gb, iv, kv, ⟨ys, a5, c5, kD⟩, ⟨a2, c2, D2⟩, ⟨a3, c3, D3⟩⟩ junk ⟨hpp, hBk, hys, hB2, hb3⟩
    dsimp only at hpp hBk hys hB2 hb3 ⊢
    skip
    refine loop_i (σ := Nat × (Option Addr × Nat × Own) × (Option Addr × Nat × Own)) (fun y => [(4, .int .i64 y.1)])
      (fun y => ScE b1 c (.slice ia il.length ic) (.slice pa ps.length pc) (.slice ka ks.length kc) :: ((gb, fun o => o = Obj.cells (cfL c [iv, .slice a5 (ys.map PB.h).length c5, kv, .slice a2 il.length c2, .slice a3 (blocksM c).toNat c3, .slice y.2.1.1 ((ps.take y.1).map fun h => thr0 h.p).length y.2.1.2.1, .slice none 0 0, .slice y.2.2.1 (List.replicate y.1 (⟨none, 0, [], []⟩ : ObS)).length y.2.2.2.1, .int .i64 0]).toArray 79 (0, 0)) :: (D2 ++ (D3 ++ (y.2.1.2.2 ++ (y.2.2.2.2 ++ (kD ++ (ownL ys ++ own))))))))
      (fun y => y.1 ≤ ps.length ∧ BufE Thr.enc 66 11 y.2.1.1 y.2.1.2.1 ((ps.take y.1).map fun h => thr0 h.p) y.2.1.2.2 ∧ BufE ObS.enc 72 1 y.2.2.1 y.2.2.2.1 (List.replicate y.1 (⟨none, 0, [], []⟩ : ObS)) y.2.2.2.2)
      (fun y => ps.length - y.1) (0, (none, 0, []), (none, 0, [])) ⟨Nat.zero_le _, BufE.nil, BufE.nil⟩ (by repeat' (first | exact True.intro | refine And.intro ?_ ?_ | exact rfl | exact vi (by omega) | (dsimp only; exact rfl) | (dsimp only; exact vi (by omega)))) ?_ rfl ?_
    · exact Ent.refl
    rintro ⟨i, ⟨ta, tc, tD⟩, ⟨oa, oc, oD⟩⟩ junk ⟨hi, hBt, hBo⟩
    dsimp only at hi hBt hBo ⊢
    have htl : ((ps.take i).map fun h => thr0 h.p).length = i := by simp; omega
    have hol : (List.replicate i (⟨none, 0, [], []⟩ : ObS)).length = i := by simp
    by_cases hil : i < ps.length
    · obtain ⟨x, hx⟩ : ∃ x, ps[i]? = some x := ⟨_, List.getElem?_eq_getElem hil⟩
      obtain ⟨xa, xc, xp⟩ := x
      have hthr : ∀ b : Bool, b = decide (xp.length = 0) → [.int .i64 0, .int .u64 0, .int .u64 0, .int .u64 0, .int .u64 0, .int .u64 0, .int .u64 0, .int .u64 0, .int .u64 0, .int .i64 0, .bool b] = (thr0 xp).enc := fun b hb => by rw [hb]; rfl
      repeat' ((try (conv => whnf)); first | (apply br_pyE; (exact rfl); omega) | (apply app_i (enc := Thr.enc) (T := 66) (thr0 xp) hBt; (refine hthr _ ?_; simp); (exact rfl); (omega); (exact rfl); (exact rfl); (omega); intro a9 c9 D9 hb9) | (apply app_i (enc := ObS.enc) (T := 72) ⟨none, 0, [], []⟩ hBo; (exact rfl); (exact rfl); (omega); (exact rfl); (exact rfl); (omega); intro a8 c8 D8 hb8) | ((with_reducible show Ld _ _ _ _); first | (refine ldE0 hP hx rfl ?_)) | ((with_reducible show IxS _ _ _ _ _); first | ((refine ixE hP hx ?_ ?_; (first | rfl | omega)))) | (refine ari ?_ ?_; omega) | (apply ld_o; exact rfl) | (apply st_o; (exact rfl); exact rfl) | (refine new_i (fun bk hbk => ?_)))
      all_goals
        have htk : ((ps.take i).map fun h => thr0 h.p) ++ [thr0 xp] = (ps.take (i + 1)).map fun h => thr0 h.p := by
          rw [List.take_add_one, hx]; simp
        have hrp : List.replicate i (⟨none, 0, [], []⟩ : ObS) ++ [⟨none, 0, [], []⟩] = List.replicate (i + 1) ⟨none, 0, [], []⟩ := List.replicate_succ'.symm
        have e1 : ((ps.take (i + 1)).map fun h => thr0 h.p).length = ((ps.take i).map fun h => thr0 h.p).length + 1 := by rw [← htk]; simp
        have e2 : (List.replicate (i + 1) (⟨none, 0, [], []⟩ : ObS)).length = (List.replicate i (⟨none, 0, [], []⟩ : ObS)).length + 1 := by simp
        rw [htk] at hb9
        rw [hrp] at hb8
        refine ⟨(i + 1, (a9, c9, D9), (a8, c8, D8)), ⟨hil, hb9, hb8⟩, (by show ps.length - (i + 1) < ps.length - i; omega), (by repeat' (first | exact True.intro | refine And.intro ?_ ?_ | exact rfl | exact vi (by omega) | (dsimp only; exact rfl) | (dsimp only; exact vi (by omega)))), ?_⟩
        dsimp only
        rw [e1, e2]
        exact ent_s5
    · have hiN : i = ps.length := by omega
      subst hiN
      rw [List.take_length] at hBt ⊢
      repeat' ((try (conv => whnf)); first | (apply br_pnE; (exact rfl); omega) | (apply ld_o; exact rfl))
      have hT : (newM c il (ps.map PH.p)).T = ps.map fun h => thr0 h.p := by simp [newM, thr0]
      have hz : ownS (List.replicate ps.length (⟨none, 0, [], []⟩ : ObS)) = [] := by simp [ownS]
      have hk : (newM c il (ps.map PH.p)).tk.length = (blocksM c).toNat := by simp [newM]
      refine ⟨(⟨gb, iv, a5, c5, kv, a2, c2, D2, a3, c3, D3, ta, tc, tD, none, 0, [], [], [], oa, oc, oD, List.replicate ps.length ⟨none, 0, [], []⟩⟩, ys, kD), ⟨rfl, ⟨hB2, hb3, RdE.up (hBk.rd (W0 := W0)), ?_, hT ▸ hBt, BufE.nil, rfl, (fun _ h => (by cases h)), hBo, ?_, ?_⟩, hpp⟩, ?_⟩
      · intro h hh
        obtain ⟨x, hx, rfl⟩ := List.mem_map.1 hh
        exact ownL_rd hx ((hys x hx).rd (W0 := W0))
      · intro x hx
        rw [List.eq_of_mem_replicate hx]
        exact BufE.nil
      · simp only [newM, List.map_map, List.map_replicate]
        exact (List.map_const' ..).symm
      · dsimp only [DP.O, DP.cells]
        rw [hT, hz, hk]
        exact ent_s6
end
end Go.Proofs.YtfompmhncnkcfaaGreatDoor
namespace Go.Proofs.YtfompmhncnkcfaaGreatDoor
open Go
set_option maxRecDepth 10000
set_option maxHeartbeats 16000000
theorem do_n {c : Cfg} {P : List (List Ins)} {s : GS} {ch : ChM} (h : (doM c P s ch).1 = 0) : (doM c P s ch).2.n = s.n + 1 := by
  unfold doM at h ⊢
  cases hs : chM c P s ch with
  | none => rw [hs] at h; exact absurd (show (70 : Int) = 0 from h) (by decide)
  | some s' => rfl
structure CH where
  t : Int
  f : Int
  a : Option Addr
  ad : List Int
  ac : Nat
abbrev CH.enc (x : CH) : List Value := [.int .i64 x.t, .int .i64 x.f, .slice x.a x.ad.length x.ac]
abbrev CH.m (x : CH) : ChM := ⟨x.t, x.f, x.ad⟩
abbrev zeroG : Value := .agg #[.slice none 0 0, .slice none 0 0, .slice none 0 0, .slice none 0 0]
theorem ent_d1 {W0 : World} {a b d : Nat × (Obj → Prop)} {A Z : Own} : Ent W0 (a :: (b :: (d :: (A ++ Z)))) (A ++ ([a, b, d] ++ Z)) := ent_cnt [] fun a => by simp only [cnt_app, cnt_cons, cnt_nil]; omega
theorem ent_d2 {W0 : World} {a b d : Nat × (Obj → Prop)} {A Z : Own} : Ent W0 (A ++ ([a, b, d] ++ Z)) (b :: (d :: (A ++ Z))) := ent_cnt [a] fun a => by simp only [cnt_app, cnt_cons, cnt_nil]; omega
theorem ent_d3 {W0 : World} {a b d : Nat × (Obj → Prop)} {A B Z : Own} : Ent W0 (A ++ ([a, b, d] ++ (B ++ Z))) Z := ent_cnt (a :: b :: d :: (A ++ B)) fun a => by simp only [cnt_app, cnt_cons, cnt_nil]; omega
theorem ent_d4 {W0 : World} {b d : Nat × (Obj → Prop)} {A Z : Own} : Ent W0 (b :: (d :: (A ++ Z))) ([b, d] ++ (A ++ Z)) := Ent.refl
theorem ent_d5 {W0 : World} {b d : Nat × (Obj → Prop)} {R A B Z : Own} : Ent W0 (b :: (d :: ((R ++ A) ++ (B ++ Z)))) (R ++ Z) := ent_cnt (b :: d :: (A ++ B)) fun a => by simp only [cnt_app, cnt_cons]; omega
theorem ent_d7 {W0 : World} {b d : Nat × (Obj → Prop)} {Z : Own} : Ent W0 (b :: (d :: Z)) ([b, d] ++ Z) := Ent.refl
theorem ent_d9 {W0 : World} {b d : Nat × (Obj → Prop)} {A B Z : Own} : Ent W0 (A ++ (B ++ ([b, d] ++ Z))) (b :: (d :: (A ++ (B ++ Z)))) := ent_cnt [] fun a => by simp only [cnt_app, cnt_cons, cnt_nil]; omega
section
variable {W0 : World} {own : Own} {c : Cfg} {ia pa ka : Option Addr} {ic pc kc : Nat} {ps : List PH} {il ks : List Int} {ca : Option Addr} {cc : Nat} {cl : List CH}
theorem sp_Run (hF : FormsAt W0) (hI : RdE encU 1 W0 own ia il) (hil : il.length ≤ 500000) (hw : ∀ x ∈ il, okU x) (hP : RdE PH.enc 1 W0 own pa ps) (hQ : ∀ h ∈ ps, RdE Ins.enc 5 W0 own h.a h.p)
    (hC : RdE CH.enc 3 W0 own ca cl) (hA : ∀ x ∈ cl, RdE encI 1 W0 own x.a x.ad ∧ x.ad.length ≤ x.ac ∧ ∀ a ∈ x.ad, a ≤ 9223372036854775807) (hcl : cl.length ≤ 5000) :
    Spec Tryz.prog W0 19 [scrV c ia il.length ic pa ps.length pc ka ks.length kc, .slice ca cl.length cc] own fun v own' =>
      ((∃ k e : Int, v = .tuple #[zeroG, .int .i64 k, .int .i64 e] ∧ (((csM c il.length ps []).2.2 ≠ 0 ∧ k = 0 ∧ e = (csM c il.length ps []).2.2) ∨ (csM c il.length ps [] = (0, 0, 0) ∧ e = 70 ∧ ∃ j : Nat, k = j ∧ runsM c (ps.map PH.p) (cl.map CH.m) 0 (newM c il (ps.map PH.p)) = .inr j))) ∧ Ent W0 own' own) ∨
      ∃ y : RG × GS, (v = .tuple #[y.1.v y.2, .int .i64 0, .int .i64 0] ∧ csM c il.length ps [] = (0, 0, 0) ∧ runsM c (ps.map PH.p) (cl.map CH.m) 0 (newM c il (ps.map PH.p)) = .inl y.2 ∧ y.1.ok W0 y.2) ∧ Ent W0 own' (y.1.D ++ own) := by
  refine spec_of mixed low_sgl_Run (by simp [ir_sgl_Run]) ?_
  have hnw := fun b2 b4 => sp_new (own := [(b4, fun o => o = Obj.cells #[.slice none 0 0, .slice none 0 0, .slice none 0 0, .slice none 0 0] 52 (0, 0)), (b2, fun o => o = Obj.cells (scrC c (.slice ia il.length ic) (.slice pa ps.length pc) (.slice ka ks.length kc)) 32 (0, 0))] ++ own) (c := c) (ic := ic) (pc := pc) (ka := ka) (ks := ks) (kc := kc) hF (RdE.up hI) (by omega) (RdE.up hP) (fun h hh => RdE.up (hQ h hh))
  repeat' ((try (conv => whnf)); first | (refine new_i (fun b2 h2 => ?_); (apply Stop.h)))
  refine Stop.mk ?_
  repeat' ((try (conv => whnf)); first | (refine new_i (fun b4 h4 => ?_); (apply Stop.h)))
  refine Stop.mk ?_
  repeat' ((try (conv => whnf)); first | ((with_reducible show CallT _ _ _ _ _ _); first | ((refine call_or (hnw b2 b4) ?_ ?_ ?_ (fun v hv => ?_) (fun y v hv => ?_); (exact ent_d7); (exact rfl); (exact rfl); all_goals (apply Stop.h)))) | (apply ldN_a; exact rfl))
  · obtain ⟨rfl, he⟩ := hv
    generalize csM c il.length ps [] = z at *
    obtain ⟨zt, za, ze⟩ := z
    dsimp only at he
    refine Stop.mk ?_
    repeat' ((try (conv => whnf)); first | (apply br_pyE; (exact rfl); omega) | (apply sel; exact rfl) | (apply ldN_a; exact rfl) | (apply stN_o; (exact rfl); (exact rfl); exact rfl))
    all_goals exact .inl ⟨⟨0, ze, rfl, .inl ⟨he, rfl, rfl⟩⟩, (by first | exact ent_i | (repeat (first | exact Ent.refl | exact Ent.left | refine Ent.cons ?_ | refine Ent.app ?_)))⟩
  · obtain ⟨g, ys, kD⟩ := y
    obtain ⟨rfl, h0, hok, hev, hpp, -⟩ := hv
    dsimp only at hok hev hpp ⊢
    obtain ⟨-, hc0, hpl, hiw, hck⟩ := csM_0 (by rw [h0] : (csM c il.length ps []).2.2 = 0)
    have hG0 : GOk c (ps.map PH.p) (newM c il (ps.map PH.p)) := new_ok hc0 hiw hw fun p hp => by obtain ⟨x, hx, rfl⟩ := List.mem_map.1 hp; exact hck x hx
    have hc1 := hC
    rw [h0]
    have hn0 : (newM c il (ps.map PH.p)).n = 0 := rfl
    generalize newM c il (ps.map PH.p) = s0 at *
    generalize hPe : ps.map PH.p = P at *
    refine Stop.mk ?_
    repeat' ((try (conv => whnf)); first | (refine br_fe ?_ ?_; exact rfl) | (apply sel; exact rfl))
    refine loop_i (σ := Nat × GP × GS) (fun y => [(27, .int .i64 y.1)])
      (fun y => (b4, fun o => o = Obj.cells #[.slice none 0 0, .slice none 0 0, .slice none 0 0, .slice none 0 0] 52 (0, 0)) :: ((b2, fun o => o = Obj.cells (scrC c (.slice ia il.length ic) (.slice pa ps.length pc) (.slice ka ks.length kc)) 32 (0, 0)) :: (y.2.1.O c (ys.map PB.h).length y.2.2 ++ ((kD ++ ownL ys) ++ own))))
      (fun y => y.1 ≤ cl.length ∧ y.2.1.ok W0 (kD ++ ownL ys) (ys.map PB.h) y.2.2 ∧ y.2.1.ev W0 ∧ y.2.1.gb = g.gb ∧ GOk c P y.2.2 ∧ y.2.2.n = y.1 ∧ runsM c P (cl.map CH.m) 0 s0 = runsM c P ((cl.drop y.1).map CH.m) y.1 y.2.2)
      (fun y => cl.length - y.1) (0, g, s0) ⟨Nat.zero_le _, hok, hev, rfl, hG0, hn0, rfl⟩ (by repeat' (first | exact True.intro | refine And.intro ?_ ?_ | exact rfl | exact vi (by omega) | (dsimp only; exact rfl) | (dsimp only; exact vi (by omega)))) ?_ rfl ?_
    · exact ent_d9
    · rintro ⟨k, g1, s1⟩ junk ⟨hk, hok1, hev1, hgb, hG1, hn1, hrun⟩
      dsimp only at hk hok1 hev1 hgb hG1 hn1 hrun ⊢
      by_cases hkl : k < cl.length
      · obtain ⟨x, hx⟩ : ∃ x, cl[k]? = some x := ⟨_, List.getElem?_eq_getElem hkl⟩
        obtain ⟨hxA, hxl, hxr⟩ := hA x (List.mem_of_getElem? hx)
        obtain ⟨xt, xf, xa, xad, xac⟩ := x
        dsimp only at hxA hxl hxr
        rw [drop_of hx] at hrun
        simp only [List.map_cons, runsM] at hrun
        have hG1' := hG1
        rw [← hpp] at hG1'
        have hdo := fun (E : Own) => sp_do (c := c) hF hok1 hev1 hG1' (by omega) xt xf hxA hxl hxr (E ++ ((kD ++ ownL ys) ++ own))
        rw [hpp] at hdo
        have hdk := do_ok hG1 (ch := ⟨xt, xf, xad⟩) hxr
        rw [hgb] at hdo
        by_cases hz : (doM c P s1 ⟨xt, xf, xad⟩).1 = 0
        · have hdn := do_n hz
          rw [if_pos hz] at hrun
          generalize doM c P s1 ⟨xt, xf, xad⟩ = z at *
          obtain ⟨zc, s2⟩ := z
          dsimp only at hz hdo hdk hrun hdn
          subst hz
          repeat' ((try (conv => whnf)); first | (apply br_pyE; (exact rfl); omega) | (refine new_i (fun b12 h12 => ?_); (apply Stop.h)) | ((with_reducible show IxS _ _ _ _ _); first | ((refine ixE hc1 hx ?_ ?_; (first | rfl | omega)))) | ((with_reducible show LdN _ _ _ _ _); first | (refine ldNEi hc1 hx rfl ?_)))
          refine Stop.mk ?_
          repeat' ((try (conv => whnf)); first | (refine br_fe ?_ ?_; exact rfl) | ((with_reducible show CallT _ _ _ _ _ _); first | ((refine call_to (hdo [(b12, fun o => o = Obj.cells #[.int .i64 xt, .int .i64 xf, .slice xa xad.length xac] 43 (0, 0)), (b4, fun o => o = Obj.cells #[.slice none 0 0, .slice none 0 0, .slice none 0 0, .slice none 0 0] 52 (0, 0)), (b2, fun o => o = Obj.cells (scrC c (.slice ia il.length ic) (.slice pa ps.length pc) (.slice ka ks.length kc)) 32 (0, 0))]) ?_ ?_ ?_ (fun g2 v hg2 => ?_); (exact ent_d1); (exact rfl); (exact rfl); (obtain ⟨rfl, hok2, hev2, hgb2⟩ := hg2)))) | (refine ari ?_ ?_; omega) | (apply ldN_a; exact rfl) | (apply stN_o; (exact rfl); (exact rfl); exact rfl))
          exact ⟨(k + 1, g2, s2), ⟨hkl, hok2, hev2, hgb2, hdk, hdn.trans (by rw [hn1]), hrun⟩, (by show cl.length - (k + 1) < cl.length - k; omega), (by repeat' (first | exact True.intro | refine And.intro ?_ ?_ | exact rfl | exact vi (by omega) | (dsimp only; exact rfl) | (dsimp only; exact vi (by omega)))), ent_d2⟩
        · have hdc := do_code hz
          rw [if_neg hz] at hrun
          rw [hdc] at hdo
          dsimp only at hdo
          repeat' ((try (conv => whnf)); first | (apply br_pyE; (exact rfl); omega) | (refine new_i (fun b12 h12 => ?_); (apply Stop.h)) | ((with_reducible show IxS _ _ _ _ _); first | ((refine ixE hc1 hx ?_ ?_; (first | rfl | omega)))) | ((with_reducible show LdN _ _ _ _ _); first | (refine ldNEi hc1 hx rfl ?_)))
          refine Stop.mk ?_
          repeat' ((try (conv => whnf)); first | (refine br_te ?_ ?_; exact rfl) | ((with_reducible show CallT _ _ _ _ _ _); first | ((refine call_to (hdo [(b12, fun o => o = Obj.cells #[.int .i64 xt, .int .i64 xf, .slice xa xad.length xac] 43 (0, 0)), (b4, fun o => o = Obj.cells #[.slice none 0 0, .slice none 0 0, .slice none 0 0, .slice none 0 0] 52 (0, 0)), (b2, fun o => o = Obj.cells (scrC c (.slice ia il.length ic) (.slice pa ps.length pc) (.slice ka ks.length kc)) 32 (0, 0))]) ?_ ?_ ?_ (fun g2 v hg2 => ?_); (exact ent_d1); (exact rfl); (exact rfl); (obtain ⟨rfl, hok2, hev2, hgb2⟩ := hg2)))) | (apply ldN_a; exact rfl) | (apply stN_o; (exact rfl); (exact rfl); exact rfl))
          exact .inl ⟨⟨k, 70, rfl, .inr ⟨rfl, rfl, k, rfl, hrun⟩⟩, ent_d3⟩
      · have hkN : k = cl.length := by omega
        subst hkN
        rw [List.drop_length] at hrun
        have hdl := hG1.dl
        have htl := hG1.tl
        have hol := hG1.ol
        have hel := hG1.el
        have hPl : P.length ≤ 16 := by rw [← hPe, List.length_map]; exact hpl.2
        have hrs := sp_result (c := c) hok1 hev1 (by omega) (by omega) (by omega) (by omega) (fun l hl => by have := hG1.ob l hl; omega) (fun e he => by have := (hG1.ev.1 e he).2.2.2; omega)
        rw [hgb] at hrs
        have hrk := spec_keep (E := [(b4, fun o => o = Obj.cells #[.slice none 0 0, .slice none 0 0, .slice none 0 0, .slice none 0 0] 52 (0, 0)), (b2, fun o => o = Obj.cells (scrC c (.slice ia il.length ic) (.slice pa ps.length pc) (.slice ka ks.length kc)) 32 (0, 0))]) (q := (kD ++ ownL ys) ++ own) (D := g1.O c (ys.map PB.h).length s1) (O := fun r : RG => r.D ++ g1.O c (ys.map PB.h).length s1) (R := fun r v => v = r.v s1 ∧ r.ok W0 s1) (fun q => by simpa only [List.append_assoc] using hrs q)
        repeat' ((try (conv => whnf)); first | (apply br_pnE; (exact rfl); omega) | ((with_reducible show CallT _ _ _ _ _ _); first | ((refine call_to hrk ?_ ?_ ?_ (fun r v hr => ?_); (exact ent_d4); (exact rfl); (exact rfl); (obtain ⟨rfl, hrok⟩ := hr)))) | (apply ldN_a; exact rfl) | (apply stN_o; (exact rfl); (exact rfl); exact rfl))
        exact .inr ⟨(r, s1), ⟨rfl, rfl, hrun, hrok⟩, ent_d5⟩
end
end Go.Proofs.YtfompmhncnkcfaaGreatDoor
namespace Go.Proofs.YtfompmhncnkcfaaGreatDoor
open Go
set_option maxRecDepth 10000
set_option maxHeartbeats 16000000
abbrev awkC : Cfg := ⟨2, 1, 0, 0, 0, 0, 0, 1, 1, 0, 0, 0, false⟩
abbrev awkP : List Ins := [⟨7, 0, 0, 0, 1⟩, ⟨11, 0, 1, 0, 1⟩, ⟨8, 0, 0, 0, 0⟩]
abbrev awkG : GS := ⟨[5, 0], [], [⟨3, ⟨0, 0, 0, 0, 0, 0, 0, 0⟩, 1, true⟩, ⟨3, ⟨0, 0, 0, 0, 0, 0, 0, 0⟩, 5, true⟩], [⟨1, 0, 3, 0, [], []⟩, ⟨1, 0, 4, 0, [], [1]⟩], [[⟨0, 3, 1⟩], [⟨0, 3, 5⟩]], 2⟩
theorem awk_cs {a : Option Addr} {n : Nat} : csM awkC 2 [⟨a, n, awkP⟩, ⟨a, n, awkP⟩] [] = (0, 0, 0) := by kernel_rfl
theorem awk_run : runsM awkC [awkP, awkP] [⟨1, 5, []⟩, ⟨0, 0, []⟩] 0 (newM awkC [5, 6] [awkP, awkP]) = .inl awkG := by kernel_rfl
section
variable {W0 : World} {own : Own}
theorem sp_awake (hF : FormsAt W0) : Pure Tryz.prog W0 10 [] own (.bool true) := by
  refine pure_of (spec_of mixed low_law22_awake (by simp [ir_law22_awake]) ?_)
  repeat' ((try (conv => whnf)); first | ((with_reducible show CallT _ _ _ _ _ _); first | (((apply Stop.h)))) | (apply ldN_a; exact rfl) | (apply stN_o; (exact rfl); (exact rfl); exact rfl) | (refine new_i (fun bk hbk => ?_)))
  rename_i b9 h9 b11 h11 b14 h14 b2 h2
  refine Stop.mk ?_
  refine call_or (sp_Run (c := awkC) (ia := some ⟨b11, 0, none⟩) (il := [5, 6]) (ic := 2) (pa := some ⟨b14, 0, none⟩) (ps := [⟨some ⟨b9, 0, none⟩, 3, awkP⟩, ⟨some ⟨b9, 0, none⟩, 3, awkP⟩]) (pc := 2) (ka := none) (ks := []) (kc := 0) (ca := some ⟨bk, 0, none⟩) (cl := [⟨1, 5, none, [], 0⟩, ⟨0, 0, none, [], 0⟩]) (cc := 2) hF
    (rd_blk (by (repeat (first | exact List.Mem.head _ | apply List.Mem.tail))) (fun _ _ => rfl) rfl) (by decide) (by decide) (rd_blk (by (repeat (first | exact List.Mem.head _ | apply List.Mem.tail))) (fun _ _ => rfl) rfl) (fun h hh => ?_) (rd_blk (by (repeat (first | exact List.Mem.head _ | apply List.Mem.tail))) (fun _ _ => rfl) rfl) (fun x hx => ?_) (by decide)) Ent.refl rfl rfl (fun v hv => ?_) (fun y v hv => ?_)
  · have e : h = ⟨some ⟨b9, 0, none⟩, 3, awkP⟩ := by simpa using hh
    subst e
    exact rd_blk (by (repeat (first | exact List.Mem.head _ | apply List.Mem.tail))) (fun _ _ => rfl) rfl
  · have e : x.ad = [] ∧ x.a = none := by
      rcases List.mem_cons.1 hx with rfl | hx
      · exact ⟨rfl, rfl⟩
      · rw [List.mem_singleton.1 hx]; exact ⟨rfl, rfl⟩
    rw [e.1, e.2]
    exact ⟨RdE.nil, Nat.zero_le _, fun _ h => (by cases h)⟩
  · obtain ⟨k, e, -, h⟩ := hv
    rcases h with ⟨h, -⟩ | ⟨-, -, j, -, h⟩
    · exact absurd (congrArg (fun z => z.2.2) awk_cs) h
    · rw [show (newM awkC [5, 6] (List.map PH.p [⟨some ⟨b9, 0, none⟩, 3, awkP⟩, ⟨some ⟨b9, 0, none⟩, 3, awkP⟩])) = newM awkC [5, 6] [awkP, awkP] from rfl] at h
      exact absurd (awk_run.symm.trans h) (by simp)
  · obtain ⟨r, s⟩ := y
    obtain ⟨rfl, -, hr, hok⟩ := hv
    have hs : awkG = s := by
      have := awk_run.symm.trans hr
      exact Sum.inl.inj this
    subst hs
    have hL : r.L.length = 2 := by have := congrArg List.length hok.em; simpa using this
    have hD := hok.d.rd (W0 := W0)
    have hT := hok.t.rd (W0 := W0)
    have d0 : awkG.d[0]? = some 5 := rfl
    have d1 : awkG.d[1]? = some 0 := rfl
    have t0 : awkG.T[0]? = some ⟨3, ⟨0, 0, 0, 0, 0, 0, 0, 0⟩, 1, true⟩ := rfl
    have t1 : awkG.T[1]? = some ⟨3, ⟨0, 0, 0, 0, 0, 0, 0, 0⟩, 5, true⟩ := rfl
    dsimp only [RG.v, RG.D]
    rw [hL]
    repeat' ((try (conv => whnf)); first | (refine when_ye ?_ ?_; exact rfl) | ((with_reducible show Ld _ _ _ _); first | (refine ldE0 hD d0 rfl ?_) | (refine ldE0 hD d1 rfl ?_) | (refine ldEk hT t0 rfl ?_) | (refine ldEk hT t1 rfl ?_)) | ((with_reducible show IxS _ _ _ _ _); first | ((refine ixE hD d0 ?_ ?_; (first | rfl | omega))) | ((refine ixE hD d1 ?_ ?_; (first | rfl | omega))) | ((refine ixE hT t0 ?_ ?_; (first | rfl | omega))) | ((refine ixE hT t1 ?_ ?_; (first | rfl | omega)))) | (apply sel; exact rfl) | (apply ld_o; exact rfl) | (apply stN_o; (exact rfl); (exact rfl); exact rfl) | (refine new_i (fun bk hbk => ?_)))
    -- VSHOW
    all_goals exact ⟨rfl, (by first | exact ent_i | (repeat (first | exact Ent.refl | exact Ent.left | refine Ent.cons ?_ | refine Ent.app ?_)))⟩
end
end Go.Proofs.YtfompmhncnkcfaaGreatDoor
namespace Go.Proofs.YtfompmhncnkcfaaGreatDoor
open Go
set_option maxRecDepth 10000
set_option maxHeartbeats 16000000
structure MS where
  c : Cfg
  ia : Option Addr
  il : List Int
  ic : Nat
  Di : Own
  pa : Option Addr
  ps : List PB
  pc : Nat
  Dp : Own
  ka : Option Addr
  kc : Nat
  Dk : Own
abbrev MS.v (m : MS) : Value := scrV m.c m.ia m.il.length m.ic m.pa m.ps.length m.pc m.ka 0 m.kc
def MS.O (m : MS) : Own := m.Dk ++ (m.Dp ++ (ownL m.ps ++ m.Di))
structure MS.ok (m : MS) (st : Bool) : Prop where
  i : BufE encU 63 1 m.ia m.ic m.il m.Di
  p : BufE PH.enc 67 1 m.pa m.pc (m.ps.map PB.h) m.Dp
  k : BufE encI 3 1 m.ka m.kc [] m.Dk
  q : ∀ x ∈ m.ps, x.ok ∧ checkP x.h.p = (0, 0)
  il : (m.il.length : Int) = m.c.words
  iw : ∀ x ∈ m.il, 0 ≤ x ∧ x ≤ 3
  pl : m.ps.length = 2 ∨ m.ps.length = 3
  cw : 4 ≤ m.c.words ∧ m.c.words ≤ 12
  c0 : checkM m.c = 0
  cs : m.c.strong = st
def SumI (ls : List IH) (i : Nat) (n : Int) : Prop := i ≤ 3 → 0 ≤ n ∧ n ≤ i * 17592186043904 ∧ ∀ h ∈ ls.take i, (h.l.length : Int) ≤ n
theorem SumI.next {ls : List IH} {i : Nat} {n : Int} {x : IH} (h : SumI ls i n) (hx : ls[i]? = some x) (hl : x.l.length ≤ 17592186043904) : SumI ls (i + 1) (IntKind.i64.wrap (n + x.l.length)) := fun hi => by
  obtain ⟨h0, h1, h2⟩ := h (by omega)
  rw [wrap_i64 (by omega) (by omega)]
  refine ⟨by omega, by omega, fun y hy => ?_⟩
  rw [List.take_add_one, hx] at hy
  rcases List.mem_append.1 hy with hy | hy
  · have := h2 y hy; omega
  · rw [List.mem_singleton.1 hy]; omega
theorem good_strong {c : Cfg} (h : goodC c) (st : Bool) : checkM { c with strong := st } = 0 := by
  unfold goodC at h
  exact (cm0 (by unfold okW; dsimp only; omega) (by unfold okH okC nB nW; dsimp only; omega) (by unfold okL; dsimp only; omega) (by unfold okK; dsimp only; omega)).symm
abbrev zeroS : Value := scrV ⟨0, 0, 0, 0, 0, 0, 0, 0, 0, 0, 0, 0, false⟩ none 0 0 none 0 0 none 0 0
section
variable {W0 : World} {own : Own} {la : Option Addr} {lc : Nat} {ls : List IH}
theorem ent_u1 {a b d : Nat × (Obj → Prop)} {A Z : Own} : Ent W0 (A ++ ([a, b, d] ++ Z)) (A ++ Z) := ent_cnt [a, b, d] fun a => by simp only [cnt_app, cnt_cons, cnt_nil]; omega
theorem callC {k : FuncId} {args : List Value} {a b c d e : Int} {K : Value → Own → Prop} (hh : inKs [a, b, c, d, e]) (ek : k = 28) (ea : args = [.int .i64 a, .int .i64 b, .int .i64 c, .int .i64 d, .int .i64 e]) (h : ∀ c : Cfg, goodC c → K c.v own) : CallT Tryz.prog W0 own k args K := by
  subst ek; subst ea
  exact callP_config hh h
theorem sp_mscript {c : Cfg} (hg : goodC c) (st : Bool) (n : Int) (hn : n = 2 ∨ n = 3) (hL : RdE IH.enc 1 W0 own la ls) (hQ : ∀ h ∈ ls, RdE encI 1 W0 own h.a h.l ∧ h.l.length ≤ 1000000) :
    Spec Tryz.prog W0 29 [({ c with strong := st } : Cfg).v, .int .i64 n, .slice la ls.length lc, .int .i64 14, .bool true, .bool true, .slice none 0 0] own fun v own' => ∃ m : MS, (v = m.v ∧ m.ok st) ∧ Ent W0 own' (m.O ++ own) := fun w hw => by
  have hgu := hg
  unfold goodC at hgu
  refine (sp_script2 (c := { c with strong := st }) (pka := none) (pks := []) (pkc := 0) n 14 true true (by dsimp only; omega) (by omega) (by omega) hL hQ RdE.nil (by simp) w hw).mono fun _ _ ⟨v, o, a, b, ia, il, ic, Di, pa, ps, pc, Dp, ka, ks, kc, Dk, hv, hI, hP, hK, hp, hl, hw, hpl, hkl, _, hE⟩ => ?_
  have hk0 : ks = [] := List.eq_nil_of_length_eq_zero hkl
  subst hk0
  refine ⟨v, o, a, b, ⟨{ c with strong := st }, ia, il, ic, Di, pa, ps, pc, Dp, ka, kc, Dk⟩, ⟨hv, hI, hP, hK, fun x hx => ⟨(hp x hx).1, by rw [checkP_R]; exact (hp x hx).2⟩, hl, hw, (by show ps.length = 2 ∨ ps.length = 3; omega), by dsimp only; omega, good_strong hg st, rfl⟩, ?_⟩
  simpa only [MS.O, List.append_assoc] using hE
theorem sp_lscript (n0 n1 n2 n3 n4 : Int) (hh : inKs [n0, n1, n2, n3, n4]) (hL : RdE IH.enc 1 W0 own la ls) (hll : ls.length ≤ 17592186043904) (hQ : ∀ h ∈ ls, RdE encI 1 W0 own h.a h.l ∧ h.l.length ≤ 17592186043904) (st : Bool) :
    Spec Tryz.prog W0 9 [.agg #[.int .i64 n0, .int .i64 n1, .int .i64 n2, .int .i64 n3, .int .i64 n4], .slice la ls.length lc, .bool st] own fun v own' =>
      (v = .tuple #[zeroS, .bool false] ∧ Ent W0 own' own) ∨ ∃ m : MS, (v = .tuple #[m.v, .bool true] ∧ m.ok st) ∧ Ent W0 own' (m.O ++ own) := by
  refine spec_of mixed low_law22_script (by simp [ir_law22_script]) ?_
  repeat' ((try (conv => whnf)); first | (refine new_i (fun b3 h3 => ?_); (apply Stop.h)))
  refine Stop.mk ?_
  repeat' ((try (conv => whnf)); first | (refine new_i (fun b6 h6 => ?_); (apply Stop.h)))
  refine Stop.mk ?_
  skip
  refine loop_i (σ := Nat × Int) (fun y => [(8, .int .i64 y.2), (9, .int .i64 y.1)])
    (fun _ => (b6, fun o => o = Obj.cells (scrC ⟨0, 0, 0, 0, 0, 0, 0, 0, 0, 0, 0, 0, false⟩ (.slice none 0 0) (.slice none 0 0) (.slice none 0 0)) 32 (0, 0)) :: ((b3, fun o => o = Obj.cells #[.int .i64 n0, .int .i64 n1, .int .i64 n2, .int .i64 n3, .int .i64 n4] 22 (0, 0)) :: own))
    (fun y => y.1 ≤ ls.length ∧ SumI ls y.1 y.2) (fun y => ls.length - y.1) (0, 0) ⟨Nat.zero_le _, fun _ => ⟨Int.le_refl _, by simp, fun _ h => (by cases h)⟩⟩ (by repeat' (first | exact True.intro | refine And.intro ?_ ?_ | exact rfl | exact vi (by omega) | (dsimp only; exact rfl) | (dsimp only; exact vi (by omega)))) Ent.refl rfl ?_
  rintro ⟨i, n⟩ junk ⟨hi, hS⟩
  dsimp only at hi hS ⊢
  by_cases hil : i < ls.length
  · obtain ⟨x, hx⟩ : ∃ x, ls[i]? = some x := ⟨_, List.getElem?_eq_getElem hil⟩
    have hxl := (hQ x (List.mem_of_getElem? hx)).2
    have hSn := hS.next hx hxl
    obtain ⟨xa, xc, xl⟩ := x
    repeat' ((try (conv => whnf)); first | (apply br_pyE; (exact rfl); omega) | (refine ari ?_ ?_; omega) | (refine arw ?_) | ((with_reducible show Ld _ _ _ _); first | (refine ldE0 hL hx rfl ?_)) | ((with_reducible show IxS _ _ _ _ _); first | ((refine ixE hL hx ?_ ?_; (first | rfl | omega)))))
    exact ⟨(i + 1, _), ⟨hil, hSn⟩, (by show ls.length - (i + 1) < ls.length - i; omega), (by repeat' (first | exact True.intro | refine And.intro ?_ ?_ | exact rfl | exact vi (by omega) | (dsimp only; exact rfl) | (dsimp only; exact vi (by omega)))), Ent.refl⟩
  · have hiN : i = ls.length := by omega
    subst hiN
    by_cases hc : (3 : Int) < ls.length
    · repeat' ((try (conv => whnf)); first | (refine when_ne ?_ ?_; exact rfl) | (refine br_te ?_ ?_; exact rfl) | (apply br_pnE; (exact rfl); omega) | (apply when_pyE; (exact rfl); omega) | (apply ldN_a; exact rfl) | (apply stN_o; (exact rfl); (exact rfl); exact rfl))
      all_goals exact .inl ⟨rfl, (by first | exact ent_i | (repeat (first | exact Ent.refl | exact Ent.left | refine Ent.cons ?_ | refine Ent.app ?_)))⟩
    · obtain ⟨hn0, -, hn2⟩ := hS (by omega)
      by_cases hn : 80 < n
      · repeat' ((try (conv => whnf)); first | (refine when_ye ?_ ?_; exact rfl) | (apply br_pyE; (exact rfl); omega) | (apply br_pnE; (exact rfl); omega) | (apply when_pnE; (exact rfl); omega) | (apply ldN_a; exact rfl) | (apply stN_o; (exact rfl); (exact rfl); exact rfl))
        all_goals exact .inl ⟨rfl, (by first | exact ent_i | (repeat (first | exact Ent.refl | exact Ent.left | refine Ent.cons ?_ | refine Ent.app ?_)))⟩
      · have hQ2 : ∀ h ∈ ls, RdE encI 1 W0 own h.a h.l ∧ h.l.length ≤ 1000000 := fun h hh => ⟨(hQ h hh).1, by have := hn2 h (by rw [List.take_length]; exact hh); omega⟩
        have hsc := fun (c : Cfg) (hg : goodC c) (b10 : Nat) => sp_mscript (lc := lc) (own := [(b10, fun o => o = Obj.cells #[.int .i64 c.words, .int .i64 c.orecs, .int .i64 c.base, .int .i64 c.c0, .int .i64 c.c1, .int .i64 c.c2, .int .i64 c.c3, .int .i64 c.reads, .int .i64 c.writes, .int .i64 c.allocs, .int .i64 c.frees, .int .i64 c.clock, .bool st] 27 (0, 0)), (b6, fun o => o = Obj.cells (scrC ⟨0, 0, 0, 0, 0, 0, 0, 0, 0, 0, 0, 0, false⟩ (.slice none 0 0) (.slice none 0 0) (.slice none 0 0)) 32 (0, 0)), (b3, fun o => o = Obj.cells #[.int .i64 n0, .int .i64 n1, .int .i64 n2, .int .i64 n3, .int .i64 n4] 22 (0, 0))] ++ own) hg st (2 + (ls.length : Int) % 2) (by omega) (RdE.up hL) (fun h hh => ⟨RdE.up (hQ2 h hh).1, (hQ2 h hh).2⟩)
        repeat' ((try (conv => whnf)); first | (refine when_ye ?_ ?_; exact rfl) | (apply br_pnE; (exact rfl); omega) | (apply when_pnE; (exact rfl); omega) | ((with_reducible show CallT _ _ _ _ _ _); first | ((refine callC hh ?_ ?_ (fun c hg => ?_); (exact rfl); (exact rfl); (apply Stop.h)))) | (refine ix0 rfl ?_) | (refine ix1 rfl ?_) | (refine ix2 rfl ?_) | (refine ix3 rfl ?_) | (refine ixn ?_ ?_; omega) | (apply ld_o; exact rfl))
        refine Stop.mk ?_
        repeat' ((try (conv => whnf)); first | (refine new_i (fun b10 h10 => ?_); (apply Stop.h)))
        refine Stop.mk ?_
        repeat' ((try (conv => whnf)); first | ((with_reducible show CallT _ _ _ _ _ _); first | ((refine call_to (hsc c hg b10) ?_ ?_ ?_ (fun m v hv => ?_); (exact Ent.refl); (exact rfl); (exact rfl); (obtain ⟨rfl, hm⟩ := hv)))) | (refine ari ?_ ?_; omega) | (apply ldN_a; exact rfl) | (apply st_o; (exact rfl); exact rfl) | (apply stN_o; (exact rfl); (exact rfl); exact rfl) | (refine rem_i ?_ ?_; omega))
        exact .inr ⟨m, ⟨rfl, hm⟩, ent_u1⟩
end
end Go.Proofs.YtfompmhncnkcfaaGreatDoor
namespace Go.Proofs.YtfompmhncnkcfaaGreatDoor
open Go
set_option maxRecDepth 10000
set_option maxHeartbeats 8000000
section
variable {W0 : World} {own : Own} {a b : Option Addr} {c1 c2 : Nat}
theorem sp_kints {L : List Int} (h1 : RdE encI 1 W0 own a L) (h2 : RdE encI 1 W0 own b L) (hl : L.length ≤ 9223372036854775807) : Pure Tryz.prog W0 78 [.slice a L.length c1, .slice b L.length c2] own (.bool true) := by
  refine pure_of (spec_of mixed low_kit_Ints (by simp [ir_kit_Ints]) ?_)
  have hne : ¬ ((L.length : Nat) : Int) ≠ L.length := by omega
  repeat' ((try (conv => whnf)); first | (apply br_pnE; (exact rfl); omega))
  refine loop_c (σ := Nat) (fun i => [(5, .int .i64 i)]) (fun i => i ≤ L.length) (fun i => L.length - i) 0 (by omega) (by repeat' (first | exact True.intro | refine And.intro ?_ ?_ | exact rfl | exact vi (by omega) | (dsimp only; exact rfl) | (dsimp only; exact vi (by omega)))) rfl ?_
  intro i junk hi
  by_cases hlt : i < L.length
  · obtain ⟨x, hx⟩ : ∃ x, L[i]? = some x := ⟨_, List.getElem?_eq_getElem hlt⟩
    have hlt' : (i : Int) < L.length := by omega
    have hnx : ¬ x ≠ x := fun h => h rfl
    repeat' ((try (conv => whnf)); first | (apply br_pyE; (exact rfl); omega) | (apply br_pnE; (exact rfl); omega) | ((with_reducible show Ld _ _ _ _); first | (refine ldE0 h1 hx rfl ?_) | (refine ldE0 h2 hx rfl ?_)) | ((with_reducible show IxS _ _ _ _ _); first | ((refine ixE h1 hx ?_ ?_; (first | rfl | omega))) | ((refine ixE h2 hx ?_ ?_; (first | rfl | omega)))) | (refine ari ?_ ?_; omega))
    exact ⟨i + 1, by omega, by omega, (by repeat' (first | exact True.intro | refine And.intro ?_ ?_ | exact rfl | exact vi (by omega) | (dsimp only; exact rfl) | (dsimp only; exact vi (by omega)))), (by first | exact ent_i | (repeat (first | exact Ent.refl | exact Ent.left | refine Ent.cons ?_ | refine Ent.app ?_)))⟩
  · have hlt' : ¬ (i : Int) < L.length := by omega
    repeat' ((try (conv => whnf)); first | (apply br_pnE; (exact rfl); omega))
    exact ⟨rfl, (by first | exact ent_i | (repeat (first | exact Ent.refl | exact Ent.left | refine Ent.cons ?_ | refine Ent.app ?_)))⟩
theorem sp_kwords {L : List Int} (h1 : RdE encU 1 W0 own a L) (h2 : RdE encU 1 W0 own b L) (hl : L.length ≤ 9223372036854775807) : Pure Tryz.prog W0 24 [.slice a L.length c1, .slice b L.length c2] own (.bool true) := by
  refine pure_of (spec_of mixed low_kit_Words (by simp [ir_kit_Words]) ?_)
  have hne : ¬ ((L.length : Nat) : Int) ≠ L.length := by omega
  repeat' ((try (conv => whnf)); first | (apply br_pnE; (exact rfl); omega))
  refine loop_c (σ := Nat) (fun i => [(5, .int .i64 i)]) (fun i => i ≤ L.length) (fun i => L.length - i) 0 (by omega) (by repeat' (first | exact True.intro | refine And.intro ?_ ?_ | exact rfl | exact vi (by omega) | (dsimp only; exact rfl) | (dsimp only; exact vi (by omega)))) rfl ?_
  intro i junk hi
  by_cases hlt : i < L.length
  · obtain ⟨x, hx⟩ : ∃ x, L[i]? = some x := ⟨_, List.getElem?_eq_getElem hlt⟩
    have hlt' : (i : Int) < L.length := by omega
    have hnx : ¬ x ≠ x := fun h => h rfl
    repeat' ((try (conv => whnf)); first | (apply br_pyE; (exact rfl); omega) | (apply br_pnE; (exact rfl); omega) | ((with_reducible show Ld _ _ _ _); first | (refine ldE0 h1 hx rfl ?_) | (refine ldE0 h2 hx rfl ?_)) | ((with_reducible show IxS _ _ _ _ _); first | ((refine ixE h1 hx ?_ ?_; (first | rfl | omega))) | ((refine ixE h2 hx ?_ ?_; (first | rfl | omega)))) | (refine ari ?_ ?_; omega))
    exact ⟨i + 1, by omega, by omega, (by repeat' (first | exact True.intro | refine And.intro ?_ ?_ | exact rfl | exact vi (by omega) | (dsimp only; exact rfl) | (dsimp only; exact vi (by omega)))), (by first | exact ent_i | (repeat (first | exact Ent.refl | exact Ent.left | refine Ent.cons ?_ | refine Ent.app ?_)))⟩
  · have hlt' : ¬ (i : Int) < L.length := by omega
    repeat' ((try (conv => whnf)); first | (apply br_pnE; (exact rfl); omega))
    exact ⟨rfl, (by first | exact ent_i | (repeat (first | exact Ent.refl | exact Ent.left | refine Ent.cons ?_ | refine Ent.app ?_)))⟩
theorem sp_kthreads {L : List Thr} (h1 : RdE Thr.enc 11 W0 own a L) (h2 : RdE Thr.enc 11 W0 own b L) (hl : L.length ≤ 9223372036854775807) : Pure Tryz.prog W0 26 [.slice a L.length c1, .slice b L.length c2] own (.bool true) := by
  refine pure_of (spec_of mixed low_kit_Threads (by simp [ir_kit_Threads]) ?_)
  have hne : ¬ ((L.length : Nat) : Int) ≠ L.length := by omega
  repeat' ((try (conv => whnf)); first | (apply br_pnE; (exact rfl); omega))
  refine loop_c (σ := Nat) (fun i => [(5, .int .i64 i)]) (fun i => i ≤ L.length) (fun i => L.length - i) 0 (by omega) (by repeat' (first | exact True.intro | refine And.intro ?_ ?_ | exact rfl | exact vi (by omega) | (dsimp only; exact rfl) | (dsimp only; exact vi (by omega)))) rfl ?_
  intro i junk hi
  by_cases hlt : i < L.length
  · obtain ⟨x, hx⟩ : ∃ x, L[i]? = some x := ⟨_, List.getElem?_eq_getElem hlt⟩
    have hlt' : (i : Int) < L.length := by omega
    obtain ⟨pc, ⟨r0, r1, r2, r3, r4, r5, r6, r7⟩, oc, dn⟩ := x
    repeat' ((try (conv => whnf)); first | (refine br_fe ?_ ?_; exact rfl) | (apply br_pyE; (exact rfl); omega) | (refine eq_yes ?_ ?_; (simp [eqC, eqOne])) | ((with_reducible show IxS _ _ _ _ _); first | ((refine ixE h1 hx ?_ ?_; (first | rfl | omega))) | ((refine ixE h2 hx ?_ ?_; (first | rfl | omega)))) | ((with_reducible show LdN _ _ _ _ _); first | (refine ldNEi h1 hx rfl ?_) | (refine ldNEi h2 hx rfl ?_)) | (refine ari ?_ ?_; omega))
    exact ⟨i + 1, by omega, by omega, (by repeat' (first | exact True.intro | refine And.intro ?_ ?_ | exact rfl | exact vi (by omega) | (dsimp only; exact rfl) | (dsimp only; exact vi (by omega)))), (by first | exact ent_i | (repeat (first | exact Ent.refl | exact Ent.left | refine Ent.cons ?_ | refine Ent.app ?_)))⟩
  · have hlt' : ¬ (i : Int) < L.length := by omega
    repeat' ((try (conv => whnf)); first | (apply br_pnE; (exact rfl); omega))
    exact ⟨rfl, (by first | exact ent_i | (repeat (first | exact Ent.refl | exact Ent.left | refine Ent.cons ?_ | refine Ent.app ?_)))⟩
theorem sp_kobserved {L : List ObM} (h1 : RdE ObM.enc 3 W0 own a L) (h2 : RdE ObM.enc 3 W0 own b L) (hl : L.length ≤ 9223372036854775807) : Pure Tryz.prog W0 52 [.slice a L.length c1, .slice b L.length c2] own (.bool true) := by
  refine pure_of (spec_of mixed low_kit_Observed (by simp [ir_kit_Observed]) ?_)
  have hne : ¬ ((L.length : Nat) : Int) ≠ L.length := by omega
  repeat' ((try (conv => whnf)); first | (apply br_pnE; (exact rfl); omega))
  refine loop_c (σ := Nat) (fun i => [(5, .int .i64 i)]) (fun i => i ≤ L.length) (fun i => L.length - i) 0 (by omega) (by repeat' (first | exact True.intro | refine And.intro ?_ ?_ | exact rfl | exact vi (by omega) | (dsimp only; exact rfl) | (dsimp only; exact vi (by omega)))) rfl ?_
  intro i junk hi
  by_cases hlt : i < L.length
  · obtain ⟨x, hx⟩ : ∃ x, L[i]? = some x := ⟨_, List.getElem?_eq_getElem hlt⟩
    have hlt' : (i : Int) < L.length := by omega
    obtain ⟨pc, k, v⟩ := x
    repeat' ((try (conv => whnf)); first | (refine br_fe ?_ ?_; exact rfl) | (apply br_pyE; (exact rfl); omega) | (refine eq_yes ?_ ?_; (simp [eqC, eqOne])) | ((with_reducible show IxS _ _ _ _ _); first | ((refine ixE h1 hx ?_ ?_; (first | rfl | omega))) | ((refine ixE h2 hx ?_ ?_; (first | rfl | omega)))) | ((with_reducible show LdN _ _ _ _ _); first | (refine ldNEi h1 hx rfl ?_) | (refine ldNEi h2 hx rfl ?_)) | (refine ari ?_ ?_; omega))
    exact ⟨i + 1, by omega, by omega, (by repeat' (first | exact True.intro | refine And.intro ?_ ?_ | exact rfl | exact vi (by omega) | (dsimp only; exact rfl) | (dsimp only; exact vi (by omega)))), (by first | exact ent_i | (repeat (first | exact Ent.refl | exact Ent.left | refine Ent.cons ?_ | refine Ent.app ?_)))⟩
  · have hlt' : ¬ (i : Int) < L.length := by omega
    repeat' ((try (conv => whnf)); first | (apply br_pnE; (exact rfl); omega))
    exact ⟨rfl, (by first | exact ent_i | (repeat (first | exact Ent.refl | exact Ent.left | refine Ent.cons ?_ | refine Ent.app ?_)))⟩
theorem sp_kevent {e1 e2 : EH} (hm : e1.m = e2.m) (h1 : RdE encI 1 W0 own e1.ra e1.rl) (h2 : RdE encI 1 W0 own e1.wa e1.wl) (h3 : RdE encI 1 W0 own e2.ra e2.rl) (h4 : RdE encI 1 W0 own e2.wa e2.wl) (hl : e1.rl.length ≤ 9223372036854775807) (hl2 : e1.wl.length ≤ 9223372036854775807) :
    Pure Tryz.prog W0 51 [e1.v, e2.v] own (.bool true) := by
  refine pure_of (spec_of mixed low_kit_Event (by simp [ir_kit_Event]) ?_)
  obtain ⟨ev, t, k, w, ra, rl, rc, wa, wl, wc⟩ := e1
  obtain ⟨ev', t', k', w', ra', rl', rc', wa', wl', wc'⟩ := e2
  simp only [EH.m, EvM.mk.injEq] at hm
  obtain ⟨rfl, rfl, rfl, rfl, rfl, rfl⟩ := hm
  dsimp only [EH.v] at *
  have hr := fun (own' : Own) [EntC own' own] => sp_kints (c1 := rc) (c2 := rc') (RdE.up (own := own') h1) (RdE.up h3) hl
  have hw := fun (own' : Own) [EntC own' own] => sp_kints (c1 := wc) (c2 := wc') (RdE.up (own := own') h2) (RdE.up h4) hl2
  have e1 : ev = ev := rfl
  have e2 : t = t := rfl
  have e3 : k = k := rfl
  have e4 : w = w := rfl
  repeat' ((try (conv => whnf)); first | (refine when_ye ?_ ?_; exact rfl) | (apply when_pyE; (exact rfl); omega) | ((with_reducible show CallT _ _ _ _ _ _); first | ((refine call_pe (hr _) ?_ ?_ ?_; (exact rfl); exact rfl)) | ((refine call_pe (hw _) ?_ ?_ ?_; (exact rfl); exact rfl))) | (apply ld_o; exact rfl) | (refine new_i (fun bk hbk => ?_)))
  exact ⟨ret1 rfl, (by first | exact ent_i | (repeat (first | exact Ent.refl | exact Ent.left | refine Ent.cons ?_ | refine Ent.app ?_)))⟩
theorem sp_kevents {L1 L2 : List EH} (hm : L1.map EH.m = L2.map EH.m) (h1 : RdE EH.enc 6 W0 own a L1) (h2 : RdE EH.enc 6 W0 own b L2) (hl : L1.length ≤ 9223372036854775807)
    (hv1 : ∀ e ∈ L1, (RdE encI 1 W0 own e.ra e.rl ∧ RdE encI 1 W0 own e.wa e.wl) ∧ e.rl.length ≤ 9223372036854775807 ∧ e.wl.length ≤ 9223372036854775807) (hv2 : ∀ e ∈ L2, RdE encI 1 W0 own e.ra e.rl ∧ RdE encI 1 W0 own e.wa e.wl) :
    Pure Tryz.prog W0 25 [.slice a L1.length c1, .slice b L2.length c2] own (.bool true) := by
  refine pure_of (spec_of mixed low_kit_Events (by simp [ir_kit_Events]) ?_)
  have hl2 : L2.length = L1.length := by have := congrArg List.length hm; simpa using this.symm
  have hne : ¬ ((L1.length : Nat) : Int) ≠ L2.length := by omega
  repeat' ((try (conv => whnf)); first | (apply br_pnE; (exact rfl); omega))
  refine loop_c (σ := Nat) (fun i => [(5, .int .i64 i)]) (fun i => i ≤ L1.length) (fun i => L1.length - i) 0 (by omega) (by repeat' (first | exact True.intro | refine And.intro ?_ ?_ | exact rfl | exact vi (by omega) | (dsimp only; exact rfl) | (dsimp only; exact vi (by omega)))) rfl ?_
  intro i junk hi
  by_cases hlt : i < L1.length
  · obtain ⟨x, hx⟩ : ∃ x, L1[i]? = some x := ⟨_, List.getElem?_eq_getElem hlt⟩
    obtain ⟨y, hy⟩ : ∃ y, L2[i]? = some y := ⟨_, List.getElem?_eq_getElem (by omega)⟩
    have hxy : x.m = y.m := by
      have := congrArg (·[i]?) hm
      simpa [hx, hy] using this
    have hlt' : (i : Int) < L1.length := by omega
    obtain ⟨⟨hr1, hw1⟩, hl3, hl4⟩ := hv1 x (List.mem_of_getElem? hx)
    obtain ⟨hr2, hw2⟩ := hv2 y (List.mem_of_getElem? hy)
    have hev := fun (own' : Own) [EntC own' own] => sp_kevent (own := own') hxy hr1.up hw1.up hr2.up hw2.up hl3 hl4
    repeat' ((try (conv => whnf)); first | (refine br_fe ?_ ?_; exact rfl) | (apply br_pyE; (exact rfl); omega) | ((with_reducible show IxS _ _ _ _ _); first | ((refine ixE h1 hx ?_ ?_; (first | rfl | omega))) | ((refine ixE h2 hy ?_ ?_; (first | rfl | omega)))) | ((with_reducible show LdN _ _ _ _ _); first | (refine ldNEi h1 hx rfl ?_) | (refine ldNEi h2 hy rfl ?_)) | ((with_reducible show CallQ _ _ _ _ _ _); first | ((refine call_qi (fun ex => hev _) ?_ ?_ ?_; (exact rfl); (exact rfl)))) | (refine ari ?_ ?_; omega))
    exact ⟨i + 1, by omega, by omega, (by repeat' (first | exact True.intro | refine And.intro ?_ ?_ | exact rfl | exact vi (by omega) | (dsimp only; exact rfl) | (dsimp only; exact vi (by omega)))), (by first | exact ent_i | (repeat (first | exact Ent.refl | exact Ent.left | refine Ent.cons ?_ | refine Ent.app ?_)))⟩
  · have hlt' : ¬ (i : Int) < L1.length := by omega
    repeat' ((try (conv => whnf)); first | (apply br_pnE; (exact rfl); omega))
    exact ⟨rfl, (by first | exact ent_i | (repeat (first | exact Ent.refl | exact Ent.left | refine Ent.cons ?_ | refine Ent.app ?_)))⟩
theorem sp_kobs {S1 S2 : List ObS} (hm : S1.map ObS.l = S2.map ObS.l) (h1 : RdE ObS.enc 1 W0 own a S1) (h2 : RdE ObS.enc 1 W0 own b S2) (hl : S1.length ≤ 9223372036854775807)
    (hv1 : ∀ e ∈ S1, RdE ObM.enc 3 W0 own e.a e.l ∧ e.l.length ≤ 9223372036854775807) (hv2 : ∀ e ∈ S2, RdE ObM.enc 3 W0 own e.a e.l) :
    Pure Tryz.prog W0 27 [.slice a S1.length c1, .slice b S2.length c2] own (.bool true) := by
  refine pure_of (spec_of mixed low_kit_Obs (by simp [ir_kit_Obs]) ?_)
  have hl2 : S2.length = S1.length := by have := congrArg List.length hm; simpa using this.symm
  have hne : ¬ ((S1.length : Nat) : Int) ≠ S2.length := by omega
  repeat' ((try (conv => whnf)); first | (apply br_pnE; (exact rfl); omega))
  refine loop_c (σ := Nat) (fun i => [(5, .int .i64 i)]) (fun i => i ≤ S1.length) (fun i => S1.length - i) 0 (by omega) (by repeat' (first | exact True.intro | refine And.intro ?_ ?_ | exact rfl | exact vi (by omega) | (dsimp only; exact rfl) | (dsimp only; exact vi (by omega)))) rfl ?_
  intro i junk hi
  by_cases hlt : i < S1.length
  · obtain ⟨x, hx⟩ : ∃ x, S1[i]? = some x := ⟨_, List.getElem?_eq_getElem hlt⟩
    obtain ⟨y, hy⟩ : ∃ y, S2[i]? = some y := ⟨_, List.getElem?_eq_getElem (by omega)⟩
    have hxy : x.l = y.l := by
      have := congrArg (·[i]?) hm
      simpa [hx, hy] using this
    have hlt' : (i : Int) < S1.length := by omega
    obtain ⟨hr1, hl3⟩ := hv1 x (List.mem_of_getElem? hx)
    have hr2 := hv2 y (List.mem_of_getElem? hy)
    obtain ⟨xa, xc, xl, xD⟩ := x
    obtain ⟨ya, yc, yl, yD⟩ := y
    dsimp only at hxy hr1 hr2 hl3
    subst hxy
    have hev := fun (own' : Own) [EntC own' own] => sp_kobserved (own := own') (c1 := xc) (c2 := yc) hr1.up hr2.up hl3
    repeat' ((try (conv => whnf)); first | (refine br_fe ?_ ?_; exact rfl) | (apply br_pyE; (exact rfl); omega) | ((with_reducible show Ld _ _ _ _); first | (refine ldE0 h1 hx rfl ?_) | (refine ldE0 h2 hy rfl ?_)) | ((with_reducible show IxS _ _ _ _ _); first | ((refine ixE h1 hx ?_ ?_; (first | rfl | omega))) | ((refine ixE h2 hy ?_ ?_; (first | rfl | omega)))) | ((with_reducible show CallQ _ _ _ _ _ _); first | ((refine call_qi (fun ex => hev _) ?_ ?_ ?_; (exact rfl); (exact rfl)))) | (refine ari ?_ ?_; omega))
    exact ⟨i + 1, by omega, by omega, (by repeat' (first | exact True.intro | refine And.intro ?_ ?_ | exact rfl | exact vi (by omega) | (dsimp only; exact rfl) | (dsimp only; exact vi (by omega)))), (by first | exact ent_i | (repeat (first | exact Ent.refl | exact Ent.left | refine Ent.cons ?_ | refine Ent.app ?_)))⟩
  · have hlt' : ¬ (i : Int) < S1.length := by omega
    repeat' ((try (conv => whnf)); first | (apply br_pnE; (exact rfl); omega))
    exact ⟨rfl, (by first | exact ent_i | (repeat (first | exact Ent.refl | exact Ent.left | refine Ent.cons ?_ | refine Ent.app ?_)))⟩
end
end Go.Proofs.YtfompmhncnkcfaaGreatDoor
namespace Go.Proofs.YtfompmhncnkcfaaGreatDoor
open Go
set_option maxRecDepth 10000
set_option maxHeartbeats 8000000
structure SzG (s : GS) : Prop where
  d : s.d.length ≤ 500000
  t : s.T.length ≤ 500000
  e : s.E.length ≤ 500000
  o : s.O.length ≤ 500000
  ol : ∀ l ∈ s.O, l.length ≤ 500000
  ev : ∀ e ∈ s.E, e.r.length ≤ 500000 ∧ e.wl.length ≤ 500000
theorem GOk.sz {c : Cfg} {P : List (List Ins)} {s : GS} (h : GOk c P s) (hn : s.n ≤ 5000) (hP : P.length ≤ 16) : SzG s := by
  have h0 := (check_ok h.c0).1
  unfold okW at h0
  have h1 := h.dl
  have h2 := h.tl
  have h3 := h.ol
  have h4 := h.el
  exact ⟨by omega, by omega, by omega, by omega, fun l hl => by have := h.ob l hl; omega, fun e he => by have := (h.ev.1 e he).2.2.2; omega⟩
structure RG.at (r : RG) (W0 : World) (s : GS) (own : Own) : Prop where
  d : RdE encU 1 W0 own r.da s.d
  t : RdE Thr.enc 11 W0 own r.ta s.T
  e : RdE EH.enc 6 W0 own r.ea r.L
  em : r.L.map EH.m = s.E
  ev : ∀ e ∈ r.L, RdE encI 1 W0 own e.ra e.rl ∧ RdE encI 1 W0 own e.wa e.wl
  o : RdE ObS.enc 1 W0 own r.oa r.S
  os : ∀ x ∈ r.S, RdE ObM.enc 3 W0 own x.a x.l
  ol : r.S.map ObS.l = s.O
section
variable {W0 : World} {own : Own} {r r1 r2 : RG} {s s1 s2 : GS}
theorem ent_ownS {S : List ObS} {x : ObS} (hx : x ∈ S) : Ent W0 (ownS S) x.D := by
  obtain ⟨j, hj⟩ := List.getElem?_of_mem hx
  rw [ownS_split hj]
  exact ent_cnt (ownS (S.take j) ++ ownS (S.drop (j + 1))) fun a => by simp only [cnt_app]; omega
theorem RG.ok.at (h : r.ok W0 s) (he : Ent W0 own r.D) : r.at W0 s own := by
  unfold RG.D at he
  have e1 : Ent W0 own r.dD := he.trans (ent_cnt (r.tD ++ (r.eD ++ (r.X ++ (r.oD ++ ownS r.S)))) fun a => by simp only [cnt_app])
  have e2 : Ent W0 own r.tD := he.trans (ent_cnt (r.dD ++ (r.eD ++ (r.X ++ (r.oD ++ ownS r.S)))) fun a => by simp only [cnt_app]; omega)
  have e3 : Ent W0 own r.eD := he.trans (ent_cnt (r.dD ++ (r.tD ++ (r.X ++ (r.oD ++ ownS r.S)))) fun a => by simp only [cnt_app]; omega)
  have e4 : Ent W0 own r.X := he.trans (ent_cnt (r.dD ++ (r.tD ++ (r.eD ++ (r.oD ++ ownS r.S)))) fun a => by simp only [cnt_app]; omega)
  have e5 : Ent W0 own r.oD := he.trans (ent_cnt (r.dD ++ (r.tD ++ (r.eD ++ (r.X ++ ownS r.S)))) fun a => by simp only [cnt_app]; omega)
  have e6 : Ent W0 own (ownS r.S) := he.trans (ent_cnt (r.dD ++ (r.tD ++ (r.eD ++ (r.X ++ r.oD)))) fun a => by simp only [cnt_app]; omega)
  exact ⟨h.d.rd.ent e1, h.t.rd.ent e2, h.e.rd.ent e3, h.em, fun e he => ⟨(h.ev e he).1.ent e4, (h.ev e he).2.ent e4⟩, h.o.rd.ent e5, fun x hx => (h.os x hx).rd.ent (e6.trans (ent_ownS hx)), h.ol⟩
theorem RG.at.mono {own' : Own} (h : r.at W0 s own) (he : Ent W0 own' own) : r.at W0 s own' :=
  ⟨h.d.ent he, h.t.ent he, h.e.ent he, h.em, fun e hx => ⟨(h.ev e hx).1.ent he, (h.ev e hx).2.ent he⟩, h.o.ent he, fun x hx => (h.os x hx).ent he, h.ol⟩
theorem RG.at.el (h : r.at W0 s own) : r.L.length = s.E.length := by rw [← h.em, List.length_map]
theorem RG.at.sl (h : r.at W0 s own) : r.S.length = s.O.length := by rw [← h.ol, List.length_map]
theorem sp_kEv (h1 : r1.at W0 s1 own) (h2 : r2.at W0 s2 own) (he : s1.E = s2.E) (hz : SzG s1) : Pure Tryz.prog W0 25 [.slice r1.ea r1.L.length r1.ec, .slice r2.ea r2.L.length r2.ec] own (.bool true) :=
  sp_kevents (by rw [h1.em, h2.em, he]) h1.e h2.e (by rw [h1.el]; have := hz.e; omega) (fun e hx => ⟨h1.ev e hx, by have := hz.ev e.m (by rw [← h1.em]; exact List.mem_map_of_mem hx); unfold EH.m at this; dsimp only at this; omega⟩) h2.ev
theorem sp_kOb (h1 : r1.at W0 s1 own) (h2 : r2.at W0 s2 own) (he : s1.O = s2.O) (hz : SzG s1) : Pure Tryz.prog W0 27 [.slice r1.oa r1.S.length r1.oc, .slice r2.oa r2.S.length r2.oc] own (.bool true) :=
  sp_kobs (by rw [h1.ol, h2.ol, he]) h1.o h2.o (by rw [h1.sl]; have := hz.o; omega) (fun x hx => ⟨h1.os x hx, by have := hz.ol x.l (by rw [← h1.ol]; exact List.mem_map_of_mem hx); omega⟩) h2.os
theorem sp_kglobal (h1 : r1.at W0 s own) (h2 : r2.at W0 s own) (hz : SzG s) : Pure Tryz.prog W0 16 [r1.v s, r2.v s] own (.bool true) := by
  refine pure_of (spec_of mixed low_kit_Global (by simp [ir_kit_Global]) ?_)
  have hd := fun (own' : Own) (e : EntC own' own) => sp_kwords (c1 := r1.dc) (c2 := r2.dc) (h1.mono (e.h W0)).d (h2.mono (e.h W0)).d (by have := hz.d; omega)
  have ht := fun (own' : Own) (e : EntC own' own) => sp_kthreads (c1 := r1.tc) (c2 := r2.tc) (h1.mono (e.h W0)).t (h2.mono (e.h W0)).t (by have := hz.t; omega)
  have he := fun (own' : Own) (e : EntC own' own) => sp_kEv (h1.mono (e.h W0)) (h2.mono (e.h W0)) rfl hz
  have ho := fun (own' : Own) (e : EntC own' own) => sp_kOb (h1.mono (e.h W0)) (h2.mono (e.h W0)) rfl hz
  repeat' ((try (conv => whnf)); first | (refine when_ye ?_ ?_; exact rfl) | ((with_reducible show CallT _ _ _ _ _ _); first | ((refine call_pe (hd _ inferInstance) ?_ ?_ ?_; (exact rfl); exact rfl)) | ((refine call_pe (ht _ inferInstance) ?_ ?_ ?_; (exact rfl); exact rfl)) | ((refine call_pe (he _ inferInstance) ?_ ?_ ?_; (exact rfl); exact rfl)) | ((refine call_pe (ho _ inferInstance) ?_ ?_ ?_; (exact rfl); exact rfl))) | (apply ld_o; exact rfl) | (refine new_i (fun bk hbk => ?_)))
  all_goals exact ⟨ret1 rfl, (by first | exact ent_i | (repeat (first | exact Ent.refl | exact Ent.left | refine Ent.cons ?_ | refine Ent.app ?_)))⟩
end
end Go.Proofs.YtfompmhncnkcfaaGreatDoor
namespace Go.Proofs.YtfompmhncnkcfaaGreatDoor
open Go
set_option maxRecDepth 10000
set_option maxHeartbeats 8000000
abbrev MS.P (m : MS) : List (List Ins) := (m.ps.map PB.h).map PH.p
theorem psG_all : ∀ (ps : List PH) (t : Nat), (∀ h ∈ ps, checkP h.p = (0, 0)) → psG ps t = none
  | [], _, _ => rfl
  | x :: l, t, h => by
    unfold psG
    rw [h x List.mem_cons_self, if_neg (by simp)]
    exact psG_all l (t + 1) fun y hy => h y (List.mem_cons_of_mem _ hy)
theorem MS.ok.cs0 {m : MS} {st : Bool} (h : m.ok st) : csM m.c m.il.length (m.ps.map PB.h) [] = (0, 0, 0) := by
  unfold csM
  have hp := h.pl
  rw [if_neg (by rw [h.c0]; simp), if_neg (by rw [List.length_map]; omega), if_neg (by rw [h.il]; simp), psG_all _ _ fun y hy => by
    obtain ⟨x, hx, rfl⟩ := List.mem_map.1 hy
    exact (h.q x hx).2]
  rfl
theorem MS.ok.g0 {m : MS} {st : Bool} (h : m.ok st) : GOk m.c m.P (newM m.c m.il m.P) :=
  new_ok h.c0 h.il (fun x hx => by have := h.iw x hx; exact ⟨by omega, by omega⟩) fun p hp => by
    obtain ⟨y, hy, rfl⟩ := List.mem_map.1 hp
    obtain ⟨x, hx, rfl⟩ := List.mem_map.1 hy
    exact (h.q x hx).2
theorem MS.ok.pl16 {m : MS} {st : Bool} (h : m.ok st) : m.P.length ≤ 16 := by
  have hp := h.pl
  simp only [List.length_map]
  omega
section
variable {W0 : World} {m : MS} {st : Bool}
theorem MS.ok.rp (h : m.ok st) : RdE PH.enc 1 W0 (m.O) m.pa (m.ps.map PB.h) := h.p.rd.ent (ent_cnt (m.Dk ++ (ownL m.ps ++ m.Di)) fun a => by simp only [MS.O, cnt_app]; omega)
theorem MS.ok.ri (h : m.ok st) : RdE encU 1 W0 (m.O) m.ia m.il := h.i.rd.ent (ent_cnt (m.Dk ++ (m.Dp ++ ownL m.ps)) fun a => by simp only [MS.O, cnt_app]; omega)
theorem MS.ok.rq (h : m.ok st) : ∀ x ∈ m.ps.map PB.h, RdE Ins.enc 5 W0 (m.O) x.a x.p := fun y hy => by
  obtain ⟨x, hx, rfl⟩ := List.mem_map.1 hy
  have := ownL_rd (kD := []) hx ((h.q x hx).1.rd (W0 := W0))
  exact this.ent (ent_cnt (m.Dk ++ (m.Dp ++ m.Di)) fun a => by simp only [MS.O, cnt_app, cnt_nil]; omega)
theorem sp_newm (hF : FormsAt W0) (h : m.ok st) (q : Own) :
    Spec Tryz.prog W0 11 [m.v] (m.O ++ q) fun v own' => ∃ y : GP × List PB × Own, (v = .tuple #[.pointer (some ⟨y.1.gb, 0, none⟩), .int .i64 0, .int .i64 0, .int .i64 0] ∧
      y.1.ok W0 (y.2.2 ++ ownL y.2.1) (y.2.1.map PB.h) (newM m.c m.il m.P) ∧ y.1.ev W0 ∧ (y.2.1.map PB.h).map PH.p = m.P) ∧ Ent W0 own' (y.1.O m.c (y.2.1.map PB.h).length (newM m.c m.il m.P) ++ ((y.2.2 ++ ownL y.2.1) ++ (m.O ++ q))) := by
  have hl : (m.ps.map PB.h).length = m.ps.length := List.length_map ..
  have hil := h.il
  have hcw := h.cw
  have hn := sp_new (own := m.O ++ q) (c := m.c) (ic := m.ic) (pc := m.pc) (ka := m.ka) (ks := []) (kc := m.kc) hF (h.ri (W0 := W0)).up (by omega) (h.rp (W0 := W0)).up fun x hx => (h.rq (W0 := W0) x hx).up
  rw [h.cs0, hl] at hn
  intro w hw
  refine (hn w hw).mono fun _ _ ⟨v, o, a, b, hv⟩ => ?_
  rcases hv with ⟨⟨_, hne⟩, _⟩ | ⟨y, ⟨hv, _, h1, h2, h3, _⟩, hE⟩
  · exact absurd rfl hne
  · exact ⟨v, o, a, b, y, ⟨hv, h1, h2, h3⟩, hE⟩
end
end Go.Proofs.YtfompmhncnkcfaaGreatDoor
