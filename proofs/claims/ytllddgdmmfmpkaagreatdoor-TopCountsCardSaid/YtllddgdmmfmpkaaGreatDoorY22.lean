/- What the laws share, part 22. No condition. -/
import Derived.Test.YtllddgdmmfmpkaaGreatDoorY21
namespace Go.Proofs.YtllddgdmmfmpkaaGreatDoor
open Go
set_option maxRecDepth 10000
set_option maxHeartbeats 8000000
def AtQ (W0 : World) (c : Cfg) (t : Nat) (b : Nat) (x : AT) (e : Nat) (Q : Own) (r : Value) (v : Value) (own' : Own) : Prop :=
  ∃ s : AH × Own, (v = r ∧ s.1.b = b ∧ s.1.ok c x ∧ PhO W0 c t s.1 x s.2) ∧ Ent W0 own' (s.1.O c t x x.ph.no e (s.2 ++ Q))
section
variable {W0 : World} {own Q : Own} {c : Cfg} {t : Nat} {h : AH} {x : AT} {k : Int} {b e : Nat}
theorem atP_g {g' : LH} (e : g'.b = h.g.b) : atP c t h x k = atP c t { h with g := g' } x k := by
  unfold atP
  dsimp only
  rw [e]
theorem sp_aput (hh : h.ok c x) (a v : Int) (ha : 0 ≤ a ∧ a ≤ 9223372036854775807) (Q : Own) : Spec Tryz.prog W0 103 [ptr h.b, .int .i64 a, uv v] (h.O c t x 0 e Q) fun r own' =>
    ∃ g' : LH, (r = .bool (putM c.writes x.ad x.vl a v).isSome ∧ g'.ok c.writes ((putM c.writes x.ad x.vl a v).getD (x.ad, x.vl)).1 ((putM c.writes x.ad x.vl a v).getD (x.ad, x.vl)).2) ∧
      Ent W0 own' (AH.O { h with g := g' } c t { x with code := if (putM c.writes x.ad x.vl a v).isSome then x.code else 3, ad := ((putM c.writes x.ad x.vl a v).getD (x.ad, x.vl)).1, vl := ((putM c.writes x.ad x.vl a v).getD (x.ad, x.vl)).2 } (if (putM c.writes x.ad x.vl a v).isSome then 0 else 14) e Q) := by
  refine spec_of mixed low_attempt_Attempt_put (by simp [ir_attempt_Attempt_put]) ?_
  have hpt := fun (Q : Own) => sp_put (W0 := W0) (v := v) hh.hg ha Q
  generalize putM c.writes x.ad x.vl a v = z at *
  cases z with
  | none =>
    dsimp only [Option.isSome_none, Option.getD_none] at *
    repeat' ((try (conv => whnf)); first | (refine br_te ?_ ?_; exact rfl) | ((with_reducible show CallT _ _ _ _ _ _); first | ((refine call_to (hpt ((h.b, atP c t h x 0) :: ((h.sb, stP c.reads h.sa x.set.length h.sc) :: ((h.eb, enP t e x.rv) :: (h.sD ++ (h.nD ++ (h.oD ++ Q))))))) (by refine sb_ent ?_; (repeat (first | exact sb_refl | exact sb_nil | refine sb_fr ?_ | refine sb_pu rfl ?_ | refine sb_cons ?_ | refine sb_app ?_))) ?_ ?_ (fun g' v hv => ?_); (exact rfl); (exact rfl); (obtain ⟨rfl, hgb, hgo⟩ := hv))) | ((refine call_bk (sp_undo (h := h) (c := c) (t := t) (x := x) (k := 0) 3 _) ?_ ?_ ?_ (fun _ v hv => ?_); (exact rfl); (exact rfl); (exact rfl); (subst hv)))) | (apply ld_o; exact rfl))
    refine ⟨g', ⟨rfl, hgo⟩, ?_⟩
    rw [if_neg (by decide), if_neg (by decide), atP_g hgb]
    exact (by refine sb_ent ?_; (repeat (first | exact sb_refl | exact sb_nil | refine sb_fr ?_ | refine sb_pu rfl ?_ | refine sb_cons ?_ | refine sb_app ?_)))
  | some y =>
    obtain ⟨ad, vl⟩ := y
    dsimp only [Option.isSome_some, Option.getD_some] at *
    repeat' ((try (conv => whnf)); first | (refine br_fe ?_ ?_; exact rfl) | ((with_reducible show CallT _ _ _ _ _ _); first | ((refine call_to (hpt ((h.b, atP c t h x 0) :: ((h.sb, stP c.reads h.sa x.set.length h.sc) :: ((h.eb, enP t e x.rv) :: (h.sD ++ (h.nD ++ (h.oD ++ Q))))))) (by refine sb_ent ?_; (repeat (first | exact sb_refl | exact sb_nil | refine sb_fr ?_ | refine sb_pu rfl ?_ | refine sb_cons ?_ | refine sb_app ?_))) ?_ ?_ (fun g' v hv => ?_); (exact rfl); (exact rfl); (obtain ⟨rfl, hgb, hgo⟩ := hv)))) | (apply ld_o; exact rfl))
    refine ⟨g', ⟨rfl, hgo⟩, ?_⟩
    rw [if_pos rfl, if_pos rfl, atP_g hgb]
    exact (by refine sb_ent ?_; (repeat (first | exact sb_refl | exact sb_nil | refine sb_fr ?_ | refine sb_pu rfl ?_ | refine sb_cons ?_ | refine sb_app ?_)))
theorem sp_end1 {ab cb : Nat} (hh : h.ok c x) (ho : x.oc = []) (cd : Int) (Q : Own) : Spec Tryz.prog W0 93 [ptr ab, ptr cb] (h.O c t x k e ([(ab, abP h.b), (cb, boxP (.int .i64 cd) 3)] ++ Q)) (AtQ W0 c t h.b (x.endA c cd) e Q (.tuple #[])) := by
  unfold AtQ
  refine spec_of mixed low_attempt_Attempt_End_1 (by simp [ir_attempt_Attempt_End_1]) ?_
  repeat' ((try (conv => whnf)); first | ((with_reducible show CallT _ _ _ _ _ _); first | ((refine call_to (sp_aend (e := e) (k := k) hh ho cd Q) (by refine sb_ent ?_; (repeat (first | exact sb_refl | exact sb_nil | refine sb_fr ?_ | refine sb_pu rfl ?_ | refine sb_cons ?_ | refine sb_app ?_))) ?_ ?_ (fun s v hv => ?_); (exact rfl); (exact rfl); (obtain ⟨rfl, hs⟩ := hv)))) | (apply ld_o; exact rfl))
  exact ⟨s, ⟨rfl, hs⟩, Ent.refl⟩
theorem sp_read1c {ab : Nat} (hh : h.ok c x) (ho : x.oc = []) (Q : Own) : Spec Tryz.prog W0 96 [ptr ab] (h.O c t x k e ([(ab, abP h.b)] ++ Q)) (AtQ W0 c t h.b (x.endA c 7) e Q (.tuple #[])) := by
  unfold AtQ
  refine spec_of mixed low_attempt_Attempt_Read_1 (by simp [ir_attempt_Attempt_Read_1]) ?_
  repeat' ((try (conv => whnf)); first | ((with_reducible show CallT _ _ _ _ _ _); first | ((refine call_to (sp_aend (e := e) (k := k) hh ho 7 Q) (by refine sb_ent ?_; (repeat (first | exact sb_refl | exact sb_nil | refine sb_fr ?_ | refine sb_pu rfl ?_ | refine sb_cons ?_ | refine sb_app ?_))) ?_ ?_ (fun s v hv => ?_); (exact rfl); (exact rfl); (obtain ⟨rfl, hs⟩ := hv)))) | (apply ld_o; exact rfl))
  exact ⟨s, ⟨rfl, hs⟩, Ent.refl⟩
theorem sp_read2c {ab : Nat} (v : Int) (Q : Own) : Spec Tryz.prog W0 97 [uv v, ptr ab] ((h.b, atP c t h x k) :: ([(ab, abP h.b)] ++ Q)) fun r own' => ∃ _ : Unit, r = .tuple #[] ∧ Ent W0 own' ((h.b, atP c t h { x with val := v } k) :: ([(ab, abP h.b)] ++ Q)) := by
  refine spec_un (spec_of mixed low_attempt_Attempt_Read_2 (by simp [ir_attempt_Attempt_Read_2]) ?_)
  repeat' ((try (conv => whnf)); first | (apply ld_o; exact rfl) | (apply st_o; (exact rfl); exact rfl))
  all_goals exact ⟨rfl, (by refine sb_ent ?_; (repeat (first | exact sb_refl | exact sb_nil | refine sb_fr ?_ | refine sb_pu rfl ?_ | refine sb_cons ?_ | refine sb_app ?_)))⟩
theorem ok_r2 : okF Tryz.prog 97 = true := by kernel_rfl
theorem sp_read3c {fb vb ab : Nat} (v : Int) (Q : Own) : Spec Tryz.prog W0 99 [ptr fb, ptr vb] ((h.b, atP c t h x k) :: ([(fb, boxP (fnv 97 [ptr ab]) 143), (vb, boxP (uv v) 33), (ab, abP h.b)] ++ Q)) fun r own' => ∃ _ : Unit, r = .tuple #[] ∧ Ent W0 own' ((h.b, atP c t h { x with val := v } k) :: Q) := by
  refine spec_un (spec_of mixed low_attempt_Attempt_Read_3 (by simp [ir_attempt_Attempt_Read_3]) ?_)
  repeat' ((try (conv => whnf)); first | (refine CallV.mk ⟨ok_r2, ?_⟩) | ((with_reducible show CallT _ _ _ _ _ _); first | ((refine call_sb (D := [(ab, abP h.b)]) (sp_read2c (h := h) (c := c) (t := t) (x := x) (k := k) v _) ?_ ?_ ?_ (fun _ v hv => ?_); (exact rfl); (exact rfl); (exact rfl); (subst hv)))) | (apply ld_o; exact rfl))
  all_goals exact ⟨rfl, (by refine sb_ent ?_; (repeat (first | exact sb_refl | exact sb_nil | refine sb_fr ?_ | refine sb_pu rfl ?_ | refine sb_cons ?_ | refine sb_app ?_)))⟩
theorem sp_write1c {ab xb vb : Nat} (hh : h.ok c x) (ho : x.oc = []) (hcw : 0 ≤ c.words ∧ c.words ≤ 1099511627776) (a v : Int) (ha : 0 ≤ a) (Q : Own) :
    Spec Tryz.prog W0 102 [ptr ab, ptr xb, ptr vb] (h.O c t x 0 e ([(ab, abP h.b), (xb, boxP (uv a) 33), (vb, boxP (uv v) 33)] ++ Q)) (AtQ W0 c t h.b (({ x with ph := .idle } : AT).kont c (.wr a v)) e Q (.tuple #[])) := by
  unfold AtQ
  refine spec_of mixed low_attempt_Attempt_Write_1 (by simp [ir_attempt_Attempt_Write_1]) ?_
  have hou := fun (own' : Own) (m1 : MemC h.b (atP c t h x 0) own') => sp_outside (W0 := W0) (a := a) (cl_of m1 rfl) hcw
  unfold AT.kont
  dsimp only
  by_cases h1 : c.words ≤ a
  · rw [if_pos h1]
    have hd : decide (a ≥ c.words) = true := decide_eq_true h1
    simp only [hd] at hou
    have hh2 : h.ok c { x with ph := .idle } := ⟨hh.1, hh.2, hh.3, hh.4, hh.5, hh.6, hh.7, hh.8, hh.9⟩
    repeat' ((try (conv => whnf)); first | (refine br_te ?_ ?_; exact rfl) | ((with_reducible show CallT _ _ _ _ _ _); first | ((refine call_pe (hou _ inferInstance) ?_ ?_ ?_; (exact rfl); exact rfl)) | ((refine call_to (sp_aend (e := e) (k := 0) hh2 ho 7 Q) (by refine sb_ent ?_; (repeat (first | exact sb_refl | exact sb_nil | refine sb_fr ?_ | refine sb_pu rfl ?_ | refine sb_cons ?_ | refine sb_app ?_))) ?_ ?_ (fun s v hv => ?_); (exact rfl); (exact rfl); (obtain ⟨rfl, hs⟩ := hv)))) | (apply ld_o; exact rfl))
    exact ⟨s, ⟨rfl, hs⟩, Ent.refl⟩
  · rw [if_neg h1]
    have hd : decide (a ≥ c.words) = false := decide_eq_false h1
    simp only [hd] at hou
    have hpt := sp_aput (W0 := W0) (t := t) (e := e) hh a v ⟨ha, by omega⟩ Q
    generalize putM c.writes x.ad x.vl a v = z at *
    cases z with
    | none =>
      dsimp only [Option.isSome_none, Option.getD_none] at *
      rw [if_neg (by decide), if_neg (by decide)] at hpt
      repeat' ((try (conv => whnf)); first | (refine br_fe ?_ ?_; exact rfl) | ((with_reducible show CallT _ _ _ _ _ _); first | ((refine call_pe (hou _ inferInstance) ?_ ?_ ?_; (exact rfl); exact rfl)) | ((refine call_to hpt (by refine sb_ent ?_; (repeat (first | exact sb_refl | exact sb_nil | refine sb_fr ?_ | refine sb_pu rfl ?_ | refine sb_cons ?_ | refine sb_app ?_))) ?_ ?_ (fun g' v hv => ?_); (exact rfl); (exact rfl); (obtain ⟨rfl, hg⟩ := hv)))) | (refine ari ?_ ?_; omega) | (apply ld_o; exact rfl))
      all_goals exact ⟨({ h with g := g' }, []), ⟨rfl, rfl, ⟨hh.1, hh.2, hh.3, hg, hh.5, hh.6, hh.7, hh.8, hh.9⟩, rfl⟩, (by refine sb_ent ?_; (repeat (first | exact sb_refl | exact sb_nil | refine sb_fr ?_ | refine sb_pu rfl ?_ | refine sb_cons ?_ | refine sb_app ?_)))⟩
    | some y =>
      obtain ⟨ad, vl⟩ := y
      dsimp only [Option.isSome_some, Option.getD_some] at *
      rw [if_pos rfl, if_pos rfl] at hpt
      repeat' ((try (conv => whnf)); first | (refine br_fe ?_ ?_; exact rfl) | ((with_reducible show CallT _ _ _ _ _ _); first | ((refine call_pe (hou _ inferInstance) ?_ ?_ ?_; (exact rfl); exact rfl)) | ((refine call_to hpt (by refine sb_ent ?_; (repeat (first | exact sb_refl | exact sb_nil | refine sb_fr ?_ | refine sb_pu rfl ?_ | refine sb_cons ?_ | refine sb_app ?_))) ?_ ?_ (fun g' v hv => ?_); (exact rfl); (exact rfl); (obtain ⟨rfl, hg⟩ := hv)))) | (refine ari ?_ ?_; omega) | (apply ld_o; exact rfl))
      all_goals exact ⟨({ h with g := g' }, []), ⟨rfl, rfl, ⟨hh.1, hh.2, hh.3, hg, hh.5, hh.6, hh.7, hh.8, hh.9⟩, rfl⟩, (by refine sb_ent ?_; (repeat (first | exact sb_refl | exact sb_nil | refine sb_fr ?_ | refine sb_pu rfl ?_ | refine sb_cons ?_ | refine sb_app ?_)))⟩
theorem ok_e1 : okF Tryz.prog 93 = true := by kernel_rfl
theorem ok_r1 : okF Tryz.prog 96 = true := by kernel_rfl
theorem ok_r3 : okF Tryz.prog 99 = true := by kernel_rfl
theorem ok_w1 : okF Tryz.prog 102 = true := by kernel_rfl
end
end Go.Proofs.YtllddgdmmfmpkaaGreatDoor
namespace Go.Proofs.YtllddgdmmfmpkaaGreatDoor
open Go
set_option maxRecDepth 10000
set_option maxHeartbeats 8000000
theorem AH.th_eq {h : AH} {v : Value} (e : h.th = v) : ∃ h' : AH, h = { h' with th := v } := ⟨h, by cases h; cases e; rfl⟩
abbrev azP : Obj → Prop := fun z => z = Obj.cells #[.int .i64 0, .int .i64 0, .int .i64 0, uv 0, uv 0, .bool false] 49 (0, 0)
section
variable {W0 : World} {own Q : Own} {c : Cfg} {t : Nat} {h : AH} {x : AT} {k : Int} {b e mb : Nat}
theorem sp_sLoc (hh : h.ok c x) (ho : x.oc = []) (hcw : 0 ≤ c.words ∧ c.words ≤ 1099511627776) {kk : Ko} {E : Own} (hE : FnO h kk E) (hka : ∀ a v, kk = .wr a v → 0 ≤ a) (Q : Own) :
    Spec Tryz.prog W0 47 [ptr h.b, ptr mb] (h.O c t x 1 3 (E ++ Q)) (AtQ W0 c t h.b (({ x with ph := .idle } : AT).kont c kk) 3 Q (.tuple #[acz.v, .int .i64 0])) := by
  unfold AtQ
  refine spec_of mixed low_attempt_Attempt_Step (by simp [ir_attempt_Attempt_Step]) ?_
  have hh2 : h.ok c { x with ph := .idle } := ⟨hh.1, hh.2, hh.3, hh.4, hh.5, hh.6, hh.7, hh.8, hh.9⟩
  cases kk with
  | en cd =>
    rcases hE with ⟨ab, cb, hth, rfl⟩ | ⟨rfl, ab, hth, rfl⟩
    · obtain ⟨h', rfl⟩ := AH.th_eq hth
      repeat' ((try (conv => whnf)); first | (refine br_te ?_ ?_; exact rfl) | (refine CallV.mk ⟨ok_e1, ?_⟩) | ((with_reducible show CallT _ _ _ _ _ _); first | ((refine call_to (sp_end1 (ab := ab) (cb := cb) (e := 3) (k := 0) hh2 ho cd ((bk, azP) :: Q)) (by refine sb_ent ?_; (repeat (first | exact sb_refl | exact sb_nil | refine sb_fr ?_ | refine sb_pu rfl ?_ | refine sb_cons ?_ | refine sb_app ?_))) ?_ ?_ (fun s v hv => ?_); (exact rfl); (exact rfl); (obtain ⟨rfl, hs⟩ := hv)))) | (apply ld_o; exact rfl) | (apply ldN_a; exact rfl) | (apply st_o; (exact rfl); exact rfl) | (apply stN_o; (exact rfl); (exact rfl); exact rfl) | (refine new_i (fun bk hbk => ?_)))
      all_goals exact ⟨s, ⟨rfl, hs⟩, (by refine sb_ent ?_; (repeat (first | exact sb_refl | exact sb_nil | refine sb_fr ?_ | refine sb_pu rfl ?_ | refine sb_cons ?_ | refine sb_app ?_)))⟩
    · obtain ⟨h', rfl⟩ := AH.th_eq hth
      repeat' ((try (conv => whnf)); first | (refine br_te ?_ ?_; exact rfl) | (refine CallV.mk ⟨ok_r1, ?_⟩) | ((with_reducible show CallT _ _ _ _ _ _); first | ((refine call_to (sp_read1c (ab := ab) (e := 3) (k := 0) hh2 ho ((bk, azP) :: Q)) (by refine sb_ent ?_; (repeat (first | exact sb_refl | exact sb_nil | refine sb_fr ?_ | refine sb_pu rfl ?_ | refine sb_cons ?_ | refine sb_app ?_))) ?_ ?_ (fun s v hv => ?_); (exact rfl); (exact rfl); (obtain ⟨rfl, hs⟩ := hv)))) | (apply ld_o; exact rfl) | (apply ldN_a; exact rfl) | (apply st_o; (exact rfl); exact rfl) | (apply stN_o; (exact rfl); (exact rfl); exact rfl) | (refine new_i (fun bk hbk => ?_)))
      all_goals exact ⟨s, ⟨rfl, hs⟩, (by refine sb_ent ?_; (repeat (first | exact sb_refl | exact sb_nil | refine sb_fr ?_ | refine sb_pu rfl ?_ | refine sb_cons ?_ | refine sb_app ?_)))⟩
  | tk v =>
    obtain ⟨fb, vb, ab, hth, rfl⟩ := hE
    obtain ⟨h', rfl⟩ := AH.th_eq hth
    repeat' ((try (conv => whnf)); first | (refine br_te ?_ ?_; exact rfl) | (refine CallV.mk ⟨ok_r3, ?_⟩) | ((with_reducible show CallT _ _ _ _ _ _); first | ((refine call_sb (D := [(fb, boxP (fnv 97 [ptr ab]) 143), (vb, boxP (uv v) 33), (ab, abP h'.b)]) (sp_read3c (h := { h' with th := fnv 99 [ptr fb, ptr vb] }) (c := c) (t := t) (x := x) (k := 0) v _) ?_ ?_ ?_ (fun _ v hv => ?_); (exact rfl); (exact rfl); (exact rfl); (subst hv)))) | (apply ld_o; exact rfl) | (apply ldN_a; exact rfl) | (apply st_o; (exact rfl); exact rfl) | (apply stN_o; (exact rfl); (exact rfl); exact rfl) | (refine new_i (fun bk hbk => ?_)))
    all_goals exact ⟨({ h' with th := fnv 99 [ptr fb, ptr vb] }, []), ⟨rfl, rfl, ⟨hh.1, hh.2, hh.3, hh.4, hh.5, hh.6, hh.7, hh.8, hh.9⟩, rfl⟩, (by refine sb_ent ?_; (repeat (first | exact sb_refl | exact sb_nil | refine sb_fr ?_ | refine sb_pu rfl ?_ | refine sb_cons ?_ | refine sb_app ?_)))⟩
  | wr a v =>
    obtain ⟨ab, xb, vb, hth, rfl⟩ := hE
    obtain ⟨h', rfl⟩ := AH.th_eq hth
    repeat' ((try (conv => whnf)); first | (refine br_te ?_ ?_; exact rfl) | (refine CallV.mk ⟨ok_w1, ?_⟩) | ((with_reducible show CallT _ _ _ _ _ _); first | ((refine call_to (sp_write1c (ab := ab) (xb := xb) (vb := vb) (e := 3) hh ho hcw a v (hka a v rfl) ((bk, azP) :: Q)) (by refine sb_ent ?_; (repeat (first | exact sb_refl | exact sb_nil | refine sb_fr ?_ | refine sb_pu rfl ?_ | refine sb_cons ?_ | refine sb_app ?_))) ?_ ?_ (fun s v hv => ?_); (exact rfl); (exact rfl); (obtain ⟨rfl, hs⟩ := hv)))) | (apply ld_o; exact rfl) | (apply ldN_a; exact rfl) | (apply st_o; (exact rfl); exact rfl) | (apply stN_o; (exact rfl); (exact rfl); exact rfl) | (refine new_i (fun bk hbk => ?_)))
    all_goals exact ⟨s, ⟨rfl, hs⟩, (by refine sb_ent ?_; (repeat (first | exact sb_refl | exact sb_nil | refine sb_fr ?_ | refine sb_pu rfl ?_ | refine sb_cons ?_ | refine sb_app ?_)))⟩
end
end Go.Proofs.YtllddgdmmfmpkaaGreatDoor
namespace Go.Proofs.YtllddgdmmfmpkaaGreatDoor
open Go
set_option maxRecDepth 10000
set_option maxHeartbeats 8000000
theorem AH.tn_eq {h : AH} {v : Value} (e : h.tn = v) : ∃ h' : AH, h = { h' with tn := v } := ⟨h, by cases h; cases e; rfl⟩
section
variable {W0 : World} {own Q E : Own} {c : Cfg} {t : Nat} {h : AH} {x : AT} {k w : Int} {b e : Nat} {mh : MH} {m : MS}
theorem sp_sSp (hh : h.ok c x) (hM : mh.ok m.L) (hE : TnO h true x.tk true E) (Q : Own) : Spec Tryz.prog W0 47 [ptr h.b, ptr mh.mb] (h.O c t x 11 3 (E ++ (mh.O m ++ Q)))
    (AtQ W0 c t h.b { x with ph := .ps } 3 (mh.O { m with ck := wrapu (x.ck + 1) } ++ Q) (.tuple #[(acS 3 0 m.ck (wrapu (x.ck + 1))).v, .int .i64 19])) := by
  unfold AtQ
  refine spec_of mixed low_attempt_Attempt_Step (by simp [ir_attempt_Attempt_Step]) ?_
  repeat' ((try (conv => whnf)); first | (refine br_te ?_ ?_; exact rfl) | (refine br_fe ?_ ?_; exact rfl) | (refine arw (k := .u64) ?_) | ((with_reducible show CallT _ _ _ _ _ _); first | ((refine call_st 2 0 (wrapu (x.ck + 1)) { m with ck := wrapu (x.ck + 1) } hM (by decide) rfl rfl ?_ ?_ ?_; (exact rfl); (exact rfl)))) | (apply sel; exact rfl) | (apply ld_o; exact rfl) | (apply ldN_a; exact rfl) | (apply st_o; (exact rfl); exact rfl) | (apply stN_o; (exact rfl); (exact rfl); exact rfl) | (refine new_i (fun bk hbk => ?_)))
  all_goals exact ⟨(h, E), ⟨rfl, rfl, ⟨hh.1, hh.2, hh.3, hh.4, hh.5, hh.6, hh.7, hh.8, hh.9⟩, hE⟩, by show Ent W0 _ (AH.O _ c t _ 12 3 _); exact (by refine sb_ent ?_; (repeat (first | exact sb_refl | exact sb_nil | refine sb_fr ?_ | refine sb_pu rfl ?_ | refine sb_cons ?_ | refine sb_app ?_)))⟩
theorem sp_sPs (hh : h.ok c x) (hM : mh.ok m.L) (hE : TnO h true x.tk true E) (htk : 0 ≤ x.tk ∧ x.tk ≤ 1099511627776) (Q : Own) : Spec Tryz.prog W0 47 [ptr h.b, ptr mh.mb] (h.O c t x 12 3 (E ++ (mh.O m ++ Q)))
    (AtQ W0 c t h.b { x with ph := .lv } 3 (mh.O { m with sv := wrapu (x.tk + 1) } ++ Q) (.tuple #[(acS 5 0 m.sv (wrapu (x.tk + 1))).v, .int .i64 20])) := by
  unfold AtQ
  refine spec_of mixed low_attempt_Attempt_Step (by simp [ir_attempt_Attempt_Step]) ?_
  obtain ⟨tb, htn, rfl⟩ := hE.h
  obtain ⟨h', rfl⟩ := AH.tn_eq htn
  have htc := fun (own' : Own) (m2 : MemC tb (tnP true x.tk true) own') => sp_ticket (W0 := W0) (c := x.tk) (cl_of m2 rfl) (cl_of m2 rfl) htk
  repeat' ((try (conv => whnf)); first | (refine br_te ?_ ?_; exact rfl) | (refine br_fe ?_ ?_; exact rfl) | ((with_reducible show CallT _ _ _ _ _ _); first | ((refine call_pe (htc _ inferInstance) ?_ ?_ ?_; (exact rfl); exact rfl)) | ((refine call_fr (D := mh.O m) (sp_pass hM htk _) ?_ ?_ (fun _ v hv => ?_); (exact rfl); (exact rfl); (subst hv))) | ((refine call_bk (sp_finish (h := { h' with tn := ptr tb }) (c := c) (t := t) (x := x) (k := 12) _) ?_ ?_ ?_ (fun _ v hv => ?_); (exact rfl); (exact rfl); (exact rfl); (subst hv)))) | (apply ld_o; exact rfl) | (apply ldN_a; exact rfl) | (apply stN_o; (exact rfl); (exact rfl); exact rfl) | (refine new_i (fun bk hbk => ?_)))
  all_goals exact ⟨({ h' with tn := ptr tb }, []), ⟨rfl, rfl, ⟨hh.1, hh.2, hh.3, hh.4, hh.5, hh.6, hh.7, hh.8, hh.9⟩, rfl⟩, by show Ent W0 _ (AH.O _ c t _ 14 3 _); exact (by refine sb_ent ?_; (repeat (first | exact sb_refl | exact sb_nil | refine sb_fr ?_ | refine sb_pu rfl ?_ | refine sb_cons ?_ | refine sb_app ?_)))⟩
theorem sp_sLv (hh : h.ok c x) (hM : mh.ok m.L) (hj : m.sl[t]? = some w) (Q : Own) : Spec Tryz.prog W0 47 [ptr h.b, ptr mh.mb] (h.O c t x 14 3 (mh.O m ++ Q))
    (AtQ W0 c t h.b { x with ph := .idle, st := 2 } 3 (mh.O { m with sl := m.sl.set t 0 } ++ Q) (.tuple #[(acS 6 t w 0).v, .int .i64 24])) := by
  unfold AtQ
  refine spec_of mixed low_attempt_Attempt_Step (by simp [ir_attempt_Attempt_Step]) ?_
  repeat' ((try (conv => whnf)); first | (refine br_te ?_ ?_; exact rfl) | (refine br_fe ?_ ?_; exact rfl) | ((with_reducible show CallT _ _ _ _ _ _); first | ((refine call_fr (D := mh.O m) (sp_leave hM hj _) ?_ ?_ (fun _ v hv => ?_); (exact rfl); (exact rfl); (subst hv)))) | (apply ld_o; exact rfl) | (apply ldN_a; exact rfl) | (apply st_o; (exact rfl); exact rfl) | (apply stN_o; (exact rfl); (exact rfl); exact rfl) | (refine new_i (fun bk hbk => ?_)))
  all_goals exact ⟨(h, []), ⟨rfl, rfl, ⟨hh.1, hh.2, hh.3, hh.4, hh.5, hh.6, hh.7, hh.8, hh.9⟩, rfl⟩, by show Ent W0 _ (AH.O _ c t _ 0 3 _); exact (by refine sb_ent ?_; (repeat (first | exact sb_refl | exact sb_nil | refine sb_fr ?_ | refine sb_pu rfl ?_ | refine sb_cons ?_ | refine sb_app ?_)))⟩
end
end Go.Proofs.YtllddgdmmfmpkaaGreatDoor
namespace Go.Proofs.YtllddgdmmfmpkaaGreatDoor
open Go
set_option maxRecDepth 10000
set_option maxHeartbeats 8000000
theorem AH.lk_eq {h : AH} {v : Value} (e : h.lk = v) : ∃ h' : AH, h = { h' with lk := v } := ⟨h, by cases h; cases e; rfl⟩
theorem LkQ.of {t : Nat} {h h' : AH} {x x' : AT} {E : Own} (e1 : x'.oc = x.oc) (e2 : x'.old = x.old) (e3 : h'.lk = h.lk) (hE : LkQ t h x E) : LkQ t h' x' E := by
  unfold LkQ at *
  rw [e1, e2]
  rcases hE with h | ⟨h1, h2, s, ⟨h3⟩⟩
  · exact .inl h
  · exact .inr ⟨h1, h2, s, ⟨by rw [e1, e2, e3]; exact h3⟩⟩
theorem TnO.of {h h' : AH} {b d : Bool} {v : Int} {E : Own} (e : h'.tn = h.tn) (hE : TnO h b v d E) : TnO h' b v d E := ⟨by rw [e]; exact hE.h⟩
section
variable {W0 : World} {own Q E : Own} {c : Cfg} {t : Nat} {h : AH} {x : AT} {k w : Int} {b e : Nat} {mh : MH} {m : MS}
theorem sp_sTn0 {E1 E2 : Own} (hh : h.ok c x) (hM : mh.ok m.L) (hE : TnO h false 0 false E1) (hE2 : LkQ t h x E2) (Q : Own) : Spec Tryz.prog W0 75 [ptr h.b, ptr mh.mb] (h.O c t x 6 3 ((E1 ++ E2) ++ (mh.O m ++ Q)))
    (AtQ W0 c t h.b { x with tk := m.tk, ph := .tn true } 3 (mh.O { m with tk := wrapu (m.tk + 1) } ++ Q) (.tuple #[(acA 4 0 m.tk 1).v, .int .i64 13])) := by
  unfold AtQ
  refine spec_of mixed low_attempt_Attempt_stepTurn (by simp [ir_attempt_Attempt_stepTurn]) ?_
  obtain ⟨tb, htn, rfl⟩ := hE.h
  obtain ⟨h', rfl⟩ := AH.tn_eq htn
  have hdn := fun (own' : Own) (m2 : MemC tb (tnP true m.tk false) own') => sp_tnDone (W0 := W0) (d := false) (cl_of m2 rfl)
  repeat' ((try (conv => whnf)); first | (refine br_te ?_ ?_; exact rfl) | (refine br_fe ?_ ?_; exact rfl) | ((with_reducible show CallT _ _ _ _ _ _); first | ((refine call_pe (hdn _ inferInstance) ?_ ?_ ?_; (exact rfl); exact rfl)) | ((refine call_sb (D := mh.O m) (sp_turn0 (b := tb) hM _) ?_ ?_ ?_ (fun _ v hv => ?_); (exact rfl); (exact rfl); (exact rfl); (subst hv)))) | (apply ld_o; exact rfl) | (apply ldN_a; exact rfl) | (apply stN_o; (exact rfl); (exact rfl); exact rfl) | (refine new_i (fun bk hbk => ?_)))
  all_goals exact ⟨({ h' with tn := ptr tb }, [(tb, tnP true m.tk false)] ++ E2), ⟨rfl, rfl, ⟨hh.1, hh.2, hh.3, hh.4, hh.5, hh.6, hh.7, hh.8, hh.9⟩, ⟨_, E2, ⟨tb, rfl, rfl⟩, by refine LkQ.of ?_ ?_ ?_ hE2 <;> rfl, rfl⟩⟩, by show Ent W0 _ (AH.O _ c t _ 6 3 _); exact (by refine sb_ent ?_; (repeat (first | exact sb_refl | exact sb_nil | refine sb_fr ?_ | refine sb_pu rfl ?_ | refine sb_cons ?_ | refine sb_app ?_)))⟩
theorem sp_sLk0 {o : Nat} (hh : h.ok c x) (hM : mh.ok m.L) {s : Int} (hE : LkO t h x s false E) (ho : x.oc[x.old.length]? = some (o : Int)) (hj : m.o[o]? = some w) (hw : okU w) (Q : Own) : Spec Tryz.prog W0 74 [ptr h.b, ptr mh.mb] (h.O c t x 5 3 (E ++ (mh.O m ++ Q)))
    (AtQ W0 c t h.b { x with ph := .lk w (decide (hldO w < 0)) } 3 (mh.O m ++ Q) (.tuple #[(acL 2 o w).v, .int .i64 11])) := by
  unfold AtQ
  refine spec_of mixed low_attempt_Attempt_stepLock (by simp [ir_attempt_Attempt_stepLock]) ?_
  obtain ⟨kb, la, lc, lD, oa, oc, oD, hlk, hB, hB2, rfl⟩ := hE.h
  obtain ⟨h', rfl⟩ := AH.lk_eq hlk
  have hlt := (List.getElem?_eq_some_iff.1 ho).1
  have hdn := fun (own' : Own) (m2 : MemC kb (lkP t la x.oc.length lc oa x.old.length oc w (decide (hldO w < 0))) own') => sp_lkDone (W0 := W0) (own := own') (cl_of m2 rfl) (cl_of m2 rfl)
  rw [show decide (x.old.length = x.oc.length) = false from decide_eq_false (by omega)] at hdn
  have hst := fun (Q : Own) (eq : EntC Q lD) => sp_lock0 (W0 := W0) (b := kb) (t := t) (c := lc) (c2 := oc) (a2 := oa) (l2 := x.old) (s := s) hM (hB.rd (W0 := W0)) ho hj hw Q
  repeat' ((try (conv => whnf)); first | (refine br_fe ?_ ?_; exact rfl) | ((with_reducible show CallT _ _ _ _ _ _); first | ((refine call_pe (hdn _ inferInstance) ?_ ?_ ?_; (exact rfl); exact rfl)) | ((refine call_sb (D := mh.O m) (hst _ inferInstance) ?_ ?_ ?_ (fun _ v hv => ?_); (exact rfl); (exact rfl); (exact rfl); (subst hv)))) | (apply ld_o; exact rfl) | (apply ldN_a; exact rfl) | (apply stN_o; (exact rfl); (exact rfl); exact rfl) | (refine new_i (fun bk hbk => ?_)))
  all_goals exact ⟨({ h' with lk := ptr kb }, (kb, lkP t la x.oc.length lc oa x.old.length oc w (decide (hldO w < 0))) :: (lD ++ oD)), ⟨rfl, rfl, ⟨hh.1, hh.2, hh.3, hh.4, hh.5, hh.6, hh.7, hh.8, hh.9⟩, ⟨kb, la, lc, lD, oa, oc, oD, rfl, hB, hB2, rfl⟩⟩, by show Ent W0 _ (AH.O _ c t _ 5 3 _); dsimp only; rw [List.cons_append, List.append_assoc]; exact (by refine sb_ent ?_; (repeat (first | exact sb_refl | exact sb_nil | refine sb_fr ?_ | refine sb_pu rfl ?_ | refine sb_cons ?_ | refine sb_app ?_)))⟩
theorem sp_sLk1 {o : Nat} (hh : h.ok c x) (hM : mh.ok m.L) {s : Int} (hE : LkO t h x s true E) (ho : x.oc[x.old.length]? = some (o : Int)) (hj : m.o[o]? = some w) (hs : 0 ≤ s ∧ s + 17 ≤ 18446744073709551615) (ht : t < 16) (Q : Own) : Spec Tryz.prog W0 74 [ptr h.b, ptr mh.mb] (h.O c t x 5 3 (E ++ (mh.O m ++ Q)))
    (AtQ W0 c t h.b (if w = s then { x with old := x.old ++ [s], ph := if x.old.length + 1 = x.oc.length then .tn false else .lk s false } else { x with ph := .lk s false }) 3 (mh.O { m with o := if w = s then m.o.set o (s + t + 1) else m.o } ++ Q) (.tuple #[(acW 2 o w (s + t + 1) (decide (w = s))).v, .int .i64 12])) := by
  unfold AtQ
  refine spec_of mixed low_attempt_Attempt_stepLock (by simp [ir_attempt_Attempt_stepLock]) ?_
  obtain ⟨kb, la, lc, lD, oa, oc, oD, hlk, hB, hB2, rfl⟩ := hE.h
  obtain ⟨h', rfl⟩ := AH.lk_eq hlk
  have hlt := (List.getElem?_eq_some_iff.1 ho).1
  have hlo := hh.lo
  have hne : x.oc ≠ [] := fun h => by rw [h] at hlt; exact Nat.not_lt_zero _ hlt
  have hdn := fun (own' : Own) (n2 c2 : Nat) (a2 : Option Addr) (m2 : MemC kb (lkP t la x.oc.length lc a2 n2 c2 s false) own') => sp_lkDone (W0 := W0) (own := own') (cl_of m2 rfl) (cl_of m2 rfl)
  have hst := fun (Q : Own) (eq : EntC Q lD) => sp_lock1 (W0 := W0) (b := kb) (t := t) (c := lc) (c2 := oc) (a2 := oa) (l2 := x.old) (s := s) hM (hB.rd (W0 := W0)) hB2 ho hj hs ht (by omega) Q
  by_cases he : w = s
  · simp only [if_pos he] at hst ⊢
    by_cases hl : x.old.length + 1 = x.oc.length
    · simp only [if_pos hl]
      have hd2 : decide ((x.old ++ [s]).length = x.oc.length) = true := decide_eq_true (by rw [List.length_append]; exact hl)
      have hdn2 := fun (own' : Own) (c2 : Nat) (a2 : Option Addr) (m2 : MemC kb (lkP t la x.oc.length lc a2 (x.old ++ [s]).length c2 s false) own') => hdn own' _ c2 a2 m2
      simp only [hd2] at hdn2
      repeat' ((try (conv => whnf)); first | (refine br_te ?_ ?_; exact rfl) | ((with_reducible show CallT _ _ _ _ _ _); first | ((refine call_pe (hdn2 _ _ _ inferInstance) ?_ ?_ ?_; (exact rfl); exact rfl)) | ((refine call_to (hst ((bk, azP) :: AH.O { h' with lk := ptr kb } c t x 5 3 (lD ++ Q)) inferInstance) (by refine sb_ent ?_; (repeat (first | exact sb_refl | exact sb_nil | refine sb_fr ?_ | refine sb_pu rfl ?_ | refine sb_cons ?_ | refine sb_app ?_))) ?_ ?_ (fun y v hv => ?_); (exact rfl); (exact rfl); (obtain ⟨a3, c3, D3⟩ := y; obtain ⟨rfl, hB3⟩ := hv; dsimp only at hB3))) | ((refine call_x (sp_newTurn _) ?_ ?_ (fun tb v hv => ?_); (exact rfl); (exact rfl); (subst hv)))) | (apply ld_o; exact rfl) | (apply ldN_a; exact rfl) | (apply st_o; (exact rfl); exact rfl) | (apply stN_o; (exact rfl); (exact rfl); exact rfl) | (refine new_i (fun bk hbk => ?_)))
      all_goals exact ⟨({ h' with lk := ptr kb, tn := ptr tb }, [(tb, tnP false 0 false)] ++ ((kb, lkP t la x.oc.length lc a3 (x.old ++ [s]).length c3 s false) :: (lD ++ D3))), ⟨rfl, rfl, ⟨hh.1, hh.2, hh.3, hh.4, hh.5, hh.6, hh.7, hh.8, hh.9⟩, ⟨_, _, ⟨tb, rfl, rfl⟩, (.inr ⟨hne, by rw [List.length_append]; exact hl, s, ⟨kb, la, lc, lD, a3, c3, D3, rfl, hB, hB3, rfl⟩⟩), rfl⟩⟩, by show Ent W0 _ (AH.O _ c t _ 6 3 _); simp only [List.append_assoc, List.cons_append, List.nil_append]; exact (by refine sb_ent ?_; (repeat (first | exact sb_refl | exact sb_nil | refine sb_fr ?_ | refine sb_pu rfl ?_ | refine sb_cons ?_ | refine sb_app ?_)))⟩
    · simp only [if_neg hl]
      have hd2 : decide ((x.old ++ [s]).length = x.oc.length) = false := decide_eq_false (by rw [List.length_append]; exact hl)
      have hdn2 := fun (own' : Own) (c2 : Nat) (a2 : Option Addr) (m2 : MemC kb (lkP t la x.oc.length lc a2 (x.old ++ [s]).length c2 s false) own') => hdn own' _ c2 a2 m2
      simp only [hd2] at hdn2
      repeat' ((try (conv => whnf)); first | (refine br_te ?_ ?_; exact rfl) | (refine br_fe ?_ ?_; exact rfl) | ((with_reducible show CallT _ _ _ _ _ _); first | ((refine call_pe (hdn2 _ _ _ inferInstance) ?_ ?_ ?_; (exact rfl); exact rfl)) | ((refine call_to (hst ((bk, azP) :: AH.O { h' with lk := ptr kb } c t x 5 3 (lD ++ Q)) inferInstance) (by refine sb_ent ?_; (repeat (first | exact sb_refl | exact sb_nil | refine sb_fr ?_ | refine sb_pu rfl ?_ | refine sb_cons ?_ | refine sb_app ?_))) ?_ ?_ (fun y v hv => ?_); (exact rfl); (exact rfl); (obtain ⟨a3, c3, D3⟩ := y; obtain ⟨rfl, hB3⟩ := hv; dsimp only at hB3)))) | (apply ld_o; exact rfl) | (apply ldN_a; exact rfl) | (apply stN_o; (exact rfl); (exact rfl); exact rfl) | (refine new_i (fun bk hbk => ?_)))
      all_goals exact ⟨({ h' with lk := ptr kb }, ((kb, lkP t la x.oc.length lc a3 (x.old ++ [s]).length c3 s false) :: (lD ++ D3))), ⟨rfl, rfl, ⟨hh.1, hh.2, hh.3, hh.4, hh.5, hh.6, hh.7, hh.8, hh.9⟩, ⟨kb, la, lc, lD, a3, c3, D3, rfl, hB, hB3, rfl⟩⟩, by show Ent W0 _ (AH.O _ c t _ 5 3 _); simp only [List.append_assoc, List.cons_append]; exact (by refine sb_ent ?_; (repeat (first | exact sb_refl | exact sb_nil | refine sb_fr ?_ | refine sb_pu rfl ?_ | refine sb_cons ?_ | refine sb_app ?_)))⟩
  · simp only [if_neg he] at hst ⊢
    have hd2 : decide (x.old.length = x.oc.length) = false := decide_eq_false (by omega)
    have hdn2 := fun (own' : Own) (c2 : Nat) (a2 : Option Addr) (m2 : MemC kb (lkP t la x.oc.length lc a2 x.old.length c2 s false) own') => hdn own' _ c2 a2 m2
    simp only [hd2] at hdn2
    repeat' ((try (conv => whnf)); first | (refine br_te ?_ ?_; exact rfl) | (refine br_fe ?_ ?_; exact rfl) | ((with_reducible show CallT _ _ _ _ _ _); first | ((refine call_pe (hdn2 _ _ _ inferInstance) ?_ ?_ ?_; (exact rfl); exact rfl)) | ((refine call_to (hst ((bk, azP) :: AH.O { h' with lk := ptr kb } c t x 5 3 (lD ++ Q)) inferInstance) (by refine sb_ent ?_; (repeat (first | exact sb_refl | exact sb_nil | refine sb_fr ?_ | refine sb_pu rfl ?_ | refine sb_cons ?_ | refine sb_app ?_))) ?_ ?_ (fun y v hv => ?_); (exact rfl); (exact rfl); (obtain ⟨a3, c3, D3⟩ := y; obtain ⟨rfl, hB3⟩ := hv; dsimp only at hB3)))) | (apply ld_o; exact rfl) | (apply ldN_a; exact rfl) | (apply stN_o; (exact rfl); (exact rfl); exact rfl) | (refine new_i (fun bk hbk => ?_)))
    all_goals exact ⟨({ h' with lk := ptr kb }, ((kb, lkP t la x.oc.length lc a3 x.old.length c3 s false) :: (lD ++ D3))), ⟨rfl, rfl, ⟨hh.1, hh.2, hh.3, hh.4, hh.5, hh.6, hh.7, hh.8, hh.9⟩, ⟨kb, la, lc, lD, a3, c3, D3, rfl, hB, hB3, rfl⟩⟩, by show Ent W0 _ (AH.O _ c t _ 5 3 _); simp only [List.append_assoc, List.cons_append]; exact (by refine sb_ent ?_; (repeat (first | exact sb_refl | exact sb_nil | refine sb_fr ?_ | refine sb_pu rfl ?_ | refine sb_cons ?_ | refine sb_app ?_)))⟩
end
end Go.Proofs.YtllddgdmmfmpkaaGreatDoor
namespace Go.Proofs.YtllddgdmmfmpkaaGreatDoor
open Go
set_option maxRecDepth 10000
set_option maxHeartbeats 8000000
section
variable {W0 : World} {own Q E : Own} {c : Cfg} {t : Nat} {h : AH} {x : AT} {k w : Int} {b e : Nat} {mh : MH} {m : MS}
theorem sp_sTn1 {E1 E2 : Own} (hh : h.ok c x) (hM : mh.ok m.L) (hE : TnO h true x.tk false E1) (hE2 : LkQ t h x E2) (Q : Own) : Spec Tryz.prog W0 75 [ptr h.b, ptr mh.mb] (h.O c t x 6 3 ((E1 ++ E2) ++ (mh.O m ++ Q)))
    (AtQ W0 c t h.b (if m.sv = x.tk then (if x.set = [] then { x with ph := .dc } else { x with ph := .ck x.set }) else { x with ph := .tn true }) 3 (mh.O m ++ Q) (.tuple #[(acL 5 0 m.sv).v, .int .i64 14])) := by
  unfold AtQ
  refine spec_of mixed low_attempt_Attempt_stepTurn (by simp [ir_attempt_Attempt_stepTurn]) ?_
  obtain ⟨tb, htn, rfl⟩ := hE.h
  obtain ⟨h', rfl⟩ := AH.tn_eq htn
  have hst := fun Q => sp_turn1 (W0 := W0) (b := tb) (c := x.tk) hM Q
  by_cases he : m.sv = x.tk
  · simp only [if_pos he, decide_eq_true he] at hst ⊢
    have hdn := fun (own' : Own) (m2 : MemC tb (tnP true x.tk true) own') => sp_tnDone (W0 := W0) (d := true) (cl_of m2 rfl)
    have hls := hh.ls
    have hli := fun (own' : Own) (m2 : MemC h'.sb (stP c.reads h'.sa x.set.length h'.sc) own') (m3 : EntC own' h'.sD) => sp_setList (W0 := W0) (own := own') (cl_of m2 rfl) ((hh.hs.rd (W0 := W0)).up) (by omega)
    have hsn := fun (own' : Own) (m1 : MemC h'.b (atP c t { h' with tn := ptr tb } x 6) own') (m2 : MemC h'.eb (enP t 3 x.rv) own') => sp_asnap (W0 := W0) (cl_of m1 rfl) (cl_of m2 rfl) (cl_of m2 rfl) hh.rv (by decide)
    have hnc := fun (own' D : Own) (sa : Option Addr) (sc : Nat) (hB : BufE encI 3 1 sa sc x.set D) (m : EntC own' D) => sp_newCheck (W0 := W0) (own := own') (c := sc) ((hB.rd (W0 := W0)).up) (by omega) x.rv
    have hcd := fun (cb cc : Nat) (ca : Option Addr) (own' : Own) (m2 : MemC cb (ckP ca x.set.length cc x.rv false) own') => sp_ckDone (W0 := W0) (own := own') (cl_of m2 rfl) (cl_of m2 rfl)
    by_cases hs : x.set = []
    · simp only [if_pos hs]
      have hz : (false || decide (x.set.length = 0)) = true := by rw [hs]; rfl
      simp only [hz] at hcd
      repeat' ((try (conv => whnf)); first | (refine br_te ?_ ?_; exact rfl) | (refine br_fe ?_ ?_; exact rfl) | ((with_reducible show CallT _ _ _ _ _ _); first | ((refine call_pe (hdn _ inferInstance) ?_ ?_ ?_; (exact rfl); exact rfl)) | ((refine call_pe (hsn _ inferInstance inferInstance) ?_ ?_ ?_; (exact rfl); exact rfl)) | ((refine call_pe (hcz _ inferInstance) ?_ ?_ ?_; (exact rfl); exact rfl)) | ((refine call_sb (D := mh.O m) (hst _) ?_ ?_ ?_ (fun _ v hv => ?_); (exact rfl); (exact rfl); (exact rfl); (subst hv))) | ((refine call_x (hli _ inferInstance inferInstance) ?_ ?_ (fun y v hv => ?_); (exact rfl); (exact rfl); (obtain ⟨a1, c1, D1⟩ := y; obtain ⟨rfl, hB1⟩ := hv; dsimp only at hB1))) | ((refine call_x (hnc _ _ _ _ hB1 inferInstance) ?_ ?_ (fun y v hv => ?_); (exact rfl); (exact rfl); (obtain ⟨cb, a2, c2, D2⟩ := y; obtain ⟨rfl, hB2⟩ := hv; dsimp only at hB2; have hcz := hcd cb c2 a2)))) | (apply ld_o; exact rfl) | (apply ldN_a; exact rfl) | (apply st_o; (exact rfl); exact rfl) | (apply stN_o; (exact rfl); (exact rfl); exact rfl) | (refine new_i (fun bk hbk => ?_)))
      all_goals exact ⟨({ h' with tn := ptr tb, ck := ptr cb }, [(tb, tnP true x.tk true)] ++ E2), ⟨rfl, rfl, ⟨hh.1, hh.2, hh.3, hh.4, hh.5, hh.6, hh.7, hh.8, hh.9⟩, ⟨_, E2, ⟨tb, rfl, rfl⟩, by refine LkQ.of ?_ ?_ ?_ hE2 <;> rfl, rfl⟩⟩, by show Ent W0 _ (AH.O _ c t _ 8 3 _); exact (by refine sb_ent ?_; (repeat (first | exact sb_refl | exact sb_nil | refine sb_fr ?_ | refine sb_pu rfl ?_ | refine sb_cons ?_ | refine sb_app ?_)))⟩
    · simp only [if_neg hs]
      have hz : (false || decide (x.set.length = 0)) = false := by rw [Bool.false_or]; exact decide_eq_false fun e => hs (List.length_eq_zero_iff.1 e)
      simp only [hz] at hcd
      repeat' ((try (conv => whnf)); first | (refine br_te ?_ ?_; exact rfl) | (refine br_fe ?_ ?_; exact rfl) | ((with_reducible show CallT _ _ _ _ _ _); first | ((refine call_pe (hdn _ inferInstance) ?_ ?_ ?_; (exact rfl); exact rfl)) | ((refine call_pe (hsn _ inferInstance inferInstance) ?_ ?_ ?_; (exact rfl); exact rfl)) | ((refine call_pe (hcz _ inferInstance) ?_ ?_ ?_; (exact rfl); exact rfl)) | ((refine call_sb (D := mh.O m) (hst _) ?_ ?_ ?_ (fun _ v hv => ?_); (exact rfl); (exact rfl); (exact rfl); (subst hv))) | ((refine call_x (hli _ inferInstance inferInstance) ?_ ?_ (fun y v hv => ?_); (exact rfl); (exact rfl); (obtain ⟨a1, c1, D1⟩ := y; obtain ⟨rfl, hB1⟩ := hv; dsimp only at hB1))) | ((refine call_x (hnc _ _ _ _ hB1 inferInstance) ?_ ?_ (fun y v hv => ?_); (exact rfl); (exact rfl); (obtain ⟨cb, a2, c2, D2⟩ := y; obtain ⟨rfl, hB2⟩ := hv; dsimp only at hB2; have hcz := hcd cb c2 a2)))) | (apply ld_o; exact rfl) | (apply ldN_a; exact rfl) | (apply st_o; (exact rfl); exact rfl) | (apply stN_o; (exact rfl); (exact rfl); exact rfl) | (refine new_i (fun bk hbk => ?_)))
      all_goals exact ⟨({ h' with tn := ptr tb, ck := ptr cb }, (cb, ckP a2 x.set.length c2 x.rv false) :: (D2 ++ ([(tb, tnP true x.tk true)] ++ E2))), ⟨rfl, rfl, ⟨hh.1, hh.2, hh.3, hh.4, hh.5, hh.6, hh.7, hh.8, hh.9⟩, ⟨_, E2, cb, a2, c2, D2, ⟨tb, rfl, rfl⟩, by refine LkQ.of ?_ ?_ ?_ hE2 <;> rfl, rfl, ⟨hB2.rd, hB2.le⟩, rfl⟩⟩, by show Ent W0 _ (AH.O _ c t _ 7 3 _); simp only [List.append_assoc, List.cons_append, List.nil_append]; exact (by refine sb_ent ?_; (repeat (first | exact sb_refl | exact sb_nil | refine sb_fr ?_ | refine sb_pu rfl ?_ | refine sb_cons ?_ | refine sb_app ?_)))⟩
  · simp only [if_neg he, decide_eq_false he] at hst ⊢
    have hdn := fun (own' : Own) (m2 : MemC tb (tnP true x.tk false) own') => sp_tnDone (W0 := W0) (d := false) (cl_of m2 rfl)
    repeat' ((try (conv => whnf)); first | (refine br_fe ?_ ?_; exact rfl) | ((with_reducible show CallT _ _ _ _ _ _); first | ((refine call_pe (hdn _ inferInstance) ?_ ?_ ?_; (exact rfl); exact rfl)) | ((refine call_sb (D := mh.O m) (hst _) ?_ ?_ ?_ (fun _ v hv => ?_); (exact rfl); (exact rfl); (exact rfl); (subst hv)))) | (apply ld_o; exact rfl) | (apply ldN_a; exact rfl) | (apply stN_o; (exact rfl); (exact rfl); exact rfl) | (refine new_i (fun bk hbk => ?_)))
    all_goals exact ⟨({ h' with tn := ptr tb }, [(tb, tnP true x.tk false)] ++ E2), ⟨rfl, rfl, ⟨hh.1, hh.2, hh.3, hh.4, hh.5, hh.6, hh.7, hh.8, hh.9⟩, ⟨_, E2, ⟨tb, rfl, rfl⟩, by refine LkQ.of ?_ ?_ ?_ hE2 <;> rfl, rfl⟩⟩, by show Ent W0 _ (AH.O _ c t _ 6 3 _); exact (by refine sb_ent ?_; (repeat (first | exact sb_refl | exact sb_nil | refine sb_fr ?_ | refine sb_pu rfl ?_ | refine sb_cons ?_ | refine sb_app ?_)))⟩
end
end Go.Proofs.YtllddgdmmfmpkaaGreatDoor
namespace Go.Proofs.YtllddgdmmfmpkaaGreatDoor
open Go
set_option maxRecDepth 10000
set_option maxHeartbeats 8000000
class FrameB (D own : Own) (r : outParam Own) : Prop where
  h : own.Perm (D ++ r)
instance FrameB.nil {own : Own} : FrameB [] own own := ⟨List.Perm.refl _⟩
instance FrameB.cons {D own r r1 : Own} {b : Nat} {p : Obj → Prop} [m : PullC b p own r1] [k : FrameB D r1 r] : FrameB ((b, p) :: D) own r := ⟨m.h.trans (k.h.cons _)⟩
instance FrameB.app {A D own r r1 : Own} [m : FrameC A own r1] [k : FrameB D r1 r] : FrameB (A ++ D) own r := ⟨m.h.trans (by rw [List.append_assoc]; exact k.h.append_left A)⟩
section
variable {P : Program} {W0 : World} {own D r r1 : Own} {f f0 : FuncId} {args args0 : List Value} {b : Nat} {p p' : Obj → Prop}
theorem call_sB {σ : Type} {R : σ → Value → Prop} {O : σ → Own → Own} {own0 : Own → Own} {K : Value → Own → Prop} [m1 : PullC b p own r1] [m2 : FrameB D r1 r] (h : ∀ Q, Spec P W0 f0 args0 (own0 Q) fun v own' => ∃ s, R s v ∧ Ent W0 own' (O s Q)) (hD : ∀ Q, Ent W0 ((b, p') :: (D ++ Q)) (own0 Q))
    (ep : p = p') (ek : f = f0) (ea : args = args0) (hk : ∀ s v, R s v → K v (O s r)) : CallT P W0 own f args K := by
  subst ek; subst ea; subst ep
  exact ⟨fun w hw => (h r w (hD r w (Ent.of_perm (m1.h.trans (m2.h.cons _)) w hw))).mono fun _ _ ⟨_, _, he, hs, s, hR, hE⟩ => ⟨_, O s r, he, hE _ hs, hk s _ hR⟩⟩
end
theorem AH.ck_eq {h : AH} {v u : Value} (e : h.ck = v) (e2 : h.tn = u) : ∃ h' : AH, h = { h' with ck := v, tn := u } := ⟨h, by cases h; cases e; cases e2; rfl⟩
section
variable {W0 : World} {own Q E : Own} {c : Cfg} {t : Nat} {h : AH} {x : AT} {k w : Int} {b e : Nat} {mh : MH} {m : MS}
theorem sp_arest {E1 E2 : Own} (hh : h.ok c x) (hE : TnO h true x.tk true E1) (hE2 : LkQ t h x E2) (Q : Own) : Spec Tryz.prog W0 147 [ptr h.b] (h.O c t x k 3 ((E1 ++ E2) ++ Q))
    (AtQ W0 c t h.b x.rest 3 Q (.tuple #[])) := by
  unfold AtQ AT.rest
  refine spec_of mixed low_attempt_Attempt_restore (by simp [ir_attempt_Attempt_restore]) ?_
  rcases hE2 with ⟨h1, rfl⟩ | ⟨h1, h2, s, ⟨kb, la, lc, lD, oa, oc, oD, hlk, hB, hB2, rfl⟩⟩
  · simp only [if_pos h1]
    have hz : x.oc.length = 0 := by rw [h1]; rfl
    have hz2 : (x.oc.length : Int) = 0 := by omega
    repeat' ((try (conv => whnf)); first | (apply br_pyE; (exact rfl); omega) | (apply ld_o; exact rfl) | (apply st_o; (exact rfl); exact rfl))
    all_goals exact ⟨(h, E1), ⟨rfl, rfl, ⟨hh.1, hh.2, hh.3, hh.4, hh.5, hh.6, hh.7, hh.8, hh.9⟩, hE⟩, by show Ent W0 _ (AH.O _ c t _ 12 3 _); exact (by refine sb_ent ?_; (repeat (first | exact sb_refl | exact sb_nil | refine sb_fr ?_ | refine sb_pu rfl ?_ | refine sb_cons ?_ | refine sb_app ?_)))⟩
  · simp only [if_neg h1]
    obtain ⟨h', rfl⟩ := AH.lk_eq hlk
    have hz0 : x.oc.length ≠ 0 := fun e => h1 (List.length_eq_zero_iff.1 e)
    have hz : ¬ (x.oc.length : Int) = 0 := by omega
    have hlo := hh.lo
    have hol := fun (own' : Own) (m2 : MemC kb (lkP t la x.oc.length lc oa x.old.length oc s false) own') (m3 : EntC own' oD) => sp_lkOld (W0 := W0) (own := own') (cl_of m2 rfl) ((hB2.rd (W0 := W0)).up) (by omega)
    have hnr := fun (D : Own) (a : Option Addr) (cc : Nat) (hB3 : BufE encU 33 1 a cc x.old D) (own' : Own) (m : EntC own' h'.oD) (m3 : EntC own' D) => sp_newRel (W0 := W0) (own := own') (c := h'.oc) (c2 := cc) ((hh.ho.rd (W0 := W0)).up) ((hB3.rd (W0 := W0)).up) (by omega) h2 hh.ho.le hB3.le
    repeat' ((try (conv => whnf)); first | (apply br_pnE; (exact rfl); omega) | ((with_reducible show CallT _ _ _ _ _ _); first | ((refine call_x (hol _ inferInstance inferInstance) ?_ ?_ (fun y v hv => ?_); (exact rfl); (exact rfl); (obtain ⟨a3, c3, D3⟩ := y; obtain ⟨rfl, hB3⟩ := hv; dsimp only at hB3; have hnz := hnr D3 a3 c3 hB3))) | ((refine call_x (hnz _ inferInstance inferInstance) ?_ ?_ (fun y v hv => ?_); (exact rfl); (exact rfl); (obtain ⟨rb, ⟨a4, c4, D4⟩, ⟨a5, c5, D5⟩⟩ := y; obtain ⟨rfl, hB4, hB5⟩ := hv; dsimp only at hB4 hB5)))) | (apply ld_o; exact rfl) | (apply st_o; (exact rfl); exact rfl) | (refine Both.mk ?_ ?_))
    all_goals exact ⟨({ h' with lk := ptr kb, rl := ptr rb }, (rb, rlP a4 x.oc.length c4 a5 x.old.length c5) :: (D4 ++ (D5 ++ E1))), ⟨rfl, rfl, ⟨hh.1, hh.2, hh.3, hh.4, hh.5, hh.6, hh.7, hh.8, hh.9⟩, ⟨E1, rb, a4, c4, D4, a5, c5, D5, by refine TnO.of ?_ hE; rfl, rfl, ⟨hB4.rd, hB4.le⟩, ⟨hB5.rd, hB5.le⟩, rfl⟩⟩, by show Ent W0 _ (AH.O _ c t _ 10 3 _); simp only [List.append_assoc, List.cons_append]; exact (by refine sb_ent ?_; (repeat (first | exact sb_refl | exact sb_nil | refine sb_fr ?_ | refine sb_pu rfl ?_ | refine sb_cons ?_ | refine sb_app ?_)))⟩
theorem sp_sCk {E1 E2 : Own} {cb cc o : Nat} {ca : Option Addr} {cD : Own} {l : List Int} (hh : h.ok c x) (hM : mh.ok m.L) (hE : TnO h true x.tk true E1) (hE2 : LkQ t h x E2) (hck : h.ck = ptr cb) (hL : RdE encI 1 W0 cD ca ((o : Int) :: l)) (hcc : l.length + 1 ≤ cc) (hj : m.o[o]? = some w) (hw : okU w) (Q : Own) :
    Spec Tryz.prog W0 76 [ptr h.b, ptr mh.mb] (h.O c t x 7 3 ((cb, ckP ca (l.length + 1) cc x.rv false) :: (cD ++ ((E1 ++ E2) ++ (mh.O m ++ Q)))))
    (AtQ W0 c t h.b (if verO w > x.rv then { x with code := 9 }.rest else if l = [] then { x with ph := .dc } else { x with ph := .ck l }) 3 (mh.O m ++ Q) (.tuple #[(acL 2 o w).v, .int .i64 15])) := by
  unfold AtQ
  refine spec_of mixed low_attempt_Attempt_stepCheck (by simp [ir_attempt_Attempt_stepCheck]) ?_
  obtain ⟨tb, htn, rfl⟩ := hE.h
  obtain ⟨h', rfl⟩ := AH.ck_eq hck htn
  have hst := fun (Q : Own) (eq : EntC Q cD) => sp_ckStep (W0 := W0) (b := cb) (c := cc) (rv := x.rv) hM hL hj hw Q
  have hfl := fun (own' : Own) (f : Bool) (m2 : MemC cb (ckP (slA ca cc 1 1) l.length (cc - 1) x.rv f) own') => sp_ckFail (W0 := W0) (own := own') (cl_of m2 rfl)
  have hdn := fun (own' : Own) (m2 : MemC cb (ckP (slA ca cc 1 1) l.length (cc - 1) x.rv false) own') => sp_ckDone (W0 := W0) (own := own') (cl_of m2 rfl) (cl_of m2 rfl)
  by_cases hv : verO w > x.rv
  · simp only [if_pos hv, decide_eq_true hv] at hst ⊢
    have hrs := fun Q => sp_arest (W0 := W0) (t := t) (k := 7) (c := c) (x := { x with code := 9 }) (h := { h' with ck := ptr cb, tn := ptr tb }) (E1 := [(tb, tnP true x.tk true)]) (E2 := E2) ⟨hh.1, hh.2, hh.3, hh.4, hh.5, hh.6, hh.7, hh.8, hh.9⟩ ⟨tb, rfl, rfl⟩ (by refine LkQ.of ?_ ?_ ?_ hE2 <;> rfl) Q
    repeat' ((try (conv => whnf)); first | (refine br_te ?_ ?_; exact rfl) | ((with_reducible show CallT _ _ _ _ _ _); first | ((refine call_pe (hfl _ _ inferInstance) ?_ ?_ ?_; (exact rfl); exact rfl)) | ((refine call_sb (D := mh.O m) (hst _ inferInstance) ?_ ?_ ?_ (fun _ v hv => ?_); (exact rfl); (exact rfl); (exact rfl); (subst hv))) | ((refine call_sB (b := h'.b) (D := AH.R { h' with ck := ptr cb, tn := ptr tb } c t x 3 ([(tb, tnP true x.tk true)] ++ (E2 ++ []))) hrs (fun Q => by simp only [List.append_assoc]; exact (by refine sb_ent ?_; (repeat (first | exact sb_refl | exact sb_nil | refine sb_fr ?_ | refine sb_pu rfl ?_ | refine sb_cons ?_ | refine sb_app ?_)))) ?_ ?_ ?_ (fun s v hv => ?_); (exact rfl); (exact rfl); (exact rfl); (obtain ⟨rfl, hs⟩ := hv)))) | (apply ld_o; exact rfl) | (apply ldN_a; exact rfl) | (apply st_o; (exact rfl); exact rfl) | (apply stN_o; (exact rfl); (exact rfl); exact rfl) | (refine new_i (fun bk hbk => ?_)))
    all_goals exact ⟨s, ⟨rfl, hs⟩, (by refine sb_ent ?_; (repeat (first | exact sb_refl | exact sb_nil | refine sb_fr ?_ | refine sb_pu rfl ?_ | refine sb_cons ?_ | refine sb_app ?_)))⟩
  · simp only [if_neg hv, decide_eq_false hv] at hst ⊢
    by_cases hl : l = []
    · simp only [if_pos hl]
      have hz : (false || decide (l.length = 0)) = true := by rw [hl]; rfl
      simp only [hz] at hdn
      repeat' ((try (conv => whnf)); first | (refine br_te ?_ ?_; exact rfl) | (refine br_fe ?_ ?_; exact rfl) | ((with_reducible show CallT _ _ _ _ _ _); first | ((refine call_pe (hfl _ _ inferInstance) ?_ ?_ ?_; (exact rfl); exact rfl)) | ((refine call_pe (hdn _ inferInstance) ?_ ?_ ?_; (exact rfl); exact rfl)) | ((refine call_sb (D := mh.O m) (hst _ inferInstance) ?_ ?_ ?_ (fun _ v hv => ?_); (exact rfl); (exact rfl); (exact rfl); (subst hv)))) | (apply ld_o; exact rfl) | (apply ldN_a; exact rfl) | (apply st_o; (exact rfl); exact rfl) | (apply stN_o; (exact rfl); (exact rfl); exact rfl) | (refine new_i (fun bk hbk => ?_)))
      all_goals exact ⟨({ h' with ck := ptr cb, tn := ptr tb }, [(tb, tnP true x.tk true)] ++ E2), ⟨rfl, rfl, ⟨hh.1, hh.2, hh.3, hh.4, hh.5, hh.6, hh.7, hh.8, hh.9⟩, ⟨_, E2, ⟨tb, rfl, rfl⟩, by refine LkQ.of ?_ ?_ ?_ hE2 <;> rfl, rfl⟩⟩, by show Ent W0 _ (AH.O _ c t _ 8 3 _); exact (by refine sb_ent ?_; (repeat (first | exact sb_refl | exact sb_nil | refine sb_fr ?_ | refine sb_pu rfl ?_ | refine sb_cons ?_ | refine sb_app ?_)))⟩
    · simp only [if_neg hl]
      have hz : (false || decide (l.length = 0)) = false := by rw [Bool.false_or]; exact decide_eq_false fun e => hl (List.length_eq_zero_iff.1 e)
      simp only [hz] at hdn
      repeat' ((try (conv => whnf)); first | (refine br_fe ?_ ?_; exact rfl) | ((with_reducible show CallT _ _ _ _ _ _); first | ((refine call_pe (hfl _ _ inferInstance) ?_ ?_ ?_; (exact rfl); exact rfl)) | ((refine call_pe (hdn _ inferInstance) ?_ ?_ ?_; (exact rfl); exact rfl)) | ((refine call_sb (D := mh.O m) (hst _ inferInstance) ?_ ?_ ?_ (fun _ v hv => ?_); (exact rfl); (exact rfl); (exact rfl); (subst hv)))) | (apply ld_o; exact rfl) | (apply ldN_a; exact rfl) | (apply stN_o; (exact rfl); (exact rfl); exact rfl) | (refine new_i (fun bk hbk => ?_)))
      all_goals exact ⟨({ h' with ck := ptr cb, tn := ptr tb }, (cb, ckP (slA ca cc 1 1) l.length (cc - 1) x.rv false) :: (cD ++ ([(tb, tnP true x.tk true)] ++ E2))), ⟨rfl, rfl, ⟨hh.1, hh.2, hh.3, hh.4, hh.5, hh.6, hh.7, hh.8, hh.9⟩, ⟨_, E2, cb, _, _, cD, ⟨tb, rfl, rfl⟩, by refine LkQ.of ?_ ?_ ?_ hE2 <;> rfl, rfl, ⟨RdE.tl hL hcc, by omega⟩, rfl⟩⟩, by show Ent W0 _ (AH.O _ c t _ 7 3 _); simp only [List.append_assoc, List.cons_append, List.nil_append]; exact (by refine sb_ent ?_; (repeat (first | exact sb_refl | exact sb_nil | refine sb_fr ?_ | refine sb_pu rfl ?_ | refine sb_cons ?_ | refine sb_app ?_)))⟩
end
end Go.Proofs.YtllddgdmmfmpkaaGreatDoor
namespace Go.Proofs.YtllddgdmmfmpkaaGreatDoor
open Go
set_option maxRecDepth 10000
set_option maxHeartbeats 8000000
theorem AH.rl_eq {h : AH} {v u : Value} (e : h.rl = v) (e2 : h.tn = u) : ∃ h' : AH, h = { h' with rl := v, tn := u } := ⟨h, by cases h; cases e; cases e2; rfl⟩
section
variable {W0 : World} {own Q E : Own} {c : Cfg} {t : Nat} {h : AH} {x : AT} {k w : Int} {b e : Nat} {mh : MH} {m : MS}
theorem sp_aversion {d : Bool} {ck : Int} {b2 n c2 : Nat} {a2 : Option Addr} (h38 : Cl W0 own b 38 (.bool d)) (h37 : Cl W0 own b 37 (uv ck)) (hck : 0 ≤ ck ∧ ck ≤ 1099511627776) (h30 : Cl W0 own b 30 (.int .i64 k)) (h1 : Cl W0 own b 1 (ptr b2)) (hl : Cl W0 own b2 1 (.slice a2 n c2)) :
    Pure Tryz.prog W0 154 [ptr b] own (.int .i64 (if d = true ∧ k = 1 ∧ n ≠ 0 then ck + 1 else -1)) := by
  refine pure_of (spec_of mixed low_attempt_Attempt_Version (by simp [ir_attempt_Attempt_Version]) ?_)
  have hs := sp_stores h30 h1 hl
  cases d with
  | false =>
    rw [if_neg (by simp)]
    repeat' ((try (conv => whnf)); first | (refine when_ne ?_ ?_; exact rfl) | (refine br_te ?_ ?_; exact rfl) | (refine ldK1 h38 ?_))
    all_goals exact ⟨rfl, (by first | exact ent_i | (repeat (first | exact Ent.refl | exact Ent.left | refine Ent.cons ?_ | refine Ent.app ?_)))⟩
  | true =>
    by_cases hk : k = 1 ∧ n ≠ 0
    · rw [decide_eq_true hk] at hs
      rw [if_pos ⟨rfl, hk⟩]
      repeat' ((try (conv => whnf)); first | (refine when_ye ?_ ?_; exact rfl) | (refine br_fe ?_ ?_; exact rfl) | (refine ldK1 h38 ?_) | (refine ldK1 h37 ?_) | ((with_reducible show CallT _ _ _ _ _ _); first | ((refine call_pe (hs) ?_ ?_ ?_; (exact rfl); exact rfl))) | (refine ari ?_ ?_; omega))
      all_goals exact ⟨rfl, (by first | exact ent_i | (repeat (first | exact Ent.refl | exact Ent.left | refine Ent.cons ?_ | refine Ent.app ?_)))⟩
    · rw [decide_eq_false hk] at hs
      rw [if_neg (fun e => hk e.2)]
      repeat' ((try (conv => whnf)); first | (refine when_ye ?_ ?_; exact rfl) | (refine br_te ?_ ?_; exact rfl) | (refine ldK1 h38 ?_) | ((with_reducible show CallT _ _ _ _ _ _); first | ((refine call_pe (hs) ?_ ?_ ?_; (exact rfl); exact rfl))))
      all_goals exact ⟨rfl, (by first | exact ent_i | (repeat (first | exact Ent.refl | exact Ent.left | refine Ent.cons ?_ | refine Ent.app ?_)))⟩
theorem sto_iff : (x.dn = true ∧ x.sto = true) ↔ (x.dn = true ∧ x.code = 1 ∧ x.ad.length ≠ 0) := by
  unfold AT.sto
  rw [decide_eq_true_iff]
  exact ⟨fun h => ⟨h.1, h.2.1, fun e => h.2.2 (List.length_eq_zero_iff.1 e)⟩, fun h => ⟨h.1, h.2.1, fun e => h.2.2 (by rw [e]; rfl)⟩⟩
theorem sp_sRl {E1 : Own} {wb wc vc o : Nat} {wa va : Option Addr} {wD vD : Own} {l l2 : List Int} {v : Int} (hh : h.ok c x) (hM : mh.ok m.L) (hE : TnO h true x.tk true E1) (hrl : h.rl = ptr wb) (hL : RdE encI 1 W0 wD wa ((o : Int) :: l)) (hL2 : RdE encU 1 W0 vD va (v :: l2)) (hc1 : l.length + 1 ≤ wc) (hc2 : l2.length + 1 ≤ vc)
    (hj : m.o[o]? = some w) (hck : 0 ≤ x.ck ∧ x.ck ≤ 1099511627776) (Q : Own) : Spec Tryz.prog W0 79 [ptr h.b, ptr mh.mb] (h.O c t x 10 3 ((wb, rlP wa (l.length + 1) wc va (l2.length + 1) vc) :: (wD ++ (vD ++ (E1 ++ (mh.O m ++ Q))))))
    (AtQ W0 c t h.b (if l = [] then { x with ph := if x.dn = true ∧ x.sto = true then .sp else .ps } else { x with ph := .rl l l2 }) 3 (mh.O { m with o := m.o.set o v } ++ Q) (.tuple #[(acS 2 o w v).v, .int .i64 18])) := by
  unfold AtQ
  refine spec_of mixed low_attempt_Attempt_stepRelease (by simp [ir_attempt_Attempt_stepRelease]) ?_
  obtain ⟨tb, htn, rfl⟩ := hE.h
  obtain ⟨h', rfl⟩ := AH.rl_eq hrl htn
  have hst := fun (Q : Own) (e1 : EntC Q wD) (e2 : EntC Q vD) => sp_rlStep (W0 := W0) (F := Q) (b := wb) (c := wc) (c2 := vc) hM (hL.up) (hL2.up) hj Q
  have hdn := fun (own' : Own) (m2 : MemC wb (rlP (slA wa wc 1 1) l.length (wc - 1) (slA va vc 1 1) l2.length (vc - 1)) own') => sp_rlDone (W0 := W0) (own := own') (cl_of m2 rfl)
  have hve := fun (own' : Own) (m1 : MemC h'.b (atP c t { h' with rl := ptr wb, tn := ptr tb } x 12) own') (m2 : MemC h'.g.b (lgP c.writes h'.g.aa x.ad.length h'.g.ca h'.g.va x.vl.length h'.g.cv h'.g.ib h'.g.P) own') => sp_aversion (W0 := W0) (cl_of m1 rfl) (cl_of m1 rfl) hck (cl_of m1 rfl) (cl_of m1 rfl) (cl_of m2 rfl)
  by_cases hl : l = []
  · have hz : decide (l.length = 0) = true := by rw [hl]; rfl
    simp only [if_pos hl, hz] at hdn ⊢
    by_cases hs : x.dn = true ∧ x.sto = true
    · simp only [if_pos hs, if_pos (sto_iff.1 hs)] at hve ⊢
      have hp : x.ck + 1 ≥ 0 := by omega
      repeat' ((try (conv => whnf)); first | (refine br_te ?_ ?_; exact rfl) | (apply br_pyE; (exact rfl); omega) | ((with_reducible show CallT _ _ _ _ _ _); first | ((refine call_pe (hdn _ inferInstance) ?_ ?_ ?_; (exact rfl); exact rfl)) | ((refine call_pe (hve _ inferInstance inferInstance) ?_ ?_ ?_; (exact rfl); exact rfl)) | ((refine call_sb (D := mh.O m) (hst _ inferInstance inferInstance) ?_ ?_ ?_ (fun _ v hv => ?_); (exact rfl); (exact rfl); (exact rfl); (subst hv)))) | (apply ld_o; exact rfl) | (apply ldN_a; exact rfl) | (apply st_o; (exact rfl); exact rfl) | (apply stN_o; (exact rfl); (exact rfl); exact rfl) | (refine new_i (fun bk hbk => ?_)))
      all_goals exact ⟨({ h' with rl := ptr wb, tn := ptr tb }, [(tb, tnP true x.tk true)]), ⟨rfl, rfl, ⟨hh.1, hh.2, hh.3, hh.4, hh.5, hh.6, hh.7, hh.8, hh.9⟩, (⟨tb, rfl, rfl⟩ : TnO _ _ _ _ _)⟩, by show Ent W0 _ (AH.O _ c t _ 11 3 _); exact (by refine sb_ent ?_; (repeat (first | exact sb_refl | exact sb_nil | refine sb_fr ?_ | refine sb_pu rfl ?_ | refine sb_cons ?_ | refine sb_app ?_)))⟩
    · simp only [if_neg hs, if_neg (fun e => hs (sto_iff.2 e))] at hve ⊢
      repeat' ((try (conv => whnf)); first | (refine br_te ?_ ?_; exact rfl) | (refine br_fe ?_ ?_; exact rfl) | ((with_reducible show CallT _ _ _ _ _ _); first | ((refine call_pe (hdn _ inferInstance) ?_ ?_ ?_; (exact rfl); exact rfl)) | ((refine call_pe (hve _ inferInstance inferInstance) ?_ ?_ ?_; (exact rfl); exact rfl)) | ((refine call_sb (D := mh.O m) (hst _ inferInstance inferInstance) ?_ ?_ ?_ (fun _ v hv => ?_); (exact rfl); (exact rfl); (exact rfl); (subst hv)))) | (apply ld_o; exact rfl) | (apply ldN_a; exact rfl) | (apply st_o; (exact rfl); exact rfl) | (apply stN_o; (exact rfl); (exact rfl); exact rfl) | (refine new_i (fun bk hbk => ?_)))
      all_goals exact ⟨({ h' with rl := ptr wb, tn := ptr tb }, [(tb, tnP true x.tk true)]), ⟨rfl, rfl, ⟨hh.1, hh.2, hh.3, hh.4, hh.5, hh.6, hh.7, hh.8, hh.9⟩, (⟨tb, rfl, rfl⟩ : TnO _ _ _ _ _)⟩, by show Ent W0 _ (AH.O _ c t _ 12 3 _); exact (by refine sb_ent ?_; (repeat (first | exact sb_refl | exact sb_nil | refine sb_fr ?_ | refine sb_pu rfl ?_ | refine sb_cons ?_ | refine sb_app ?_)))⟩
  · have hz : decide (l.length = 0) = false := decide_eq_false fun e => hl (List.length_eq_zero_iff.1 e)
    simp only [if_neg hl, hz] at hdn ⊢
    repeat' ((try (conv => whnf)); first | (refine br_fe ?_ ?_; exact rfl) | ((with_reducible show CallT _ _ _ _ _ _); first | ((refine call_pe (hdn _ inferInstance) ?_ ?_ ?_; (exact rfl); exact rfl)) | ((refine call_sb (D := mh.O m) (hst _ inferInstance inferInstance) ?_ ?_ ?_ (fun _ v hv => ?_); (exact rfl); (exact rfl); (exact rfl); (subst hv)))) | (apply ld_o; exact rfl) | (apply ldN_a; exact rfl) | (apply stN_o; (exact rfl); (exact rfl); exact rfl) | (refine new_i (fun bk hbk => ?_)))
    all_goals exact ⟨({ h' with rl := ptr wb, tn := ptr tb }, (wb, rlP (slA wa wc 1 1) l.length (wc - 1) (slA va vc 1 1) l2.length (vc - 1)) :: (wD ++ (vD ++ [(tb, tnP true x.tk true)]))), ⟨rfl, rfl, ⟨hh.1, hh.2, hh.3, hh.4, hh.5, hh.6, hh.7, hh.8, hh.9⟩, ⟨_, wb, _, _, wD, _, _, vD, ⟨tb, rfl, rfl⟩, rfl, ⟨RdE.tl hL hc1, by omega⟩, ⟨RdE.tl hL2 hc2, by omega⟩, rfl⟩⟩, by show Ent W0 _ (AH.O _ c t _ 10 3 _); simp only [List.append_assoc, List.cons_append, List.nil_append]; exact (by refine sb_ent ?_; (repeat (first | exact sb_refl | exact sb_nil | refine sb_fr ?_ | refine sb_pu rfl ?_ | refine sb_cons ?_ | refine sb_app ?_)))⟩
end
end Go.Proofs.YtllddgdmmfmpkaaGreatDoor
