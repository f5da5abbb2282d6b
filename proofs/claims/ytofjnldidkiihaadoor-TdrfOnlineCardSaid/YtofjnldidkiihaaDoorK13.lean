/- What the laws of this seat share, part 13: contracts of the functions, plain laws, and the rules of their proofs. No condition. -/
import Derived.Test.YtofjnldidkiihaaDoorK12
namespace Go.Proofs.YtofjnldidkiihaaDoor
open Go
set_option maxRecDepth 10000
set_option maxHeartbeats 8000000
/-- Rows of some words set. -/
def hsS (q : Nat) (l : List Int) (t : Nat) (x : Int × Int) (H : Nat → List (Int × Int)) (j : Nat) : List (Int × Int) := if j % 4 = q ∧ l.contains ((j / 4 : Nat) : Int) = true then (H j).set t x else H j
theorem hsS_len {q t n j : Nat} {l : List Int} {x : Int × Int} {H : Nat → List (Int × Int)} (h : ∀ j, (H j).length = n) : (hsS q l t x H j).length = n := by
  unfold hsS
  split
  · rw [List.length_set, h]
  · exact h j
theorem hsS_step {bs : Nat → Nat} {q t w : Nat} {l : List Int} {x : Int × Int} {H : Nat → List (Int × Int)} (hq : q < 4) :
    accO bs (fun j => if j = 4 * w + q then (hsS q l t x H (4 * w + q)).set t x else hsS q l t x H j) 256 = accO bs (hsS q (l ++ [(w : Int)]) t x H) 256 := accO_congr fun j _ => ⟨rfl, by
    by_cases hj : j = 4 * w + q
    · rw [if_pos hj]
      subst hj
      have e1 : (4 * w + q) % 4 = q := by omega
      have e2 : (4 * w + q) / 4 = w := by omega
      unfold hsS
      rw [e1, e2, if_pos (c := q = q ∧ (l ++ [(w : Int)]).contains (w : Int) = true) ⟨rfl, by simp⟩]
      split
      · rw [List.set_set]
      · rfl
    · rw [if_neg hj]
      unfold hsS
      have e : (j % 4 = q ∧ l.contains ((j / 4 : Nat) : Int) = true) ↔ (j % 4 = q ∧ (l ++ [(w : Int)]).contains ((j / 4 : Nat) : Int) = true) := by
        simp only [List.contains_iff_mem, List.mem_append, List.mem_singleton]
        constructor
        · exact fun h => ⟨h.1, .inl h.2⟩
        · rintro ⟨h1, h2 | h2⟩
          · exact ⟨h1, h2⟩
          · omega
      simp only [e]⟩
theorem hsS_nil {q t : Nat} {x : Int × Int} {H : Nat → List (Int × Int)} : hsS q [] t x H = H := by
  funext j
  unfold hsS
  rw [if_neg (by simp)]
/-- What an end makes of the accesses. -/
theorem hsS_end {bs : Nat → Nat} {L : List EH} {e : EH} {n t : Nat} (ht : e.t = t) (h4 : e.k = 4) :
    accO bs (hsS 3 e.wl t ((L.length : Int), (eCnt L t L.length : Int) + 1) (hsS 2 e.rl t ((L.length : Int), (eCnt L t L.length : Int) + 1) (hisR L n))) 256 = accO bs (hisR (L ++ [e]) n) 256 := accO_congr fun j _ => ⟨rfl, by
    rw [hisR_end ht]
    unfold hsS hitQ
    simp only [h4]
    by_cases h2 : j % 4 = 2
    · simp [h2]
    · by_cases h3 : j % 4 = 3
      · simp [h3]
      · have h5 : ¬ (j % 4 = 3 ∧ e.wl.contains ((j / 4 : Nat) : Int) = true) := fun h => h3 h.1
        have h6 : ¬ (j % 4 = 2 ∧ e.rl.contains ((j / 4 : Nat) : Int) = true) := fun h => h2 h.1
        rw [if_neg h5, if_neg h6]
        have : j % 4 = 0 ∨ j % 4 = 1 := by omega
        rcases this with h | h <;> simp [h]⟩
theorem ent_mv {W0 : World} {D1 X r0 A D : Own} {e1 e2 e3 e4 : Nat × (Obj → Prop)} : Ent W0 (D1 ++ (e1 :: ((e2 :: e3 :: e4 :: (D ++ (A ++ X))) ++ r0))) (e1 :: ((e2 :: e3 :: e4 :: (D ++ (A ++ (D1 ++ X)))) ++ r0)) := by
  refine Ent.of_perm ?_
  have h : (D1 ++ (e1 :: e2 :: e3 :: e4 :: (D ++ (A ++ (X ++ r0))))).Perm (e1 :: e2 :: e3 :: e4 :: (D ++ (A ++ (D1 ++ (X ++ r0))))) := by
    have h1 : ∀ (P Q : Own), (D1 ++ (P ++ Q)).Perm (P ++ (D1 ++ Q)) := fun P Q => by
      rw [← List.append_assoc, ← List.append_assoc]
      exact List.perm_append_comm.append_right Q
    have h2 := h1 [e1, e2, e3, e4] (D ++ (A ++ (X ++ r0)))
    refine h2.trans (List.Perm.append_left [e1, e2, e3, e4] ((h1 D _).trans (List.Perm.append_left D (h1 A _))))
  simpa using h
section
variable {W0 : World} {r0 : Own} {at1 : Int} {cb eb sb bb n sc : Nat} {bs : Nat → Nat} {B S : List Sl} {D X : Own}
theorem sl_wid {l : List Sl} : ∀ x ∈ l, (encSl x).length = 1 := fun _ _ => rfl
theorem sp_tend {L : List EH} {e : EH} {t bc : Nat} {ba : Addr} (hw : Wf (L ++ [e]) n) (hw0 : Wf L n) (h4 : e.k = 4) (ht : e.t = t) (htn : t < n) (hn : n ≤ 16) (hL : L.length ≤ 65536) (hE : EvR W0 r0 e)
    (hN : LaidAt W0 0 noneV) (hS : BufE encSl 22 1 (some ⟨sb, 0, none⟩) sc S D) (hSl : n = S.length) (hBl : n = B.length) (hb : B[t]? = some (some ba, n, bc)) (hbr : RdE encI 1 W0 X (some ba) (begR L n t)) :
    Spec Tryd.prog W0 45 [.pointer (some ⟨cb, 0, none⟩), e.v] (ckO L.length at1 (frst L) (endsR L n) (hisR L n) cb eb sb bb n sc bs B D X ++ r0) fun v own' => ∃ s : Option Addr × Nat × Own × Own, (v = .tuple #[] ∧ BufE encI 3 1 s.1 s.2.1 (endsR (L ++ [e]) n) s.2.2.1 ∧ BufE encSl 22 1 (some ⟨sb, 0, none⟩) sc (S.set t (s.1, n, s.2.1)) s.2.2.2) ∧
      Ent W0 own' (ckO L.length at1 (frst (L ++ [e])) (endsR (L ++ [e]) n) (hisR (L ++ [e]) n) cb eb sb bb n sc bs B s.2.2.2 (s.2.2.1 ++ X) ++ r0) := by
  refine spec_of mixed lowc_tdrf_Checker_end (by simp [irc_tdrf_Checker_end]) ?_
  have hEn : (endsR L n)[t]? = some (eCnt L t L.length : Int) := rowG_get htn
  have hEl : n = (endsR L n).length := rowG_len.symm
  have hcl : (begR L n t).length = n := rowG_len
  have hcn := eCnt_le (l := L) (t := t) L.length
  have htou : touW e = cmp (srt (e.rl ++ e.wl)) := by unfold touW; rw [if_neg (by omega)]
  have hrng : ∀ x ∈ touW e, 0 ≤ x ∧ x < 64 := by
    have := touW_rng (y := L.length) hw (by simp)
    rwa [at_end] at this
  have hlen := (touW_spec e).2.2
  have hrb := hE.rb
  have hwb := hE.wb
  have htst := fun (own' : Own) (Cf : (Obj → Prop) → Own) (r : RaceM) (w : Nat) (hw64 : w < 64) (i0 : UpC cb (fun o => o = Obj.cells (ckL L.length at1 eb sb bb n sc (wrdV bs n) r).toArray 68 (0, 0)) own' Cf) (i1 : EntC own' [ckN L.length at1 cb eb sb bb n sc bs r]) (i2 : EntC own' (accO bs (hisR L n) 256)) (i3 : EntC own' X) => st_test (e := e) (wr := e.wl.contains (w : Int)) (cc := bc) hw64 hn hcl hbr (u := i0) (i1 := i1) (i2 := i2) (i3 := i3)
  have hrc := fun (w : Int) (hm : w ∈ touW e) => end_test hw h4 hm
  have hcont := fun (own' : Own) [EntC own' r0] (w : Int) => sp_contains (W0 := W0) (own := own') (cap := e.wc) hE.w.up hE.wn w
  have hnone := fun h0 h => fr_none (l := L) (e := e) hw hw0 h0 h
  have hhit := fun h0 i w r h1 h2 h3 => fr_hit (l := L) (e := e) (i := i) (w := w) (r := r) hw hw0 h0 (by omega) h1 h2 h3
  have hends : (endsR L n).set t ((eCnt L t L.length : Int) + 1) = endsR (L ++ [e]) n := endsR_end ht h4
  have hacc := hsS_end (bs := bs) (L := L) (n := n) ht h4
  have hEr := hE.r
  have hEw := hE.w
  have hrW : ∀ (own' : Own) [EntC own' r0], EvR W0 own' e := fun own' _ => hE.up
  have hri : e.rl.all inW = true ∧ e.wl.all inW = true := by
    have := hw.kd L.length (by simp)
    rw [at_end] at this
    exact this.2.2.2.2.2
  clear hE
  obtain ⟨ev, tt, k, wd, ra, rl, rc, wa, wl, wc⟩ := e
  dsimp only [EH.v] at *
  subst ht h4
  generalize hrN : frst (L ++ [_]) = rN at *
  repeat' ((try (conv => whnf)); first | (refine when_ye ?_ ?_; exact rfl) | (refine when_ne ?_ ?_; exact rfl) | (refine br_te ?_ ?_; exact rfl) | (refine br_fe ?_ ?_; exact rfl) | (apply br_pyE; (exact rfl); omega) | (apply br_pnE; (exact rfl); omega) | (apply when_pyE; (exact rfl); omega) | (apply when_pnE; (exact rfl); omega) | (apply br_npyE; (exact rfl); omega) | (apply br_npnE; (exact rfl); omega) | (apply when_npyE; (exact rfl); omega) | (apply when_npnE; (exact rfl); omega) | (refine new_i (fun b3 hb3 => ?_); (apply Stop.h)) | (refine ari ?_ ?_; omega) | (refine aru ?_ ?_; omega) | (apply sel; exact rfl) | (refine ix0 rfl ?_) | (refine ix1 rfl ?_) | (refine ix2 rfl ?_) | (refine ix3 rfl ?_) | (apply ixj; omega) | (refine ixn ?_ ?_; omega) | (refine ixs0 rfl ?_) | (refine ixs1 rfl ?_) | (refine ixs_j ?_ ?_; omega) | (refine ixs_n ?_ ?_; omega) | (apply ld_o; exact rfl) | (apply ldN_a; exact rfl) | (apply ldN_o; (exact rfl); exact rfl) | (apply st_o; (exact rfl); exact rfl) | (apply stN_o; (exact rfl); (exact rfl); exact rfl) | (refine new_i (fun bk hbk => ?_)) | (apply when_dE; (exact rfl); (exact rfl); all_goals intro hc) | (apply when_dF; (exact rfl); (exact rfl); all_goals intro hc) | (apply when_nE; (exact rfl); (exact rfl); all_goals intro hc) | (apply when_nF; (exact rfl); (exact rfl); all_goals intro hc) | (apply br_dE; (exact rfl); all_goals intro hc) | (apply br_nE; (exact rfl); all_goals intro hc) | (refine mm_min ?_) | (refine mm_max ?_) | (refine rem_i ?_ ?_; omega) | (refine SelN.mk ?_) | (refine Both.mk ?_ ?_) | (exact True.intro))
  refine Stop.mk ?_
  repeat' ((try (conv => whnf)); first | (refine when_ye ?_ ?_; exact rfl) | (refine when_ne ?_ ?_; exact rfl) | (refine br_te ?_ ?_; exact rfl) | (refine br_fe ?_ ?_; exact rfl) | (apply br_pyE; (exact rfl); omega) | (apply br_pnE; (exact rfl); omega) | (apply when_pyE; (exact rfl); omega) | (apply when_pnE; (exact rfl); omega) | (apply br_npyE; (exact rfl); omega) | (apply br_npnE; (exact rfl); omega) | (apply when_npyE; (exact rfl); omega) | (apply when_npnE; (exact rfl); omega) | ((with_reducible show CallT _ _ _ _ _ _); first | ((refine call_x (sp_concat (bq := bk) (hEr.up) (hEw.up) (by omega)) ?_ ?_ (fun s v hv => ?_); (exact rfl); (exact rfl); (obtain ⟨a0, c0, D0⟩ := s; obtain ⟨rfl, hB0⟩ := hv; dsimp only at hB0); (apply Stop.h)))) | (refine ari ?_ ?_; omega) | (refine aru ?_ ?_; omega) | (apply sel; exact rfl) | (refine ix0 rfl ?_) | (refine ix1 rfl ?_) | (refine ix2 rfl ?_) | (refine ix3 rfl ?_) | (apply ixj; omega) | (refine ixn ?_ ?_; omega) | (refine ixs0 rfl ?_) | (refine ixs1 rfl ?_) | (refine ixs_j ?_ ?_; omega) | (refine ixs_n ?_ ?_; omega) | (apply ld_o; exact rfl) | (apply ldN_a; exact rfl) | (apply ldN_o; (exact rfl); exact rfl) | (apply st_o; (exact rfl); exact rfl) | (apply stN_o; (exact rfl); (exact rfl); exact rfl) | (refine new_i (fun bk hbk => ?_)) | (apply when_dE; (exact rfl); (exact rfl); all_goals intro hc) | (apply when_dF; (exact rfl); (exact rfl); all_goals intro hc) | (apply when_nE; (exact rfl); (exact rfl); all_goals intro hc) | (apply when_nF; (exact rfl); (exact rfl); all_goals intro hc) | (apply br_dE; (exact rfl); all_goals intro hc) | (apply br_nE; (exact rfl); all_goals intro hc) | (refine mm_min ?_) | (refine mm_max ?_) | (refine rem_i ?_ ?_; omega) | (refine SelN.mk ?_) | (refine Both.mk ?_ ?_) | (exact True.intro))
  refine Stop.mk ?_
  have hll : (rl ++ wl).length = rl.length + wl.length := List.length_append
  have hso := fun own' (C : Own → Own) (hat : At D0 own' C) => sp_sort (W0 := W0) hB0 hat (by omega)
  repeat' ((try (conv => whnf)); first | (refine when_ye ?_ ?_; exact rfl) | (refine when_ne ?_ ?_; exact rfl) | (refine br_te ?_ ?_; exact rfl) | (refine br_fe ?_ ?_; exact rfl) | (apply br_pyE; (exact rfl); omega) | (apply br_pnE; (exact rfl); omega) | (apply when_pyE; (exact rfl); omega) | (apply when_pnE; (exact rfl); omega) | (apply br_npyE; (exact rfl); omega) | (apply br_npnE; (exact rfl); omega) | (apply when_npyE; (exact rfl); omega) | (apply when_npnE; (exact rfl); omega) | ((with_reducible show CallT _ _ _ _ _ _); first | ((refine call_x (hso _ _ At.head) ?_ ?_ (fun s v hv => ?_); (exact rfl); (exact rfl); (obtain ⟨rfl, hB1⟩ := hv); (apply Stop.h)))) | (refine ari ?_ ?_; omega) | (refine aru ?_ ?_; omega) | (apply sel; exact rfl) | (refine ix0 rfl ?_) | (refine ix1 rfl ?_) | (refine ix2 rfl ?_) | (refine ix3 rfl ?_) | (apply ixj; omega) | (refine ixn ?_ ?_; omega) | (refine ixs0 rfl ?_) | (refine ixs1 rfl ?_) | (refine ixs_j ?_ ?_; omega) | (refine ixs_n ?_ ?_; omega) | (apply ld_o; exact rfl) | (apply ldN_a; exact rfl) | (apply ldN_o; (exact rfl); exact rfl) | (apply st_o; (exact rfl); exact rfl) | (apply stN_o; (exact rfl); (exact rfl); exact rfl) | (refine new_i (fun bk hbk => ?_)) | (apply when_dE; (exact rfl); (exact rfl); all_goals intro hc) | (apply when_dF; (exact rfl); (exact rfl); all_goals intro hc) | (apply when_nE; (exact rfl); (exact rfl); all_goals intro hc) | (apply when_nF; (exact rfl); (exact rfl); all_goals intro hc) | (apply br_dE; (exact rfl); all_goals intro hc) | (apply br_nE; (exact rfl); all_goals intro hc) | (refine mm_min ?_) | (refine mm_max ?_) | (refine rem_i ?_ ?_; omega) | (refine SelN.mk ?_) | (refine Both.mk ?_ ?_) | (exact True.intro))
  refine Stop.mk ?_
  have hsl := srt_len (rl ++ wl)
  have hco := fun own' (C : Own → Own) (hat : At s own' C) => sp_compact (W0 := W0) hB1 hat (by omega) (srt_sorted (rl ++ wl))
  rw [hsl] at hco
  rw [← htou] at hco
  repeat' ((try (conv => whnf)); first | (refine when_ye ?_ ?_; exact rfl) | (refine when_ne ?_ ?_; exact rfl) | (refine br_te ?_ ?_; exact rfl) | (refine br_fe ?_ ?_; exact rfl) | (apply br_pyE; (exact rfl); omega) | (apply br_pnE; (exact rfl); omega) | (apply when_pyE; (exact rfl); omega) | (apply when_pnE; (exact rfl); omega) | (apply br_npyE; (exact rfl); omega) | (apply br_npnE; (exact rfl); omega) | (apply when_npyE; (exact rfl); omega) | (apply when_npnE; (exact rfl); omega) | (refine ari ?_ ?_; omega) | (refine aru ?_ ?_; omega) | (apply sel; exact rfl) | (refine ix0 rfl ?_) | (refine ix1 rfl ?_) | (refine ix2 rfl ?_) | (refine ix3 rfl ?_) | (apply ixj; omega) | (refine ixn ?_ ?_; omega) | (refine ixs0 rfl ?_) | (refine ixs1 rfl ?_) | (refine ixs_j ?_ ?_; omega) | (refine ixs_n ?_ ?_; omega) | (apply ld_o; exact rfl) | (apply ldN_a; exact rfl) | (apply ldN_o; (exact rfl); exact rfl) | (apply st_o; (exact rfl); exact rfl) | (apply stN_o; (exact rfl); (exact rfl); exact rfl) | (refine new_i (fun bk hbk => ?_)) | (apply when_dE; (exact rfl); (exact rfl); all_goals intro hc) | (apply when_dF; (exact rfl); (exact rfl); all_goals intro hc) | (apply when_nE; (exact rfl); (exact rfl); all_goals intro hc) | (apply when_nF; (exact rfl); (exact rfl); all_goals intro hc) | (apply br_dE; (exact rfl); all_goals intro hc) | (apply br_nE; (exact rfl); all_goals intro hc) | (refine mm_min ?_) | (refine mm_max ?_) | (refine rem_i ?_ ?_; omega) | (refine SelN.mk ?_) | (refine Both.mk ?_ ?_) | (exact True.intro))
  refine cut_i (σ := Unit) 4503599626321984 (fun _ => []) (fun _ => (b3, fun o => o = Obj.cells #[.int .i64 ev, .int .i64 t, .int .i64 4, .int .i64 wd, .slice ra rl.length rc, .slice wa wl.length wc] 42) :: (ckO L.length at1 rN (endsR L n) (hisR L n) cb eb sb bb n sc bs B D X ++ r0)) (fun _ => True) rfl ?_ (fun _ junk _ => ?_)
  · clear hends hacc hrW hri hEr hEn
    generalize hT : touW _ = T at *
    repeat' ((try (conv => whnf)); first | (refine when_ye ?_ ?_; exact rfl) | (refine when_ne ?_ ?_; exact rfl) | (refine br_te ?_ ?_; exact rfl) | (refine br_fe ?_ ?_; exact rfl) | (apply br_pyE; (exact rfl); omega) | (apply br_pnE; (exact rfl); omega) | (apply when_pyE; (exact rfl); omega) | (apply when_pnE; (exact rfl); omega) | (apply br_npyE; (exact rfl); omega) | (apply br_npnE; (exact rfl); omega) | (apply when_npyE; (exact rfl); omega) | (apply when_npnE; (exact rfl); omega) | ((with_reducible show CallT _ _ _ _ _ _); first | ((refine call_x (hco _ _ At.head) ?_ ?_ (fun s2 v hv => ?_); (exact rfl); (exact rfl); (obtain ⟨rfl, hB2⟩ := hv); (apply Stop.h)))) | (refine ari ?_ ?_; omega) | (refine aru ?_ ?_; omega) | (apply sel; exact rfl) | (refine ix0 rfl ?_) | (refine ix1 rfl ?_) | (refine ix2 rfl ?_) | (refine ix3 rfl ?_) | (apply ixj; omega) | (refine ixn ?_ ?_; omega) | (refine ixs0 rfl ?_) | (refine ixs1 rfl ?_) | (refine ixs_j ?_ ?_; omega) | (refine ixs_n ?_ ?_; omega) | (apply ld_o; exact rfl) | (apply ldN_a; exact rfl) | (apply ldN_o; (exact rfl); exact rfl) | (apply st_o; (exact rfl); exact rfl) | (apply stN_o; (exact rfl); (exact rfl); exact rfl) | (refine new_i (fun bk hbk => ?_)) | (apply when_dE; (exact rfl); (exact rfl); all_goals intro hc) | (apply when_dF; (exact rfl); (exact rfl); all_goals intro hc) | (apply when_nE; (exact rfl); (exact rfl); all_goals intro hc) | (apply when_nF; (exact rfl); (exact rfl); all_goals intro hc) | (apply br_dE; (exact rfl); all_goals intro hc) | (apply br_nE; (exact rfl); all_goals intro hc) | (refine mm_min ?_) | (refine mm_max ?_) | (refine rem_i ?_ ?_; omega) | (refine SelN.mk ?_) | (refine Both.mk ?_ ?_) | (exact True.intro))
    refine Stop.mk ?_
    have hR2 : RdE encI 1 W0 s2 a0 T := hB2.rd
    clear hco hso hB2 hB1 hB0
    rcases frst_alt (l := L) with ⟨h1, h2⟩ | ⟨h1, h2⟩
    · rw [h1]
      repeat' ((try (conv => whnf)); first | (refine when_ye ?_ ?_; exact rfl) | (refine when_ne ?_ ?_; exact rfl) | (refine br_te ?_ ?_; exact rfl) | (refine br_fe ?_ ?_; exact rfl) | (apply br_pyE; (exact rfl); omega) | (apply br_pnE; (exact rfl); omega) | (apply when_pyE; (exact rfl); omega) | (apply when_pnE; (exact rfl); omega) | (apply br_npyE; (exact rfl); omega) | (apply br_npnE; (exact rfl); omega) | (apply when_npyE; (exact rfl); omega) | (apply when_npnE; (exact rfl); omega) | (refine ari ?_ ?_; omega) | (refine aru ?_ ?_; omega) | (apply sel; exact rfl) | (refine ix0 rfl ?_) | (refine ix1 rfl ?_) | (refine ix2 rfl ?_) | (refine ix3 rfl ?_) | (apply ixj; omega) | (refine ixn ?_ ?_; omega) | (refine ixs0 rfl ?_) | (refine ixs1 rfl ?_) | (refine ixs_j ?_ ?_; omega) | (refine ixs_n ?_ ?_; omega) | (apply ld_o; exact rfl) | (apply ldN_a; exact rfl) | (apply ldN_o; (exact rfl); exact rfl) | (apply st_o; (exact rfl); exact rfl) | (apply stN_o; (exact rfl); (exact rfl); exact rfl) | (refine new_i (fun bk hbk => ?_)) | (apply when_dE; (exact rfl); (exact rfl); all_goals intro hc) | (apply when_dF; (exact rfl); (exact rfl); all_goals intro hc) | (apply when_nE; (exact rfl); (exact rfl); all_goals intro hc) | (apply when_nF; (exact rfl); (exact rfl); all_goals intro hc) | (apply br_dE; (exact rfl); all_goals intro hc) | (apply br_nE; (exact rfl); all_goals intro hc) | (refine mm_min ?_) | (refine mm_max ?_) | (refine rem_i ?_ ?_; omega) | (refine SelN.mk ?_) | (refine cut_n ?_) | (refine Both.mk ?_ ?_) | (exact True.intro))
      refine loop_c (σ := Nat) (fun i => [(23, .int .i64 i)]) (fun i => i ≤ T.length ∧ ∀ j w', j < i → T[j]? = some w' → rcL (L ++ [(⟨ev, (t : Int), 4, wd, ra, rl, rc, wa, wl, wc⟩ : EH)]) L.length w' L.length = []) (fun i => T.length - i) 0 ⟨by omega, fun j w' hj => by omega⟩ (by repeat' (first | exact True.intro | refine And.intro ?_ ?_ | exact rfl | exact vi (by omega) | (dsimp only; exact rfl) | (dsimp only; exact vi (by omega)))) rfl ?_
      rintro i junk ⟨hi, hpre⟩
      by_cases hlt : i < T.length
      · obtain ⟨x, hx⟩ : ∃ x, T[i]? = some x := ⟨_, List.getElem?_eq_getElem hlt⟩
        have hxm := List.mem_of_getElem? hx
        have hxr := hrng x hxm
        have hlt' : (i : Int) < T.length := by omega
        obtain ⟨w, rfl⟩ : ∃ w : Nat, x = w := ⟨x.toNat, by omega⟩
        have hr1 := (hrc w hxm).1
        have hr2 := (hrc w hxm).2
        have ht1 := fun (own' : Own) (Cf : (Obj → Prop) → Own) => htst own' Cf nnR w (by omega)
        have hh := fun r => hhit h2 i w r hx hpre
        generalize hitP L n _ _ _ _ = p at *
        have hcw := fun (own' : Own) [EntC own' r0] => hcont own' (w : Int)
        generalize wl.contains (w : Int) = zc at *
        by_cases hp : 0 ≤ p
        · simp only [if_pos hp, decide_eq_true hp] at ht1
          have hrN2 := hh _ (hr2 hp)
          subst hrN2
          repeat' ((try (conv => whnf)); first | (refine when_ye ?_ ?_; exact rfl) | (refine when_ne ?_ ?_; exact rfl) | (refine br_te ?_ ?_; exact rfl) | (refine br_fe ?_ ?_; exact rfl) | (apply br_pyE; (exact rfl); omega) | (apply br_pnE; (exact rfl); omega) | (apply when_pyE; (exact rfl); omega) | (apply when_pnE; (exact rfl); omega) | (apply br_npyE; (exact rfl); omega) | (apply br_npnE; (exact rfl); omega) | (apply when_npyE; (exact rfl); omega) | (apply when_npnE; (exact rfl); omega) | (refine br_pyE ?_ hlt' ?_; exact rfl) | (refine br_pnE ?_ hlt' ?_; exact rfl) | (refine when_pyE ?_ hlt' ?_; exact rfl) | (refine when_pnE ?_ hlt' ?_; exact rfl) | (refine br_npyE ?_ hlt' ?_; exact rfl) | (refine br_npnE ?_ hlt' ?_; exact rfl) | (refine when_npyE ?_ hlt' ?_; exact rfl) | (refine when_npnE ?_ hlt' ?_; exact rfl) | (refine ldN_ck ?_ ?_; (exact rfl)) | (refine ldN_laid hN _ rfl rfl ?_) | (refine eq_yes (by simp [eqC, eqOne]) ?_) | ((with_reducible show Ld _ _ _ _); first | (refine ldE0 hR2 hx rfl ?_) | (refine ldEk hR2 hx rfl ?_) | (refine ldE1 hR2 hx rfl ?_) | (refine ldC0 sl_wid hb rfl ?_) | (refine ldC1 sl_wid hb rfl ?_) | (refine ldC sl_wid hb rfl ?_)) | ((with_reducible show IxS _ _ _ _ _); first | ((refine ixE hR2 hx ?_ ?_; (first | rfl | omega))) | ((refine ixC hb hBl ?_ ?_; (first | rfl | omega)))) | ((with_reducible show LdN _ _ _ _ _); first | (refine ldNEi hR2 hx rfl ?_) | (refine ldNC sl_wid hb rfl ?_)) | ((with_reducible show CallT _ _ _ _ _ _); first | ((refine call_e (ht1 _ _ inferInstance inferInstance inferInstance inferInstance) ?_ ?_ ?_; (exact rfl); (exact rfl)))) | ((with_reducible show CallQ _ _ _ _ _ _); first | (((refine call_qi (fun ex => hcw (ex ++ _)) ?_ ?_ ?_; (exact rfl); exact rfl)))) | (refine ari ?_ ?_; omega) | (refine aru ?_ ?_; omega) | (apply sel; exact rfl) | (refine ix0 rfl ?_) | (refine ix1 rfl ?_) | (refine ix2 rfl ?_) | (refine ix3 rfl ?_) | (apply ixj; omega) | (refine ixn ?_ ?_; omega) | (refine ixs0 rfl ?_) | (refine ixs1 rfl ?_) | (refine ixs_j ?_ ?_; omega) | (refine ixs_n ?_ ?_; omega) | (apply ld_o; exact rfl) | (apply ldN_a; exact rfl) | (apply ldN_o; (exact rfl); exact rfl) | (apply st_o; (exact rfl); exact rfl) | (apply stN_o; (exact rfl); (exact rfl); exact rfl) | (refine new_i (fun bk hbk => ?_)) | (apply when_dE; (exact rfl); (exact rfl); all_goals intro hc) | (apply when_dF; (exact rfl); (exact rfl); all_goals intro hc) | (apply when_nE; (exact rfl); (exact rfl); all_goals intro hc) | (apply when_nF; (exact rfl); (exact rfl); all_goals intro hc) | (apply br_dE; (exact rfl); all_goals intro hc) | (apply br_nE; (exact rfl); all_goals intro hc) | (refine mm_min ?_) | (refine mm_max ?_) | (refine rem_i ?_ ?_; omega) | (refine SelN.mk ?_) | (refine cut_n ?_) | (refine Both.mk ?_ ?_) | (exact True.intro))
          exact ⟨(), trivial, trivial, Ent.app (Ent.cons Ent.refl)⟩
        · simp only [if_neg hp, decide_eq_false hp] at ht1
          have hr3 := hr1 (by omega)
          repeat' ((try (conv => whnf)); first | (refine when_ye ?_ ?_; exact rfl) | (refine when_ne ?_ ?_; exact rfl) | (refine br_te ?_ ?_; exact rfl) | (refine br_fe ?_ ?_; exact rfl) | (apply br_pyE; (exact rfl); omega) | (apply br_pnE; (exact rfl); omega) | (apply when_pyE; (exact rfl); omega) | (apply when_pnE; (exact rfl); omega) | (apply br_npyE; (exact rfl); omega) | (apply br_npnE; (exact rfl); omega) | (apply when_npyE; (exact rfl); omega) | (apply when_npnE; (exact rfl); omega) | (refine br_pyE ?_ hlt' ?_; exact rfl) | (refine br_pnE ?_ hlt' ?_; exact rfl) | (refine when_pyE ?_ hlt' ?_; exact rfl) | (refine when_pnE ?_ hlt' ?_; exact rfl) | (refine br_npyE ?_ hlt' ?_; exact rfl) | (refine br_npnE ?_ hlt' ?_; exact rfl) | (refine when_npyE ?_ hlt' ?_; exact rfl) | (refine when_npnE ?_ hlt' ?_; exact rfl) | (refine ldN_ck ?_ ?_; (exact rfl)) | (refine ldN_laid hN _ rfl rfl ?_) | (refine eq_yes (by simp [eqC, eqOne]) ?_) | ((with_reducible show Ld _ _ _ _); first | (refine ldE0 hR2 hx rfl ?_) | (refine ldEk hR2 hx rfl ?_) | (refine ldE1 hR2 hx rfl ?_) | (refine ldC0 sl_wid hb rfl ?_) | (refine ldC1 sl_wid hb rfl ?_) | (refine ldC sl_wid hb rfl ?_)) | ((with_reducible show IxS _ _ _ _ _); first | ((refine ixE hR2 hx ?_ ?_; (first | rfl | omega))) | ((refine ixC hb hBl ?_ ?_; (first | rfl | omega)))) | ((with_reducible show LdN _ _ _ _ _); first | (refine ldNEi hR2 hx rfl ?_) | (refine ldNC sl_wid hb rfl ?_)) | ((with_reducible show CallT _ _ _ _ _ _); first | ((refine call_e (ht1 _ _ inferInstance inferInstance inferInstance inferInstance) ?_ ?_ ?_; (exact rfl); (exact rfl)))) | ((with_reducible show CallQ _ _ _ _ _ _); first | (((refine call_qi (fun ex => hcw (ex ++ _)) ?_ ?_ ?_; (exact rfl); exact rfl)))) | (refine ari ?_ ?_; omega) | (refine aru ?_ ?_; omega) | (apply sel; exact rfl) | (refine ix0 rfl ?_) | (refine ix1 rfl ?_) | (refine ix2 rfl ?_) | (refine ix3 rfl ?_) | (apply ixj; omega) | (refine ixn ?_ ?_; omega) | (refine ixs0 rfl ?_) | (refine ixs1 rfl ?_) | (refine ixs_j ?_ ?_; omega) | (refine ixs_n ?_ ?_; omega) | (apply ld_o; exact rfl) | (apply ldN_a; exact rfl) | (apply ldN_o; (exact rfl); exact rfl) | (apply st_o; (exact rfl); exact rfl) | (apply stN_o; (exact rfl); (exact rfl); exact rfl) | (refine new_i (fun bk hbk => ?_)) | (apply when_dE; (exact rfl); (exact rfl); all_goals intro hc) | (apply when_dF; (exact rfl); (exact rfl); all_goals intro hc) | (apply when_nE; (exact rfl); (exact rfl); all_goals intro hc) | (apply when_nF; (exact rfl); (exact rfl); all_goals intro hc) | (apply br_dE; (exact rfl); all_goals intro hc) | (apply br_nE; (exact rfl); all_goals intro hc) | (refine mm_min ?_) | (refine mm_max ?_) | (refine rem_i ?_ ?_; omega) | (refine SelN.mk ?_) | (refine cut_n ?_) | (refine Both.mk ?_ ?_) | (exact True.intro))
          refine ⟨i + 1, ⟨by omega, fun j w' hj hw' => ?_⟩, by omega, (by repeat' (first | exact True.intro | refine And.intro ?_ ?_ | exact rfl | exact vi (by omega) | (dsimp only; exact rfl) | (dsimp only; exact vi (by omega)))), (by first | exact ent_i | (repeat (first | exact Ent.refl | exact Ent.left | refine Ent.cons ?_ | refine Ent.app ?_)))⟩
          by_cases hji : j = i
          · subst hji
            rw [hx] at hw'
            rw [← Option.some.inj hw']
            exact hr3
          · exact hpre j w' (by omega) hw'
      · have hlt' : ¬ (i : Int) < T.length := by omega
        have hrN2 := hnone h2 (fun _ w hwm => by
          obtain ⟨j, hj⟩ := List.getElem?_of_mem hwm
          exact hpre j w (by have := (List.getElem?_eq_some_iff.1 hj).1; omega) hj)
        subst hrN2
        repeat' ((try (conv => whnf)); first | (refine when_ye ?_ ?_; exact rfl) | (refine when_ne ?_ ?_; exact rfl) | (refine br_te ?_ ?_; exact rfl) | (refine br_fe ?_ ?_; exact rfl) | (apply br_pyE; (exact rfl); omega) | (apply br_pnE; (exact rfl); omega) | (apply when_pyE; (exact rfl); omega) | (apply when_pnE; (exact rfl); omega) | (apply br_npyE; (exact rfl); omega) | (apply br_npnE; (exact rfl); omega) | (apply when_npyE; (exact rfl); omega) | (apply when_npnE; (exact rfl); omega) | (refine br_pyE ?_ hlt' ?_; exact rfl) | (refine br_pnE ?_ hlt' ?_; exact rfl) | (refine when_pyE ?_ hlt' ?_; exact rfl) | (refine when_pnE ?_ hlt' ?_; exact rfl) | (refine br_npyE ?_ hlt' ?_; exact rfl) | (refine br_npnE ?_ hlt' ?_; exact rfl) | (refine when_npyE ?_ hlt' ?_; exact rfl) | (refine when_npnE ?_ hlt' ?_; exact rfl) | (refine ari ?_ ?_; omega) | (refine aru ?_ ?_; omega) | (apply sel; exact rfl) | (refine ix0 rfl ?_) | (refine ix1 rfl ?_) | (refine ix2 rfl ?_) | (refine ix3 rfl ?_) | (apply ixj; omega) | (refine ixn ?_ ?_; omega) | (refine ixs0 rfl ?_) | (refine ixs1 rfl ?_) | (refine ixs_j ?_ ?_; omega) | (refine ixs_n ?_ ?_; omega) | (apply ld_o; exact rfl) | (apply ldN_a; exact rfl) | (apply ldN_o; (exact rfl); exact rfl) | (apply st_o; (exact rfl); exact rfl) | (apply stN_o; (exact rfl); (exact rfl); exact rfl) | (refine new_i (fun bk hbk => ?_)) | (apply when_dE; (exact rfl); (exact rfl); all_goals intro hc) | (apply when_dF; (exact rfl); (exact rfl); all_goals intro hc) | (apply when_nE; (exact rfl); (exact rfl); all_goals intro hc) | (apply when_nF; (exact rfl); (exact rfl); all_goals intro hc) | (apply br_dE; (exact rfl); all_goals intro hc) | (apply br_nE; (exact rfl); all_goals intro hc) | (refine mm_min ?_) | (refine mm_max ?_) | (refine rem_i ?_ ?_; omega) | (refine SelN.mk ?_) | (refine cut_n ?_) | (refine Both.mk ?_ ?_) | (exact True.intro))
        exact ⟨(), trivial, trivial, Ent.app (Ent.cons Ent.refl)⟩
    · have hfe := frst_app (e := (⟨ev, (t : Int), 4, wd, ra, rl, rc, wa, wl, wc⟩ : EH)) hw0 h2
      rw [hrN] at hfe
      have hno : eqC [0, 0, 0] (encRc (frst L)) (encRc nnR) = some false := by rw [eq_rc, decide_eq_false h1]
      rw [← hfe] at hno ⊢
      clear hfe
      repeat' ((try (conv => whnf)); first | (refine when_ye ?_ ?_; exact rfl) | (refine when_ne ?_ ?_; exact rfl) | (refine br_te ?_ ?_; exact rfl) | (refine br_fe ?_ ?_; exact rfl) | (apply br_pyE; (exact rfl); omega) | (apply br_pnE; (exact rfl); omega) | (apply when_pyE; (exact rfl); omega) | (apply when_pnE; (exact rfl); omega) | (apply br_npyE; (exact rfl); omega) | (apply br_npnE; (exact rfl); omega) | (apply when_npyE; (exact rfl); omega) | (apply when_npnE; (exact rfl); omega) | (refine ari ?_ ?_; omega) | (refine aru ?_ ?_; omega) | (apply sel; exact rfl) | (refine ix0 rfl ?_) | (refine ix1 rfl ?_) | (refine ix2 rfl ?_) | (refine ix3 rfl ?_) | (apply ixj; omega) | (refine ixn ?_ ?_; omega) | (refine ixs0 rfl ?_) | (refine ixs1 rfl ?_) | (refine ixs_j ?_ ?_; omega) | (refine ixs_n ?_ ?_; omega) | (apply ld_o; exact rfl) | (apply ldN_a; exact rfl) | (apply ldN_o; (exact rfl); exact rfl) | (apply st_o; (exact rfl); exact rfl) | (apply stN_o; (exact rfl); (exact rfl); exact rfl) | (refine new_i (fun bk hbk => ?_)) | (apply when_dE; (exact rfl); (exact rfl); all_goals intro hc) | (apply when_dF; (exact rfl); (exact rfl); all_goals intro hc) | (apply when_nE; (exact rfl); (exact rfl); all_goals intro hc) | (apply when_nF; (exact rfl); (exact rfl); all_goals intro hc) | (apply br_dE; (exact rfl); all_goals intro hc) | (apply br_nE; (exact rfl); all_goals intro hc) | (refine mm_min ?_) | (refine mm_max ?_) | (refine rem_i ?_ ?_; omega) | (refine SelN.mk ?_) | (refine cut_n ?_) | (refine Both.mk ?_ ?_) | (exact True.intro))
      refine loop_c (σ := Nat) (fun i => [(23, .int .i64 i)]) (fun i => i ≤ T.length) (fun i => T.length - i) 0 (by omega) (by repeat' (first | exact True.intro | refine And.intro ?_ ?_ | exact rfl | exact vi (by omega) | (dsimp only; exact rfl) | (dsimp only; exact vi (by omega)))) rfl ?_
      intro i junk hi
      by_cases hlt : i < T.length
      · obtain ⟨x, hx⟩ : ∃ x, T[i]? = some x := ⟨_, List.getElem?_eq_getElem hlt⟩
        have hlt' : (i : Int) < T.length := by omega
        repeat' ((try (conv => whnf)); first | (refine when_ye ?_ ?_; exact rfl) | (refine when_ne ?_ ?_; exact rfl) | (refine br_te ?_ ?_; exact rfl) | (refine br_fe ?_ ?_; exact rfl) | (apply br_pyE; (exact rfl); omega) | (apply br_pnE; (exact rfl); omega) | (apply when_pyE; (exact rfl); omega) | (apply when_pnE; (exact rfl); omega) | (apply br_npyE; (exact rfl); omega) | (apply br_npnE; (exact rfl); omega) | (apply when_npyE; (exact rfl); omega) | (apply when_npnE; (exact rfl); omega) | (refine br_pyE ?_ hlt' ?_; exact rfl) | (refine br_pnE ?_ hlt' ?_; exact rfl) | (refine when_pyE ?_ hlt' ?_; exact rfl) | (refine when_pnE ?_ hlt' ?_; exact rfl) | (refine br_npyE ?_ hlt' ?_; exact rfl) | (refine br_npnE ?_ hlt' ?_; exact rfl) | (refine when_npyE ?_ hlt' ?_; exact rfl) | (refine when_npnE ?_ hlt' ?_; exact rfl) | (refine ldN_ck ?_ ?_; (exact rfl)) | (refine ldN_laid hN _ rfl rfl ?_) | (refine eq_no hno ?_) | ((with_reducible show Ld _ _ _ _); first | (refine ldE0 hR2 hx rfl ?_) | (refine ldEk hR2 hx rfl ?_) | (refine ldE1 hR2 hx rfl ?_)) | ((with_reducible show IxS _ _ _ _ _); first | ((refine ixE hR2 hx ?_ ?_; (first | rfl | omega)))) | ((with_reducible show LdN _ _ _ _ _); first | (refine ldNEi hR2 hx rfl ?_)) | (refine ari ?_ ?_; omega) | (refine aru ?_ ?_; omega) | (apply sel; exact rfl) | (refine ix0 rfl ?_) | (refine ix1 rfl ?_) | (refine ix2 rfl ?_) | (refine ix3 rfl ?_) | (apply ixj; omega) | (refine ixn ?_ ?_; omega) | (refine ixs0 rfl ?_) | (refine ixs1 rfl ?_) | (refine ixs_j ?_ ?_; omega) | (refine ixs_n ?_ ?_; omega) | (apply ld_o; exact rfl) | (apply ldN_a; exact rfl) | (apply ldN_o; (exact rfl); exact rfl) | (apply st_o; (exact rfl); exact rfl) | (apply stN_o; (exact rfl); (exact rfl); exact rfl) | (refine new_i (fun bk hbk => ?_)) | (apply when_dE; (exact rfl); (exact rfl); all_goals intro hc) | (apply when_dF; (exact rfl); (exact rfl); all_goals intro hc) | (apply when_nE; (exact rfl); (exact rfl); all_goals intro hc) | (apply when_nF; (exact rfl); (exact rfl); all_goals intro hc) | (apply br_dE; (exact rfl); all_goals intro hc) | (apply br_nE; (exact rfl); all_goals intro hc) | (refine mm_min ?_) | (refine mm_max ?_) | (refine rem_i ?_ ?_; omega) | (refine SelN.mk ?_) | (refine cut_n ?_) | (refine Both.mk ?_ ?_) | (exact True.intro))
        exact ⟨i + 1, by omega, by omega, (by repeat' (first | exact True.intro | refine And.intro ?_ ?_ | exact rfl | exact vi (by omega) | (dsimp only; exact rfl) | (dsimp only; exact vi (by omega)))), (by first | exact ent_i | (repeat (first | exact Ent.refl | exact Ent.left | refine Ent.cons ?_ | refine Ent.app ?_)))⟩
      · have hlt' : ¬ (i : Int) < T.length := by omega
        repeat' ((try (conv => whnf)); first | (refine when_ye ?_ ?_; exact rfl) | (refine when_ne ?_ ?_; exact rfl) | (refine br_te ?_ ?_; exact rfl) | (refine br_fe ?_ ?_; exact rfl) | (apply br_pyE; (exact rfl); omega) | (apply br_pnE; (exact rfl); omega) | (apply when_pyE; (exact rfl); omega) | (apply when_pnE; (exact rfl); omega) | (apply br_npyE; (exact rfl); omega) | (apply br_npnE; (exact rfl); omega) | (apply when_npyE; (exact rfl); omega) | (apply when_npnE; (exact rfl); omega) | (refine br_pyE ?_ hlt' ?_; exact rfl) | (refine br_pnE ?_ hlt' ?_; exact rfl) | (refine when_pyE ?_ hlt' ?_; exact rfl) | (refine when_pnE ?_ hlt' ?_; exact rfl) | (refine br_npyE ?_ hlt' ?_; exact rfl) | (refine br_npnE ?_ hlt' ?_; exact rfl) | (refine when_npyE ?_ hlt' ?_; exact rfl) | (refine when_npnE ?_ hlt' ?_; exact rfl) | (refine ari ?_ ?_; omega) | (refine aru ?_ ?_; omega) | (apply sel; exact rfl) | (refine ix0 rfl ?_) | (refine ix1 rfl ?_) | (refine ix2 rfl ?_) | (refine ix3 rfl ?_) | (apply ixj; omega) | (refine ixn ?_ ?_; omega) | (refine ixs0 rfl ?_) | (refine ixs1 rfl ?_) | (refine ixs_j ?_ ?_; omega) | (refine ixs_n ?_ ?_; omega) | (apply ld_o; exact rfl) | (apply ldN_a; exact rfl) | (apply ldN_o; (exact rfl); exact rfl) | (apply st_o; (exact rfl); exact rfl) | (apply stN_o; (exact rfl); (exact rfl); exact rfl) | (refine new_i (fun bk hbk => ?_)) | (apply when_dE; (exact rfl); (exact rfl); all_goals intro hc) | (apply when_dF; (exact rfl); (exact rfl); all_goals intro hc) | (apply when_nE; (exact rfl); (exact rfl); all_goals intro hc) | (apply when_nF; (exact rfl); (exact rfl); all_goals intro hc) | (apply br_dE; (exact rfl); all_goals intro hc) | (apply br_nE; (exact rfl); all_goals intro hc) | (refine mm_min ?_) | (refine mm_max ?_) | (refine rem_i ?_ ?_; omega) | (refine SelN.mk ?_) | (refine cut_n ?_) | (refine Both.mk ?_ ?_) | (exact True.intro))
        exact ⟨(), trivial, trivial, Ent.app (Ent.cons Ent.refl)⟩
  · clear hrc htst hnone hhit hcont hso hco hB0 hB1 hrng hlen htou
    repeat' ((try (conv => whnf)); first | (refine when_ye ?_ ?_; exact rfl) | (refine when_ne ?_ ?_; exact rfl) | (refine br_te ?_ ?_; exact rfl) | (refine br_fe ?_ ?_; exact rfl) | (apply br_pyE; (exact rfl); omega) | (apply br_pnE; (exact rfl); omega) | (apply when_pyE; (exact rfl); omega) | (apply when_pnE; (exact rfl); omega) | (apply br_npyE; (exact rfl); omega) | (apply br_npnE; (exact rfl); omega) | (apply when_npyE; (exact rfl); omega) | (apply when_npnE; (exact rfl); omega) | (refine stC (T := 3) (k := 0) ((eCnt L t L.length : Int) + 1) ne_wid hEn ?_ ?_ ?_ ?_ ?_; (exact rfl); (omega); (exact rfl); (exact rfl); (apply Stop.h)) | ((with_reducible show Ld _ _ _ _); first | (refine ldC0 ne_wid hEn rfl ?_) | (refine ldC1 ne_wid hEn rfl ?_) | (refine ldC ne_wid hEn rfl ?_)) | ((with_reducible show IxS _ _ _ _ _); first | ((refine ixC hEn hEl ?_ ?_; (first | rfl | omega)))) | ((with_reducible show LdN _ _ _ _ _); first | (refine ldNC ne_wid hEn rfl ?_)) | (refine ari ?_ ?_; omega) | (refine aru ?_ ?_; omega) | (apply sel; exact rfl) | (refine ix0 rfl ?_) | (refine ix1 rfl ?_) | (refine ix2 rfl ?_) | (refine ix3 rfl ?_) | (apply ixj; omega) | (refine ixn ?_ ?_; omega) | (refine ixs0 rfl ?_) | (refine ixs1 rfl ?_) | (refine ixs_j ?_ ?_; omega) | (refine ixs_n ?_ ?_; omega) | (apply ld_o; exact rfl) | (apply ldN_a; exact rfl) | (apply ldN_o; (exact rfl); exact rfl) | (apply st_o; (exact rfl); exact rfl) | (apply stN_o; (exact rfl); (exact rfl); exact rfl) | (refine new_i (fun bk hbk => ?_)) | (apply when_dE; (exact rfl); (exact rfl); all_goals intro hc) | (apply when_dF; (exact rfl); (exact rfl); all_goals intro hc) | (apply when_nE; (exact rfl); (exact rfl); all_goals intro hc) | (apply when_nF; (exact rfl); (exact rfl); all_goals intro hc) | (apply br_dE; (exact rfl); all_goals intro hc) | (apply br_nE; (exact rfl); all_goals intro hc) | (refine mm_min ?_) | (refine mm_max ?_) | (refine rem_i ?_ ?_; omega) | (refine SelN.mk ?_) | (refine Both.mk ?_ ?_) | (exact True.intro))
    refine Stop.mk ?_
    rw [hends]
    have hEl' : n = (endsR (L ++ [(⟨ev, (t : Int), 4, wd, ra, rl, rc, wa, wl, wc⟩ : EH)]) n).length := rowG_len.symm
    have hEn' : (endsR (L ++ [(⟨ev, (t : Int), 4, wd, ra, rl, rc, wa, wl, wc⟩ : EH)]) n)[t]? = some ((eCnt L t L.length : Int) + 1) := by rw [← hends, List.getElem?_set, if_pos rfl, if_pos (by omega)]
    have hclo := fun (own' : Own) [EntC own' [canE encI 3 eb (endsR (L ++ [(⟨ev, (t : Int), 4, wd, ra, rl, rc, wa, wl, wc⟩ : EH)]) n)]] => sp_clone (W0 := W0) (own := own') (cap := n) (l := endsR (L ++ [(⟨ev, (t : Int), 4, wd, ra, rl, rc, wa, wl, wc⟩ : EH)]) n) (RdE.up (can_rd (T := 3) (b := eb) ne_wid)) (fun h => by rw [h] at hEn'; simp at hEn') (by omega)
    rw [← hEl'] at hclo
    obtain ⟨y, hy⟩ : ∃ y, S[t]? = some y := ⟨_, List.getElem?_eq_getElem (by omega)⟩
    repeat' ((try (conv => whnf)); first | (refine when_ye ?_ ?_; exact rfl) | (refine when_ne ?_ ?_; exact rfl) | (refine br_te ?_ ?_; exact rfl) | (refine br_fe ?_ ?_; exact rfl) | (apply br_pyE; (exact rfl); omega) | (apply br_pnE; (exact rfl); omega) | (apply when_pyE; (exact rfl); omega) | (apply when_pnE; (exact rfl); omega) | (apply br_npyE; (exact rfl); omega) | (apply br_npnE; (exact rfl); omega) | (apply when_npyE; (exact rfl); omega) | (apply when_npnE; (exact rfl); omega) | (refine ari ?_ ?_; omega) | (refine aru ?_ ?_; omega) | (apply sel; exact rfl) | (refine ix0 rfl ?_) | (refine ix1 rfl ?_) | (refine ix2 rfl ?_) | (refine ix3 rfl ?_) | (apply ixj; omega) | (refine ixn ?_ ?_; omega) | (refine ixs0 rfl ?_) | (refine ixs1 rfl ?_) | (refine ixs_j ?_ ?_; omega) | (refine ixs_n ?_ ?_; omega) | (apply ld_o; exact rfl) | (apply ldN_a; exact rfl) | (apply ldN_o; (exact rfl); exact rfl) | (apply st_o; (exact rfl); exact rfl) | (apply stN_o; (exact rfl); (exact rfl); exact rfl) | (refine new_i (fun bk hbk => ?_)) | (apply when_dE; (exact rfl); (exact rfl); all_goals intro hc) | (apply when_dF; (exact rfl); (exact rfl); all_goals intro hc) | (apply when_nE; (exact rfl); (exact rfl); all_goals intro hc) | (apply when_nF; (exact rfl); (exact rfl); all_goals intro hc) | (apply br_dE; (exact rfl); all_goals intro hc) | (apply br_nE; (exact rfl); all_goals intro hc) | (refine mm_min ?_) | (refine mm_max ?_) | (refine rem_i ?_ ?_; omega) | (refine SelN.mk ?_) | (refine Both.mk ?_ ?_) | (exact True.intro))
    refine cut_i (σ := Option Addr × Nat × Own × Own) 18884854245460153466880 (fun _ => []) (fun s => (b3, fun o => o = Obj.cells #[.int .i64 ev, .int .i64 t, .int .i64 4, .int .i64 wd, .slice ra rl.length rc, .slice wa wl.length wc] 42) :: (ckO L.length at1 rN (endsR (L ++ [(⟨ev, (t : Int), 4, wd, ra, rl, rc, wa, wl, wc⟩ : EH)]) n) (hisR L n) cb eb sb bb n sc bs B s.2.2.2 (s.2.2.1 ++ X) ++ r0))
      (fun s => BufE encI 3 1 s.1 s.2.1 (endsR (L ++ [(⟨ev, (t : Int), 4, wd, ra, rl, rc, wa, wl, wc⟩ : EH)]) n) s.2.2.1 ∧ BufE encSl 22 1 (some ⟨sb, 0, none⟩) sc (S.set t (s.1, n, s.2.1)) s.2.2.2) rfl ?_ (fun s junk hs => ?_)
    · repeat' ((try (conv => whnf)); first | (refine when_ye ?_ ?_; exact rfl) | (refine when_ne ?_ ?_; exact rfl) | (refine br_te ?_ ?_; exact rfl) | (refine br_fe ?_ ?_; exact rfl) | (apply br_pyE; (exact rfl); omega) | (apply br_pnE; (exact rfl); omega) | (apply when_pyE; (exact rfl); omega) | (apply when_pnE; (exact rfl); omega) | (apply br_npyE; (exact rfl); omega) | (apply br_npnE; (exact rfl); omega) | (apply when_npyE; (exact rfl); omega) | (apply when_npnE; (exact rfl); omega) | (refine stE_i (enc := encSl) (j := t) (k := 0) (a1, n, c1) hS hy ?_ ?_ ?_ ?_ ?_; (exact rfl); (omega); (exact rfl); (exact rfl); (intro D2 hB2)) | ((with_reducible show CallT _ _ _ _ _ _); first | ((refine call_x (hclo _) ?_ ?_ (fun s v hv => ?_); (exact rfl); (exact rfl); (obtain ⟨a1, c1, D1⟩ := s; obtain ⟨rfl, hB1⟩ := hv; dsimp only at hB1)))) | (refine ari ?_ ?_; omega) | (refine aru ?_ ?_; omega) | (apply sel; exact rfl) | (refine ix0 rfl ?_) | (refine ix1 rfl ?_) | (refine ix2 rfl ?_) | (refine ix3 rfl ?_) | (apply ixj; omega) | (refine ixn ?_ ?_; omega) | (refine ixs0 rfl ?_) | (refine ixs1 rfl ?_) | (refine ixs_j ?_ ?_; omega) | (refine ixs_n ?_ ?_; omega) | (apply ld_o; exact rfl) | (apply ldN_a; exact rfl) | (apply ldN_o; (exact rfl); exact rfl) | (apply st_o; (exact rfl); exact rfl) | (apply stN_o; (exact rfl); (exact rfl); exact rfl) | (refine new_i (fun bk hbk => ?_)) | (apply when_dE; (exact rfl); (exact rfl); all_goals intro hc) | (apply when_dF; (exact rfl); (exact rfl); all_goals intro hc) | (apply when_nE; (exact rfl); (exact rfl); all_goals intro hc) | (apply when_nF; (exact rfl); (exact rfl); all_goals intro hc) | (apply br_dE; (exact rfl); all_goals intro hc) | (apply br_nE; (exact rfl); all_goals intro hc) | (refine mm_min ?_) | (refine mm_max ?_) | (refine rem_i ?_ ?_; omega) | (refine SelN.mk ?_) | (refine Both.mk ?_ ?_) | (exact True.intro))
      all_goals exact ⟨(a1, c1, D1, D2), ⟨hB1, hB2⟩, trivial, ent_mv⟩
    · obtain ⟨a1, c1, D1, D2⟩ := s
      obtain ⟨hB1, hB2⟩ := hs
      dsimp only at hB1 hB2 ⊢
      clear hclo hS hy hb hbr hcl
      repeat' ((try (conv => whnf)); first | (refine when_ye ?_ ?_; exact rfl) | (refine when_ne ?_ ?_; exact rfl) | (refine br_te ?_ ?_; exact rfl) | (refine br_fe ?_ ?_; exact rfl) | (apply br_pyE; (exact rfl); omega) | (apply br_pnE; (exact rfl); omega) | (apply when_pyE; (exact rfl); omega) | (apply when_pnE; (exact rfl); omega) | (apply br_npyE; (exact rfl); omega) | (apply br_npnE; (exact rfl); omega) | (apply when_npyE; (exact rfl); omega) | (apply when_npnE; (exact rfl); omega) | (refine new_i (fun b7 hb7 => ?_)) | ((with_reducible show Ld _ _ _ _); first | (refine ldC0 ne_wid hEn' rfl ?_) | (refine ldC1 ne_wid hEn' rfl ?_) | (refine ldC ne_wid hEn' rfl ?_)) | ((with_reducible show IxS _ _ _ _ _); first | ((refine ixC hEn' hEl' ?_ ?_; (first | rfl | omega)))) | ((with_reducible show LdN _ _ _ _ _); first | (refine ldNC ne_wid hEn' rfl ?_)) | (refine ari ?_ ?_; omega) | (refine aru ?_ ?_; omega) | (apply sel; exact rfl) | (refine ix0 rfl ?_) | (refine ix1 rfl ?_) | (refine ix2 rfl ?_) | (refine ix3 rfl ?_) | (apply ixj; omega) | (refine ixn ?_ ?_; omega) | (refine ixs0 rfl ?_) | (refine ixs1 rfl ?_) | (refine ixs_j ?_ ?_; omega) | (refine ixs_n ?_ ?_; omega) | (apply ld_o; exact rfl) | (apply ldN_a; exact rfl) | (apply ldN_o; (exact rfl); exact rfl) | (apply st_o; (exact rfl); exact rfl) | (apply stN_o; (exact rfl); (exact rfl); exact rfl) | (refine new_i (fun bk hbk => ?_)) | (apply when_dE; (exact rfl); (exact rfl); all_goals intro hc) | (apply when_dF; (exact rfl); (exact rfl); all_goals intro hc) | (apply when_nE; (exact rfl); (exact rfl); all_goals intro hc) | (apply when_nF; (exact rfl); (exact rfl); all_goals intro hc) | (apply br_dE; (exact rfl); all_goals intro hc) | (apply br_nE; (exact rfl); all_goals intro hc) | (refine mm_min ?_) | (refine mm_max ?_) | (refine rem_i ?_ ?_; omega) | (refine SelN.mk ?_) | (refine Both.mk ?_ ?_) | (exact True.intro))
      have hz2 : hsS 2 (rl.take 0) t ((L.length : Int), (eCnt L t L.length : Int) + 1) (hisR L n) = hisR L n := hsS_nil
      refine loop_i (σ := Nat) (fun i => [(90, .int .i64 i)]) (fun i => (b7, fun o => o = Obj.cells #[.int .i64 L.length, .int .i64 ((eCnt L t L.length : Int) + 1)] 91) :: (b3, fun o => o = Obj.cells #[.int .i64 ev, .int .i64 t, .int .i64 4, .int .i64 wd, .slice ra rl.length rc, .slice wa wl.length wc] 42) :: (ckO L.length at1 rN (endsR (L ++ [(⟨ev, (t : Int), 4, wd, ra, rl, rc, wa, wl, wc⟩ : EH)]) n) (hsS 2 (rl.take i) t ((L.length : Int), (eCnt L t L.length : Int) + 1) (hisR L n)) cb eb sb bb n sc bs B D2 (D1 ++ X) ++ r0)) (fun i => i ≤ rl.length) (fun i => rl.length - i) 0 (by omega) (by repeat' (first | exact True.intro | refine And.intro ?_ ?_ | exact rfl | exact vi (by omega) | (dsimp only; exact rfl) | (dsimp only; exact vi (by omega)))) (by rw [hz2]; exact Ent.refl) rfl ?_
      intro i junk hi
      by_cases hlt : i < rl.length
      · obtain ⟨x, hx⟩ : ∃ x, rl[i]? = some x := ⟨_, List.getElem?_eq_getElem hlt⟩
        have hxr : 0 ≤ x ∧ x < 64 := of_decide_eq_true (List.all_eq_true.1 hri.1 x (List.mem_of_getElem? hx))
        have hlt' : (i : Int) < rl.length := by omega
        obtain ⟨w, rfl⟩ : ∃ w : Nat, x = w := ⟨x.toNat, by omega⟩
        obtain ⟨C0, hC0, hC1⟩ := accO_at (bs := bs) (H := hsS 2 (rl.take i) t ((L.length : Int), (eCnt L t L.length : Int) + 1) (hisR L n)) (i := 4 * w + 2) (k := 256) (by omega)
        have hC2 := (hC1 ((hsS 2 (rl.take i) t ((L.length : Int), (eCnt L t L.length : Int) + 1) (hisR L n) (4 * w + 2)).set t ((L.length : Int), (eCnt L t L.length : Int) + 1))).trans (hsS_step (by omega))
        have htk : rl.take i ++ [(w : Int)] = rl.take (i + 1) := by rw [List.take_add_one, hx]; rfl
        rw [htk] at hC2
        have hHl : n = (hsS 2 (rl.take i) t ((L.length : Int), (eCnt L t L.length : Int) + 1) (hisR L n) (4 * w + 2)).length := (hsS_len (fun _ => hisR_len)).symm
        obtain ⟨y, hH⟩ : ∃ y, (hsS 2 (rl.take i) t ((L.length : Int), (eCnt L t L.length : Int) + 1) (hisR L n) (4 * w + 2))[t]? = some y := ⟨_, List.getElem?_eq_getElem (by omega)⟩
        haveI : AtC _ _ C0 := ⟨hC0⟩
        have hw64 : w < 64 := by omega
        repeat' ((try (conv => whnf)); first | (refine when_ye ?_ ?_; exact rfl) | (refine when_ne ?_ ?_; exact rfl) | (refine br_te ?_ ?_; exact rfl) | (refine br_fe ?_ ?_; exact rfl) | (apply br_pyE; (exact rfl); omega) | (apply br_pnE; (exact rfl); omega) | (apply when_pyE; (exact rfl); omega) | (apply when_pnE; (exact rfl); omega) | (apply br_npyE; (exact rfl); omega) | (apply br_npnE; (exact rfl); omega) | (apply when_npyE; (exact rfl); omega) | (apply when_npnE; (exact rfl); omega) | (refine br_pyE ?_ hlt' ?_; exact rfl) | (refine br_pnE ?_ hlt' ?_; exact rfl) | (refine when_pyE ?_ hlt' ?_; exact rfl) | (refine when_pnE ?_ hlt' ?_; exact rfl) | (refine br_npyE ?_ hlt' ?_; exact rfl) | (refine br_npnE ?_ hlt' ?_; exact rfl) | (refine when_npyE ?_ hlt' ?_; exact rfl) | (refine when_npnE ?_ hlt' ?_; exact rfl) | (refine ldW hw64 ?_ ?_; (exact rfl)) | (refine ixC hH hHl ?_ ?_; (exact rfl)) | (refine stNC (T := 91) (x := y) ((L.length : Int), (eCnt L t L.length : Int) + 1) ac_wid hH ?_ ?_ ?_ ?_ ?_ ?_; (exact rfl); (exact rfl); (exact rfl); (exact rfl); (exact rfl)) | ((with_reducible show Ld _ _ _ _); first | (refine ldE0 hEr hx rfl ?_) | (refine ldEk hEr hx rfl ?_) | (refine ldE1 hEr hx rfl ?_)) | ((with_reducible show IxS _ _ _ _ _); first | ((refine ixE hEr hx ?_ ?_; (first | rfl | omega)))) | ((with_reducible show LdN _ _ _ _ _); first | (refine ldNEi hEr hx rfl ?_)) | (refine ari ?_ ?_; omega) | (refine aru ?_ ?_; omega) | (apply sel; exact rfl) | (refine ix0 rfl ?_) | (refine ix1 rfl ?_) | (refine ix2 rfl ?_) | (refine ix3 rfl ?_) | (apply ixj; omega) | (refine ixn ?_ ?_; omega) | (refine ixs0 rfl ?_) | (refine ixs1 rfl ?_) | (refine ixs_j ?_ ?_; omega) | (refine ixs_n ?_ ?_; omega) | (apply ld_o; exact rfl) | (apply ldN_a; exact rfl) | (apply ldN_o; (exact rfl); exact rfl) | (apply st_o; (exact rfl); exact rfl) | (apply stN_o; (exact rfl); (exact rfl); exact rfl) | (refine new_i (fun bk hbk => ?_)) | (apply when_dE; (exact rfl); (exact rfl); all_goals intro hc) | (apply when_dF; (exact rfl); (exact rfl); all_goals intro hc) | (apply when_nE; (exact rfl); (exact rfl); all_goals intro hc) | (apply when_nF; (exact rfl); (exact rfl); all_goals intro hc) | (apply br_dE; (exact rfl); all_goals intro hc) | (apply br_nE; (exact rfl); all_goals intro hc) | (refine mm_min ?_) | (refine mm_max ?_) | (refine rem_i ?_ ?_; omega) | (refine SelN.mk ?_) | (refine cut_n ?_) | (refine Both.mk ?_ ?_) | (exact True.intro))
        exact ⟨i + 1, by omega, by omega, (by repeat' (first | exact True.intro | refine And.intro ?_ ?_ | exact rfl | exact vi (by omega) | (dsimp only; exact rfl) | (dsimp only; exact vi (by omega)))), by rw [hC2]; exact Ent.refl⟩
      · have hlt' : ¬ (i : Int) < rl.length := by omega
        have hie : i = rl.length := by omega
        subst hie
        have htl : rl.take rl.length = rl := List.take_length
        rw [htl]
        repeat' ((try (conv => whnf)); first | (refine when_ye ?_ ?_; exact rfl) | (refine when_ne ?_ ?_; exact rfl) | (refine br_te ?_ ?_; exact rfl) | (refine br_fe ?_ ?_; exact rfl) | (apply br_pyE; (exact rfl); omega) | (apply br_pnE; (exact rfl); omega) | (apply when_pyE; (exact rfl); omega) | (apply when_pnE; (exact rfl); omega) | (apply br_npyE; (exact rfl); omega) | (apply br_npnE; (exact rfl); omega) | (apply when_npyE; (exact rfl); omega) | (apply when_npnE; (exact rfl); omega) | (refine br_pyE ?_ hlt' ?_; exact rfl) | (refine br_pnE ?_ hlt' ?_; exact rfl) | (refine when_pyE ?_ hlt' ?_; exact rfl) | (refine when_pnE ?_ hlt' ?_; exact rfl) | (refine br_npyE ?_ hlt' ?_; exact rfl) | (refine br_npnE ?_ hlt' ?_; exact rfl) | (refine when_npyE ?_ hlt' ?_; exact rfl) | (refine when_npnE ?_ hlt' ?_; exact rfl) | (refine ari ?_ ?_; omega) | (refine aru ?_ ?_; omega) | (apply sel; exact rfl) | (refine ix0 rfl ?_) | (refine ix1 rfl ?_) | (refine ix2 rfl ?_) | (refine ix3 rfl ?_) | (apply ixj; omega) | (refine ixn ?_ ?_; omega) | (refine ixs0 rfl ?_) | (refine ixs1 rfl ?_) | (refine ixs_j ?_ ?_; omega) | (refine ixs_n ?_ ?_; omega) | (apply ld_o; exact rfl) | (apply ldN_a; exact rfl) | (apply ldN_o; (exact rfl); exact rfl) | (apply st_o; (exact rfl); exact rfl) | (apply stN_o; (exact rfl); (exact rfl); exact rfl) | (refine new_i (fun bk hbk => ?_)) | (apply when_dE; (exact rfl); (exact rfl); all_goals intro hc) | (apply when_dF; (exact rfl); (exact rfl); all_goals intro hc) | (apply when_nE; (exact rfl); (exact rfl); all_goals intro hc) | (apply when_nF; (exact rfl); (exact rfl); all_goals intro hc) | (apply br_dE; (exact rfl); all_goals intro hc) | (apply br_nE; (exact rfl); all_goals intro hc) | (refine mm_min ?_) | (refine mm_max ?_) | (refine rem_i ?_ ?_; omega) | (refine SelN.mk ?_) | (refine cut_n ?_) | (refine Both.mk ?_ ?_) | (exact True.intro))
        have hz3 : hsS 3 (wl.take 0) t ((L.length : Int), (eCnt L t L.length : Int) + 1) (hsS 2 rl t ((L.length : Int), (eCnt L t L.length : Int) + 1) (hisR L n)) = hsS 2 rl t ((L.length : Int), (eCnt L t L.length : Int) + 1) (hisR L n) := hsS_nil
        refine loop_i (σ := Nat) (fun i => [(109, .int .i64 i)]) (fun i => (b7, fun o => o = Obj.cells #[.int .i64 L.length, .int .i64 ((eCnt L t L.length : Int) + 1)] 91) :: (b3, fun o => o = Obj.cells #[.int .i64 ev, .int .i64 t, .int .i64 4, .int .i64 wd, .slice ra rl.length rc, .slice wa wl.length wc] 42) :: (ckO L.length at1 rN (endsR (L ++ [(⟨ev, (t : Int), 4, wd, ra, rl, rc, wa, wl, wc⟩ : EH)]) n) (hsS 3 (wl.take i) t ((L.length : Int), (eCnt L t L.length : Int) + 1) (hsS 2 rl t ((L.length : Int), (eCnt L t L.length : Int) + 1) (hisR L n))) cb eb sb bb n sc bs B D2 (D1 ++ X) ++ r0)) (fun i => i ≤ wl.length) (fun i => wl.length - i) 0 (by omega) (by repeat' (first | exact True.intro | refine And.intro ?_ ?_ | exact rfl | exact vi (by omega) | (dsimp only; exact rfl) | (dsimp only; exact vi (by omega)))) (by rw [hz3]; exact Ent.refl) rfl ?_
        intro i junk hi
        by_cases hlt : i < wl.length
        · obtain ⟨x, hx⟩ : ∃ x, wl[i]? = some x := ⟨_, List.getElem?_eq_getElem hlt⟩
          have hxr : 0 ≤ x ∧ x < 64 := of_decide_eq_true (List.all_eq_true.1 hri.2 x (List.mem_of_getElem? hx))
          have hlt' : (i : Int) < wl.length := by omega
          obtain ⟨w, rfl⟩ : ∃ w : Nat, x = w := ⟨x.toNat, by omega⟩
          obtain ⟨C0, hC0, hC1⟩ := accO_at (bs := bs) (H := hsS 3 (wl.take i) t ((L.length : Int), (eCnt L t L.length : Int) + 1) (hsS 2 rl t ((L.length : Int), (eCnt L t L.length : Int) + 1) (hisR L n))) (i := 4 * w + 3) (k := 256) (by omega)
          have hC2 := (hC1 ((hsS 3 (wl.take i) t ((L.length : Int), (eCnt L t L.length : Int) + 1) (hsS 2 rl t ((L.length : Int), (eCnt L t L.length : Int) + 1) (hisR L n)) (4 * w + 3)).set t ((L.length : Int), (eCnt L t L.length : Int) + 1))).trans (hsS_step (by omega))
          have htk : wl.take i ++ [(w : Int)] = wl.take (i + 1) := by rw [List.take_add_one, hx]; rfl
          rw [htk] at hC2
          have hHl : n = (hsS 3 (wl.take i) t ((L.length : Int), (eCnt L t L.length : Int) + 1) (hsS 2 rl t ((L.length : Int), (eCnt L t L.length : Int) + 1) (hisR L n)) (4 * w + 3)).length := (hsS_len (fun _ => hsS_len (fun _ => hisR_len))).symm
          obtain ⟨y, hH⟩ : ∃ y, (hsS 3 (wl.take i) t ((L.length : Int), (eCnt L t L.length : Int) + 1) (hsS 2 rl t ((L.length : Int), (eCnt L t L.length : Int) + 1) (hisR L n)) (4 * w + 3))[t]? = some y := ⟨_, List.getElem?_eq_getElem (by omega)⟩
          haveI : AtC _ _ C0 := ⟨hC0⟩
          have hw64 : w < 64 := by omega
          repeat' ((try (conv => whnf)); first | (refine when_ye ?_ ?_; exact rfl) | (refine when_ne ?_ ?_; exact rfl) | (refine br_te ?_ ?_; exact rfl) | (refine br_fe ?_ ?_; exact rfl) | (apply br_pyE; (exact rfl); omega) | (apply br_pnE; (exact rfl); omega) | (apply when_pyE; (exact rfl); omega) | (apply when_pnE; (exact rfl); omega) | (apply br_npyE; (exact rfl); omega) | (apply br_npnE; (exact rfl); omega) | (apply when_npyE; (exact rfl); omega) | (apply when_npnE; (exact rfl); omega) | (refine br_pyE ?_ hlt' ?_; exact rfl) | (refine br_pnE ?_ hlt' ?_; exact rfl) | (refine when_pyE ?_ hlt' ?_; exact rfl) | (refine when_pnE ?_ hlt' ?_; exact rfl) | (refine br_npyE ?_ hlt' ?_; exact rfl) | (refine br_npnE ?_ hlt' ?_; exact rfl) | (refine when_npyE ?_ hlt' ?_; exact rfl) | (refine when_npnE ?_ hlt' ?_; exact rfl) | (refine ldW hw64 ?_ ?_; (exact rfl)) | (refine ixC hH hHl ?_ ?_; (exact rfl)) | (refine stNC (T := 91) (x := y) ((L.length : Int), (eCnt L t L.length : Int) + 1) ac_wid hH ?_ ?_ ?_ ?_ ?_ ?_; (exact rfl); (exact rfl); (exact rfl); (exact rfl); (exact rfl)) | ((with_reducible show Ld _ _ _ _); first | (refine ldE0 hEw hx rfl ?_) | (refine ldEk hEw hx rfl ?_) | (refine ldE1 hEw hx rfl ?_)) | ((with_reducible show IxS _ _ _ _ _); first | ((refine ixE hEw hx ?_ ?_; (first | rfl | omega)))) | ((with_reducible show LdN _ _ _ _ _); first | (refine ldNEi hEw hx rfl ?_)) | (refine ari ?_ ?_; omega) | (refine aru ?_ ?_; omega) | (apply sel; exact rfl) | (refine ix0 rfl ?_) | (refine ix1 rfl ?_) | (refine ix2 rfl ?_) | (refine ix3 rfl ?_) | (apply ixj; omega) | (refine ixn ?_ ?_; omega) | (refine ixs0 rfl ?_) | (refine ixs1 rfl ?_) | (refine ixs_j ?_ ?_; omega) | (refine ixs_n ?_ ?_; omega) | (apply ld_o; exact rfl) | (apply ldN_a; exact rfl) | (apply ldN_o; (exact rfl); exact rfl) | (apply st_o; (exact rfl); exact rfl) | (apply stN_o; (exact rfl); (exact rfl); exact rfl) | (refine new_i (fun bk hbk => ?_)) | (apply when_dE; (exact rfl); (exact rfl); all_goals intro hc) | (apply when_dF; (exact rfl); (exact rfl); all_goals intro hc) | (apply when_nE; (exact rfl); (exact rfl); all_goals intro hc) | (apply when_nF; (exact rfl); (exact rfl); all_goals intro hc) | (apply br_dE; (exact rfl); all_goals intro hc) | (apply br_nE; (exact rfl); all_goals intro hc) | (refine mm_min ?_) | (refine mm_max ?_) | (refine rem_i ?_ ?_; omega) | (refine SelN.mk ?_) | (refine cut_n ?_) | (refine Both.mk ?_ ?_) | (exact True.intro))
          exact ⟨i + 1, by omega, by omega, (by repeat' (first | exact True.intro | refine And.intro ?_ ?_ | exact rfl | exact vi (by omega) | (dsimp only; exact rfl) | (dsimp only; exact vi (by omega)))), by rw [hC2]; exact Ent.refl⟩
        · have hlt' : ¬ (i : Int) < wl.length := by omega
          have hie : i = wl.length := by omega
          subst hie
          have htl : wl.take wl.length = wl := List.take_length
          rw [htl]
          repeat' ((try (conv => whnf)); first | (refine when_ye ?_ ?_; exact rfl) | (refine when_ne ?_ ?_; exact rfl) | (refine br_te ?_ ?_; exact rfl) | (refine br_fe ?_ ?_; exact rfl) | (apply br_pyE; (exact rfl); omega) | (apply br_pnE; (exact rfl); omega) | (apply when_pyE; (exact rfl); omega) | (apply when_pnE; (exact rfl); omega) | (apply br_npyE; (exact rfl); omega) | (apply br_npnE; (exact rfl); omega) | (apply when_npyE; (exact rfl); omega) | (apply when_npnE; (exact rfl); omega) | (refine br_pyE ?_ hlt' ?_; exact rfl) | (refine br_pnE ?_ hlt' ?_; exact rfl) | (refine when_pyE ?_ hlt' ?_; exact rfl) | (refine when_pnE ?_ hlt' ?_; exact rfl) | (refine br_npyE ?_ hlt' ?_; exact rfl) | (refine br_npnE ?_ hlt' ?_; exact rfl) | (refine when_npyE ?_ hlt' ?_; exact rfl) | (refine when_npnE ?_ hlt' ?_; exact rfl) | (refine ari ?_ ?_; omega) | (refine aru ?_ ?_; omega) | (apply sel; exact rfl) | (refine ix0 rfl ?_) | (refine ix1 rfl ?_) | (refine ix2 rfl ?_) | (refine ix3 rfl ?_) | (apply ixj; omega) | (refine ixn ?_ ?_; omega) | (refine ixs0 rfl ?_) | (refine ixs1 rfl ?_) | (refine ixs_j ?_ ?_; omega) | (refine ixs_n ?_ ?_; omega) | (apply ld_o; exact rfl) | (apply ldN_a; exact rfl) | (apply ldN_o; (exact rfl); exact rfl) | (apply st_o; (exact rfl); exact rfl) | (apply stN_o; (exact rfl); (exact rfl); exact rfl) | (refine new_i (fun bk hbk => ?_)) | (apply when_dE; (exact rfl); (exact rfl); all_goals intro hc) | (apply when_dF; (exact rfl); (exact rfl); all_goals intro hc) | (apply when_nE; (exact rfl); (exact rfl); all_goals intro hc) | (apply when_nF; (exact rfl); (exact rfl); all_goals intro hc) | (apply br_dE; (exact rfl); all_goals intro hc) | (apply br_nE; (exact rfl); all_goals intro hc) | (refine mm_min ?_) | (refine mm_max ?_) | (refine rem_i ?_ ?_; omega) | (refine SelN.mk ?_) | (refine cut_n ?_) | (refine Both.mk ?_ ?_) | (exact True.intro))
          exact ⟨(a1, c1, D1, D2), ⟨rfl, hB1, hB2⟩, by unfold ckO; rw [hacc]; exact Ent.drop.trans Ent.drop⟩
end
end Go.Proofs.YtofjnldidkiihaaDoor
namespace Go.Proofs.YtofjnldidkiihaaDoor
open Go
set_option maxRecDepth 10000
set_option maxHeartbeats 8000000
theorem set_get {α : Type} {l : List α} {t u : Nat} {x : α} (ht : t < l.length) : (l.set t x)[u]? = if u = t then some x else l[u]? := by
  rw [List.getElem?_set]
  by_cases h : u = t
  · subst h; rw [if_pos rfl, if_pos rfl, if_pos ht]
  · rw [if_neg (fun x => h x.symm), if_neg h]
section
variable {W0 : World} {r0 : Own} {n t : Nat} {L : List EH} {e : EH}
/-- The state behind an event. -/
theorem CkM.next {s s' : CkB} (h : CkM W0 n L s) (hw : WF0 (L ++ [e]) n) (ht : e.t = t) (htn : t < n) (hS : BufE encSl 22 1 (some ⟨s'.sb, 0, none⟩) s'.sc s'.S s'.D) [EntC s'.X s.X]
    (hSe : (e.k ≠ 4 ∧ s'.S = s.S) ∨ (e.k = 4 ∧ ∃ a c, s'.S = s.S.set t (a, n, c) ∧ RdE encI 1 W0 s'.X a (endsR (L ++ [e]) n)))
    (hBe : (e.k ≠ 3 ∧ s'.B = s.B.set t (none, 0, 0)) ∨ (e.k = 3 ∧ ∃ a c, s'.B = s.B.set t (some a, n, c) ∧ RdE encI 1 W0 s'.X (some a) (endsR L n))) : CkM W0 n (L ++ [e]) s' := by
  have htS : t < s.S.length := by rw [h.sl]; exact htn
  have htB : t < s.B.length := by rw [h.bl]; exact htn
  have hlk : ∀ u : Nat, lkL (L ++ [e]) u (L ++ [e]).length = if u = t then e.k else lkL L u L.length := fun u => by
    rw [len1, lkL_end, ht]
    by_cases hu : u = t
    · rw [if_pos (by omega), if_pos hu]
    · rw [if_neg (by omega), if_neg hu]
  refine ⟨hw, hS, ?_, ?_, fun u hu => ?_, fun u hu h3 => ?_, fun u hu h3 => ?_⟩
  · rcases hSe with ⟨_, h1⟩ | ⟨_, a, c, h1, _⟩ <;> rw [h1]
    · exact h.sl
    · rw [List.length_set]; exact h.sl
  · rcases hBe with ⟨_, h1⟩ | ⟨_, a, c, h1, _⟩ <;> rw [h1, List.length_set] <;> exact h.bl
  · obtain ⟨a0, c0, hx, hr⟩ := h.sr u hu
    rcases hSe with ⟨h4, h1⟩ | ⟨h4, a, c, h1, h2⟩
    · rw [h1, seenR_same (.inl h4)]
      exact ⟨a0, c0, hx, hr.up⟩
    · rw [h1, set_get htS]
      by_cases hut : u = t
      · rw [if_pos hut, hut, ← ht, seenR_end h4]
        exact ⟨a, c, rfl, h2⟩
      · rw [if_neg hut, seenR_same (.inr (by omega))]
        exact ⟨a0, c0, hx, hr.up⟩
  · rw [hlk] at h3
    rcases hBe with ⟨h4, h1⟩ | ⟨h4, a, c, h1, h2⟩
    · rw [h1, set_get htB]
      by_cases hut : u = t
      · rw [if_pos hut] at h3; exact absurd h3 h4
      · rw [if_neg hut] at h3 ⊢
        obtain ⟨a0, c0, hx, hr⟩ := h.b3 u hu h3
        rw [begR_same (by omega)]
        exact ⟨a0, c0, hx, hr.up⟩
    · rw [h1, set_get htB]
      by_cases hut : u = t
      · rw [if_pos hut, hut, ← ht, begR_begin]
        exact ⟨a, c, rfl, h2⟩
      · rw [if_neg hut] at h3 ⊢
        obtain ⟨a0, c0, hx, hr⟩ := h.b3 u hu h3
        rw [begR_same (by omega)]
        exact ⟨a0, c0, hx, hr.up⟩
  · rw [hlk] at h3
    rcases hBe with ⟨h4, h1⟩ | ⟨h4, a, c, h1, h2⟩
    · rw [h1, set_get htB]
      by_cases hut : u = t
      · rw [if_pos hut]
      · rw [if_neg hut] at h3 ⊢
        exact h.b0 u hu h3
    · rw [h1, set_get htB]
      by_cases hut : u = t
      · rw [if_pos hut] at h3; exact absurd h4 h3
      · rw [if_neg hut] at h3 ⊢
        exact h.b0 u hu h3
theorem buf_some {α : Type} {enc : α → List Value} {T : TypeId} {sz cap : Nat} {a : Option Addr} {l : List α} {D : Own} (h : BufE enc T sz a cap l D) (hne : l ≠ []) : ∃ a', a = some a' := by
  rcases h.how with ⟨h, _, _⟩ | ⟨b, _, h, _⟩
  · exact absurd h hne
  · exact ⟨_, h⟩
theorem EvR.ent' {own own' : Own} (h : EvR W0 own' e) (k : Ent W0 own own') : EvR W0 own e := ⟨h.r.ent k, h.w.ent k, h.rb, h.wb⟩
/-- Does an event fit, at a state. -/
theorem st_fits {own : Own} {s : CkB} (hM : CkM W0 n L s) (hE : EvR W0 r0 e) [i1 : EntC own [ckN L.length (paAt L L.length) s.cb s.eb s.sb s.bb n s.sc s.bs (frst L)]] [i2 : EntC own [canE encSl 22 s.bb s.B]] [i3 : EntC own r0] :
    Pure Tryd.prog W0 43 [.pointer (some ⟨s.cb, 0, none⟩), e.v] own (.bool (fitsM n (L.length == 0) (paAt L L.length) (lkL L e.t L.length) e)) := by
  have h0 : Cl W0 own s.cb 0 (.int .i64 L.length) := Kn.ent (cl_of (List.mem_singleton.2 rfl) rfl) (i1.h W0)
  have h1 : Cl W0 own s.cb 1 (.int .i64 (paAt L L.length)) := Kn.ent (cl_of (List.mem_singleton.2 rfl) rfl) (i1.h W0)
  have h2 : Cl W0 own s.cb 2 (.slice (some ⟨s.eb, 0, none⟩) n n) := Kn.ent (cl_of (List.mem_singleton.2 rfl) rfl) (i1.h W0)
  have h4 : Cl W0 own s.cb 4 (.slice (some ⟨s.bb, 0, none⟩) n n) := Kn.ent (cl_of (List.mem_singleton.2 rfl) rfl) (i1.h W0)
  have hB : RdE encSl 1 W0 own (some ⟨s.bb, 0, none⟩) s.B := (can_rd (T := 22) (b := s.bb) sl_wid).ent (i2.h W0)
  have hbl := hM.bl
  rw [← hbl] at h4
  have := sp_tfits (e := e) (last := lkL L (e.t.toNat : Int) L.length) (hE.ent' (i3.h W0)) h0 h1 h2 (by rwa [hbl] at h4 ⊢) hB hbl (by omega) (fun x hx => by
    have hlt := (List.getElem?_eq_some_iff.1 hx).1
    rw [hbl] at hlt
    by_cases h3 : lkL L (e.t.toNat : Int) L.length = 3
    · obtain ⟨a, c, hb, _⟩ := hM.b3 _ hlt h3
      rw [hb] at hx
      rw [← Option.some.inj hx]
      exact ⟨fun _ => h3, fun _ => Option.some_ne_none _⟩
    · have hb := hM.b0 _ hlt h3
      rw [hb] at hx
      rw [← Option.some.inj hx]
      exact ⟨fun h => absurd rfl h, fun h => absurd h h3⟩)
  have e1 : ((L.length : Int) == 0) = (L.length == 0) := by
    rw [Bool.eq_iff_iff]
    simp
  have e2 : fitsM n (L.length == 0) (paAt L L.length) (lkL L (e.t.toNat : Int) L.length) e = fitsM n (L.length == 0) (paAt L L.length) (lkL L e.t L.length) e := by
    by_cases h : 0 ≤ e.t
    · rw [Int.toNat_of_nonneg h]
    · unfold fitsM
      rw [decide_eq_false (fun x => h x.1)]
      rfl
  rw [e1, e2] at this
  exact this
theorem ent_mv2 {D1 X A D : Own} {e0 e1 e2 e3 e4 : Nat × (Obj → Prop)} : Ent W0 (D1 ++ (e0 :: e1 :: ((e2 :: e3 :: e4 :: (D ++ (A ++ X))) ++ r0))) (e0 :: e1 :: ((e2 :: e3 :: e4 :: (D ++ (A ++ (D1 ++ X)))) ++ r0)) := by
  refine Ent.of_perm ?_
  have h : (D1 ++ (e0 :: e1 :: e2 :: e3 :: e4 :: (D ++ (A ++ (X ++ r0))))).Perm (e0 :: e1 :: e2 :: e3 :: e4 :: (D ++ (A ++ (D1 ++ (X ++ r0))))) := by
    have h1 : ∀ (P Q : Own), (D1 ++ (P ++ Q)).Perm (P ++ (D1 ++ Q)) := fun P Q => by
      rw [← List.append_assoc, ← List.append_assoc]
      exact List.perm_append_comm.append_right Q
    have h2 := h1 [e0, e1, e2, e3, e4] (D ++ (A ++ (X ++ r0)))
    exact h2.trans (List.Perm.append_left [e0, e1, e2, e3, e4] ((h1 D _).trans (List.Perm.append_left D (h1 A _))))
  simpa using h
/-- Add refuses. -/
theorem sp_tadd_no {own : Own} {s : CkB} (hN : LaidAt W0 0 noneV) (hM : CkM W0 n L s) (hE : EvR W0 r0 e) [i1 : EntC own [ckN L.length (paAt L L.length) s.cb s.eb s.sb s.bb n s.sc s.bs (frst L)]] [i2 : EntC own [canE encSl 22 s.bb s.B]] [i3 : EntC own r0]
    (hf : fitsM n (L.length == 0) (paAt L L.length) (lkL L e.t L.length) e = false) (hl : L.length < 65536) :
    Pure Tryd.prog W0 26 [.pointer (some ⟨s.cb, 0, none⟩), e.v] own (.tuple #[.agg noneV.toArray, .int .i64 91]) := by
  refine pure_of (spec_of mixed lowc_tdrf_Checker_Add (by simp [irc_tdrf_Checker_Add]) ?_)
  have hft := fun (own' : Own) (j1 : EntC own' [ckN L.length (paAt L L.length) s.cb s.eb s.sb s.bb n s.sc s.bs (frst L)]) (j2 : EntC own' [canE encSl 22 s.bb s.B]) (j3 : EntC own' r0) => st_fits (own := own') hM hE
  rw [hf] at hft
  have h0 : Cl W0 own s.cb 0 (.int .i64 L.length) := Kn.ent (cl_of (List.mem_singleton.2 rfl) rfl) (i1.h W0)
  have hl' : ¬ (L.length : Int) = 65536 := by omega
  obtain ⟨ev, tt, k, wd, ra, rl, rc, wa, wl, wc⟩ := e
  dsimp only [EH.v] at *
  repeat' ((try (conv => whnf)); first | (refine when_ye ?_ ?_; exact rfl) | (refine when_ne ?_ ?_; exact rfl) | (refine br_te ?_ ?_; exact rfl) | (refine br_fe ?_ ?_; exact rfl) | (apply br_pyE; (exact rfl); omega) | (apply br_pnE; (exact rfl); omega) | (apply when_pyE; (exact rfl); omega) | (apply when_pnE; (exact rfl); omega) | (apply br_npyE; (exact rfl); omega) | (apply br_npnE; (exact rfl); omega) | (apply when_npyE; (exact rfl); omega) | (apply when_npnE; (exact rfl); omega) | (refine br_pyE ?_ hl' ?_; exact rfl) | (refine br_pnE ?_ hl' ?_; exact rfl) | (refine when_pyE ?_ hl' ?_; exact rfl) | (refine when_pnE ?_ hl' ?_; exact rfl) | (refine br_npyE ?_ hl' ?_; exact rfl) | (refine br_npnE ?_ hl' ?_; exact rfl) | (refine when_npyE ?_ hl' ?_; exact rfl) | (refine when_npnE ?_ hl' ?_; exact rfl) | (refine ldN_laid hN _ rfl rfl ?_) | ((with_reducible show Ld _ _ _ _); first | (refine ldK h0 ?_)) | ((with_reducible show CallT _ _ _ _ _ _); first | ((refine call_pe (hft _ inferInstance inferInstance inferInstance) ?_ ?_ ?_; (exact rfl); exact rfl))) | (refine ari ?_ ?_; omega) | (refine aru ?_ ?_; omega) | (apply sel; exact rfl) | (refine ix0 rfl ?_) | (refine ix1 rfl ?_) | (refine ix2 rfl ?_) | (refine ix3 rfl ?_) | (apply ixj; omega) | (refine ixn ?_ ?_; omega) | (refine ixs0 rfl ?_) | (refine ixs1 rfl ?_) | (refine ixs_j ?_ ?_; omega) | (refine ixs_n ?_ ?_; omega) | (apply ld_o; exact rfl) | (apply ldN_a; exact rfl) | (apply ldN_o; (exact rfl); exact rfl) | (apply st_o; (exact rfl); exact rfl) | (apply stN_o; (exact rfl); (exact rfl); exact rfl) | (refine new_i (fun bk hbk => ?_)) | (apply when_dE; (exact rfl); (exact rfl); all_goals intro hc) | (apply when_dF; (exact rfl); (exact rfl); all_goals intro hc) | (apply when_nE; (exact rfl); (exact rfl); all_goals intro hc) | (apply when_nF; (exact rfl); (exact rfl); all_goals intro hc) | (apply br_dE; (exact rfl); all_goals intro hc) | (apply br_nE; (exact rfl); all_goals intro hc) | (refine mm_min ?_) | (refine mm_max ?_) | (refine rem_i ?_ ?_; omega) | (refine SelN.mk ?_) | (refine Both.mk ?_ ?_) | (exact True.intro))
  exact ⟨rfl, (by first | exact ent_i | (repeat (first | exact Ent.refl | exact Ent.left | refine Ent.cons ?_ | refine Ent.app ?_)))⟩
theorem spec_front {P : Program} {σ : Type} {k : FuncId} {args : List Value} {A D r : Own} {R : σ → Value → Prop} {O : σ → Own} (h : Spec P W0 k args (D ++ (A ++ r)) fun v own' => ∃ s, R s v ∧ Ent W0 own' (O s ++ (A ++ r))) : Spec P W0 k args (A ++ (D ++ r)) fun v own' => ∃ s, R s v ∧ Ent W0 own' (A ++ (O s ++ r)) := by
  have hp : ∀ D : Own, (A ++ (D ++ r)).Perm (D ++ (A ++ r)) := fun D => by
    rw [← List.append_assoc, ← List.append_assoc]
    exact List.perm_append_comm.append_right r
  intro w hw
  exact (h w (Ent.of_perm (hp D) w hw)).mono fun _ _ ⟨v, o, a, b, s, c, d⟩ => ⟨v, o, a, b, s, c, d.trans (Ent.of_perm (hp _).symm)⟩
theorem spec_unit {P : Program} {k : FuncId} {args : List Value} {own : Own} {v0 : Value} {O : Own} (h : Spec P W0 k args own fun v own' => v = v0 ∧ Ent W0 own' O) : Spec P W0 k args own fun v own' => ∃ _ : Unit, v = v0 ∧ Ent W0 own' O := fun w hw =>
  (h w hw).mono fun _ _ ⟨v, o, a, b, c, d⟩ => ⟨v, o, a, b, (), c, d⟩
/-- Add accepts. -/
theorem sp_tadd {s : CkB} (hN : LaidAt W0 0 noneV) (hM : CkM W0 n L s) (hE : EvR W0 r0 e) (hf : fitsM n (L.length == 0) (paAt L L.length) (lkL L e.t L.length) e = true) (hl : L.length < 65536) :
    Spec Tryd.prog W0 26 [.pointer (some ⟨s.cb, 0, none⟩), e.v] (s.O L n ++ r0) fun v own' => ∃ s' : CkB, (v = .tuple #[.agg (encRc (frst (L ++ [e]))).toArray, .int .i64 0] ∧ s'.cb = s.cb ∧ CkM W0 n (L ++ [e]) s') ∧ Ent W0 own' (s'.O (L ++ [e]) n ++ r0) := by
  refine spec_of mixed lowc_tdrf_Checker_Add (by simp [irc_tdrf_Checker_Add]) ?_
  have hft := fun (own' : Own) (j1 : EntC own' [ckN L.length (paAt L L.length) s.cb s.eb s.sb s.bb n s.sc s.bs (frst L)]) (j2 : EntC own' [canE encSl 22 s.bb s.B]) (j3 : EntC own' r0) => st_fits (own := own') hM hE
  rw [hf] at hft
  have hl' : ¬ (L.length : Int) = 65536 := by omega
  have hwf := hM.wf.snoc (by omega) hf
  have hw := hwf.wf
  have hw0 := hM.wf.wf
  have hn16 := hwf.2.1
  have hkd := hw.kd L.length (by simp)
  unfold thr knd at hkd
  rw [at_end] at hkd
  obtain ⟨k1, k2, k3, k4, k5, _⟩ := hkd
  have hfk : e.k = 4 → lkL L e.t L.length = 3 := fun h4 => by
    unfold fitsM at hf
    rw [if_pos h4] at hf
    simp only [Bool.and_eq_true, decide_eq_true_eq] at hf
    exact hf.2
  clear hf
  have hpa := paAt_end (l := L) (e := e)
  rw [← len1 (l := L) (e := e)] at hpa
  have hln : ((L ++ [e]).length : Int) = (L.length : Int) + 1 := by rw [len1]; omega
  have hw64 := of_decide_eq_true k5
  obtain ⟨t, ht⟩ : ∃ t : Nat, e.t = t := ⟨e.t.toNat, by omega⟩
  obtain ⟨w, hwd⟩ : ∃ w : Nat, e.w = w := ⟨e.w.toNat, by omega⟩
  have htn : t < n := by omega
  obtain ⟨xa, xc, hx, hxr⟩ := hM.sr t htn
  have hpl := fun (hk : e.k = 1 ∨ e.k = 2) (R : Own) => sp_tplain (W0 := W0) (r0 := R) (at1 := paAt L L.length) (cb := s.cb) (eb := s.eb) (bb := s.bb) (sc := s.sc) (bs := s.bs) (B := s.B) (X := s.X) hw hw0 hk ht htn hwd (by omega) (by omega) (by omega) hN hM.sB.rd hx hxr
  have hnx := fun (s' : CkB) => hM.next (s' := s') hwf ht htn
  have hpl0 := fun (hk : e.k ≠ 4) => endsR_same (l := L) (n := n) hk
  have hbg := fun (hk : e.k = 3) => begin_frst hw hw0 hk
  have hbh := fun (hk : e.k = 3) => accO_congr (bs := s.bs) (H := hisR (L ++ [e]) n) (k := 256) fun j _ => ⟨rfl, hisR_begin (L := L) (n := n) (j := j) hk⟩
  have hEl : n = (endsR L n).length := rowG_len.symm
  have hEn : (endsR L n)[t]? = some (eCnt L t L.length : Int) := rowG_get htn
  have hclo := fun (own' : Own) [EntC own' [canE encI 3 s.eb (endsR L n)]] => sp_clone (W0 := W0) (own := own') (cap := n) (l := endsR L n) (RdE.up (can_rd (T := 3) (b := s.eb) ne_wid)) (fun h => by rw [h] at hEn; simp at hEn) (by omega)
  rw [← hEl] at hclo
  have hEne : endsR L n ≠ [] := fun h => by rw [h] at hEn; simp at hEn
  have hbl := hM.bl.symm
  obtain ⟨y, hy⟩ : ∃ y, s.B[t]? = some y := ⟨_, List.getElem?_eq_getElem (by omega)⟩
  have hen := fun (hk : e.k = 4) => hM.b3 t htn (by rw [← ht]; exact hfk hk)
  have hend := fun (hk : e.k = 4) (a : Addr) (c : Nat) (R : Own) (hER : EvR W0 R e) (hb : s.B[t]? = some (some a, n, c)) (hbr : RdE encI 1 W0 s.X (some a) (begR L n t)) => sp_tend (W0 := W0) (r0 := R) (at1 := paAt L L.length) (cb := s.cb) (eb := s.eb) (sb := s.sb) (bb := s.bb) (sc := s.sc) (bs := s.bs) (B := s.B) (X := s.X) hw hw0 hk ht htn (by omega) (by omega) hER hN hM.sB hM.sl.symm hbl hb hbr
  have hER : ∀ (R : Own) [EntC R r0], EvR W0 R e := fun R _ => hE.up
  have hR5 : ∀ (a : Option Addr) (c : Nat) (D1 : Own), BufE encI 3 1 a c (endsR (L ++ [e]) n) D1 → RdE encI 1 W0 (D1 ++ s.X) a (endsR (L ++ [e]) n) := fun a c D1 h => h.rd.up
  have hR6 : ∀ (a : Option Addr) (c : Nat) (D1 : Own), BufE encI 3 1 a c (endsR L n) D1 → RdE encI 1 W0 (D1 ++ s.X) a (endsR L n) := fun a c D1 h => h.rd.up
  obtain ⟨ev, tt, k, wd, ra, rl, rc, wa, wl, wc⟩ := e
  dsimp only [EH.v] at *
  subst ht hwd
  repeat' ((try (conv => whnf)); first | (refine when_ye ?_ ?_; exact rfl) | (refine when_ne ?_ ?_; exact rfl) | (refine br_te ?_ ?_; exact rfl) | (refine br_fe ?_ ?_; exact rfl) | (apply br_pyE; (exact rfl); omega) | (apply br_pnE; (exact rfl); omega) | (apply when_pyE; (exact rfl); omega) | (apply when_pnE; (exact rfl); omega) | (apply br_npyE; (exact rfl); omega) | (apply br_npnE; (exact rfl); omega) | (apply when_npyE; (exact rfl); omega) | (apply when_npnE; (exact rfl); omega) | (refine new_i (fun b3 hb3 => ?_); (apply Stop.h)) | (refine ari ?_ ?_; omega) | (refine aru ?_ ?_; omega) | (apply sel; exact rfl) | (refine ix0 rfl ?_) | (refine ix1 rfl ?_) | (refine ix2 rfl ?_) | (refine ix3 rfl ?_) | (apply ixj; omega) | (refine ixn ?_ ?_; omega) | (refine ixs0 rfl ?_) | (refine ixs1 rfl ?_) | (refine ixs_j ?_ ?_; omega) | (refine ixs_n ?_ ?_; omega) | (apply ld_o; exact rfl) | (apply ldN_a; exact rfl) | (apply ldN_o; (exact rfl); exact rfl) | (apply st_o; (exact rfl); exact rfl) | (apply stN_o; (exact rfl); (exact rfl); exact rfl) | (refine new_i (fun bk hbk => ?_)) | (apply when_dE; (exact rfl); (exact rfl); all_goals intro hc) | (apply when_dF; (exact rfl); (exact rfl); all_goals intro hc) | (apply when_nE; (exact rfl); (exact rfl); all_goals intro hc) | (apply when_nF; (exact rfl); (exact rfl); all_goals intro hc) | (apply br_dE; (exact rfl); all_goals intro hc) | (apply br_nE; (exact rfl); all_goals intro hc) | (refine mm_min ?_) | (refine mm_max ?_) | (refine rem_i ?_ ?_; omega) | (refine SelN.mk ?_) | (refine Both.mk ?_ ?_) | (exact True.intro))
  refine Stop.mk ?_
  repeat' ((try (conv => whnf)); first | (refine when_ye ?_ ?_; exact rfl) | (refine when_ne ?_ ?_; exact rfl) | (refine br_te ?_ ?_; exact rfl) | (refine br_fe ?_ ?_; exact rfl) | (apply br_pyE; (exact rfl); omega) | (apply br_pnE; (exact rfl); omega) | (apply when_pyE; (exact rfl); omega) | (apply when_pnE; (exact rfl); omega) | (apply br_npyE; (exact rfl); omega) | (apply br_npnE; (exact rfl); omega) | (apply when_npyE; (exact rfl); omega) | (apply when_npnE; (exact rfl); omega) | (refine new_i (fun b4 hb4 => ?_)) | (refine br_pyE ?_ hl' ?_; exact rfl) | (refine br_pnE ?_ hl' ?_; exact rfl) | (refine when_pyE ?_ hl' ?_; exact rfl) | (refine when_pnE ?_ hl' ?_; exact rfl) | (refine br_npyE ?_ hl' ?_; exact rfl) | (refine br_npnE ?_ hl' ?_; exact rfl) | (refine when_npyE ?_ hl' ?_; exact rfl) | (refine when_npnE ?_ hl' ?_; exact rfl) | ((with_reducible show CallT _ _ _ _ _ _); first | ((refine call_pe (hft _ inferInstance inferInstance inferInstance) ?_ ?_ ?_; (exact rfl); exact rfl))) | (refine ari ?_ ?_; omega) | (refine aru ?_ ?_; omega) | (apply sel; exact rfl) | (refine ix0 rfl ?_) | (refine ix1 rfl ?_) | (refine ix2 rfl ?_) | (refine ix3 rfl ?_) | (apply ixj; omega) | (refine ixn ?_ ?_; omega) | (refine ixs0 rfl ?_) | (refine ixs1 rfl ?_) | (refine ixs_j ?_ ?_; omega) | (refine ixs_n ?_ ?_; omega) | (apply ld_o; exact rfl) | (apply ldN_a; exact rfl) | (apply ldN_o; (exact rfl); exact rfl) | (apply st_o; (exact rfl); exact rfl) | (apply stN_o; (exact rfl); (exact rfl); exact rfl) | (refine new_i (fun bk hbk => ?_)) | (apply when_dE; (exact rfl); (exact rfl); all_goals intro hc) | (apply when_dF; (exact rfl); (exact rfl); all_goals intro hc) | (apply when_nE; (exact rfl); (exact rfl); all_goals intro hc) | (apply when_nF; (exact rfl); (exact rfl); all_goals intro hc) | (apply br_dE; (exact rfl); all_goals intro hc) | (apply br_nE; (exact rfl); all_goals intro hc) | (refine mm_min ?_) | (refine mm_max ?_) | (refine rem_i ?_ ?_; omega) | (refine SelN.mk ?_) | (refine Both.mk ?_ ?_) | (exact True.intro))
  refine cut_i (σ := CkB) 2305843009205305344 (fun _ => []) (fun s' => (b4, fun o => o = Obj.cells #[.int .i64 0, .int .i64 0, .int .i64 0] 28) :: (b3, fun o => o = Obj.cells #[.int .i64 ev, .int .i64 t, .int .i64 k, .int .i64 w, .slice ra rl.length rc, .slice wa wl.length wc] 42) :: (ckO L.length (paAt L L.length) (frst (L ++ [(⟨ev, (t : Int), k, (w : Int), ra, rl, rc, wa, wl, wc⟩ : EH)])) (endsR (L ++ [(⟨ev, (t : Int), k, (w : Int), ra, rl, rc, wa, wl, wc⟩ : EH)]) n) (hisR (L ++ [(⟨ev, (t : Int), k, (w : Int), ra, rl, rc, wa, wl, wc⟩ : EH)]) n) s'.cb s'.eb s'.sb s'.bb n s'.sc s'.bs s'.B s'.D s'.X ++ r0)) (fun s' => s'.cb = s.cb ∧ CkM W0 n (L ++ [(⟨ev, (t : Int), k, (w : Int), ra, rl, rc, wa, wl, wc⟩ : EH)]) s') rfl ?_ (fun s' junk hs => ?_)
  · clear hft
    by_cases h3 : k = 3
    · subst h3
      rw [hbg rfl, hpl0 (by omega)]
      repeat' ((try (conv => whnf)); first | (refine when_ye ?_ ?_; exact rfl) | (refine when_ne ?_ ?_; exact rfl) | (refine br_te ?_ ?_; exact rfl) | (refine br_fe ?_ ?_; exact rfl) | (apply br_pyE; (exact rfl); omega) | (apply br_pnE; (exact rfl); omega) | (apply when_pyE; (exact rfl); omega) | (apply when_pnE; (exact rfl); omega) | (apply br_npyE; (exact rfl); omega) | (apply br_npnE; (exact rfl); omega) | (apply when_npyE; (exact rfl); omega) | (apply when_npnE; (exact rfl); omega) | (refine stC (T := 22) (k := 0) (a1, n, c1) sl_wid hy ?_ ?_ ?_ ?_ ?_; (exact rfl); (omega); (exact rfl); (exact rfl)) | ((with_reducible show Ld _ _ _ _); first | (refine ldC0 sl_wid hy rfl ?_) | (refine ldC1 sl_wid hy rfl ?_) | (refine ldC sl_wid hy rfl ?_)) | ((with_reducible show IxS _ _ _ _ _); first | ((refine ixC hy hbl ?_ ?_; (first | rfl | omega)))) | ((with_reducible show LdN _ _ _ _ _); first | (refine ldNC sl_wid hy rfl ?_)) | ((with_reducible show CallT _ _ _ _ _ _); first | ((refine call_x (hclo _) ?_ ?_ (fun q v hv => ?_); (exact rfl); (exact rfl); (obtain ⟨a1, c1, D1⟩ := q; obtain ⟨rfl, hB1⟩ := hv; dsimp only at hB1)))) | (refine ari ?_ ?_; omega) | (refine aru ?_ ?_; omega) | (apply sel; exact rfl) | (refine ix0 rfl ?_) | (refine ix1 rfl ?_) | (refine ix2 rfl ?_) | (refine ix3 rfl ?_) | (apply ixj; omega) | (refine ixn ?_ ?_; omega) | (refine ixs0 rfl ?_) | (refine ixs1 rfl ?_) | (refine ixs_j ?_ ?_; omega) | (refine ixs_n ?_ ?_; omega) | (apply ld_o; exact rfl) | (apply ldN_a; exact rfl) | (apply ldN_o; (exact rfl); exact rfl) | (apply st_o; (exact rfl); exact rfl) | (apply stN_o; (exact rfl); (exact rfl); exact rfl) | (refine new_i (fun bk hbk => ?_)) | (apply when_dE; (exact rfl); (exact rfl); all_goals intro hc) | (apply when_dF; (exact rfl); (exact rfl); all_goals intro hc) | (apply when_nE; (exact rfl); (exact rfl); all_goals intro hc) | (apply when_nF; (exact rfl); (exact rfl); all_goals intro hc) | (apply br_dE; (exact rfl); all_goals intro hc) | (apply br_nE; (exact rfl); all_goals intro hc) | (refine mm_min ?_) | (refine mm_max ?_) | (refine rem_i ?_ ?_; omega) | (refine SelN.mk ?_) | (refine Both.mk ?_ ?_) | (exact True.intro))
      all_goals
        obtain ⟨a2, rfl⟩ := buf_some hB1 hEne
        exact ⟨⟨s.cb, s.eb, s.sb, s.sc, s.bb, s.bs, s.S, s.B.set t (some a2, n, c1), s.D, D1 ++ s.X⟩, ⟨rfl, hnx _ hM.sB (.inl ⟨by omega, rfl⟩) (.inr ⟨rfl, a2, c1, rfl, hR6 _ _ _ hB1⟩)⟩, trivial, by unfold ckO; rw [hbh rfl]; exact ent_mv2 (D := s.D) (A := accO s.bs (hisR L n) 256) (X := s.X) (D1 := D1)⟩
    by_cases h4 : k = 4
    · subst h4
      obtain ⟨ba, bc, hb, hbr⟩ := hen rfl
      have hcall := spec_front (r := r0) (A := [(b4, fun o => o = Obj.cells #[.int .i64 0, .int .i64 0, .int .i64 0] 28), (b3, fun o => o = Obj.cells #[.int .i64 ev, .int .i64 t, .int .i64 4, .int .i64 w, .slice ra rl.length rc, .slice wa wl.length wc] 42)]) (hend rfl ba bc _ (hER _) hb hbr)
      repeat' ((try (conv => whnf)); first | (refine when_ye ?_ ?_; exact rfl) | (refine when_ne ?_ ?_; exact rfl) | (refine br_te ?_ ?_; exact rfl) | (refine br_fe ?_ ?_; exact rfl) | (apply br_pyE; (exact rfl); omega) | (apply br_pnE; (exact rfl); omega) | (apply when_pyE; (exact rfl); omega) | (apply when_pnE; (exact rfl); omega) | (apply br_npyE; (exact rfl); omega) | (apply br_npnE; (exact rfl); omega) | (apply when_npyE; (exact rfl); omega) | (apply when_npnE; (exact rfl); omega) | (refine stC (T := 22) (k := 0) (none, 0, 0) sl_wid hy ?_ ?_ ?_ ?_ ?_; (exact rfl); (omega); (exact rfl); (exact rfl)) | ((with_reducible show Ld _ _ _ _); first | (refine ldC0 sl_wid hy rfl ?_) | (refine ldC1 sl_wid hy rfl ?_) | (refine ldC sl_wid hy rfl ?_)) | ((with_reducible show IxS _ _ _ _ _); first | ((refine ixC hy hbl ?_ ?_; (first | rfl | omega)))) | ((with_reducible show LdN _ _ _ _ _); first | (refine ldNC sl_wid hy rfl ?_)) | ((with_reducible show CallT _ _ _ _ _ _); first | ((refine call_x hcall ?_ ?_ (fun q v hv => ?_); (exact rfl); (exact rfl); (obtain ⟨a1, c1, D1, D2⟩ := q; obtain ⟨rfl, hB1, hB2⟩ := hv; dsimp only at hB1 hB2)))) | (refine ari ?_ ?_; omega) | (refine aru ?_ ?_; omega) | (apply sel; exact rfl) | (refine ix0 rfl ?_) | (refine ix1 rfl ?_) | (refine ix2 rfl ?_) | (refine ix3 rfl ?_) | (apply ixj; omega) | (refine ixn ?_ ?_; omega) | (refine ixs0 rfl ?_) | (refine ixs1 rfl ?_) | (refine ixs_j ?_ ?_; omega) | (refine ixs_n ?_ ?_; omega) | (apply ld_o; exact rfl) | (apply ldN_a; exact rfl) | (apply ldN_o; (exact rfl); exact rfl) | (apply st_o; (exact rfl); exact rfl) | (apply stN_o; (exact rfl); (exact rfl); exact rfl) | (refine new_i (fun bk hbk => ?_)) | (apply when_dE; (exact rfl); (exact rfl); all_goals intro hc) | (apply when_dF; (exact rfl); (exact rfl); all_goals intro hc) | (apply when_nE; (exact rfl); (exact rfl); all_goals intro hc) | (apply when_nF; (exact rfl); (exact rfl); all_goals intro hc) | (apply br_dE; (exact rfl); all_goals intro hc) | (apply br_nE; (exact rfl); all_goals intro hc) | (refine mm_min ?_) | (refine mm_max ?_) | (refine rem_i ?_ ?_; omega) | (refine SelN.mk ?_) | (refine Both.mk ?_ ?_) | (exact True.intro))
      exact ⟨⟨s.cb, s.eb, s.sb, s.sc, s.bb, s.bs, s.S.set t (a1, n, c1), s.B.set t (none, 0, 0), D2, D1 ++ s.X⟩, ⟨rfl, hnx _ hB2 (.inr ⟨rfl, a1, c1, rfl, hR5 _ _ _ hB1⟩) (.inl ⟨by omega, rfl⟩)⟩, trivial, Ent.refl⟩
    · have hcall := spec_front (r := r0) (A := [(b4, fun o => o = Obj.cells #[.int .i64 0, .int .i64 0, .int .i64 0] 28), (b3, fun o => o = Obj.cells #[.int .i64 ev, .int .i64 t, .int .i64 k, .int .i64 w, .slice ra rl.length rc, .slice wa wl.length wc] 42)]) (spec_unit (hpl (by omega) _))
      rw [hpl0 h4]
      repeat' ((try (conv => whnf)); first | (refine when_ye ?_ ?_; exact rfl) | (refine when_ne ?_ ?_; exact rfl) | (refine br_te ?_ ?_; exact rfl) | (refine br_fe ?_ ?_; exact rfl) | (apply br_pyE; (exact rfl); omega) | (apply br_pnE; (exact rfl); omega) | (apply when_pyE; (exact rfl); omega) | (apply when_pnE; (exact rfl); omega) | (apply br_npyE; (exact rfl); omega) | (apply br_npnE; (exact rfl); omega) | (apply when_npyE; (exact rfl); omega) | (apply when_npnE; (exact rfl); omega) | (refine br_pyE ?_ h3 ?_; exact rfl) | (refine br_pnE ?_ h3 ?_; exact rfl) | (refine when_pyE ?_ h3 ?_; exact rfl) | (refine when_pnE ?_ h3 ?_; exact rfl) | (refine br_npyE ?_ h3 ?_; exact rfl) | (refine br_npnE ?_ h3 ?_; exact rfl) | (refine when_npyE ?_ h3 ?_; exact rfl) | (refine when_npnE ?_ h3 ?_; exact rfl) | (refine br_pyE ?_ h4 ?_; exact rfl) | (refine br_pnE ?_ h4 ?_; exact rfl) | (refine when_pyE ?_ h4 ?_; exact rfl) | (refine when_pnE ?_ h4 ?_; exact rfl) | (refine br_npyE ?_ h4 ?_; exact rfl) | (refine br_npnE ?_ h4 ?_; exact rfl) | (refine when_npyE ?_ h4 ?_; exact rfl) | (refine when_npnE ?_ h4 ?_; exact rfl) | (refine stC (T := 22) (k := 0) (none, 0, 0) sl_wid hy ?_ ?_ ?_ ?_ ?_; (exact rfl); (omega); (exact rfl); (exact rfl)) | ((with_reducible show Ld _ _ _ _); first | (refine ldC0 sl_wid hy rfl ?_) | (refine ldC1 sl_wid hy rfl ?_) | (refine ldC sl_wid hy rfl ?_)) | ((with_reducible show IxS _ _ _ _ _); first | ((refine ixC hy hbl ?_ ?_; (first | rfl | omega)))) | ((with_reducible show LdN _ _ _ _ _); first | (refine ldNC sl_wid hy rfl ?_)) | ((with_reducible show CallT _ _ _ _ _ _); first | ((refine call_x hcall ?_ ?_ (fun q v hv => ?_); (exact rfl); (exact rfl); (subst hv)))) | (refine ari ?_ ?_; omega) | (refine aru ?_ ?_; omega) | (apply sel; exact rfl) | (refine ix0 rfl ?_) | (refine ix1 rfl ?_) | (refine ix2 rfl ?_) | (refine ix3 rfl ?_) | (apply ixj; omega) | (refine ixn ?_ ?_; omega) | (refine ixs0 rfl ?_) | (refine ixs1 rfl ?_) | (refine ixs_j ?_ ?_; omega) | (refine ixs_n ?_ ?_; omega) | (apply ld_o; exact rfl) | (apply ldN_a; exact rfl) | (apply ldN_o; (exact rfl); exact rfl) | (apply st_o; (exact rfl); exact rfl) | (apply stN_o; (exact rfl); (exact rfl); exact rfl) | (refine new_i (fun bk hbk => ?_)) | (apply when_dE; (exact rfl); (exact rfl); all_goals intro hc) | (apply when_dF; (exact rfl); (exact rfl); all_goals intro hc) | (apply when_nE; (exact rfl); (exact rfl); all_goals intro hc) | (apply when_nF; (exact rfl); (exact rfl); all_goals intro hc) | (apply br_dE; (exact rfl); all_goals intro hc) | (apply br_nE; (exact rfl); all_goals intro hc) | (refine mm_min ?_) | (refine mm_max ?_) | (refine rem_i ?_ ?_; omega) | (refine SelN.mk ?_) | (refine Both.mk ?_ ?_) | (exact True.intro))
      exact ⟨⟨s.cb, s.eb, s.sb, s.sc, s.bb, s.bs, s.S, s.B.set t (none, 0, 0), s.D, s.X⟩, ⟨rfl, hnx _ hM.sB (.inl ⟨h4, rfl⟩) (.inl ⟨h3, rfl⟩)⟩, trivial, Ent.refl⟩
  · obtain ⟨hcb, hM'⟩ := hs
    obtain ⟨cb', eb', sb', sc', bb', bs', S', B', D', X'⟩ := s'
    dsimp only at hcb hM' ⊢
    subst hcb
    clear hft hM hpl hnx hpl0 hbg hbh hclo hen hend hER hR5 hR6
    repeat' ((try (conv => whnf)); first | (refine when_ye ?_ ?_; exact rfl) | (refine when_ne ?_ ?_; exact rfl) | (refine br_te ?_ ?_; exact rfl) | (refine br_fe ?_ ?_; exact rfl) | (apply br_pyE; (exact rfl); omega) | (apply br_pnE; (exact rfl); omega) | (apply when_pyE; (exact rfl); omega) | (apply when_pnE; (exact rfl); omega) | (apply br_npyE; (exact rfl); omega) | (apply br_npnE; (exact rfl); omega) | (apply when_npyE; (exact rfl); omega) | (apply when_npnE; (exact rfl); omega) | (refine st_ck1 ?_) | (refine st_ck0 ?_) | (refine ldN_ck ?_ ?_; (exact rfl)) | (refine ari ?_ ?_; omega) | (refine aru ?_ ?_; omega) | (apply sel; exact rfl) | (refine ix0 rfl ?_) | (refine ix1 rfl ?_) | (refine ix2 rfl ?_) | (refine ix3 rfl ?_) | (apply ixj; omega) | (refine ixn ?_ ?_; omega) | (refine ixs0 rfl ?_) | (refine ixs1 rfl ?_) | (refine ixs_j ?_ ?_; omega) | (refine ixs_n ?_ ?_; omega) | (apply ld_o; exact rfl) | (apply ldN_a; exact rfl) | (apply ldN_o; (exact rfl); exact rfl) | (apply st_o; (exact rfl); exact rfl) | (apply stN_o; (exact rfl); (exact rfl); exact rfl) | (refine new_i (fun bk hbk => ?_)) | (apply when_dE; (exact rfl); (exact rfl); all_goals intro hc) | (apply when_dF; (exact rfl); (exact rfl); all_goals intro hc) | (apply when_nE; (exact rfl); (exact rfl); all_goals intro hc) | (apply when_nF; (exact rfl); (exact rfl); all_goals intro hc) | (apply br_dE; (exact rfl); all_goals intro hc) | (apply br_nE; (exact rfl); all_goals intro hc) | (refine mm_min ?_) | (refine mm_max ?_) | (refine rem_i ?_ ?_; omega) | (refine SelN.mk ?_) | (refine cut_n ?_) | (refine Both.mk ?_ ?_) | (exact True.intro))
    refine ⟨⟨s.cb, eb', sb', sc', bb', bs', S', B', D', X'⟩, ⟨rfl, rfl, hM'⟩, ?_⟩
    show Ent W0 _ (ckO ((L ++ [(⟨ev, (t : Int), k, (w : Int), ra, rl, rc, wa, wl, wc⟩ : EH)]).length : Int) (paAt (L ++ [(⟨ev, (t : Int), k, (w : Int), ra, rl, rc, wa, wl, wc⟩ : EH)]) (L ++ [(⟨ev, (t : Int), k, (w : Int), ra, rl, rc, wa, wl, wc⟩ : EH)]).length) _ _ _ _ _ _ _ _ _ _ _ _ _ ++ r0)
    rw [hpa, hln]
    exact Ent.drop.trans Ent.drop
end
end Go.Proofs.YtofjnldidkiihaaDoor
namespace Go.Proofs.YtofjnldidkiihaaDoor
open Go
set_option maxRecDepth 10000
set_option maxHeartbeats 8000000
/-- The cells of a checker that is being made. -/
def ckV (cnt at1 : Int) (ev sv bv : Value) (V : Nat → Value) (r : RaceM) : List Value := [.int .i64 cnt, .int .i64 at1, ev, sv, bv] ++ (rowG 256 V ++ encRc r)
theorem ckV_len {cnt at1 : Int} {ev sv bv : Value} {V : Nat → Value} {r : RaceM} : (ckV cnt at1 ev sv bv V r).length = 264 := by
  unfold ckV
  rw [List.length_append, List.length_append, rowG_len]
  rfl
theorem rowG_put {n k : Nat} {V V2 : Nat → Value} {v0 v1 v2 v3 : Value} (h : k + 4 ≤ n) (h0 : V2 k = v0) (h1 : V2 (k + 1) = v1) (h2 : V2 (k + 2) = v2) (h3 : V2 (k + 3) = v3) (hV : ∀ i, i < n → (i < k ∨ k + 4 ≤ i) → V2 i = V i) :
    (rowG n V).take k ++ [v0, v1, v2, v3] ++ (rowG n V).drop (k + 4) = rowG n V2 := by
  have hl : ∀ V : Nat → Value, (rowG n V).length = n := fun V => rowG_len
  apply List.ext_getElem?
  intro i
  by_cases hn : i < n
  · rw [rowG_get hn]
    by_cases hk : i < k
    · rw [List.append_assoc, List.getElem?_append_left (by rw [List.length_take, hl]; omega), List.getElem?_take, if_pos hk, rowG_get hn, hV i hn (.inl hk)]
    · by_cases hk4 : k + 4 ≤ i
      · rw [List.getElem?_append_right (by rw [List.length_append, List.length_take, hl]; simp only [List.length_cons, List.length_nil]; omega), List.length_append, List.length_take, hl, List.getElem?_drop]
        simp only [List.length_cons, List.length_nil]
        have e : k + 4 + (i - (min k n + (0 + 1 + 1 + 1 + 1))) = i := by omega
        rw [e, rowG_get hn, hV i hn (.inr hk4)]
      · rw [List.append_assoc, List.getElem?_append_right (by rw [List.length_take, hl]; omega), List.length_take, hl]
        have e : min k n = k := by omega
        rw [e]
        obtain ⟨j, rfl⟩ : ∃ j, i = k + j := ⟨i - k, by omega⟩
        rw [Nat.add_sub_cancel_left]
        have hj : j = 0 ∨ j = 1 ∨ j = 2 ∨ j = 3 := by omega
        rcases hj with rfl | rfl | rfl | rfl
        · show some v0 = some (V2 k); rw [h0]
        · rw [h1]; rfl
        · rw [h2]; rfl
        · rw [h3]; rfl
  · rw [List.getElem?_eq_none (l := rowG n V2) (by rw [hl]; omega), List.getElem?_eq_none]
    rw [List.length_append, List.length_append, List.length_take, List.length_drop, hl]
    simp only [List.length_cons, List.length_nil]
    omega
section
variable {W0 : World} {own : Own} {cnt at1 : Int} {cb : Nat} {ev sv bv : Value} {V : Nat → Value} {r : RaceM} {T : TypeId}
theorem st_ckS {v : Value} {K : Own → Prop} {C : (Obj → Prop) → Own} [m : UpC cb (fun o => o = Obj.cells (ckV cnt at1 ev sv bv V r).toArray T (0, 0)) own C] (h1 : oneC v = true) (h : K (C fun o => o = Obj.cells (ckV cnt at1 ev v bv V r).toArray T (0, 0))) : StT W0 own ⟨cb, 3, none⟩ v K :=
  st_o (by show Nat.ble 4 (ckV cnt at1 ev sv bv V r).length = true; rw [ckV_len]; rfl) h1 h
theorem stN_w {w k : Nat} {v0 v1 v2 v3 : Value} {V2 : Nat → Value} {K : Own → Prop} {C : (Obj → Prop) → Own} [m : UpC cb (fun o => o = Obj.cells (ckV cnt at1 ev sv bv V r).toArray T (0, 0)) own C] (hk4 : 4 = k) (hw : w < 64) (h0 : V2 (4 * w) = v0) (h1 : V2 (4 * w + 1) = v1) (h2 : V2 (4 * w + 2) = v2) (h3 : V2 (4 * w + 3) = v3)
    (hV : ∀ i, i < 256 → (i < 4 * w ∨ 4 * w + 4 ≤ i) → V2 i = V i) (hv : [v0, v1, v2, v3].all oneC = true) (h : K (C fun o => o = Obj.cells (ckV cnt at1 ev sv bv V2 r).toArray T (0, 0))) : [v0, v1, v2, v3].length = k ∧ StN W0 own ⟨cb, 5 + w * 4, none⟩ [v0, v1, v2, v3] K := by
  subst hk4
  refine stN_o (cs := (ckV cnt at1 ev sv bv V r).toArray) (T := T) rfl ?_ hv ?_
  · rw [List.toList_toArray, ckV_len]
    exact Nat.ble_eq_true_of_le (by omega)
  · have e : (ckV cnt at1 ev sv bv V r).take (5 + w * 4) ++ [v0, v1, v2, v3] ++ (ckV cnt at1 ev sv bv V r).drop (5 + w * 4 + 4) = ckV cnt at1 ev sv bv V2 r := by
      have h4 : 5 + w * 4 = 4 * w + 1 + 1 + 1 + 1 + 1 := by omega
      have h5 : 5 + w * 4 + 4 = (4 * w + 4) + 1 + 1 + 1 + 1 + 1 := by omega
      rw [h5, h4]
      unfold ckV
      simp only [List.cons_append, List.nil_append, List.take_succ_cons, List.drop_succ_cons]
      rw [List.take_append_of_le_length (by rw [rowG_len]; omega), List.drop_append_of_le_length (by rw [rowG_len]; omega), ← List.append_assoc, rowG_put (n := 256) (k := 4 * w) (by omega) h0 h1 h2 h3 hV]
    rw [List.toList_toArray, e]
    exact h
end
theorem frst_nil : frst [] = nnR := frst_none rfl
theorem endsR_nil {n : Nat} : endsR [] n = List.replicate n 0 := (rowG_congr (g' := fun _ => 0) fun _ _ => rfl).trans rowG_rep.symm
theorem seenR_nil {n : Nat} {u : Int} : seenR [] n u = List.replicate n 0 := (rowG_congr (g' := fun _ => 0) fun _ _ => rfl).trans rowG_rep.symm
theorem accR_nil {n : Nat} {Q : List EH → Int → Nat → Bool} {w : Int} : accR [] n Q w = List.replicate n (0, 0) := (rowG_congr (g' := fun _ => (0, 0)) fun _ _ => rfl).trans rowG_rep.symm
theorem acc1 {e : Nat × (Obj → Prop)} {A r : Own} : (e :: (A ++ r)).Perm ((A ++ [e]) ++ r) := by
  rw [List.append_assoc]
  exact List.perm_middle.symm
theorem acc4 {e0 e1 e2 e3 : Nat × (Obj → Prop)} {A r : Own} : (e3 :: e2 :: e1 :: e0 :: (A ++ r)).Perm (((((A ++ [e0]) ++ [e1]) ++ [e2]) ++ [e3]) ++ r) :=
  (((acc1.cons e1).cons e2).cons e3).trans (((acc1.cons e2).cons e3).trans ((acc1.cons e3).trans acc1))
section
variable {W0 : World} {own : Own}
theorem sp_tnew_no (threads : Int) (h : threads < 1 ∨ 16 < threads) : Pure Tryd.prog W0 23 [.int .i64 threads] own (.tuple #[.pointer none, .int .i64 54]) := by
  refine pure_of (spec_of mixed lowc_tdrf_New (by simp [irc_tdrf_New]) ?_)
  by_cases h1 : threads < 1
  · repeat' ((try (conv => whnf)); first | (refine when_ye ?_ ?_; exact rfl) | (refine when_ne ?_ ?_; exact rfl) | (refine br_te ?_ ?_; exact rfl) | (refine br_fe ?_ ?_; exact rfl) | (apply br_pyE; (exact rfl); omega) | (apply br_pnE; (exact rfl); omega) | (apply when_pyE; (exact rfl); omega) | (apply when_pnE; (exact rfl); omega) | (apply br_npyE; (exact rfl); omega) | (apply br_npnE; (exact rfl); omega) | (apply when_npyE; (exact rfl); omega) | (apply when_npnE; (exact rfl); omega) | (refine br_pyE ?_ h1 ?_; exact rfl) | (refine br_pnE ?_ h1 ?_; exact rfl) | (refine when_pyE ?_ h1 ?_; exact rfl) | (refine when_pnE ?_ h1 ?_; exact rfl) | (refine br_npyE ?_ h1 ?_; exact rfl) | (refine br_npnE ?_ h1 ?_; exact rfl) | (refine when_npyE ?_ h1 ?_; exact rfl) | (refine when_npnE ?_ h1 ?_; exact rfl) | (refine ari ?_ ?_; omega) | (refine aru ?_ ?_; omega) | (apply sel; exact rfl) | (refine ix0 rfl ?_) | (refine ix1 rfl ?_) | (refine ix2 rfl ?_) | (refine ix3 rfl ?_) | (apply ixj; omega) | (refine ixn ?_ ?_; omega) | (refine ixs0 rfl ?_) | (refine ixs1 rfl ?_) | (refine ixs_j ?_ ?_; omega) | (refine ixs_n ?_ ?_; omega) | (apply ld_o; exact rfl) | (apply ldN_a; exact rfl) | (apply ldN_o; (exact rfl); exact rfl) | (apply st_o; (exact rfl); exact rfl) | (apply stN_o; (exact rfl); (exact rfl); exact rfl) | (refine new_i (fun bk hbk => ?_)) | (apply when_dE; (exact rfl); (exact rfl); all_goals intro hc) | (apply when_dF; (exact rfl); (exact rfl); all_goals intro hc) | (apply when_nE; (exact rfl); (exact rfl); all_goals intro hc) | (apply when_nF; (exact rfl); (exact rfl); all_goals intro hc) | (apply br_dE; (exact rfl); all_goals intro hc) | (apply br_nE; (exact rfl); all_goals intro hc) | (refine mm_min ?_) | (refine mm_max ?_) | (refine rem_i ?_ ?_; omega) | (refine SelN.mk ?_) | (refine Both.mk ?_ ?_) | (exact True.intro))
    exact ⟨rfl, (by first | exact ent_i | (repeat (first | exact Ent.refl | exact Ent.left | refine Ent.cons ?_ | refine Ent.app ?_)))⟩
  · have h2 : threads > 16 := by omega
    repeat' ((try (conv => whnf)); first | (refine when_ye ?_ ?_; exact rfl) | (refine when_ne ?_ ?_; exact rfl) | (refine br_te ?_ ?_; exact rfl) | (refine br_fe ?_ ?_; exact rfl) | (apply br_pyE; (exact rfl); omega) | (apply br_pnE; (exact rfl); omega) | (apply when_pyE; (exact rfl); omega) | (apply when_pnE; (exact rfl); omega) | (apply br_npyE; (exact rfl); omega) | (apply br_npnE; (exact rfl); omega) | (apply when_npyE; (exact rfl); omega) | (apply when_npnE; (exact rfl); omega) | (refine br_pyE ?_ h1 ?_; exact rfl) | (refine br_pnE ?_ h1 ?_; exact rfl) | (refine when_pyE ?_ h1 ?_; exact rfl) | (refine when_pnE ?_ h1 ?_; exact rfl) | (refine br_npyE ?_ h1 ?_; exact rfl) | (refine br_npnE ?_ h1 ?_; exact rfl) | (refine when_npyE ?_ h1 ?_; exact rfl) | (refine when_npnE ?_ h1 ?_; exact rfl) | (refine br_pyE ?_ h2 ?_; exact rfl) | (refine br_pnE ?_ h2 ?_; exact rfl) | (refine when_pyE ?_ h2 ?_; exact rfl) | (refine when_pnE ?_ h2 ?_; exact rfl) | (refine br_npyE ?_ h2 ?_; exact rfl) | (refine br_npnE ?_ h2 ?_; exact rfl) | (refine when_npyE ?_ h2 ?_; exact rfl) | (refine when_npnE ?_ h2 ?_; exact rfl) | (refine ari ?_ ?_; omega) | (refine aru ?_ ?_; omega) | (apply sel; exact rfl) | (refine ix0 rfl ?_) | (refine ix1 rfl ?_) | (refine ix2 rfl ?_) | (refine ix3 rfl ?_) | (apply ixj; omega) | (refine ixn ?_ ?_; omega) | (refine ixs0 rfl ?_) | (refine ixs1 rfl ?_) | (refine ixs_j ?_ ?_; omega) | (refine ixs_n ?_ ?_; omega) | (apply ld_o; exact rfl) | (apply ldN_a; exact rfl) | (apply ldN_o; (exact rfl); exact rfl) | (apply st_o; (exact rfl); exact rfl) | (apply stN_o; (exact rfl); (exact rfl); exact rfl) | (refine new_i (fun bk hbk => ?_)) | (apply when_dE; (exact rfl); (exact rfl); all_goals intro hc) | (apply when_dF; (exact rfl); (exact rfl); all_goals intro hc) | (apply when_nE; (exact rfl); (exact rfl); all_goals intro hc) | (apply when_nF; (exact rfl); (exact rfl); all_goals intro hc) | (apply br_dE; (exact rfl); all_goals intro hc) | (apply br_nE; (exact rfl); all_goals intro hc) | (refine mm_min ?_) | (refine mm_max ?_) | (refine rem_i ?_ ?_; omega) | (refine SelN.mk ?_) | (refine Both.mk ?_ ?_) | (exact True.intro))
    exact ⟨rfl, (by first | exact ent_i | (repeat (first | exact Ent.refl | exact Ent.left | refine Ent.cons ?_ | refine Ent.app ?_)))⟩
theorem ok_new1 : okF Tryd.prog 41 = true := by kernel_rfl
theorem sp_tnew {n : Nat} (hN : LaidAt W0 0 noneV) (h1 : 1 ≤ n) (h2 : n ≤ 16) :
    Spec Tryd.prog W0 23 [.int .i64 n] own fun v own' => ∃ s : CkB, (v = .tuple #[.pointer (some ⟨s.cb, 0, none⟩), .int .i64 0] ∧ CkM W0 n [] s) ∧ Ent W0 own' (s.O [] n ++ own) := by
  refine spec_of mixed lowc_tdrf_New (by simp [irc_tdrf_New]) ?_
  repeat' ((try (conv => whnf)); first | (refine when_ye ?_ ?_; exact rfl) | (refine when_ne ?_ ?_; exact rfl) | (refine br_te ?_ ?_; exact rfl) | (refine br_fe ?_ ?_; exact rfl) | (apply br_pyE; (exact rfl); omega) | (apply br_pnE; (exact rfl); omega) | (apply when_pyE; (exact rfl); omega) | (apply when_pnE; (exact rfl); omega) | (apply br_npyE; (exact rfl); omega) | (apply br_npnE; (exact rfl); omega) | (apply when_npyE; (exact rfl); omega) | (apply when_npnE; (exact rfl); omega) | (refine new_i (fun tb htb => ?_)) | (refine ari ?_ ?_; omega) | (refine aru ?_ ?_; omega) | (apply sel; exact rfl) | (refine ix0 rfl ?_) | (refine ix1 rfl ?_) | (refine ix2 rfl ?_) | (refine ix3 rfl ?_) | (apply ixj; omega) | (refine ixn ?_ ?_; omega) | (refine ixs0 rfl ?_) | (refine ixs1 rfl ?_) | (refine ixs_j ?_ ?_; omega) | (refine ixs_n ?_ ?_; omega) | (apply ld_o; exact rfl) | (apply ldN_a; exact rfl) | (apply ldN_o; (exact rfl); exact rfl) | (apply st_o; (exact rfl); exact rfl) | (apply stN_o; (exact rfl); (exact rfl); exact rfl) | (refine new_i (fun bk hbk => ?_)) | (apply when_dE; (exact rfl); (exact rfl); all_goals intro hc) | (apply when_dF; (exact rfl); (exact rfl); all_goals intro hc) | (apply when_nE; (exact rfl); (exact rfl); all_goals intro hc) | (apply when_nF; (exact rfl); (exact rfl); all_goals intro hc) | (apply br_dE; (exact rfl); all_goals intro hc) | (apply br_nE; (exact rfl); all_goals intro hc) | (refine mm_min ?_) | (refine mm_max ?_) | (refine rem_i ?_ ?_; omega) | (refine SelN.mk ?_) | (refine Both.mk ?_ ?_) | (exact True.intro))
  refine cut_i (σ := Nat × Nat × Nat) 1040400 (fun s => [(4, .pointer (some ⟨s.1, 0, none⟩))]) (fun s => match s with | (cb, eb, bb) => (tb, fun o => o = Obj.cells #[.int .i64 n] 3) :: (cb, fun o => o = Obj.cells (ckV 0 0 (.slice (some ⟨eb, 0, none⟩) n n) (.slice none 0 0) (.slice (some ⟨bb, 0, none⟩) n n) (fun _ => .slice none 0 0) nnR).toArray 68 (0, 0)) :: canE encI 3 eb (List.replicate n 0) :: canE encSl 22 bb (List.replicate n (none, 0, 0)) :: own) (fun _ => True) rfl ?_ (fun s junk _ => ?_)
  · repeat' ((try (conv => whnf)); first | (refine when_ye ?_ ?_; exact rfl) | (refine when_ne ?_ ?_; exact rfl) | (refine br_te ?_ ?_; exact rfl) | (refine br_fe ?_ ?_; exact rfl) | (apply br_pyE; (exact rfl); omega) | (apply br_pnE; (exact rfl); omega) | (apply when_pyE; (exact rfl); omega) | (apply when_pnE; (exact rfl); omega) | (apply br_npyE; (exact rfl); omega) | (apply br_npnE; (exact rfl); omega) | (apply when_npyE; (exact rfl); omega) | (apply when_npnE; (exact rfl); omega) | (refine mkC (enc := encI) (T := 3) n 0 rfl rfl rfl ?_ (fun eb => ?_); (omega)) | (refine mkC (enc := encSl) (T := 22) n (none, 0, 0) rfl rfl rfl ?_ (fun bb => ?_); (omega)) | (refine ldN_laid hN _ rfl rfl ?_) | (refine new_i (fun cb hcb => ?_)) | (refine ari ?_ ?_; omega) | (refine aru ?_ ?_; omega) | (apply sel; exact rfl) | (refine ix0 rfl ?_) | (refine ix1 rfl ?_) | (refine ix2 rfl ?_) | (refine ix3 rfl ?_) | (apply ixj; omega) | (refine ixn ?_ ?_; omega) | (refine ixs0 rfl ?_) | (refine ixs1 rfl ?_) | (refine ixs_j ?_ ?_; omega) | (refine ixs_n ?_ ?_; omega) | (apply ld_o; exact rfl) | (apply ldN_a; exact rfl) | (apply ldN_o; (exact rfl); exact rfl) | (apply st_o; (exact rfl); exact rfl) | (apply stN_o; (exact rfl); (exact rfl); exact rfl) | (refine new_i (fun bk hbk => ?_)) | (apply when_dE; (exact rfl); (exact rfl); all_goals intro hc) | (apply when_dF; (exact rfl); (exact rfl); all_goals intro hc) | (apply when_nE; (exact rfl); (exact rfl); all_goals intro hc) | (apply when_nF; (exact rfl); (exact rfl); all_goals intro hc) | (apply br_dE; (exact rfl); all_goals intro hc) | (apply br_nE; (exact rfl); all_goals intro hc) | (refine mm_min ?_) | (refine mm_max ?_) | (refine rem_i ?_ ?_; omega) | (refine SelN.mk ?_) | (refine Both.mk ?_ ?_) | (exact True.intro))
    · refine ⟨(cb, eb, bb), trivial, (by repeat' (first | exact True.intro | refine And.intro ?_ ?_ | exact rfl | exact vi (by omega) | (dsimp only; exact rfl) | (dsimp only; exact vi (by omega)))), ?_⟩
      refine (Ent.head (fun o h => h.trans ?_)).trans (ent_k4 (b0 := tb) (b1 := cb) (b2 := eb) (b3 := bb) rfl)
      kernel_rfl
    · refine ⟨(cb, eb, bb), trivial, (by repeat' (first | exact True.intro | refine And.intro ?_ ?_ | exact rfl | exact vi (by omega) | (dsimp only; exact rfl) | (dsimp only; exact vi (by omega)))), ?_⟩
      refine (Ent.head (fun o h => h.trans ?_)).trans (ent_k4 (b0 := tb) (b1 := cb) (b2 := eb) (b3 := bb) rfl)
      kernel_rfl
  · obtain ⟨cb, eb, bb⟩ := s
    dsimp only
    repeat' ((try (conv => whnf)); first | (refine when_ye ?_ ?_; exact rfl) | (refine when_ne ?_ ?_; exact rfl) | (refine br_te ?_ ?_; exact rfl) | (refine br_fe ?_ ?_; exact rfl) | (apply br_pyE; (exact rfl); omega) | (apply br_pnE; (exact rfl); omega) | (apply when_pyE; (exact rfl); omega) | (apply when_pnE; (exact rfl); omega) | (apply br_npyE; (exact rfl); omega) | (apply br_npnE; (exact rfl); omega) | (apply when_npyE; (exact rfl); omega) | (apply when_npnE; (exact rfl); omega) | (refine ari ?_ ?_; omega) | (refine aru ?_ ?_; omega) | (apply sel; exact rfl) | (refine ix0 rfl ?_) | (refine ix1 rfl ?_) | (refine ix2 rfl ?_) | (refine ix3 rfl ?_) | (apply ixj; omega) | (refine ixn ?_ ?_; omega) | (refine ixs0 rfl ?_) | (refine ixs1 rfl ?_) | (refine ixs_j ?_ ?_; omega) | (refine ixs_n ?_ ?_; omega) | (apply ld_o; exact rfl) | (apply ldN_a; exact rfl) | (apply ldN_o; (exact rfl); exact rfl) | (apply st_o; (exact rfl); exact rfl) | (apply stN_o; (exact rfl); (exact rfl); exact rfl) | (refine new_i (fun bk hbk => ?_)) | (apply when_dE; (exact rfl); (exact rfl); all_goals intro hc) | (apply when_dF; (exact rfl); (exact rfl); all_goals intro hc) | (apply when_nE; (exact rfl); (exact rfl); all_goals intro hc) | (apply when_nF; (exact rfl); (exact rfl); all_goals intro hc) | (apply br_dE; (exact rfl); all_goals intro hc) | (apply br_nE; (exact rfl); all_goals intro hc) | (refine mm_min ?_) | (refine mm_max ?_) | (refine rem_i ?_ ?_; omega) | (refine SelN.mk ?_) | (refine Both.mk ?_ ?_) | (exact True.intro))
    refine loop_i (σ := Option Addr × Nat × List Sl × Own × Own) (fun s => match s with | (_, _, S, _, _) => [(21, .int .i64 S.length)]) (fun s => match s with | (a, c, S, D, X) => (tb, fun o => o = Obj.cells #[.int .i64 n] 3) :: (cb, fun o => o = Obj.cells (ckV 0 0 (.slice (some ⟨eb, 0, none⟩) n n) (.slice a S.length c) (.slice (some ⟨bb, 0, none⟩) n n) (fun _ => .slice none 0 0) nnR).toArray 68 (0, 0)) :: canE encI 3 eb (List.replicate n 0) :: canE encSl 22 bb (List.replicate n (none, 0, 0)) :: (X ++ (D ++ own)))
      (fun s => match s with | (a, c, S, D, X) => S.length ≤ n ∧ BufE encSl 22 1 a c S D ∧ ∀ u, u < S.length → ∃ a' c', S[u]? = some (a', n, c') ∧ RdE encI 1 W0 X a' (List.replicate n 0)) (fun s => match s with | (_, _, S, _, _) => n - S.length) (none, 0, [], [], []) ⟨by simp, BufE.nil, fun u hu => by simp at hu⟩ (by repeat' (first | exact True.intro | refine And.intro ?_ ?_ | exact rfl | exact vi (by omega) | (dsimp only; exact rfl) | (dsimp only; exact vi (by omega)))) Ent.refl rfl ?_
    rintro ⟨a, c, S, D, X⟩ junk ⟨hSl, hB, hrow⟩
    dsimp only
    by_cases hlt : S.length < n
    · have hlt' : (S.length : Int) < n := by omega
      repeat' ((try (conv => whnf)); first | (refine when_ye ?_ ?_; exact rfl) | (refine when_ne ?_ ?_; exact rfl) | (refine br_te ?_ ?_; exact rfl) | (refine br_fe ?_ ?_; exact rfl) | (apply br_pyE; (exact rfl); omega) | (apply br_pnE; (exact rfl); omega) | (apply when_pyE; (exact rfl); omega) | (apply when_pnE; (exact rfl); omega) | (apply br_npyE; (exact rfl); omega) | (apply br_npnE; (exact rfl); omega) | (apply when_npyE; (exact rfl); omega) | (apply when_npnE; (exact rfl); omega) | (refine br_pyE ?_ hlt' ?_; exact rfl) | (refine br_pnE ?_ hlt' ?_; exact rfl) | (refine when_pyE ?_ hlt' ?_; exact rfl) | (refine when_pnE ?_ hlt' ?_; exact rfl) | (refine br_npyE ?_ hlt' ?_; exact rfl) | (refine br_npnE ?_ hlt' ?_; exact rfl) | (refine when_npyE ?_ hlt' ?_; exact rfl) | (refine when_npnE ?_ hlt' ?_; exact rfl) | (refine mkC (enc := encI) (T := 3) n 0 rfl rfl rfl ?_ (fun rb => ?_); (omega)) | (refine new_i (fun qb hqb => ?_)) | (refine app_i (enc := encSl) (T2 := 22) (ys := #[.slice (some ⟨rb, 0, none⟩) n n]) (some ⟨rb, 0, none⟩, n, n) hB rfl rfl ?_ rfl rfl ?_ (fun a1 c1 D1 hB1 => ?_); (omega); (omega)) | (refine st_ckS ?_ ?_; (exact rfl)) | (refine ari ?_ ?_; omega) | (refine aru ?_ ?_; omega) | (apply sel; exact rfl) | (refine ix0 rfl ?_) | (refine ix1 rfl ?_) | (refine ix2 rfl ?_) | (refine ix3 rfl ?_) | (apply ixj; omega) | (refine ixn ?_ ?_; omega) | (refine ixs0 rfl ?_) | (refine ixs1 rfl ?_) | (refine ixs_j ?_ ?_; omega) | (refine ixs_n ?_ ?_; omega) | (apply ld_o; exact rfl) | (apply ldN_a; exact rfl) | (apply ldN_o; (exact rfl); exact rfl) | (apply st_o; (exact rfl); exact rfl) | (apply stN_o; (exact rfl); (exact rfl); exact rfl) | (refine new_i (fun bk hbk => ?_)) | (apply when_dE; (exact rfl); (exact rfl); all_goals intro hc) | (apply when_dF; (exact rfl); (exact rfl); all_goals intro hc) | (apply when_nE; (exact rfl); (exact rfl); all_goals intro hc) | (apply when_nF; (exact rfl); (exact rfl); all_goals intro hc) | (apply br_dE; (exact rfl); all_goals intro hc) | (apply br_nE; (exact rfl); all_goals intro hc) | (refine mm_min ?_) | (refine mm_max ?_) | (refine rem_i ?_ ?_; omega) | (refine SelN.mk ?_) | (refine cut_n ?_) | (refine Both.mk ?_ ?_) | (exact True.intro))
      have hln : (S ++ [((some ⟨rb, 0, none⟩, n, n) : Sl)]).length = S.length + 1 := by simp
      refine ⟨(a1, c1, S ++ [(some ⟨rb, 0, none⟩, n, n)], D1, canE encI 3 rb (List.replicate n 0) :: X), ⟨by show (S ++ [((some ⟨rb, 0, none⟩, n, n) : Sl)]).length ≤ n; omega, hB1, fun u hu => ?_⟩, by show n - (S ++ [((some ⟨rb, 0, none⟩, n, n) : Sl)]).length < n - S.length; omega, ⟨vi (by show (S.length : Int) + 1 = ((S ++ [((some ⟨rb, 0, none⟩, n, n) : Sl)]).length : Nat); omega), trivial⟩, ?_⟩
      · by_cases hu2 : u < S.length
        · obtain ⟨a', c', h3, h4⟩ := hrow u hu2
          exact ⟨a', c', by rw [List.getElem?_append_left hu2]; exact h3, h4.up⟩
        · have hu4 : u < (S ++ [((some ⟨rb, 0, none⟩, n, n) : Sl)]).length := hu
          have hu3 : u = S.length := by omega
          subst hu3
          exact ⟨some ⟨rb, 0, none⟩, n, by simp, (can_rd (T := 3) ne_wid).ent (Ent.left (D := [_]))⟩
      · dsimp only
        rw [hln]
        exact Ent.drop.trans (ent_k4 (b0 := tb) (b1 := cb) (b2 := eb) (b3 := bb) rfl)
    · have hlt' : ¬ (S.length : Int) < n := by omega
      have hie : S.length = n := by omega
      repeat' ((try (conv => whnf)); first | (refine when_ye ?_ ?_; exact rfl) | (refine when_ne ?_ ?_; exact rfl) | (refine br_te ?_ ?_; exact rfl) | (refine br_fe ?_ ?_; exact rfl) | (apply br_pyE; (exact rfl); omega) | (apply br_pnE; (exact rfl); omega) | (apply when_pyE; (exact rfl); omega) | (apply when_pnE; (exact rfl); omega) | (apply br_npyE; (exact rfl); omega) | (apply br_npnE; (exact rfl); omega) | (apply when_npyE; (exact rfl); omega) | (apply when_npnE; (exact rfl); omega) | (refine br_pyE ?_ hlt' ?_; exact rfl) | (refine br_pnE ?_ hlt' ?_; exact rfl) | (refine when_pyE ?_ hlt' ?_; exact rfl) | (refine when_pnE ?_ hlt' ?_; exact rfl) | (refine br_npyE ?_ hlt' ?_; exact rfl) | (refine br_npnE ?_ hlt' ?_; exact rfl) | (refine when_npyE ?_ hlt' ?_; exact rfl) | (refine when_npnE ?_ hlt' ?_; exact rfl) | (refine ari ?_ ?_; omega) | (refine aru ?_ ?_; omega) | (apply sel; exact rfl) | (refine ix0 rfl ?_) | (refine ix1 rfl ?_) | (refine ix2 rfl ?_) | (refine ix3 rfl ?_) | (apply ixj; omega) | (refine ixn ?_ ?_; omega) | (refine ixs0 rfl ?_) | (refine ixs1 rfl ?_) | (refine ixs_j ?_ ?_; omega) | (refine ixs_n ?_ ?_; omega) | (apply ld_o; exact rfl) | (apply ldN_a; exact rfl) | (apply ldN_o; (exact rfl); exact rfl) | (apply st_o; (exact rfl); exact rfl) | (apply stN_o; (exact rfl); (exact rfl); exact rfl) | (refine new_i (fun bk hbk => ?_)) | (apply when_dE; (exact rfl); (exact rfl); all_goals intro hc) | (apply when_dF; (exact rfl); (exact rfl); all_goals intro hc) | (apply when_nE; (exact rfl); (exact rfl); all_goals intro hc) | (apply when_nF; (exact rfl); (exact rfl); all_goals intro hc) | (apply br_dE; (exact rfl); all_goals intro hc) | (apply br_nE; (exact rfl); all_goals intro hc) | (refine mm_min ?_) | (refine mm_max ?_) | (refine rem_i ?_ ?_; omega) | (refine SelN.mk ?_) | (refine Both.mk ?_ ?_) | (exact True.intro))
      rw [hie]
      obtain ⟨sb, rfl⟩ : ∃ sb, a = some ⟨sb, 0, none⟩ := by
        rcases hB.how with ⟨h, _, _⟩ | ⟨b, _, h, _⟩
        · rw [h] at hie; simp at hie; omega
        · exact ⟨b, h⟩
      have hV0 : (fun i => if i < 4 * 0 then wrdV (fun _ => 0) n i else .slice none 0 0) = (fun _ => Value.slice none 0 0) := by funext i; rw [if_neg (by omega)]
      refine loop_i (σ := Nat × (Nat → Nat)) (fun s => [(35, .int .i64 s.1)]) (fun s => match s with | (w, bs) => (tb, fun o => o = Obj.cells #[.int .i64 n] 3) :: (cb, fun o => o = Obj.cells (ckV 0 0 (.slice (some ⟨eb, 0, none⟩) n n) (.slice (some ⟨sb, 0, none⟩) n c) (.slice (some ⟨bb, 0, none⟩) n n) (fun i => if i < 4 * w then wrdV bs n i else .slice none 0 0) nnR).toArray 68 (0, 0)) :: canE encI 3 eb (List.replicate n 0) :: canE encSl 22 bb (List.replicate n (none, 0, 0)) :: (accO bs (fun _ => List.replicate n (0, 0)) (4 * w) ++ (X ++ (D ++ own)))) (fun s => s.1 ≤ 64) (fun s => 64 - s.1) (0, fun _ => 0) (by simp) (by repeat' (first | exact True.intro | refine And.intro ?_ ?_ | exact rfl | exact vi (by omega) | (dsimp only; exact rfl) | (dsimp only; exact vi (by omega)))) (by dsimp only; rw [hV0]; exact Ent.refl) rfl ?_
      rintro ⟨w, bs⟩ junk hw
      dsimp only at hw ⊢
      have hn1 := fun (own' : Own) (_ : MemC tb (fun o => o = Obj.cells #[.int .i64 n] 3) own') => sp_new1 (W0 := W0) (own := own') (tb := tb) (n := n) (by omega)
      by_cases hw64 : w < 64
      · have hw' : (w : Int) < 64 := by omega
        repeat' ((try (conv => whnf)); first | (refine when_ye ?_ ?_; exact rfl) | (refine when_ne ?_ ?_; exact rfl) | (refine br_te ?_ ?_; exact rfl) | (refine br_fe ?_ ?_; exact rfl) | (apply br_pyE; (exact rfl); omega) | (apply br_pnE; (exact rfl); omega) | (apply when_pyE; (exact rfl); omega) | (apply when_pnE; (exact rfl); omega) | (apply br_npyE; (exact rfl); omega) | (apply br_npnE; (exact rfl); omega) | (apply when_npyE; (exact rfl); omega) | (apply when_npnE; (exact rfl); omega) | (refine br_pyE ?_ hw' ?_; exact rfl) | (refine br_pnE ?_ hw' ?_; exact rfl) | (refine when_pyE ?_ hw' ?_; exact rfl) | (refine when_pnE ?_ hw' ?_; exact rfl) | (refine br_npyE ?_ hw' ?_; exact rfl) | (refine br_npnE ?_ hw' ?_; exact rfl) | (refine when_npyE ?_ hw' ?_; exact rfl) | (refine when_npnE ?_ hw' ?_; exact rfl) | (refine CallV.mk ⟨ok_new1, ?_⟩) | ((with_reducible show CallT _ _ _ _ _ _); first | ((refine call_x (hn1 _ inferInstance) ?_ ?_ (fun c0 v hv => ?_); (exact rfl); (exact rfl); (subst hv); (apply Stop.h)))) | (refine ari ?_ ?_; omega) | (refine aru ?_ ?_; omega) | (apply sel; exact rfl) | (refine ix0 rfl ?_) | (refine ix1 rfl ?_) | (refine ix2 rfl ?_) | (refine ix3 rfl ?_) | (apply ixj; omega) | (refine ixn ?_ ?_; omega) | (refine ixs0 rfl ?_) | (refine ixs1 rfl ?_) | (refine ixs_j ?_ ?_; omega) | (refine ixs_n ?_ ?_; omega) | (apply ld_o; exact rfl) | (apply ldN_a; exact rfl) | (apply ldN_o; (exact rfl); exact rfl) | (apply st_o; (exact rfl); exact rfl) | (apply stN_o; (exact rfl); (exact rfl); exact rfl) | (refine new_i (fun bk hbk => ?_)) | (apply when_dE; (exact rfl); (exact rfl); all_goals intro hc) | (apply when_dF; (exact rfl); (exact rfl); all_goals intro hc) | (apply when_nE; (exact rfl); (exact rfl); all_goals intro hc) | (apply when_nF; (exact rfl); (exact rfl); all_goals intro hc) | (apply br_dE; (exact rfl); all_goals intro hc) | (apply br_nE; (exact rfl); all_goals intro hc) | (refine mm_min ?_) | (refine mm_max ?_) | (refine rem_i ?_ ?_; omega) | (refine SelN.mk ?_) | (refine Both.mk ?_ ?_) | (exact True.intro))
        refine Stop.mk ?_
        repeat' ((try (conv => whnf)); first | (refine when_ye ?_ ?_; exact rfl) | (refine when_ne ?_ ?_; exact rfl) | (refine br_te ?_ ?_; exact rfl) | (refine br_fe ?_ ?_; exact rfl) | (apply br_pyE; (exact rfl); omega) | (apply br_pnE; (exact rfl); omega) | (apply when_pyE; (exact rfl); omega) | (apply when_pnE; (exact rfl); omega) | (apply br_npyE; (exact rfl); omega) | (apply br_npnE; (exact rfl); omega) | (apply when_npyE; (exact rfl); omega) | (apply when_npnE; (exact rfl); omega) | (refine CallV.mk ⟨ok_new1, ?_⟩) | ((with_reducible show CallT _ _ _ _ _ _); first | ((refine call_x (hn1 _ inferInstance) ?_ ?_ (fun c1 v hv => ?_); (exact rfl); (exact rfl); (subst hv); (apply Stop.h)))) | (refine ari ?_ ?_; omega) | (refine aru ?_ ?_; omega) | (apply sel; exact rfl) | (refine ix0 rfl ?_) | (refine ix1 rfl ?_) | (refine ix2 rfl ?_) | (refine ix3 rfl ?_) | (apply ixj; omega) | (refine ixn ?_ ?_; omega) | (refine ixs0 rfl ?_) | (refine ixs1 rfl ?_) | (refine ixs_j ?_ ?_; omega) | (refine ixs_n ?_ ?_; omega) | (apply ld_o; exact rfl) | (apply ldN_a; exact rfl) | (apply ldN_o; (exact rfl); exact rfl) | (apply st_o; (exact rfl); exact rfl) | (apply stN_o; (exact rfl); (exact rfl); exact rfl) | (refine new_i (fun bk hbk => ?_)) | (apply when_dE; (exact rfl); (exact rfl); all_goals intro hc) | (apply when_dF; (exact rfl); (exact rfl); all_goals intro hc) | (apply when_nE; (exact rfl); (exact rfl); all_goals intro hc) | (apply when_nF; (exact rfl); (exact rfl); all_goals intro hc) | (apply br_dE; (exact rfl); all_goals intro hc) | (apply br_nE; (exact rfl); all_goals intro hc) | (refine mm_min ?_) | (refine mm_max ?_) | (refine rem_i ?_ ?_; omega) | (refine SelN.mk ?_) | (refine Both.mk ?_ ?_) | (exact True.intro))
        refine Stop.mk ?_
        repeat' ((try (conv => whnf)); first | (refine when_ye ?_ ?_; exact rfl) | (refine when_ne ?_ ?_; exact rfl) | (refine br_te ?_ ?_; exact rfl) | (refine br_fe ?_ ?_; exact rfl) | (apply br_pyE; (exact rfl); omega) | (apply br_pnE; (exact rfl); omega) | (apply when_pyE; (exact rfl); omega) | (apply when_pnE; (exact rfl); omega) | (apply br_npyE; (exact rfl); omega) | (apply br_npnE; (exact rfl); omega) | (apply when_npyE; (exact rfl); omega) | (apply when_npnE; (exact rfl); omega) | (refine CallV.mk ⟨ok_new1, ?_⟩) | ((with_reducible show CallT _ _ _ _ _ _); first | ((refine call_x (hn1 _ inferInstance) ?_ ?_ (fun c2 v hv => ?_); (exact rfl); (exact rfl); (subst hv); (apply Stop.h)))) | (refine ari ?_ ?_; omega) | (refine aru ?_ ?_; omega) | (apply sel; exact rfl) | (refine ix0 rfl ?_) | (refine ix1 rfl ?_) | (refine ix2 rfl ?_) | (refine ix3 rfl ?_) | (apply ixj; omega) | (refine ixn ?_ ?_; omega) | (refine ixs0 rfl ?_) | (refine ixs1 rfl ?_) | (refine ixs_j ?_ ?_; omega) | (refine ixs_n ?_ ?_; omega) | (apply ld_o; exact rfl) | (apply ldN_a; exact rfl) | (apply ldN_o; (exact rfl); exact rfl) | (apply st_o; (exact rfl); exact rfl) | (apply stN_o; (exact rfl); (exact rfl); exact rfl) | (refine new_i (fun bk hbk => ?_)) | (apply when_dE; (exact rfl); (exact rfl); all_goals intro hc) | (apply when_dF; (exact rfl); (exact rfl); all_goals intro hc) | (apply when_nE; (exact rfl); (exact rfl); all_goals intro hc) | (apply when_nF; (exact rfl); (exact rfl); all_goals intro hc) | (apply br_dE; (exact rfl); all_goals intro hc) | (apply br_nE; (exact rfl); all_goals intro hc) | (refine mm_min ?_) | (refine mm_max ?_) | (refine rem_i ?_ ?_; omega) | (refine SelN.mk ?_) | (refine Both.mk ?_ ?_) | (exact True.intro))
        refine Stop.mk ?_
        repeat' ((try (conv => whnf)); first | (refine when_ye ?_ ?_; exact rfl) | (refine when_ne ?_ ?_; exact rfl) | (refine br_te ?_ ?_; exact rfl) | (refine br_fe ?_ ?_; exact rfl) | (apply br_pyE; (exact rfl); omega) | (apply br_pnE; (exact rfl); omega) | (apply when_pyE; (exact rfl); omega) | (apply when_pnE; (exact rfl); omega) | (apply br_npyE; (exact rfl); omega) | (apply br_npnE; (exact rfl); omega) | (apply when_npyE; (exact rfl); omega) | (apply when_npnE; (exact rfl); omega) | (refine CallV.mk ⟨ok_new1, ?_⟩) | ((with_reducible show CallT _ _ _ _ _ _); first | ((refine call_x (hn1 _ inferInstance) ?_ ?_ (fun c3 v hv => ?_); (exact rfl); (exact rfl); (subst hv); (apply Stop.h)))) | (refine ari ?_ ?_; omega) | (refine aru ?_ ?_; omega) | (apply sel; exact rfl) | (refine ix0 rfl ?_) | (refine ix1 rfl ?_) | (refine ix2 rfl ?_) | (refine ix3 rfl ?_) | (apply ixj; omega) | (refine ixn ?_ ?_; omega) | (refine ixs0 rfl ?_) | (refine ixs1 rfl ?_) | (refine ixs_j ?_ ?_; omega) | (refine ixs_n ?_ ?_; omega) | (apply ld_o; exact rfl) | (apply ldN_a; exact rfl) | (apply ldN_o; (exact rfl); exact rfl) | (apply st_o; (exact rfl); exact rfl) | (apply stN_o; (exact rfl); (exact rfl); exact rfl) | (refine new_i (fun bk hbk => ?_)) | (apply when_dE; (exact rfl); (exact rfl); all_goals intro hc) | (apply when_dF; (exact rfl); (exact rfl); all_goals intro hc) | (apply when_nE; (exact rfl); (exact rfl); all_goals intro hc) | (apply when_nF; (exact rfl); (exact rfl); all_goals intro hc) | (apply br_dE; (exact rfl); all_goals intro hc) | (apply br_nE; (exact rfl); all_goals intro hc) | (refine mm_min ?_) | (refine mm_max ?_) | (refine rem_i ?_ ?_; omega) | (refine SelN.mk ?_) | (refine Both.mk ?_ ?_) | (exact True.intro))
        refine Stop.mk ?_
        obtain ⟨bs', hb0, hb1, hb2, hb3, hbo⟩ : ∃ bs' : Nat → Nat, bs' (4 * w) = c0 ∧ bs' (4 * w + 1) = c1 ∧ bs' (4 * w + 2) = c2 ∧ bs' (4 * w + 3) = c3 ∧ ∀ j, j < 4 * w → bs' j = bs j := by
          refine ⟨fun j => if j < 4 * w then bs j else if j = 4 * w then c0 else if j = 4 * w + 1 then c1 else if j = 4 * w + 2 then c2 else c3, ?_, ?_, ?_, ?_, fun j hj => if_pos hj⟩
          · show (if 4 * w < 4 * w then _ else _) = _; rw [if_neg (by omega), if_pos rfl]
          · show (if 4 * w + 1 < 4 * w then _ else _) = _; rw [if_neg (by omega), if_neg (by omega), if_pos rfl]
          · show (if 4 * w + 2 < 4 * w then _ else _) = _; rw [if_neg (by omega), if_neg (by omega), if_neg (by omega), if_pos rfl]
          · show (if 4 * w + 3 < 4 * w then _ else _) = _; rw [if_neg (by omega), if_neg (by omega), if_neg (by omega), if_neg (by omega)]
        have hg : ∀ k c, k < 4 → bs' (4 * w + k) = c → (if 4 * w + k < 4 * (w + 1) then wrdV bs' n (4 * w + k) else Value.slice none 0 0) = .slice (some ⟨c, 0, none⟩) n n := fun k c hk hb => by
          rw [if_pos (by omega)]
          show Value.slice (some ⟨bs' (4 * w + k), 0, none⟩) n n = _
          rw [hb]
        have hV : ∀ i, i < 256 → (i < 4 * w ∨ 4 * w + 4 ≤ i) → (fun i => if i < 4 * (w + 1) then wrdV bs' n i else .slice none 0 0) i = (fun i => if i < 4 * w then wrdV bs n i else .slice none 0 0) i := fun i _ hi => by
          show (if i < 4 * (w + 1) then wrdV bs' n i else Value.slice none 0 0) = (if i < 4 * w then wrdV bs n i else Value.slice none 0 0)
          rcases hi with hi | hi
          · rw [if_pos (by omega), if_pos hi]
            show Value.slice (some ⟨bs' i, 0, none⟩) n n = _
            rw [hbo i hi]
          · rw [if_neg (by omega), if_neg (by omega)]
        have hac : accO bs' (fun _ => List.replicate n (0, 0)) (4 * (w + 1)) = (((accO bs (fun _ => List.replicate n (0, 0)) (4 * w) ++ [canE encAc 91 c0 (List.replicate n (0, 0))]) ++ [canE encAc 91 c1 (List.replicate n (0, 0))]) ++ [canE encAc 91 c2 (List.replicate n (0, 0))]) ++ [canE encAc 91 c3 (List.replicate n (0, 0))] := by
          show (((accO bs' (fun _ => List.replicate n (0, 0)) (4 * w) ++ [canE encAc 91 (bs' (4 * w)) (List.replicate n (0, 0))]) ++ [canE encAc 91 (bs' (4 * w + 1)) (List.replicate n (0, 0))]) ++ [canE encAc 91 (bs' (4 * w + 2)) (List.replicate n (0, 0))]) ++ [canE encAc 91 (bs' (4 * w + 3)) (List.replicate n (0, 0))] = _
          rw [hb0, hb1, hb2, hb3, accO_congr (bs' := bs) (H' := (fun _ => List.replicate n (0, 0))) fun j hj => ⟨hbo j hj, rfl⟩]
        repeat' ((try (conv => whnf)); first | (refine when_ye ?_ ?_; exact rfl) | (refine when_ne ?_ ?_; exact rfl) | (refine br_te ?_ ?_; exact rfl) | (refine br_fe ?_ ?_; exact rfl) | (apply br_pyE; (exact rfl); omega) | (apply br_pnE; (exact rfl); omega) | (apply when_pyE; (exact rfl); omega) | (apply when_pnE; (exact rfl); omega) | (apply br_npyE; (exact rfl); omega) | (apply br_npnE; (exact rfl); omega) | (apply when_npyE; (exact rfl); omega) | (apply when_npnE; (exact rfl); omega) | (refine stN_w (w := w) (V2 := (fun i => if i < 4 * (w + 1) then wrdV bs' n i else .slice none 0 0)) rfl hw64 (hg 0 c0 (by omega) hb0) (hg 1 c1 (by omega) hb1) (hg 2 c2 (by omega) hb2) (hg 3 c3 (by omega) hb3) hV rfl ?_) | (refine ari ?_ ?_; omega) | (refine aru ?_ ?_; omega) | (apply sel; exact rfl) | (refine ix0 rfl ?_) | (refine ix1 rfl ?_) | (refine ix2 rfl ?_) | (refine ix3 rfl ?_) | (apply ixj; omega) | (refine ixn ?_ ?_; omega) | (refine ixs0 rfl ?_) | (refine ixs1 rfl ?_) | (refine ixs_j ?_ ?_; omega) | (refine ixs_n ?_ ?_; omega) | (apply ld_o; exact rfl) | (apply ldN_a; exact rfl) | (apply ldN_o; (exact rfl); exact rfl) | (apply st_o; (exact rfl); exact rfl) | (apply stN_o; (exact rfl); (exact rfl); exact rfl) | (refine new_i (fun bk hbk => ?_)) | (apply when_dE; (exact rfl); (exact rfl); all_goals intro hc) | (apply when_dF; (exact rfl); (exact rfl); all_goals intro hc) | (apply when_nE; (exact rfl); (exact rfl); all_goals intro hc) | (apply when_nF; (exact rfl); (exact rfl); all_goals intro hc) | (apply br_dE; (exact rfl); all_goals intro hc) | (apply br_nE; (exact rfl); all_goals intro hc) | (refine mm_min ?_) | (refine mm_max ?_) | (refine rem_i ?_ ?_; omega) | (refine SelN.mk ?_) | (refine Both.mk ?_ ?_) | (exact True.intro))
        refine ⟨(w + 1, bs'), by dsimp only; omega, by dsimp only; omega, ⟨vi (by dsimp only; omega), trivial⟩, ?_⟩
        dsimp only
        rw [hac]
        exact (ent_k4 (b0 := tb) (b1 := cb) (b2 := eb) (b3 := bb) rfl).trans (Ent.of_perm ((((acc4.cons _).cons _).cons _).cons _))
      · have hw' : ¬ (w : Int) < 64 := by omega
        have hw3 : w = 64 := by omega
        subst hw3
        have hce : ckV 0 0 (.slice (some ⟨eb, 0, none⟩) n n) (.slice (some ⟨sb, 0, none⟩) n c) (.slice (some ⟨bb, 0, none⟩) n n) (fun i => if i < 4 * 64 then wrdV bs n i else .slice none 0 0) nnR = ckL 0 0 eb sb bb n c (wrdV bs n) nnR := by
          unfold ckV ckL
          rw [rowG_congr (g' := wrdV bs n) fun j hj => if_pos (by omega)]
        have hac : accO bs (hisR [] n) 256 = accO bs (fun _ => List.replicate n (0, 0)) (4 * 64) := accO_congr fun j _ => ⟨rfl, accR_nil⟩
        rw [hce]
        repeat' ((try (conv => whnf)); first | (refine when_ye ?_ ?_; exact rfl) | (refine when_ne ?_ ?_; exact rfl) | (refine br_te ?_ ?_; exact rfl) | (refine br_fe ?_ ?_; exact rfl) | (apply br_pyE; (exact rfl); omega) | (apply br_pnE; (exact rfl); omega) | (apply when_pyE; (exact rfl); omega) | (apply when_pnE; (exact rfl); omega) | (apply br_npyE; (exact rfl); omega) | (apply br_npnE; (exact rfl); omega) | (apply when_npyE; (exact rfl); omega) | (apply when_npnE; (exact rfl); omega) | (refine br_pyE ?_ hw' ?_; exact rfl) | (refine br_pnE ?_ hw' ?_; exact rfl) | (refine when_pyE ?_ hw' ?_; exact rfl) | (refine when_pnE ?_ hw' ?_; exact rfl) | (refine br_npyE ?_ hw' ?_; exact rfl) | (refine br_npnE ?_ hw' ?_; exact rfl) | (refine when_npyE ?_ hw' ?_; exact rfl) | (refine when_npnE ?_ hw' ?_; exact rfl) | (refine ari ?_ ?_; omega) | (refine aru ?_ ?_; omega) | (apply sel; exact rfl) | (refine ix0 rfl ?_) | (refine ix1 rfl ?_) | (refine ix2 rfl ?_) | (refine ix3 rfl ?_) | (apply ixj; omega) | (refine ixn ?_ ?_; omega) | (refine ixs0 rfl ?_) | (refine ixs1 rfl ?_) | (refine ixs_j ?_ ?_; omega) | (refine ixs_n ?_ ?_; omega) | (apply ld_o; exact rfl) | (apply ldN_a; exact rfl) | (apply ldN_o; (exact rfl); exact rfl) | (apply st_o; (exact rfl); exact rfl) | (apply stN_o; (exact rfl); (exact rfl); exact rfl) | (refine new_i (fun bk hbk => ?_)) | (apply when_dE; (exact rfl); (exact rfl); all_goals intro hc) | (apply when_dF; (exact rfl); (exact rfl); all_goals intro hc) | (apply when_nE; (exact rfl); (exact rfl); all_goals intro hc) | (apply when_nF; (exact rfl); (exact rfl); all_goals intro hc) | (apply br_dE; (exact rfl); all_goals intro hc) | (apply br_nE; (exact rfl); all_goals intro hc) | (refine mm_min ?_) | (refine mm_max ?_) | (refine rem_i ?_ ?_; omega) | (refine SelN.mk ?_) | (refine Both.mk ?_ ?_) | (exact True.intro))
        refine ⟨⟨cb, eb, sb, c, bb, bs, S, List.replicate n (none, 0, 0), D, X⟩, ⟨rfl, WF0.nil h1 h2, hB, hie, by simp, fun u hu => ?_, fun u hu h3 => ?_, fun u hu _ => ?_⟩, ?_⟩
        · rw [seenR_nil]
          exact hrow u (by omega)
        · exact absurd h3 (by show (0 : Int) ≠ 3; decide)
        · show (List.replicate n ((none, 0, 0) : Sl))[u]? = _
          rw [List.getElem?_replicate, if_pos hu]
        · show Ent W0 _ (ckO 0 0 (frst []) (endsR [] n) (hisR [] n) cb eb sb bb n c bs (List.replicate n (none, 0, 0)) D X ++ own)
          unfold ckO
          rw [frst_nil, endsR_nil, hac]
          refine Ent.drop.trans (Ent.of_perm ?_)
          refine (((?_ : List.Perm _ _).cons _).cons _).cons _
          have hp : (accO bs (fun _ => List.replicate n (0, 0)) (4 * 64) ++ (X ++ (D ++ own))).Perm ((D ++ (accO bs (fun _ => List.replicate n (0, 0)) (4 * 64) ++ X)) ++ own) := by
            rw [← List.append_assoc, ← List.append_assoc]
            exact List.perm_append_comm.append_right own
          exact hp
end
end Go.Proofs.YtofjnldidkiihaaDoor
namespace Go.Proofs.YtofjnldidkiihaaDoor
open Go
set_option maxRecDepth 10000
set_option maxHeartbeats 8000000
theorem chkG_two {n : Nat} : ∀ (l : List EH) (i : Nat) (pa : Int) (last : List Int), (chkG n l i pa last).2 = 0 ∨ (chkG n l i pa last).2 = 91
  | [], _, _, _ => .inl rfl
  | e :: l, i, pa, last => by
    unfold chkG
    split
    · exact chkG_two l _ _ _
    · exact .inr rfl
theorem chk_bad {l : List EH} {n k : Nat} (h1 : 1 ≤ n) (h2 : n ≤ 16) (hl : l.length ≤ 65536) (hk : k < l.length) (hf : okAt l n k = false) : (chkE l n).2 = 91 := by
  have h0 : (chkE l n).2 ≠ 0 := fun h => by
    have := (chk_ok.1 h).2.2.2.2 k hk
    rw [Int.toNat_natCast, hf] at this
    cases this
  unfold chkE at h0 ⊢
  rw [if_neg (by omega), if_neg (by omega)] at h0 ⊢
  exact (chkG_two _ _ _ _).resolve_left h0
theorem okAt_take {l : List EH} {n i : Nat} {e : EH} (he : l[i]? = some e) : okAt l n i = fitsM n ((l.take i).length == 0) (paAt (l.take i) (l.take i).length) (lkL (l.take i) e.t (l.take i).length) e := by
  have hi := (List.getElem?_eq_some_iff.1 he).1
  have hl : (l.take i).length = i := by rw [List.length_take]; omega
  have e1 : l = (l.take i ++ [e]) ++ l.drop (i + 1) := by
    have : l.take i ++ [e] = l.take (i + 1) := by rw [List.take_add_one, he]; rfl
    rw [this, List.take_append_drop]
  have h2 : okAt l n i = okAt (l.take i ++ [e]) n i := by
    conv => lhs; rw [e1]
    exact okAt_app (by rw [List.length_append, hl]; simp)
  have h3 := okAt_end (l := l.take i) (e := e) (n := n)
  rw [hl] at h3
  rw [h2, h3, hl]
theorem RdE.pre {α : Type} {enc : α → List Value} {sz : Nat} {W0 : World} {own : Own} {a : Option Addr} {l r : List α} (h : RdE enc sz W0 own a (l ++ r)) : RdE enc sz W0 own a l :=
  ⟨fun hne => h.isS (fun e => hne (List.append_eq_nil_iff.1 e).1), fun x hx => h.wid x (List.mem_append_left _ hx), fun {j k x v} hx hv => h.cell (by rw [List.getElem?_append_left (List.getElem?_eq_some_iff.1 hx).1]; exact hx) hv⟩
section
variable {W0 : World} {own : Own}
theorem spec_f2 {P : Program} {σ : Type} {k : FuncId} {args : List Value} {e1 e2 : Nat × (Obj → Prop)} {D r : Own} {R : σ → Value → Prop} {O : σ → Own} (h : Spec P W0 k args (D ++ ([e1, e2] ++ r)) fun v own' => ∃ s, R s v ∧ Ent W0 own' (O s ++ ([e1, e2] ++ r))) : Spec P W0 k args (e1 :: e2 :: (D ++ r)) fun v own' => ∃ s, R s v ∧ Ent W0 own' (e1 :: e2 :: (O s ++ r)) := spec_front (A := [e1, e2]) h
theorem spec_f1 {P : Program} {σ : Type} {k : FuncId} {args : List Value} {e1 : Nat × (Obj → Prop)} {D r : Own} {R : σ → Value → Prop} {O : σ → Own} (h : Spec P W0 k args (D ++ ([e1] ++ r)) fun v own' => ∃ s, R s v ∧ Ent W0 own' (O s ++ ([e1] ++ r))) : Spec P W0 k args (e1 :: (D ++ r)) fun v own' => ∃ s, R s v ∧ Ent W0 own' (e1 :: (O s ++ r)) := spec_front (A := [e1]) h
theorem sp_trace {cnt at1 : Int} {cb eb sb bb n sc : Nat} {bs : Nat → Nat} {r : RaceM} [i1 : EntC own [ckN cnt at1 cb eb sb bb n sc bs r]] : Pure Tryd.prog W0 24 [.pointer (some ⟨cb, 0, none⟩)] own (.agg (encRc r).toArray) := by
  refine pure_of (spec_of mixed low_tdrf_Checker_Race (by simp [ir_tdrf_Checker_Race]) ?_)
  have hld : ∀ (own' : Own) (_ : EntC own' [ckN cnt at1 cb eb sb bb n sc bs r]) (K : Array Value → Prop), K (encRc r).toArray → LdN W0 own' ⟨cb, 261, none⟩ 3 K := fun own' i K hk => by
    obtain ⟨vs, h1, h2, h3⟩ : LdN W0 [ckN cnt at1 cb eb sb bb n sc bs r] ⟨cb, 261, none⟩ 3 K := ldN_ck rfl hk
    exact ⟨vs, h1, fun w hw => h2 w (i.h W0 w hw), h3⟩
  repeat' ((try (conv => whnf)); first | (refine when_ye ?_ ?_; exact rfl) | (refine when_ne ?_ ?_; exact rfl) | (refine br_te ?_ ?_; exact rfl) | (refine br_fe ?_ ?_; exact rfl) | (apply br_pyE; (exact rfl); omega) | (apply br_pnE; (exact rfl); omega) | (apply when_pyE; (exact rfl); omega) | (apply when_pnE; (exact rfl); omega) | (apply br_npyE; (exact rfl); omega) | (apply br_npnE; (exact rfl); omega) | (apply when_npyE; (exact rfl); omega) | (apply when_npnE; (exact rfl); omega) | (refine hld _ inferInstance _ ?_) | (refine ari ?_ ?_; omega) | (refine aru ?_ ?_; omega) | (apply sel; exact rfl) | (refine ix0 rfl ?_) | (refine ix1 rfl ?_) | (refine ix2 rfl ?_) | (refine ix3 rfl ?_) | (apply ixj; omega) | (refine ixn ?_ ?_; omega) | (refine ixs0 rfl ?_) | (refine ixs1 rfl ?_) | (refine ixs_j ?_ ?_; omega) | (refine ixs_n ?_ ?_; omega) | (apply ld_o; exact rfl) | (apply ldN_a; exact rfl) | (apply ldN_o; (exact rfl); exact rfl) | (apply st_o; (exact rfl); exact rfl) | (apply stN_o; (exact rfl); (exact rfl); exact rfl) | (refine new_i (fun bk hbk => ?_)) | (apply when_dE; (exact rfl); (exact rfl); all_goals intro hc) | (apply when_dF; (exact rfl); (exact rfl); all_goals intro hc) | (apply when_nE; (exact rfl); (exact rfl); all_goals intro hc) | (apply when_nF; (exact rfl); (exact rfl); all_goals intro hc) | (apply br_dE; (exact rfl); all_goals intro hc) | (apply br_nE; (exact rfl); all_goals intro hc) | (refine mm_min ?_) | (refine mm_max ?_) | (refine rem_i ?_ ?_; omega) | (refine SelN.mk ?_) | (refine cut_n ?_) | (refine Both.mk ?_ ?_) | (exact True.intro))
  exact ⟨rfl, (by first | exact ent_i | (repeat (first | exact Ent.refl | exact Ent.left | refine Ent.cons ?_ | refine Ent.app ?_)))⟩
theorem sp_tclock_no {cnt at1 t : Int} {cb eb sb bb n sc : Nat} {bs : Nat → Nat} {r : RaceM} [i1 : EntC own [ckN cnt at1 cb eb sb bb n sc bs r]] (ht : t < 0 ∨ n ≤ t) : Pure Tryd.prog W0 29 [.pointer (some ⟨cb, 0, none⟩), .int .i64 t] own (.slice none 0 0) := by
  refine pure_of (spec_of mixed low_tdrf_Checker_Clock (by simp [ir_tdrf_Checker_Clock]) ?_)
  have h3 : Cl W0 own cb 3 (.slice (some ⟨sb, 0, none⟩) n sc) := Kn.ent (cl_of (List.mem_singleton.2 rfl) rfl) (i1.h W0)
  by_cases h1 : t < 0
  · repeat' ((try (conv => whnf)); first | (refine when_ye ?_ ?_; exact rfl) | (refine when_ne ?_ ?_; exact rfl) | (refine br_te ?_ ?_; exact rfl) | (refine br_fe ?_ ?_; exact rfl) | (apply br_pyE; (exact rfl); omega) | (apply br_pnE; (exact rfl); omega) | (apply when_pyE; (exact rfl); omega) | (apply when_pnE; (exact rfl); omega) | (apply br_npyE; (exact rfl); omega) | (apply br_npnE; (exact rfl); omega) | (apply when_npyE; (exact rfl); omega) | (apply when_npnE; (exact rfl); omega) | (refine br_pyE ?_ h1 ?_; exact rfl) | (refine br_pnE ?_ h1 ?_; exact rfl) | (refine when_pyE ?_ h1 ?_; exact rfl) | (refine when_pnE ?_ h1 ?_; exact rfl) | (refine br_npyE ?_ h1 ?_; exact rfl) | (refine br_npnE ?_ h1 ?_; exact rfl) | (refine when_npyE ?_ h1 ?_; exact rfl) | (refine when_npnE ?_ h1 ?_; exact rfl) | (refine ari ?_ ?_; omega) | (refine aru ?_ ?_; omega) | (apply sel; exact rfl) | (refine ix0 rfl ?_) | (refine ix1 rfl ?_) | (refine ix2 rfl ?_) | (refine ix3 rfl ?_) | (apply ixj; omega) | (refine ixn ?_ ?_; omega) | (refine ixs0 rfl ?_) | (refine ixs1 rfl ?_) | (refine ixs_j ?_ ?_; omega) | (refine ixs_n ?_ ?_; omega) | (apply ld_o; exact rfl) | (apply ldN_a; exact rfl) | (apply ldN_o; (exact rfl); exact rfl) | (apply st_o; (exact rfl); exact rfl) | (apply stN_o; (exact rfl); (exact rfl); exact rfl) | (refine new_i (fun bk hbk => ?_)) | (apply when_dE; (exact rfl); (exact rfl); all_goals intro hc) | (apply when_dF; (exact rfl); (exact rfl); all_goals intro hc) | (apply when_nE; (exact rfl); (exact rfl); all_goals intro hc) | (apply when_nF; (exact rfl); (exact rfl); all_goals intro hc) | (apply br_dE; (exact rfl); all_goals intro hc) | (apply br_nE; (exact rfl); all_goals intro hc) | (refine mm_min ?_) | (refine mm_max ?_) | (refine rem_i ?_ ?_; omega) | (refine SelN.mk ?_) | (refine cut_n ?_) | (refine Both.mk ?_ ?_) | (exact True.intro))
    exact ⟨rfl, (by first | exact ent_i | (repeat (first | exact Ent.refl | exact Ent.left | refine Ent.cons ?_ | refine Ent.app ?_)))⟩
  · have h2 : t ≥ n := by omega
    repeat' ((try (conv => whnf)); first | (refine when_ye ?_ ?_; exact rfl) | (refine when_ne ?_ ?_; exact rfl) | (refine br_te ?_ ?_; exact rfl) | (refine br_fe ?_ ?_; exact rfl) | (apply br_pyE; (exact rfl); omega) | (apply br_pnE; (exact rfl); omega) | (apply when_pyE; (exact rfl); omega) | (apply when_pnE; (exact rfl); omega) | (apply br_npyE; (exact rfl); omega) | (apply br_npnE; (exact rfl); omega) | (apply when_npyE; (exact rfl); omega) | (apply when_npnE; (exact rfl); omega) | (refine br_pyE ?_ h1 ?_; exact rfl) | (refine br_pnE ?_ h1 ?_; exact rfl) | (refine when_pyE ?_ h1 ?_; exact rfl) | (refine when_pnE ?_ h1 ?_; exact rfl) | (refine br_npyE ?_ h1 ?_; exact rfl) | (refine br_npnE ?_ h1 ?_; exact rfl) | (refine when_npyE ?_ h1 ?_; exact rfl) | (refine when_npnE ?_ h1 ?_; exact rfl) | (refine br_pyE ?_ h2 ?_; exact rfl) | (refine br_pnE ?_ h2 ?_; exact rfl) | (refine when_pyE ?_ h2 ?_; exact rfl) | (refine when_pnE ?_ h2 ?_; exact rfl) | (refine br_npyE ?_ h2 ?_; exact rfl) | (refine br_npnE ?_ h2 ?_; exact rfl) | (refine when_npyE ?_ h2 ?_; exact rfl) | (refine when_npnE ?_ h2 ?_; exact rfl) | ((with_reducible show Ld _ _ _ _); first | (refine ldK h3 ?_)) | (refine ari ?_ ?_; omega) | (refine aru ?_ ?_; omega) | (apply sel; exact rfl) | (refine ix0 rfl ?_) | (refine ix1 rfl ?_) | (refine ix2 rfl ?_) | (refine ix3 rfl ?_) | (apply ixj; omega) | (refine ixn ?_ ?_; omega) | (refine ixs0 rfl ?_) | (refine ixs1 rfl ?_) | (refine ixs_j ?_ ?_; omega) | (refine ixs_n ?_ ?_; omega) | (apply ld_o; exact rfl) | (apply ldN_a; exact rfl) | (apply ldN_o; (exact rfl); exact rfl) | (apply st_o; (exact rfl); exact rfl) | (apply stN_o; (exact rfl); (exact rfl); exact rfl) | (refine new_i (fun bk hbk => ?_)) | (apply when_dE; (exact rfl); (exact rfl); all_goals intro hc) | (apply when_dF; (exact rfl); (exact rfl); all_goals intro hc) | (apply when_nE; (exact rfl); (exact rfl); all_goals intro hc) | (apply when_nF; (exact rfl); (exact rfl); all_goals intro hc) | (apply br_dE; (exact rfl); all_goals intro hc) | (apply br_nE; (exact rfl); all_goals intro hc) | (refine mm_min ?_) | (refine mm_max ?_) | (refine rem_i ?_ ?_; omega) | (refine SelN.mk ?_) | (refine cut_n ?_) | (refine Both.mk ?_ ?_) | (exact True.intro))
    exact ⟨rfl, (by first | exact ent_i | (repeat (first | exact Ent.refl | exact Ent.left | refine Ent.cons ?_ | refine Ent.app ?_)))⟩
theorem sp_tclock {n t : Nat} {L : List EH} {s : CkB} (hM : CkM W0 n L s) (ht : t < n) [i1 : EntC own [ckN L.length (paAt L L.length) s.cb s.eb s.sb s.bb n s.sc s.bs (frst L)]] [i2 : EntC own s.D] [i3 : EntC own s.X] :
    Spec Tryd.prog W0 29 [.pointer (some ⟨s.cb, 0, none⟩), .int .i64 t] own fun v own' => ∃ q : Option Addr × Nat × Own, (v = .slice q.1 n q.2.1 ∧ BufE encI 3 1 q.1 q.2.1 (seenR L n t) q.2.2) ∧ Ent W0 own' (q.2.2 ++ own) := by
  refine spec_of mixed low_tdrf_Checker_Clock (by simp [ir_tdrf_Checker_Clock]) ?_
  have h3 : Cl W0 own s.cb 3 (.slice (some ⟨s.sb, 0, none⟩) n s.sc) := Kn.ent (cl_of (List.mem_singleton.2 rfl) rfl) (i1.h W0)
  have hn16 := hM.wf.2.1
  obtain ⟨xa, xc, hx, hxr⟩ := hM.sr t ht
  have hl : (seenR L n t).length = n := rowG_len
  have hcl := sp_clone (own := own) (cap := xc) hxr.up (fun h => by rw [h] at hl; simp at hl; omega) (by omega)
  rw [hl] at hcl
  have hS : RdE encSl 1 W0 s.D (some ⟨s.sb, 0, none⟩) s.S := hM.sB.rd
  have h1 : ¬ (t : Int) < 0 := by omega
  have h2 : ¬ (t : Int) ≥ n := by omega
  have hsl := hM.sl.symm
  repeat' ((try (conv => whnf)); first | (refine when_ye ?_ ?_; exact rfl) | (refine when_ne ?_ ?_; exact rfl) | (refine br_te ?_ ?_; exact rfl) | (refine br_fe ?_ ?_; exact rfl) | (apply br_pyE; (exact rfl); omega) | (apply br_pnE; (exact rfl); omega) | (apply when_pyE; (exact rfl); omega) | (apply when_pnE; (exact rfl); omega) | (apply br_npyE; (exact rfl); omega) | (apply br_npnE; (exact rfl); omega) | (apply when_npyE; (exact rfl); omega) | (apply when_npnE; (exact rfl); omega) | (refine br_pyE ?_ h1 ?_; exact rfl) | (refine br_pnE ?_ h1 ?_; exact rfl) | (refine when_pyE ?_ h1 ?_; exact rfl) | (refine when_pnE ?_ h1 ?_; exact rfl) | (refine br_npyE ?_ h1 ?_; exact rfl) | (refine br_npnE ?_ h1 ?_; exact rfl) | (refine when_npyE ?_ h1 ?_; exact rfl) | (refine when_npnE ?_ h1 ?_; exact rfl) | (refine br_pyE ?_ h2 ?_; exact rfl) | (refine br_pnE ?_ h2 ?_; exact rfl) | (refine when_pyE ?_ h2 ?_; exact rfl) | (refine when_pnE ?_ h2 ?_; exact rfl) | (refine br_npyE ?_ h2 ?_; exact rfl) | (refine br_npnE ?_ h2 ?_; exact rfl) | (refine when_npyE ?_ h2 ?_; exact rfl) | (refine when_npnE ?_ h2 ?_; exact rfl) | ((with_reducible show Ld _ _ _ _); first | (refine ldK h3 ?_) | (refine ldS0 hS hx rfl ?_)) | ((with_reducible show IxS _ _ _ _ _); first | ((refine ixC hx hsl ?_ ?_; (first | rfl | omega)))) | ((with_reducible show CallT _ _ _ _ _ _); first | ((refine call_x hcl ?_ ?_ (fun q v hv => ?_); (exact rfl); (exact rfl); (obtain ⟨a1, c1, D1⟩ := q; obtain ⟨rfl, hB1⟩ := hv; dsimp only at hB1)))) | (refine ari ?_ ?_; omega) | (refine aru ?_ ?_; omega) | (apply sel; exact rfl) | (refine ix0 rfl ?_) | (refine ix1 rfl ?_) | (refine ix2 rfl ?_) | (refine ix3 rfl ?_) | (apply ixj; omega) | (refine ixn ?_ ?_; omega) | (refine ixs0 rfl ?_) | (refine ixs1 rfl ?_) | (refine ixs_j ?_ ?_; omega) | (refine ixs_n ?_ ?_; omega) | (apply ld_o; exact rfl) | (apply ldN_a; exact rfl) | (apply ldN_o; (exact rfl); exact rfl) | (apply st_o; (exact rfl); exact rfl) | (apply stN_o; (exact rfl); (exact rfl); exact rfl) | (refine new_i (fun bk hbk => ?_)) | (apply when_dE; (exact rfl); (exact rfl); all_goals intro hc) | (apply when_dF; (exact rfl); (exact rfl); all_goals intro hc) | (apply when_nE; (exact rfl); (exact rfl); all_goals intro hc) | (apply when_nF; (exact rfl); (exact rfl); all_goals intro hc) | (apply br_dE; (exact rfl); all_goals intro hc) | (apply br_nE; (exact rfl); all_goals intro hc) | (refine mm_min ?_) | (refine mm_max ?_) | (refine rem_i ?_ ?_; omega) | (refine SelN.mk ?_) | (refine cut_n ?_) | (refine Both.mk ?_ ?_) | (exact True.intro))
  exact ⟨(a1, c1, D1), ⟨rfl, hB1⟩, Ent.refl⟩
theorem sp_trun {a : Option Addr} {l : List EH} {cap : Nat} (hN : LaidAt W0 0 noneV) (hR : RdE EH.enc 6 W0 own a l) (hE : ∀ e ∈ l, EvR W0 own e) (hl : l.length ≤ 65536) (th : Int) :
    Pure Tryd.prog W0 19 [.slice a l.length cap, .int .i64 th] own (.tuple #[.agg (encRc (frR l th)).toArray, .int .i64 (chkE l th).2]) := by
  refine pure_of (spec_of mixed low_tdrf_Run (by simp [ir_tdrf_Run]) ?_)
  by_cases hth : th < 1 ∨ 16 < th
  · have hno := fun own' => sp_tnew_no (W0 := W0) (own := own') th hth
    have hck : chkE l th = (0, 54) := by unfold chkE; rw [if_pos hth]
    have hfr : frR l th = nnR := by unfold frR; rw [hck, if_neg (by decide)]
    rw [hck, hfr]
    repeat' ((try (conv => whnf)); first | (refine when_ye ?_ ?_; exact rfl) | (refine when_ne ?_ ?_; exact rfl) | (refine br_te ?_ ?_; exact rfl) | (refine br_fe ?_ ?_; exact rfl) | (apply br_pyE; (exact rfl); omega) | (apply br_pnE; (exact rfl); omega) | (apply when_pyE; (exact rfl); omega) | (apply when_pnE; (exact rfl); omega) | (apply br_npyE; (exact rfl); omega) | (apply br_npnE; (exact rfl); omega) | (apply when_npyE; (exact rfl); omega) | (apply when_npnE; (exact rfl); omega) | (refine ldN_laid hN _ rfl rfl ?_) | ((with_reducible show CallT _ _ _ _ _ _); first | ((refine call_pe (hno _) ?_ ?_ ?_; (exact rfl); exact rfl))) | (refine ari ?_ ?_; omega) | (refine aru ?_ ?_; omega) | (apply sel; exact rfl) | (refine ix0 rfl ?_) | (refine ix1 rfl ?_) | (refine ix2 rfl ?_) | (refine ix3 rfl ?_) | (apply ixj; omega) | (refine ixn ?_ ?_; omega) | (refine ixs0 rfl ?_) | (refine ixs1 rfl ?_) | (refine ixs_j ?_ ?_; omega) | (refine ixs_n ?_ ?_; omega) | (apply ld_o; exact rfl) | (apply ldN_a; exact rfl) | (apply ldN_o; (exact rfl); exact rfl) | (apply st_o; (exact rfl); exact rfl) | (apply stN_o; (exact rfl); (exact rfl); exact rfl) | (refine new_i (fun bk hbk => ?_)) | (apply when_dE; (exact rfl); (exact rfl); all_goals intro hc) | (apply when_dF; (exact rfl); (exact rfl); all_goals intro hc) | (apply when_nE; (exact rfl); (exact rfl); all_goals intro hc) | (apply when_nF; (exact rfl); (exact rfl); all_goals intro hc) | (apply br_dE; (exact rfl); all_goals intro hc) | (apply br_nE; (exact rfl); all_goals intro hc) | (refine mm_min ?_) | (refine mm_max ?_) | (refine rem_i ?_ ?_; omega) | (refine SelN.mk ?_) | (refine cut_n ?_) | (refine Both.mk ?_ ?_) | (exact True.intro))
    exact ⟨rfl, (by first | exact ent_i | (repeat (first | exact Ent.refl | exact Ent.left | refine Ent.cons ?_ | refine Ent.app ?_)))⟩
  · obtain ⟨n, rfl⟩ : ∃ n : Nat, th = n := ⟨th.toNat, by omega⟩
    have hnew := fun own' => sp_tnew (W0 := W0) (own := own') hN (n := n) (by omega) (by omega)
    repeat' ((try (conv => whnf)); first | (refine when_ye ?_ ?_; exact rfl) | (refine when_ne ?_ ?_; exact rfl) | (refine br_te ?_ ?_; exact rfl) | (refine br_fe ?_ ?_; exact rfl) | (apply br_pyE; (exact rfl); omega) | (apply br_pnE; (exact rfl); omega) | (apply when_pyE; (exact rfl); omega) | (apply when_pnE; (exact rfl); omega) | (apply br_npyE; (exact rfl); omega) | (apply br_npnE; (exact rfl); omega) | (apply when_npyE; (exact rfl); omega) | (apply when_npnE; (exact rfl); omega) | (refine new_i (fun b4 hb4 => ?_)) | ((with_reducible show CallT _ _ _ _ _ _); first | ((refine call_x (hnew _) ?_ ?_ (fun s v hv => ?_); (exact rfl); (exact rfl); (obtain ⟨rfl, hM0⟩ := hv); (apply Stop.h)))) | (refine ari ?_ ?_; omega) | (refine aru ?_ ?_; omega) | (apply sel; exact rfl) | (refine ix0 rfl ?_) | (refine ix1 rfl ?_) | (refine ix2 rfl ?_) | (refine ix3 rfl ?_) | (apply ixj; omega) | (refine ixn ?_ ?_; omega) | (refine ixs0 rfl ?_) | (refine ixs1 rfl ?_) | (refine ixs_j ?_ ?_; omega) | (refine ixs_n ?_ ?_; omega) | (apply ld_o; exact rfl) | (apply ldN_a; exact rfl) | (apply ldN_o; (exact rfl); exact rfl) | (apply st_o; (exact rfl); exact rfl) | (apply stN_o; (exact rfl); (exact rfl); exact rfl) | (refine new_i (fun bk hbk => ?_)) | (apply when_dE; (exact rfl); (exact rfl); all_goals intro hc) | (apply when_dF; (exact rfl); (exact rfl); all_goals intro hc) | (apply when_nE; (exact rfl); (exact rfl); all_goals intro hc) | (apply when_nF; (exact rfl); (exact rfl); all_goals intro hc) | (apply br_dE; (exact rfl); all_goals intro hc) | (apply br_nE; (exact rfl); all_goals intro hc) | (refine mm_min ?_) | (refine mm_max ?_) | (refine rem_i ?_ ?_; omega) | (refine SelN.mk ?_) | (refine cut_n ?_) | (refine Both.mk ?_ ?_) | (exact True.intro))
    refine Stop.mk ?_
    repeat' ((try (conv => whnf)); first | (refine when_ye ?_ ?_; exact rfl) | (refine when_ne ?_ ?_; exact rfl) | (refine br_te ?_ ?_; exact rfl) | (refine br_fe ?_ ?_; exact rfl) | (apply br_pyE; (exact rfl); omega) | (apply br_pnE; (exact rfl); omega) | (apply when_pyE; (exact rfl); omega) | (apply when_pnE; (exact rfl); omega) | (apply br_npyE; (exact rfl); omega) | (apply br_npnE; (exact rfl); omega) | (apply when_npyE; (exact rfl); omega) | (apply when_npnE; (exact rfl); omega) | (refine ari ?_ ?_; omega) | (refine aru ?_ ?_; omega) | (apply sel; exact rfl) | (refine ix0 rfl ?_) | (refine ix1 rfl ?_) | (refine ix2 rfl ?_) | (refine ix3 rfl ?_) | (apply ixj; omega) | (refine ixn ?_ ?_; omega) | (refine ixs0 rfl ?_) | (refine ixs1 rfl ?_) | (refine ixs_j ?_ ?_; omega) | (refine ixs_n ?_ ?_; omega) | (apply ld_o; exact rfl) | (apply ldN_a; exact rfl) | (apply ldN_o; (exact rfl); exact rfl) | (apply st_o; (exact rfl); exact rfl) | (apply stN_o; (exact rfl); (exact rfl); exact rfl) | (refine new_i (fun bk hbk => ?_)) | (apply when_dE; (exact rfl); (exact rfl); all_goals intro hc) | (apply when_dF; (exact rfl); (exact rfl); all_goals intro hc) | (apply when_nE; (exact rfl); (exact rfl); all_goals intro hc) | (apply when_nF; (exact rfl); (exact rfl); all_goals intro hc) | (apply br_dE; (exact rfl); all_goals intro hc) | (apply br_nE; (exact rfl); all_goals intro hc) | (refine mm_min ?_) | (refine mm_max ?_) | (refine rem_i ?_ ?_; omega) | (refine SelN.mk ?_) | (refine cut_n ?_) | (refine Both.mk ?_ ?_) | (exact True.intro))
    refine loop_i (σ := Nat × CkB) (fun q => [(23, .int .i64 q.1)]) (fun q => q.2.O (l.take q.1) n ++ ((b4, fun o => o = Obj.cells #[.int .i64 0, .int .i64 0, .int .i64 0] 28) :: own)) (fun q => q.1 ≤ l.length ∧ q.2.cb = s.cb ∧ CkM W0 n (l.take q.1) q.2) (fun q => l.length - q.1) (0, s) ⟨Nat.zero_le _, rfl, hM0⟩ (by repeat' (first | exact True.intro | refine And.intro ?_ ?_ | exact rfl | exact vi (by omega) | (dsimp only; exact rfl) | (dsimp only; exact vi (by omega)))) Ent.refl rfl ?_
    clear hM0 hnew
    rintro ⟨i, s'⟩ junk ⟨hi, hcb, hM⟩
    obtain ⟨cb', eb', sb', sc', bb', bs', S', B', D', X'⟩ := s'
    dsimp only at hi hcb hM ⊢
    subst hcb
    by_cases hlt : i < l.length
    · obtain ⟨e, he⟩ : ∃ e, l[i]? = some e := ⟨_, List.getElem?_eq_getElem hlt⟩
      have hlt' : (i : Int) < l.length := by omega
      have htl : (l.take i).length = i := by rw [List.length_take]; omega
      have htk : l.take (i + 1) = l.take i ++ [e] := by rw [List.take_add_one, he]; rfl
      have hok := okAt_take (n := n) he
      have hEe := hE e (List.mem_of_getElem? he)
      by_cases hf : okAt l n i = true
      · have hadd := fun A : Own => sp_tadd (r0 := A ++ ((b4, fun o => o = Obj.cells #[.int .i64 0, .int .i64 0, .int .i64 0] 28) :: own)) hN hM hEe.up (by rw [← hok]; exact hf) (by omega)
        obtain ⟨ev, tt, k, wd, ra, rl, rc, wa, wl, wc⟩ := e
        dsimp only [EH.v] at hadd
        repeat' ((try (conv => whnf)); first | (refine when_ye ?_ ?_; exact rfl) | (refine when_ne ?_ ?_; exact rfl) | (refine br_te ?_ ?_; exact rfl) | (refine br_fe ?_ ?_; exact rfl) | (apply br_pyE; (exact rfl); omega) | (apply br_pnE; (exact rfl); omega) | (apply when_pyE; (exact rfl); omega) | (apply when_pnE; (exact rfl); omega) | (apply br_npyE; (exact rfl); omega) | (apply br_npnE; (exact rfl); omega) | (apply when_npyE; (exact rfl); omega) | (apply when_npnE; (exact rfl); omega) | (refine br_pyE ?_ hlt' ?_; exact rfl) | (refine br_pnE ?_ hlt' ?_; exact rfl) | (refine when_pyE ?_ hlt' ?_; exact rfl) | (refine when_pnE ?_ hlt' ?_; exact rfl) | (refine br_npyE ?_ hlt' ?_; exact rfl) | (refine br_npnE ?_ hlt' ?_; exact rfl) | (refine when_npyE ?_ hlt' ?_; exact rfl) | (refine when_npnE ?_ hlt' ?_; exact rfl) | ((with_reducible show Ld _ _ _ _); first | (refine ldE0 hR he rfl ?_) | (refine ldEk hR he rfl ?_) | (refine ldE1 hR he rfl ?_)) | ((with_reducible show IxS _ _ _ _ _); first | ((refine ixE hR he ?_ ?_; (first | rfl | omega)))) | ((with_reducible show LdN _ _ _ _ _); first | (refine ldNEi hR he rfl ?_)) | ((with_reducible show CallT _ _ _ _ _ _); first | ((refine call_x (spec_f1 (hadd [_])) ?_ ?_ (fun q v hv => ?_); (exact rfl); (exact rfl); (obtain ⟨rfl, hcb2, hM2⟩ := hv)))) | (refine ari ?_ ?_; omega) | (refine aru ?_ ?_; omega) | (apply sel; exact rfl) | (refine ix0 rfl ?_) | (refine ix1 rfl ?_) | (refine ix2 rfl ?_) | (refine ix3 rfl ?_) | (apply ixj; omega) | (refine ixn ?_ ?_; omega) | (refine ixs0 rfl ?_) | (refine ixs1 rfl ?_) | (refine ixs_j ?_ ?_; omega) | (refine ixs_n ?_ ?_; omega) | (apply ld_o; exact rfl) | (apply ldN_a; exact rfl) | (apply ldN_o; (exact rfl); exact rfl) | (apply st_o; (exact rfl); exact rfl) | (apply stN_o; (exact rfl); (exact rfl); exact rfl) | (refine new_i (fun bk hbk => ?_)) | (apply when_dE; (exact rfl); (exact rfl); all_goals intro hc) | (apply when_dF; (exact rfl); (exact rfl); all_goals intro hc) | (apply when_nE; (exact rfl); (exact rfl); all_goals intro hc) | (apply when_nF; (exact rfl); (exact rfl); all_goals intro hc) | (apply br_dE; (exact rfl); all_goals intro hc) | (apply br_nE; (exact rfl); all_goals intro hc) | (refine mm_min ?_) | (refine mm_max ?_) | (refine rem_i ?_ ?_; omega) | (refine SelN.mk ?_) | (refine cut_n ?_) | (refine Both.mk ?_ ?_) | (exact True.intro))
        refine ⟨(i + 1, q), ⟨hlt, hcb2, by dsimp only; rw [htk]; exact hM2⟩, by dsimp only; omega, (by repeat' (first | exact True.intro | refine And.intro ?_ ?_ | exact rfl | exact vi (by omega) | (dsimp only; exact rfl) | (dsimp only; exact vi (by omega)))), ?_⟩
        dsimp only
        rw [htk]
        exact Ent.drop.trans Ent.drop
      · have hbad := chk_bad (by omega) (by omega) hl hlt (Bool.eq_false_iff.2 hf)
        have hfr : frR l n = nnR := by unfold frR; rw [hbad, if_neg (by decide)]
        rw [hbad, hfr]
        have hadd := fun (own' : Own) (j1 : EntC own' [ckN (l.take i).length (paAt (l.take i) (l.take i).length) s.cb eb' sb' bb' n sc' bs' (frst (l.take i))]) (j2 : EntC own' [canE encSl 22 bb' B']) (j3 : EntC own' own) => sp_tadd_no (own := own') hN hM hEe (by rw [← hok]; exact Bool.eq_false_iff.2 hf) (by omega)
        obtain ⟨ev, tt, k, wd, ra, rl, rc, wa, wl, wc⟩ := e
        dsimp only [EH.v] at hadd
        repeat' ((try (conv => whnf)); first | (refine when_ye ?_ ?_; exact rfl) | (refine when_ne ?_ ?_; exact rfl) | (refine br_te ?_ ?_; exact rfl) | (refine br_fe ?_ ?_; exact rfl) | (apply br_pyE; (exact rfl); omega) | (apply br_pnE; (exact rfl); omega) | (apply when_pyE; (exact rfl); omega) | (apply when_pnE; (exact rfl); omega) | (apply br_npyE; (exact rfl); omega) | (apply br_npnE; (exact rfl); omega) | (apply when_npyE; (exact rfl); omega) | (apply when_npnE; (exact rfl); omega) | (refine br_pyE ?_ hlt' ?_; exact rfl) | (refine br_pnE ?_ hlt' ?_; exact rfl) | (refine when_pyE ?_ hlt' ?_; exact rfl) | (refine when_pnE ?_ hlt' ?_; exact rfl) | (refine br_npyE ?_ hlt' ?_; exact rfl) | (refine br_npnE ?_ hlt' ?_; exact rfl) | (refine when_npyE ?_ hlt' ?_; exact rfl) | (refine when_npnE ?_ hlt' ?_; exact rfl) | (refine ldN_laid hN _ rfl rfl ?_) | ((with_reducible show Ld _ _ _ _); first | (refine ldE0 hR he rfl ?_) | (refine ldEk hR he rfl ?_) | (refine ldE1 hR he rfl ?_)) | ((with_reducible show IxS _ _ _ _ _); first | ((refine ixE hR he ?_ ?_; (first | rfl | omega)))) | ((with_reducible show LdN _ _ _ _ _); first | (refine ldNEi hR he rfl ?_)) | ((with_reducible show CallT _ _ _ _ _ _); first | ((refine call_pe (hadd _ inferInstance inferInstance inferInstance) ?_ ?_ ?_; (exact rfl); exact rfl))) | (refine ari ?_ ?_; omega) | (refine aru ?_ ?_; omega) | (apply sel; exact rfl) | (refine ix0 rfl ?_) | (refine ix1 rfl ?_) | (refine ix2 rfl ?_) | (refine ix3 rfl ?_) | (apply ixj; omega) | (refine ixn ?_ ?_; omega) | (refine ixs0 rfl ?_) | (refine ixs1 rfl ?_) | (refine ixs_j ?_ ?_; omega) | (refine ixs_n ?_ ?_; omega) | (apply ld_o; exact rfl) | (apply ldN_a; exact rfl) | (apply ldN_o; (exact rfl); exact rfl) | (apply st_o; (exact rfl); exact rfl) | (apply stN_o; (exact rfl); (exact rfl); exact rfl) | (refine new_i (fun bk hbk => ?_)) | (apply when_dE; (exact rfl); (exact rfl); all_goals intro hc) | (apply when_dF; (exact rfl); (exact rfl); all_goals intro hc) | (apply when_nE; (exact rfl); (exact rfl); all_goals intro hc) | (apply when_nF; (exact rfl); (exact rfl); all_goals intro hc) | (apply br_dE; (exact rfl); all_goals intro hc) | (apply br_nE; (exact rfl); all_goals intro hc) | (refine mm_min ?_) | (refine mm_max ?_) | (refine rem_i ?_ ?_; omega) | (refine SelN.mk ?_) | (refine cut_n ?_) | (refine Both.mk ?_ ?_) | (exact True.intro))
        exact ⟨rfl, (by first | exact ent_i | (repeat (first | exact Ent.refl | exact Ent.left | refine Ent.cons ?_ | refine Ent.app ?_)))⟩
    · have hlt' : ¬ (i : Int) < l.length := by omega
      have hie : i = l.length := by omega
      subst hie
      have htl : l.take l.length = l := List.take_length
      rw [htl] at hM ⊢
      have hck : (chkE l n).2 = 0 := chk_ok.2 ⟨by omega, by rw [Int.toNat_natCast]; exact hM.wf⟩
      have hfr : frR l n = frst l := by unfold frR; rw [if_pos hck]
      rw [hck, hfr]
      have hrc := fun (own' : Own) (j1 : EntC own' [ckN l.length (paAt l l.length) s.cb eb' sb' bb' n sc' bs' (frst l)]) => sp_trace (W0 := W0) (own := own') (i1 := j1)
      repeat' ((try (conv => whnf)); first | (refine when_ye ?_ ?_; exact rfl) | (refine when_ne ?_ ?_; exact rfl) | (refine br_te ?_ ?_; exact rfl) | (refine br_fe ?_ ?_; exact rfl) | (apply br_pyE; (exact rfl); omega) | (apply br_pnE; (exact rfl); omega) | (apply when_pyE; (exact rfl); omega) | (apply when_pnE; (exact rfl); omega) | (apply br_npyE; (exact rfl); omega) | (apply br_npnE; (exact rfl); omega) | (apply when_npyE; (exact rfl); omega) | (apply when_npnE; (exact rfl); omega) | (refine br_pyE ?_ hlt' ?_; exact rfl) | (refine br_pnE ?_ hlt' ?_; exact rfl) | (refine when_pyE ?_ hlt' ?_; exact rfl) | (refine when_pnE ?_ hlt' ?_; exact rfl) | (refine br_npyE ?_ hlt' ?_; exact rfl) | (refine br_npnE ?_ hlt' ?_; exact rfl) | (refine when_npyE ?_ hlt' ?_; exact rfl) | (refine when_npnE ?_ hlt' ?_; exact rfl) | ((with_reducible show CallT _ _ _ _ _ _); first | ((refine call_pe (hrc _ inferInstance) ?_ ?_ ?_; (exact rfl); exact rfl))) | (refine ari ?_ ?_; omega) | (refine aru ?_ ?_; omega) | (apply sel; exact rfl) | (refine ix0 rfl ?_) | (refine ix1 rfl ?_) | (refine ix2 rfl ?_) | (refine ix3 rfl ?_) | (apply ixj; omega) | (refine ixn ?_ ?_; omega) | (refine ixs0 rfl ?_) | (refine ixs1 rfl ?_) | (refine ixs_j ?_ ?_; omega) | (refine ixs_n ?_ ?_; omega) | (apply ld_o; exact rfl) | (apply ldN_a; exact rfl) | (apply ldN_o; (exact rfl); exact rfl) | (apply st_o; (exact rfl); exact rfl) | (apply stN_o; (exact rfl); (exact rfl); exact rfl) | (refine new_i (fun bk hbk => ?_)) | (apply when_dE; (exact rfl); (exact rfl); all_goals intro hc) | (apply when_dF; (exact rfl); (exact rfl); all_goals intro hc) | (apply when_nE; (exact rfl); (exact rfl); all_goals intro hc) | (apply when_nF; (exact rfl); (exact rfl); all_goals intro hc) | (apply br_dE; (exact rfl); all_goals intro hc) | (apply br_nE; (exact rfl); all_goals intro hc) | (refine mm_min ?_) | (refine mm_max ?_) | (refine rem_i ?_ ?_; omega) | (refine SelN.mk ?_) | (refine cut_n ?_) | (refine Both.mk ?_ ?_) | (exact True.intro))
      exact ⟨rfl, (by first | exact ent_i | (repeat (first | exact Ent.refl | exact Ent.left | refine Ent.cons ?_ | refine Ent.app ?_)))⟩
end
end Go.Proofs.YtofjnldidkiihaaDoor
namespace Go.Proofs.YtofjnldidkiihaaDoor
open Go
set_option maxRecDepth 100000
set_option maxHeartbeats 8000000
def exP : List EH := [exE0, exE1]
theorem exP_chk : chkE exP 2 = (0, 0) := by kernel_rfl
theorem exP_wf : Wf exP 2 := (chk_wf (n := 2) (by rw [exP_chk])).1
theorem exP_frst : frst exP = (-1, -1, -1) := by rw [frst_C exP_wf]; kernel_rfl
theorem new_c {W0 : World} {own : Own} {o : Obj} {K : Nat → Own → Prop} (o' : Obj) (e : o = o') (h : ∀ b, W0.heap.size ≤ b → K b ((b, fun x => x = o') :: own)) : New W0 own o K := by subst e; exact ⟨h⟩
section
variable {W0 : World} {own : Own}
theorem sp_awake25 (hN : LaidAt W0 0 noneV) (own : Own) : Pure Tryd.prog W0 16 [] own (.bool true) := by
  refine pure_of (spec_of mixed low_law25_awake (by simp [ir_law25_awake]) ?_)
  repeat' ((try (conv => whnf)); first | (refine when_ye ?_ ?_; exact rfl) | (refine when_ne ?_ ?_; exact rfl) | (refine br_te ?_ ?_; exact rfl) | (refine br_fe ?_ ?_; exact rfl) | (apply br_pyE; (exact rfl); omega) | (apply br_pnE; (exact rfl); omega) | (apply when_pyE; (exact rfl); omega) | (apply when_pnE; (exact rfl); omega) | (apply br_npyE; (exact rfl); omega) | (apply br_npnE; (exact rfl); omega) | (apply when_npyE; (exact rfl); omega) | (apply when_npnE; (exact rfl); omega) | (refine new_c (Obj.cells (([3] : List Int).map encI).flatten.toArray 3) ?_ (fun br hbr => ?_); (kernel_rfl); (apply Stop.h)) | (refine ari ?_ ?_; omega) | (refine aru ?_ ?_; omega) | (apply sel; exact rfl) | (refine ix0 rfl ?_) | (refine ix1 rfl ?_) | (refine ix2 rfl ?_) | (refine ix3 rfl ?_) | (apply ixj; omega) | (refine ixn ?_ ?_; omega) | (refine ixs0 rfl ?_) | (refine ixs1 rfl ?_) | (refine ixs_j ?_ ?_; omega) | (refine ixs_n ?_ ?_; omega) | (apply ld_o; exact rfl) | (apply ldN_a; exact rfl) | (apply ldN_o; (exact rfl); exact rfl) | (apply st_o; (exact rfl); exact rfl) | (apply stN_o; (exact rfl); (exact rfl); exact rfl) | (refine new_i (fun bk hbk => ?_)) | (apply when_dE; (exact rfl); (exact rfl); all_goals intro hc) | (apply when_dF; (exact rfl); (exact rfl); all_goals intro hc) | (apply when_nE; (exact rfl); (exact rfl); all_goals intro hc) | (apply when_nF; (exact rfl); (exact rfl); all_goals intro hc) | (apply br_dE; (exact rfl); all_goals intro hc) | (apply br_nE; (exact rfl); all_goals intro hc) | (refine mm_min ?_) | (refine mm_max ?_) | (refine rem_i ?_ ?_; omega) | (refine SelN.mk ?_) | (refine cut_n ?_) | (refine Both.mk ?_ ?_) | (exact True.intro))
  refine Stop.mk ?_
  repeat' ((try (conv => whnf)); first | (refine when_ye ?_ ?_; exact rfl) | (refine when_ne ?_ ?_; exact rfl) | (refine br_te ?_ ?_; exact rfl) | (refine br_fe ?_ ?_; exact rfl) | (apply br_pyE; (exact rfl); omega) | (apply br_pnE; (exact rfl); omega) | (apply when_pyE; (exact rfl); omega) | (apply when_pnE; (exact rfl); omega) | (apply br_npyE; (exact rfl); omega) | (apply br_npnE; (exact rfl); omega) | (apply when_npyE; (exact rfl); omega) | (apply when_npnE; (exact rfl); omega) | (refine new_c (Obj.cells ((exL br).map EH.enc).flatten.toArray 42) ?_ (fun be hbe => ?_); (kernel_rfl); (apply Stop.h)) | (refine ari ?_ ?_; omega) | (refine aru ?_ ?_; omega) | (apply sel; exact rfl) | (refine ix0 rfl ?_) | (refine ix1 rfl ?_) | (refine ix2 rfl ?_) | (refine ix3 rfl ?_) | (apply ixj; omega) | (refine ixn ?_ ?_; omega) | (refine ixs0 rfl ?_) | (refine ixs1 rfl ?_) | (refine ixs_j ?_ ?_; omega) | (refine ixs_n ?_ ?_; omega) | (apply ld_o; exact rfl) | (apply ldN_a; exact rfl) | (apply ldN_o; (exact rfl); exact rfl) | (apply st_o; (exact rfl); exact rfl) | (apply stN_o; (exact rfl); (exact rfl); exact rfl) | (refine new_i (fun bk hbk => ?_)) | (apply when_dE; (exact rfl); (exact rfl); all_goals intro hc) | (apply when_dF; (exact rfl); (exact rfl); all_goals intro hc) | (apply when_nE; (exact rfl); (exact rfl); all_goals intro hc) | (apply when_nF; (exact rfl); (exact rfl); all_goals intro hc) | (apply br_dE; (exact rfl); all_goals intro hc) | (apply br_nE; (exact rfl); all_goals intro hc) | (refine mm_min ?_) | (refine mm_max ?_) | (refine rem_i ?_ ?_; omega) | (refine SelN.mk ?_) | (refine cut_n ?_) | (refine Both.mk ?_ ?_) | (exact True.intro))
  refine Stop.mk ?_
  have hR : RdE EH.enc 6 W0 (canE EH.enc 42 be (exL br) :: canE encI 3 br [3] :: own) (some ⟨be, 0, none⟩) (exL br) := (can_rd (T := 42) (fun x hx => by simp [exL] at hx; rcases hx with rfl | rfl | rfl <;> rfl)).ent (Ent.left (D := [_]))
  have hE : ∀ e ∈ exL br, EvR W0 (canE EH.enc 42 be (exL br) :: canE encI 3 br [3] :: own) e := evr_one (fun e he => by simpa [exL] using he)
  have h1 := fun own' [EntC own' (canE EH.enc 42 be (exL br) :: canE encI 3 br [3] :: own)] => sp_trun (W0 := W0) (own := own') (cap := 3) hN (hR.up) (fun e he => (hE e he).up) (by simp [exL]) 2
  have h2 := fun own' [EntC own' (canE EH.enc 42 be (exL br) :: canE encI 3 br [3] :: own)] => sp_trun (W0 := W0) (own := own') (cap := 3) (l := exP) hN (RdE.pre (r := [exE2 br]) hR.up) (fun e he => (hE e (List.mem_append_left [exE2 br] he)).up) (by simp [exP]) 2
  have hf1 : frR (exL br) 2 = (1, 2, 3) := by unfold frR; rw [exL_chk, if_pos rfl, exL_frst]
  have hf2 : frR exP 2 = (-1, -1, -1) := by unfold frR; rw [exP_chk, if_pos rfl, exP_frst]
  rw [hf1, exL_chk] at h1
  rw [hf2, exP_chk] at h2
  repeat' ((try (conv => whnf)); first | (refine when_ye ?_ ?_; exact rfl) | (refine when_ne ?_ ?_; exact rfl) | (refine br_te ?_ ?_; exact rfl) | (refine br_fe ?_ ?_; exact rfl) | (apply br_pyE; (exact rfl); omega) | (apply br_pnE; (exact rfl); omega) | (apply when_pyE; (exact rfl); omega) | (apply when_pnE; (exact rfl); omega) | (apply br_npyE; (exact rfl); omega) | (apply br_npnE; (exact rfl); omega) | (apply when_npyE; (exact rfl); omega) | (apply when_npnE; (exact rfl); omega) | (refine sls_t (r := 2) (by omega) ?_) | (refine eq_yes (by simp [eqC, eqOne]) ?_) | ((with_reducible show CallT _ _ _ _ _ _); first | ((refine call_pe (h1 _) ?_ ?_ ?_; (exact rfl); exact rfl)) | ((refine call_pe (h2 _) ?_ ?_ ?_; (exact rfl); exact rfl))) | (refine ari ?_ ?_; omega) | (refine aru ?_ ?_; omega) | (apply sel; exact rfl) | (refine ix0 rfl ?_) | (refine ix1 rfl ?_) | (refine ix2 rfl ?_) | (refine ix3 rfl ?_) | (apply ixj; omega) | (refine ixn ?_ ?_; omega) | (refine ixs0 rfl ?_) | (refine ixs1 rfl ?_) | (refine ixs_j ?_ ?_; omega) | (refine ixs_n ?_ ?_; omega) | (apply ld_o; exact rfl) | (apply ldN_a; exact rfl) | (apply ldN_o; (exact rfl); exact rfl) | (apply st_o; (exact rfl); exact rfl) | (apply stN_o; (exact rfl); (exact rfl); exact rfl) | (refine new_i (fun bk hbk => ?_)) | (apply when_dE; (exact rfl); (exact rfl); all_goals intro hc) | (apply when_dF; (exact rfl); (exact rfl); all_goals intro hc) | (apply when_nE; (exact rfl); (exact rfl); all_goals intro hc) | (apply when_nF; (exact rfl); (exact rfl); all_goals intro hc) | (apply br_dE; (exact rfl); all_goals intro hc) | (apply br_nE; (exact rfl); all_goals intro hc) | (refine mm_min ?_) | (refine mm_max ?_) | (refine rem_i ?_ ?_; omega) | (refine SelN.mk ?_) | (refine cut_n ?_) | (refine Both.mk ?_ ?_) | (exact True.intro))
  exact ⟨rfl, (by first | exact ent_i | (repeat (first | exact Ent.refl | exact Ent.left | refine Ent.cons ?_ | refine Ent.app ?_)))⟩
end
end Go.Proofs.YtofjnldidkiihaaDoor
namespace Go.Proofs.YtofjnldidkiihaaDoor
open Go
/-- What the kept events of a trace know of the trace. -/
structure KeptM (n : Nat) (L F : List EH) : Prop where
  wf : WF0 F n
  lk : ∀ t, lkL L t L.length = 3 → lkL F t F.length = 3
  pa : F ≠ [] → L ≠ [] ∧ paAt F F.length ≤ paAt L L.length
  kd : n = 1 ∨ ∀ e ∈ F, 3 ≤ e.k
theorem fits_parts {n : Nat} {fs : Bool} {pa last : Int} {e : EH} : fitsM n fs pa last e = true ↔ (0 ≤ e.t ∧ e.t < n ∧ 1 ≤ e.k ∧ e.k ≤ 4 ∧ (fs = true ∨ pa ≤ e.ev) ∧ 0 ≤ e.w ∧ e.w < 64) ∧ e.rl.all inW = true ∧ e.wl.all inW = true ∧ (if e.k = 4 then last = 3 else e.rl = [] ∧ e.wl = []) := by
  unfold fitsM
  by_cases h : e.k = 4 <;> simp [h, and_assoc]
theorem KeptM.keep {n : Nat} {L F : List EH} {e : EH} (h : KeptM n L F) (hl : F.length + 1 ≤ 65536) (hf : fitsM n (L.length == 0) (paAt L L.length) (lkL L e.t L.length) e = true) (hk : n = 1 ∨ 3 ≤ e.k) : KeptM n (L ++ [e]) (F ++ [e]) := by
  obtain ⟨h1, h2, h3, h4⟩ := fits_parts.1 hf
  have hfF : fitsM n (F.length == 0) (paAt F F.length) (lkL F e.t F.length) e = true := by
    refine fits_parts.2 ⟨⟨h1.1, h1.2.1, h1.2.2.1, h1.2.2.2.1, ?_, h1.2.2.2.2.2⟩, h2, h3, ?_⟩
    · by_cases hF : F = []
      · exact .inl (by rw [hF]; rfl)
      · obtain ⟨hL, hp⟩ := h.pa hF
        rcases h1.2.2.2.2.1 with hx | hx
        · rw [beq_iff_eq, List.length_eq_zero_iff] at hx
          exact absurd hx hL
        · exact .inr (by omega)
    · by_cases h5 : e.k = 4
      · rw [if_pos h5] at h4 ⊢
        exact h.lk _ h4
      · rw [if_neg h5] at h4 ⊢
        exact h4
  refine ⟨h.wf.snoc hl hfF, fun t ht => ?_, fun _ => ⟨by simp, ?_⟩, ?_⟩
  · rw [len1, lkL_end] at ht ⊢
    split
    · rename_i he; rw [if_pos he] at ht; exact ht
    · rename_i he; rw [if_neg he] at ht; exact h.lk t ht
  · rw [len1, len1, paAt_end, paAt_end]; exact Int.le_refl _
  · rcases h.kd with h6 | h6
    · exact .inl h6
    · rcases hk with hk | hk
      · exact .inl hk
      · exact .inr fun x hx => (List.mem_append.1 hx).elim (h6 x) fun hx => by rw [List.mem_singleton.1 hx]; exact hk
theorem KeptM.drop {n : Nat} {L F : List EH} {e : EH} (h : KeptM n L F) (hf : fitsM n (L.length == 0) (paAt L L.length) (lkL L e.t L.length) e = true) (hk : e.k < 3) : KeptM n (L ++ [e]) F := by
  obtain ⟨h1, _, _, _⟩ := fits_parts.1 hf
  refine ⟨h.wf, fun t ht => ?_, fun hF => ⟨by simp, ?_⟩, h.kd⟩
  · rw [len1, lkL_end] at ht
    split at ht
    · omega
    · exact h.lk t ht
  · obtain ⟨hL, hp⟩ := h.pa hF
    rw [len1, paAt_end]
    rcases h1.2.2.2.2.1 with hx | hx
    · rw [beq_iff_eq, List.length_eq_zero_iff] at hx
      exact absurd hx hL
    · omega
theorem kept_none {n : Nat} {L F : List EH} (h : KeptM n L F) : frst F = nnR := by
  rcases frst_alt (l := F) with ⟨h1, _⟩ | ⟨_, h2⟩
  · exact h1
  · exfalso
    obtain ⟨r, hr⟩ := List.exists_mem_of_ne_nil _ (frst_ge.1 h2)
    have hw := h.wf.wf
    obtain ⟨x, y, a, b, _, _, hxy, hy, ha, hb, hab, h44, ta, tb, _⟩ := race_fact hw hr
    have kx := hw.kd x (by omega)
    have ky := hw.kd y hy
    unfold knd thr at kx ky
    rw [at_get ha] at kx
    rw [at_get hb] at ky
    rcases h.kd with h6 | h6
    · omega
    · have h7 := h6 a (List.mem_of_getElem? ha)
      have h8 := h6 b (List.mem_of_getElem? hb)
      have h9 : ∀ (z : EH) (w : Int), 3 ≤ z.k → toB z w = true → z.k = 4 := fun z w hz ht => by
        unfold toB wrB at ht
        by_cases h4 : z.k = 4
        · exact h4
        · have e1 : ¬ z.k = 2 := by omega
          have e2 : ¬ z.k = 1 := by omega
          simp [h4, e1, e2] at ht
      exact h44 ⟨h9 a _ h7 ta, h9 b _ h8 tb⟩
end Go.Proofs.YtofjnldidkiihaaDoor
namespace Go.Proofs.YtofjnldidkiihaaDoor
open Go
set_option maxRecDepth 10000
set_option maxHeartbeats 8000000
section
variable {W0 : World} {own : Own} {a : Option Addr} {cap : Nat}
theorem sp_TdrfFree {l : List Int} (hN : LaidAt W0 0 noneV) (hR : RdE encI 1 W0 own a l) (th : Int) : Pure Tryd.prog W0 6 [.slice a l.length cap, .int .i64 th] own (.bool true) := by
  refine pure_of (spec_of mixed low_law25_TdrfFree (by simp [ir_law25_TdrfFree]) ?_)
  have h2 := sp_place W0 own th (n := 4) (by omega)
  have hp := plc_rng th (n := 4) (by omega)
  have h3 := sp_awake25 hN
  generalize plc th 4 = q at *
  obtain ⟨n, hn⟩ : ∃ n : Nat, 1 + q = n := ⟨(1 + q).toNat, by omega⟩
  by_cases hl : 60 < l.length
  · have hl' : (l.length : Int) > 60 := by omega
    repeat' ((try (conv => whnf)); first | (refine when_ye ?_ ?_; exact rfl) | (refine when_ne ?_ ?_; exact rfl) | (refine br_te ?_ ?_; exact rfl) | (refine br_fe ?_ ?_; exact rfl) | (apply br_pyE; (exact rfl); omega) | (apply br_pnE; (exact rfl); omega) | (apply when_pyE; (exact rfl); omega) | (apply when_pnE; (exact rfl); omega) | (apply br_npyE; (exact rfl); omega) | (apply br_npnE; (exact rfl); omega) | (apply when_npyE; (exact rfl); omega) | (apply when_npnE; (exact rfl); omega) | (refine br_pyE ?_ hl' ?_; exact rfl) | (refine br_pnE ?_ hl' ?_; exact rfl) | (refine when_pyE ?_ hl' ?_; exact rfl) | (refine when_pnE ?_ hl' ?_; exact rfl) | (refine br_npyE ?_ hl' ?_; exact rfl) | (refine br_npnE ?_ hl' ?_; exact rfl) | (refine when_npyE ?_ hl' ?_; exact rfl) | (refine when_npnE ?_ hl' ?_; exact rfl) | ((with_reducible show CallT _ _ _ _ _ _); first | ((refine call_pe (h3 _) ?_ ?_ ?_; (exact rfl); exact rfl))) | (refine ari ?_ ?_; omega) | (refine aru ?_ ?_; omega) | (apply sel; exact rfl) | (refine ix0 rfl ?_) | (refine ix1 rfl ?_) | (refine ix2 rfl ?_) | (refine ix3 rfl ?_) | (apply ixj; omega) | (refine ixn ?_ ?_; omega) | (refine ixs0 rfl ?_) | (refine ixs1 rfl ?_) | (refine ixs_j ?_ ?_; omega) | (refine ixs_n ?_ ?_; omega) | (apply ld_o; exact rfl) | (apply ldN_a; exact rfl) | (apply ldN_o; (exact rfl); exact rfl) | (apply st_o; (exact rfl); exact rfl) | (apply stN_o; (exact rfl); (exact rfl); exact rfl) | (refine new_i (fun bk hbk => ?_)) | (apply when_dE; (exact rfl); (exact rfl); all_goals intro hc) | (apply when_dF; (exact rfl); (exact rfl); all_goals intro hc) | (apply when_nE; (exact rfl); (exact rfl); all_goals intro hc) | (apply when_nF; (exact rfl); (exact rfl); all_goals intro hc) | (apply br_dE; (exact rfl); all_goals intro hc) | (apply br_nE; (exact rfl); all_goals intro hc) | (refine mm_min ?_) | (refine mm_max ?_) | (refine rem_i ?_ ?_; omega) | (refine SelN.mk ?_) | (refine cut_n ?_) | (refine Both.mk ?_ ?_) | (exact True.intro))
    exact ⟨rfl, (by first | exact ent_i | (repeat (first | exact Ent.refl | exact Ent.left | refine Ent.cons ?_ | refine Ent.app ?_)))⟩
  · have hl' : ¬ (l.length : Int) > 60 := by omega
    have hev := sp_events (W0 := W0) (own := own) (cap := cap) (n := n) (by omega) hR (by omega)
    rw [← hn] at hev
    repeat' ((try (conv => whnf)); first | (refine when_ye ?_ ?_; exact rfl) | (refine when_ne ?_ ?_; exact rfl) | (refine br_te ?_ ?_; exact rfl) | (refine br_fe ?_ ?_; exact rfl) | (apply br_pyE; (exact rfl); omega) | (apply br_pnE; (exact rfl); omega) | (apply when_pyE; (exact rfl); omega) | (apply when_pnE; (exact rfl); omega) | (apply br_npyE; (exact rfl); omega) | (apply br_npnE; (exact rfl); omega) | (apply when_npyE; (exact rfl); omega) | (apply when_npnE; (exact rfl); omega) | (refine br_pyE ?_ hl' ?_; exact rfl) | (refine br_pnE ?_ hl' ?_; exact rfl) | (refine when_pyE ?_ hl' ?_; exact rfl) | (refine when_pnE ?_ hl' ?_; exact rfl) | (refine br_npyE ?_ hl' ?_; exact rfl) | (refine br_npnE ?_ hl' ?_; exact rfl) | (refine when_npyE ?_ hl' ?_; exact rfl) | (refine when_npnE ?_ hl' ?_; exact rfl) | ((with_reducible show CallT _ _ _ _ _ _); first | ((refine call_pe (h2) ?_ ?_ ?_; (exact rfl); exact rfl)) | ((refine call_x hev ?_ ?_ (fun s v hv => ?_); (exact rfl); (exact rfl); (obtain ⟨ea, ec, L, D, X⟩ := s; obtain ⟨rfl, hL, hB, hM⟩ := hv; dsimp only at hL hB hM); (apply Stop.h)))) | (refine ari ?_ ?_; omega) | (refine aru ?_ ?_; omega) | (apply sel; exact rfl) | (refine ix0 rfl ?_) | (refine ix1 rfl ?_) | (refine ix2 rfl ?_) | (refine ix3 rfl ?_) | (apply ixj; omega) | (refine ixn ?_ ?_; omega) | (refine ixs0 rfl ?_) | (refine ixs1 rfl ?_) | (refine ixs_j ?_ ?_; omega) | (refine ixs_n ?_ ?_; omega) | (apply ld_o; exact rfl) | (apply ldN_a; exact rfl) | (apply ldN_o; (exact rfl); exact rfl) | (apply st_o; (exact rfl); exact rfl) | (apply stN_o; (exact rfl); (exact rfl); exact rfl) | (refine new_i (fun bk hbk => ?_)) | (apply when_dE; (exact rfl); (exact rfl); all_goals intro hc) | (apply when_dF; (exact rfl); (exact rfl); all_goals intro hc) | (apply when_nE; (exact rfl); (exact rfl); all_goals intro hc) | (apply when_nF; (exact rfl); (exact rfl); all_goals intro hc) | (apply br_dE; (exact rfl); all_goals intro hc) | (apply br_nE; (exact rfl); all_goals intro hc) | (refine mm_min ?_) | (refine mm_max ?_) | (refine rem_i ?_ ?_; omega) | (refine SelN.mk ?_) | (refine cut_n ?_) | (refine Both.mk ?_ ?_) | (exact True.intro))
    refine Stop.mk ?_
    dsimp only
    have hRL : RdE EH.enc 6 W0 D ea L := hB.rd
    repeat' ((try (conv => whnf)); first | (refine when_ye ?_ ?_; exact rfl) | (refine when_ne ?_ ?_; exact rfl) | (refine br_te ?_ ?_; exact rfl) | (refine br_fe ?_ ?_; exact rfl) | (apply br_pyE; (exact rfl); omega) | (apply br_pnE; (exact rfl); omega) | (apply when_pyE; (exact rfl); omega) | (apply when_pnE; (exact rfl); omega) | (apply br_npyE; (exact rfl); omega) | (apply br_npnE; (exact rfl); omega) | (apply when_npyE; (exact rfl); omega) | (apply when_npnE; (exact rfl); omega) | (refine ari ?_ ?_; omega) | (refine aru ?_ ?_; omega) | (apply sel; exact rfl) | (refine ix0 rfl ?_) | (refine ix1 rfl ?_) | (refine ix2 rfl ?_) | (refine ix3 rfl ?_) | (apply ixj; omega) | (refine ixn ?_ ?_; omega) | (refine ixs0 rfl ?_) | (refine ixs1 rfl ?_) | (refine ixs_j ?_ ?_; omega) | (refine ixs_n ?_ ?_; omega) | (apply ld_o; exact rfl) | (apply ldN_a; exact rfl) | (apply ldN_o; (exact rfl); exact rfl) | (apply st_o; (exact rfl); exact rfl) | (apply stN_o; (exact rfl); (exact rfl); exact rfl) | (refine new_i (fun bk hbk => ?_)) | (apply when_dE; (exact rfl); (exact rfl); all_goals intro hc) | (apply when_dF; (exact rfl); (exact rfl); all_goals intro hc) | (apply when_nE; (exact rfl); (exact rfl); all_goals intro hc) | (apply when_nF; (exact rfl); (exact rfl); all_goals intro hc) | (apply br_dE; (exact rfl); all_goals intro hc) | (apply br_nE; (exact rfl); all_goals intro hc) | (refine mm_min ?_) | (refine mm_max ?_) | (refine rem_i ?_ ?_; omega) | (refine SelN.mk ?_) | (refine cut_n ?_) | (refine Both.mk ?_ ?_) | (exact True.intro))
    refine loop_i (σ := Nat × Option Addr × Nat × List EH × Own) (fun s => match s with | (i, a1, c1, F, _) => [(7, .slice a1 F.length c1), (8, .int .i64 i)]) (fun s => match s with | (_, _, _, _, D1) => D1 ++ (X ++ (D ++ own)))
      (fun s => match s with | (i, a1, c1, F, D1) => i ≤ L.length ∧ BufE EH.enc 42 6 a1 c1 F D1 ∧ KeptM n (L.take i) F ∧ F.length ≤ i ∧ ∀ e ∈ F, e ∈ L) (fun s => match s with | (i, _, _, _, _) => L.length - i) (0, none, 0, [], [])
      ⟨Nat.zero_le _, BufE.nil, ⟨WF0.nil (by omega) (by omega), fun t h => (by revert h; show (0 : Int) = 3 → _; intro h; omega), fun h => absurd rfl h, .inr fun e h => (by cases h)⟩, Nat.le_refl _, fun e h => (by cases h)⟩ (by repeat' (first | exact True.intro | refine And.intro ?_ ?_ | exact rfl | exact vi (by omega) | (dsimp only; exact rfl) | (dsimp only; exact vi (by omega)))) Ent.refl rfl ?_
    rintro ⟨i, a1, c1, F, D1⟩ junk ⟨hi, hB1, hK, hFl, hFm⟩
    dsimp only
    by_cases hlt : i < L.length
    · obtain ⟨e, he⟩ : ∃ e, L[i]? = some e := ⟨_, List.getElem?_eq_getElem hlt⟩
      have hlt' : (i : Int) < L.length := by omega
      have htk : L.take (i + 1) = L.take i ++ [e] := by rw [List.take_add_one, he]; rfl
      have hok := okAt_take (n := n) he
      rw [hM.wf.2.2.2 i hlt] at hok
      have hem := List.mem_of_getElem? he
      have hkeep := fun hk => hK.keep (by omega) hok.symm hk
      have hdrop := fun hk => hK.drop hok.symm hk
      rw [← htk] at hkeep hdrop
      by_cases h1 : n = 1 ∨ 3 ≤ e.k
      · have hK2 := hkeep h1
        have hm2 : ∀ x ∈ F ++ [e], x ∈ L := fun x hx => (List.mem_append.1 hx).elim (hFm x) fun hx => by rw [List.mem_singleton.1 hx]; exact hem
        have hln : (F ++ [e]).length = F.length + 1 := by simp
        generalize hFe : F ++ [e] = F2 at *
        obtain ⟨ev, tt, k, wd, ra, rl, rc, wa, wl, wc⟩ := e
        dsimp only at h1
        by_cases hq : q = 0
        · have hn1 : (1 : Int) + q = 1 := by omega
          repeat' ((try (conv => whnf)); first | (refine when_ye ?_ ?_; exact rfl) | (refine when_ne ?_ ?_; exact rfl) | (refine br_te ?_ ?_; exact rfl) | (refine br_fe ?_ ?_; exact rfl) | (apply br_pyE; (exact rfl); omega) | (apply br_pnE; (exact rfl); omega) | (apply when_pyE; (exact rfl); omega) | (apply when_pnE; (exact rfl); omega) | (apply br_npyE; (exact rfl); omega) | (apply br_npnE; (exact rfl); omega) | (apply when_npyE; (exact rfl); omega) | (apply when_npnE; (exact rfl); omega) | (refine br_pyE ?_ hlt' ?_; exact rfl) | (refine br_pnE ?_ hlt' ?_; exact rfl) | (refine when_pyE ?_ hlt' ?_; exact rfl) | (refine when_pnE ?_ hlt' ?_; exact rfl) | (refine br_npyE ?_ hlt' ?_; exact rfl) | (refine br_npnE ?_ hlt' ?_; exact rfl) | (refine when_npyE ?_ hlt' ?_; exact rfl) | (refine when_npnE ?_ hlt' ?_; exact rfl) | (refine br_pyE ?_ hn1 ?_; exact rfl) | (refine br_pnE ?_ hn1 ?_; exact rfl) | (refine when_pyE ?_ hn1 ?_; exact rfl) | (refine when_pnE ?_ hn1 ?_; exact rfl) | (refine br_npyE ?_ hn1 ?_; exact rfl) | (refine br_npnE ?_ hn1 ?_; exact rfl) | (refine when_npyE ?_ hn1 ?_; exact rfl) | (refine when_npnE ?_ hn1 ?_; exact rfl) | (apply app_i (enc := EH.enc) (T2 := 42) ⟨ev, tt, k, wd, ra, rl, rc, wa, wl, wc⟩ hB1; (exact rfl); (exact rfl); (omega); (exact rfl); (exact rfl); (omega); intro a2 c2 D2 hB2) | ((with_reducible show Ld _ _ _ _); first | (refine ldE0 hRL he rfl ?_) | (refine ldEk hRL he rfl ?_) | (refine ldE1 hRL he rfl ?_)) | ((with_reducible show IxS _ _ _ _ _); first | ((refine ixE hRL he ?_ ?_; (first | rfl | omega)))) | ((with_reducible show LdN _ _ _ _ _); first | (refine ldNEi hRL he rfl ?_)) | (refine ari ?_ ?_; omega) | (refine aru ?_ ?_; omega) | (apply sel; exact rfl) | (refine ix0 rfl ?_) | (refine ix1 rfl ?_) | (refine ix2 rfl ?_) | (refine ix3 rfl ?_) | (apply ixj; omega) | (refine ixn ?_ ?_; omega) | (refine ixs0 rfl ?_) | (refine ixs1 rfl ?_) | (refine ixs_j ?_ ?_; omega) | (refine ixs_n ?_ ?_; omega) | (apply ld_o; exact rfl) | (apply ldN_a; exact rfl) | (apply ldN_o; (exact rfl); exact rfl) | (apply st_o; (exact rfl); exact rfl) | (apply stN_o; (exact rfl); (exact rfl); exact rfl) | (refine new_i (fun bk hbk => ?_)) | (apply when_dE; (exact rfl); (exact rfl); all_goals intro hc) | (apply when_dF; (exact rfl); (exact rfl); all_goals intro hc) | (apply when_nE; (exact rfl); (exact rfl); all_goals intro hc) | (apply when_nF; (exact rfl); (exact rfl); all_goals intro hc) | (apply br_dE; (exact rfl); all_goals intro hc) | (apply br_nE; (exact rfl); all_goals intro hc) | (refine mm_min ?_) | (refine mm_max ?_) | (refine rem_i ?_ ?_; omega) | (refine SelN.mk ?_) | (refine cut_n ?_) | (refine Both.mk ?_ ?_) | (exact True.intro))
          rw [hFe] at hB2
          exact ⟨(i + 1, a2, c2, F2, D2), ⟨hlt, hB2, hK2, by show F2.length ≤ i + 1; omega, hm2⟩, by show L.length - (i + 1) < L.length - i; omega, ⟨by show Value.slice a2 (F.length + 1) c2 = .slice a2 F2.length c2; rw [hln], vi (by show (i : Int) + 1 = ((i + 1 : Nat) : Int); omega), trivial⟩, (by first | exact ent_i | (repeat (first | exact Ent.refl | exact Ent.left | refine Ent.cons ?_ | refine Ent.app ?_)))⟩
        · have hn1 : ¬ (1 : Int) + q = 1 := by omega
          have hk3 : k ≥ 3 := by omega
          repeat' ((try (conv => whnf)); first | (refine when_ye ?_ ?_; exact rfl) | (refine when_ne ?_ ?_; exact rfl) | (refine br_te ?_ ?_; exact rfl) | (refine br_fe ?_ ?_; exact rfl) | (apply br_pyE; (exact rfl); omega) | (apply br_pnE; (exact rfl); omega) | (apply when_pyE; (exact rfl); omega) | (apply when_pnE; (exact rfl); omega) | (apply br_npyE; (exact rfl); omega) | (apply br_npnE; (exact rfl); omega) | (apply when_npyE; (exact rfl); omega) | (apply when_npnE; (exact rfl); omega) | (refine br_pyE ?_ hlt' ?_; exact rfl) | (refine br_pnE ?_ hlt' ?_; exact rfl) | (refine when_pyE ?_ hlt' ?_; exact rfl) | (refine when_pnE ?_ hlt' ?_; exact rfl) | (refine br_npyE ?_ hlt' ?_; exact rfl) | (refine br_npnE ?_ hlt' ?_; exact rfl) | (refine when_npyE ?_ hlt' ?_; exact rfl) | (refine when_npnE ?_ hlt' ?_; exact rfl) | (refine br_pyE ?_ hn1 ?_; exact rfl) | (refine br_pnE ?_ hn1 ?_; exact rfl) | (refine when_pyE ?_ hn1 ?_; exact rfl) | (refine when_pnE ?_ hn1 ?_; exact rfl) | (refine br_npyE ?_ hn1 ?_; exact rfl) | (refine br_npnE ?_ hn1 ?_; exact rfl) | (refine when_npyE ?_ hn1 ?_; exact rfl) | (refine when_npnE ?_ hn1 ?_; exact rfl) | (refine br_pyE ?_ hk3 ?_; exact rfl) | (refine br_pnE ?_ hk3 ?_; exact rfl) | (refine when_pyE ?_ hk3 ?_; exact rfl) | (refine when_pnE ?_ hk3 ?_; exact rfl) | (refine br_npyE ?_ hk3 ?_; exact rfl) | (refine br_npnE ?_ hk3 ?_; exact rfl) | (refine when_npyE ?_ hk3 ?_; exact rfl) | (refine when_npnE ?_ hk3 ?_; exact rfl) | (apply app_i (enc := EH.enc) (T2 := 42) ⟨ev, tt, k, wd, ra, rl, rc, wa, wl, wc⟩ hB1; (exact rfl); (exact rfl); (omega); (exact rfl); (exact rfl); (omega); intro a2 c2 D2 hB2) | ((with_reducible show Ld _ _ _ _); first | (refine ldE0 hRL he rfl ?_) | (refine ldEk hRL he rfl ?_) | (refine ldE1 hRL he rfl ?_)) | ((with_reducible show IxS _ _ _ _ _); first | ((refine ixE hRL he ?_ ?_; (first | rfl | omega)))) | ((with_reducible show LdN _ _ _ _ _); first | (refine ldNEi hRL he rfl ?_)) | (refine ari ?_ ?_; omega) | (refine aru ?_ ?_; omega) | (apply sel; exact rfl) | (refine ix0 rfl ?_) | (refine ix1 rfl ?_) | (refine ix2 rfl ?_) | (refine ix3 rfl ?_) | (apply ixj; omega) | (refine ixn ?_ ?_; omega) | (refine ixs0 rfl ?_) | (refine ixs1 rfl ?_) | (refine ixs_j ?_ ?_; omega) | (refine ixs_n ?_ ?_; omega) | (apply ld_o; exact rfl) | (apply ldN_a; exact rfl) | (apply ldN_o; (exact rfl); exact rfl) | (apply st_o; (exact rfl); exact rfl) | (apply stN_o; (exact rfl); (exact rfl); exact rfl) | (refine new_i (fun bk hbk => ?_)) | (apply when_dE; (exact rfl); (exact rfl); all_goals intro hc) | (apply when_dF; (exact rfl); (exact rfl); all_goals intro hc) | (apply when_nE; (exact rfl); (exact rfl); all_goals intro hc) | (apply when_nF; (exact rfl); (exact rfl); all_goals intro hc) | (apply br_dE; (exact rfl); all_goals intro hc) | (apply br_nE; (exact rfl); all_goals intro hc) | (refine mm_min ?_) | (refine mm_max ?_) | (refine rem_i ?_ ?_; omega) | (refine SelN.mk ?_) | (refine cut_n ?_) | (refine Both.mk ?_ ?_) | (exact True.intro))
          rw [hFe] at hB2
          exact ⟨(i + 1, a2, c2, F2, D2), ⟨hlt, hB2, hK2, by show F2.length ≤ i + 1; omega, hm2⟩, by show L.length - (i + 1) < L.length - i; omega, ⟨by show Value.slice a2 (F.length + 1) c2 = .slice a2 F2.length c2; rw [hln], vi (by show (i : Int) + 1 = ((i + 1 : Nat) : Int); omega), trivial⟩, (by first | exact ent_i | (repeat (first | exact Ent.refl | exact Ent.left | refine Ent.cons ?_ | refine Ent.app ?_)))⟩
      · have hK2 := hdrop (by omega)
        have hn1 : ¬ (1 : Int) + q = 1 := by omega
        obtain ⟨ev, tt, k, wd, ra, rl, rc, wa, wl, wc⟩ := e
        dsimp only at h1
        have hk3 : ¬ k ≥ 3 := by omega
        repeat' ((try (conv => whnf)); first | (refine when_ye ?_ ?_; exact rfl) | (refine when_ne ?_ ?_; exact rfl) | (refine br_te ?_ ?_; exact rfl) | (refine br_fe ?_ ?_; exact rfl) | (apply br_pyE; (exact rfl); omega) | (apply br_pnE; (exact rfl); omega) | (apply when_pyE; (exact rfl); omega) | (apply when_pnE; (exact rfl); omega) | (apply br_npyE; (exact rfl); omega) | (apply br_npnE; (exact rfl); omega) | (apply when_npyE; (exact rfl); omega) | (apply when_npnE; (exact rfl); omega) | (refine br_pyE ?_ hlt' ?_; exact rfl) | (refine br_pnE ?_ hlt' ?_; exact rfl) | (refine when_pyE ?_ hlt' ?_; exact rfl) | (refine when_pnE ?_ hlt' ?_; exact rfl) | (refine br_npyE ?_ hlt' ?_; exact rfl) | (refine br_npnE ?_ hlt' ?_; exact rfl) | (refine when_npyE ?_ hlt' ?_; exact rfl) | (refine when_npnE ?_ hlt' ?_; exact rfl) | (refine br_pyE ?_ hn1 ?_; exact rfl) | (refine br_pnE ?_ hn1 ?_; exact rfl) | (refine when_pyE ?_ hn1 ?_; exact rfl) | (refine when_pnE ?_ hn1 ?_; exact rfl) | (refine br_npyE ?_ hn1 ?_; exact rfl) | (refine br_npnE ?_ hn1 ?_; exact rfl) | (refine when_npyE ?_ hn1 ?_; exact rfl) | (refine when_npnE ?_ hn1 ?_; exact rfl) | (refine br_pyE ?_ hk3 ?_; exact rfl) | (refine br_pnE ?_ hk3 ?_; exact rfl) | (refine when_pyE ?_ hk3 ?_; exact rfl) | (refine when_pnE ?_ hk3 ?_; exact rfl) | (refine br_npyE ?_ hk3 ?_; exact rfl) | (refine br_npnE ?_ hk3 ?_; exact rfl) | (refine when_npyE ?_ hk3 ?_; exact rfl) | (refine when_npnE ?_ hk3 ?_; exact rfl) | ((with_reducible show Ld _ _ _ _); first | (refine ldE0 hRL he rfl ?_) | (refine ldEk hRL he rfl ?_) | (refine ldE1 hRL he rfl ?_)) | ((with_reducible show IxS _ _ _ _ _); first | ((refine ixE hRL he ?_ ?_; (first | rfl | omega)))) | ((with_reducible show LdN _ _ _ _ _); first | (refine ldNEi hRL he rfl ?_)) | (refine ari ?_ ?_; omega) | (refine aru ?_ ?_; omega) | (apply sel; exact rfl) | (refine ix0 rfl ?_) | (refine ix1 rfl ?_) | (refine ix2 rfl ?_) | (refine ix3 rfl ?_) | (apply ixj; omega) | (refine ixn ?_ ?_; omega) | (refine ixs0 rfl ?_) | (refine ixs1 rfl ?_) | (refine ixs_j ?_ ?_; omega) | (refine ixs_n ?_ ?_; omega) | (apply ld_o; exact rfl) | (apply ldN_a; exact rfl) | (apply ldN_o; (exact rfl); exact rfl) | (apply st_o; (exact rfl); exact rfl) | (apply stN_o; (exact rfl); (exact rfl); exact rfl) | (refine new_i (fun bk hbk => ?_)) | (apply when_dE; (exact rfl); (exact rfl); all_goals intro hc) | (apply when_dF; (exact rfl); (exact rfl); all_goals intro hc) | (apply when_nE; (exact rfl); (exact rfl); all_goals intro hc) | (apply when_nF; (exact rfl); (exact rfl); all_goals intro hc) | (apply br_dE; (exact rfl); all_goals intro hc) | (apply br_nE; (exact rfl); all_goals intro hc) | (refine mm_min ?_) | (refine mm_max ?_) | (refine rem_i ?_ ?_; omega) | (refine SelN.mk ?_) | (refine cut_n ?_) | (refine Both.mk ?_ ?_) | (exact True.intro))
        exact ⟨(i + 1, a1, c1, F, D1), ⟨hlt, hB1, hK2, by show F.length ≤ i + 1; omega, hFm⟩, by show L.length - (i + 1) < L.length - i; omega, (by repeat' (first | exact True.intro | refine And.intro ?_ ?_ | exact rfl | exact vi (by omega) | (dsimp only; exact rfl) | (dsimp only; exact vi (by omega)))), (by first | exact ent_i | (repeat (first | exact Ent.refl | exact Ent.left | refine Ent.cons ?_ | refine Ent.app ?_)))⟩
    · have hlt' : ¬ (i : Int) < L.length := by omega
      have hck : (chkE F n).2 = 0 := chk_ok.2 ⟨by omega, by rw [Int.toNat_natCast]; exact hK.wf⟩
      have hfr : frR F n = nnR := by unfold frR; rw [if_pos hck, kept_none hK]
      have h4 := fun own' [EntC own' X] [EntC own' D1] => sp_trun (W0 := W0) (own := own') (cap := c1) hN (hB1.rd.up) (fun e he => (hM.ev e (hFm e he)).up) hK.wf.2.2.1 n
      rw [hck, hfr, ← hn] at h4
      repeat' ((try (conv => whnf)); first | (refine when_ye ?_ ?_; exact rfl) | (refine when_ne ?_ ?_; exact rfl) | (refine br_te ?_ ?_; exact rfl) | (refine br_fe ?_ ?_; exact rfl) | (apply br_pyE; (exact rfl); omega) | (apply br_pnE; (exact rfl); omega) | (apply when_pyE; (exact rfl); omega) | (apply when_pnE; (exact rfl); omega) | (apply br_npyE; (exact rfl); omega) | (apply br_npnE; (exact rfl); omega) | (apply when_npyE; (exact rfl); omega) | (apply when_npnE; (exact rfl); omega) | (refine br_pyE ?_ hlt' ?_; exact rfl) | (refine br_pnE ?_ hlt' ?_; exact rfl) | (refine when_pyE ?_ hlt' ?_; exact rfl) | (refine when_pnE ?_ hlt' ?_; exact rfl) | (refine br_npyE ?_ hlt' ?_; exact rfl) | (refine br_npnE ?_ hlt' ?_; exact rfl) | (refine when_npyE ?_ hlt' ?_; exact rfl) | (refine when_npnE ?_ hlt' ?_; exact rfl) | ((with_reducible show CallT _ _ _ _ _ _); first | ((refine call_pe (h4 _) ?_ ?_ ?_; (exact rfl); exact rfl)) | ((refine call_pe (h3 _) ?_ ?_ ?_; (exact rfl); exact rfl))) | (refine ari ?_ ?_; omega) | (refine aru ?_ ?_; omega) | (apply sel; exact rfl) | (refine ix0 rfl ?_) | (refine ix1 rfl ?_) | (refine ix2 rfl ?_) | (refine ix3 rfl ?_) | (apply ixj; omega) | (refine ixn ?_ ?_; omega) | (refine ixs0 rfl ?_) | (refine ixs1 rfl ?_) | (refine ixs_j ?_ ?_; omega) | (refine ixs_n ?_ ?_; omega) | (apply ld_o; exact rfl) | (apply ldN_a; exact rfl) | (apply ldN_o; (exact rfl); exact rfl) | (apply st_o; (exact rfl); exact rfl) | (apply stN_o; (exact rfl); (exact rfl); exact rfl) | (refine new_i (fun bk hbk => ?_)) | (apply when_dE; (exact rfl); (exact rfl); all_goals intro hc) | (apply when_dF; (exact rfl); (exact rfl); all_goals intro hc) | (apply when_nE; (exact rfl); (exact rfl); all_goals intro hc) | (apply when_nF; (exact rfl); (exact rfl); all_goals intro hc) | (apply br_dE; (exact rfl); all_goals intro hc) | (apply br_nE; (exact rfl); all_goals intro hc) | (refine mm_min ?_) | (refine mm_max ?_) | (refine rem_i ?_ ?_; omega) | (refine SelN.mk ?_) | (refine cut_n ?_) | (refine Both.mk ?_ ?_) | (exact True.intro))
      all_goals exact ⟨rfl, (by first | exact ent_i | (repeat (first | exact Ent.refl | exact Ent.left | refine Ent.cons ?_ | refine Ent.app ?_)))⟩
end
end Go.Proofs.YtofjnldidkiihaaDoor
namespace Go.Proofs.YtofjnldidkiihaaDoor
open Go Go.ChangeShapes Go.WideShapes Go.ChangeAt Go.RowKit
set_option maxRecDepth 100000
section
variable {H : Type} {enc : TypeId × Value → H} {w : World} {spare : Nat → Bool} {held : Bool} {v : Value} {d : DataW H} {p : List MemPlace}
theorem one_of {cs : Array Value} {v x : Value} (h : v.cells = cs) (hc : cs.toList = [x]) (hx : ∀ a, v ≠ .agg a) : v = x := by
  unfold Value.cells at h
  split at h
  · rename_i a; exact absurd rfl (hx a)
  · subst h; simpa using hc
theorem slice_agg {P : Program} {w : World} {b0 : Nat} {t e : TypeId} {v : Value} (ht : P.underlying t = some (.slice e)) (h : Value.okWide P w .any b0 t v) : ∀ a, v ≠ .agg a := by
  intro a e
  subst e
  simp only [Value.okWide, ht, Cell.okWide, Cell.ok] at h
theorem ints_open {b0 : Nat} (hv : Value.okWide Tryd.prog w .any b0 22 v) (ht : DataW.Trod enc Tryd.prog w 0 spare held 22 v d p) :
    ∃ a l cap, v = .slice a (List.length l) cap ∧ RdE encI 1 w [] a l := by
  obtain ⟨fuel, h⟩ := ht
  obtain ⟨a, l, cap, e, hr, _, _⟩ := trod_ints Tryd.underlying22 Tryd.underlying3 (by kernel_rfl) h
  exact ⟨a, l, cap, one_of rfl e (slice_agg Tryd.underlying22 hv), hr⟩
end
end Go.Proofs.YtofjnldidkiihaaDoor
namespace Go.Proofs.YtofjnldidkiihaaDoor
open Go Go.ChangeShapes Go.WideShapes Go.ChangeAt Go.RowKit
set_option maxRecDepth 100000
theorem tnone_at {W : World} (h : laidMetH Tryd.prog [("strongtx/tdrf.none", Rows.laid_strongtx_tdrf_none)] W) : LaidAt W 0 noneV :=
  laid_at (d := Rows.laid_strongtx_tdrf_none) (g := 0) (t := 28) (cs := noneV) (by kernel_rfl) h (List.Mem.head _) (by kernel_rfl) (by kernel_rfl) (by kernel_rfl) (by kernel_rfl) (by simp [noneV])
end Go.Proofs.YtofjnldidkiihaaDoor
