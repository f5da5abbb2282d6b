/- What the laws of this seat share, part 14: contracts of the functions, plain laws, and the rules of their proofs. No condition. -/
import Derived.Test.YtofjnldidkiihaaDoorK13
namespace Go.Proofs.YtofjnldidkiihaaDoor
open Go
theorem lnA_spec (l : List EH) (t : Int) : ∀ i, (lnA l t i < 0 → ∀ j, j < i → ¬(thr l j = t ∧ knd l j ≠ 3)) ∧ (0 ≤ lnA l t i → (lnA l t i).toNat < i ∧ thr l (lnA l t i).toNat = t ∧ knd l (lnA l t i).toNat ≠ 3 ∧ ∀ j, (lnA l t i).toNat < j → j < i → ¬(thr l j = t ∧ knd l j ≠ 3))
  | 0 => ⟨fun _ j hj => by omega, fun h => by have : lnA l t 0 = -1 := rfl; omega⟩
  | i + 1 => by
    have ih := lnA_spec l t i
    have e : lnA l t (i + 1) = if thr l i = t ∧ knd l i ≠ 3 then (i : Int) else lnA l t i := rfl
    rw [e]
    split
    · rename_i h
      refine ⟨fun h => by omega, fun _ => ?_⟩
      rw [Int.toNat_natCast]
      exact ⟨by omega, h.1, h.2, fun j h1 h2 => by omega⟩
    · rename_i h
      refine ⟨fun hl j hj => ?_, fun hl => ?_⟩
      · by_cases hji : j = i
        · subst hji; exact h
        · exact ih.1 hl j (by omega)
      · obtain ⟨h1, h2, h3, h4⟩ := ih.2 hl
        refine ⟨by omega, h2, h3, fun j h5 h6 => ?_⟩
        by_cases hji : j = i
        · subst hji; exact h
        · exact h4 j h5 (by omega)
theorem lst_none {Q : Nat → Bool} : ∀ {m}, (∀ i, i < m → Q i = false) → lst Q m = 0
  | 0, _ => rfl
  | m + 1, h => by
    unfold lst
    rw [h m (by omega)]
    exact lst_none fun i hi => h i (by omega)
theorem lst_cut {Q : Nat → Bool} {k : Nat} : ∀ {m}, k ≤ m → (∀ i, k ≤ i → i < m → Q i = false) → lst Q m = lst Q k
  | 0, hk, _ => by have : k = 0 := by omega
                   rw [this]
  | m + 1, hk, h => by
    by_cases e : k = m + 1
    · rw [e]
    · show (if Q m = true then m + 1 else lst Q m) = _
      rw [h m (by omega) (by omega)]
      exact lst_cut (by omega) fun i h1 h2 => h i h1 (by omega)
/-- Counting the ends that are known. -/
theorem ckE_min {l : List EH} {last : Nat} {u : Int} {f : Nat} : ∀ i, (∀ j, j < i → knd l j = 4 → thr l j = u → ((j = last ∨ hbB l j last = true) ↔ j < f)) → ckE l last u i = (eCnt l u (min i f) : Int)
  | 0, _ => by rw [Nat.zero_min]; rfl
  | i + 1, h => by
    have ih := ckE_min (l := l) (last := last) (u := u) (f := f) i fun j hj => h j (by omega)
    have e : ckE l last u (i + 1) = ckE l last u i + if knd l i = 4 ∧ (i = last ∨ hbB l i last = true) ∧ thr l i = u then 1 else 0 := rfl
    rw [e, ih]
    by_cases hf : i < f
    · have e1 : min (i + 1) f = i + 1 := by omega
      have e2 : min i f = i := by omega
      rw [e1, e2]
      show _ = ((eCnt l u i + if endB l u i = true then 1 else 0 : Nat) : Int)
      by_cases hk : knd l i = 4 ∧ thr l i = u
      · rw [if_pos ⟨hk.1, (h i (by omega) hk.1 hk.2).2 hf, hk.2⟩, if_pos (endB_iff.2 hk)]
        rfl
      · rw [if_neg (fun x => hk ⟨x.1, x.2.2⟩), if_neg (fun x => hk (endB_iff.1 x))]
        rfl
    · have e1 : min (i + 1) f = f := by omega
      have e2 : min i f = f := by omega
      rw [e1, e2, if_neg]
      · exact Int.add_zero _
      · rintro ⟨h1, h2, h3⟩
        exact hf ((h i (by omega) h1 h3).1 h2)
theorem clk_seen {l : List EH} {n : Nat} {t : Int} (hw : Wf l n) : clkR l n t = seenR l n t := by
  obtain ⟨hs1, hs2⟩ := lnA_spec l t l.length
  have hrange := lnA_lt l t l.length
  unfold clkR seenR
  by_cases h0 : lnA l t l.length < 0
  · rw [if_pos h0]
    refine rowG_congr fun u _ => ?_
    unfold seenC
    rw [lst_none fun i hi => by
      cases he : endB l t i with
      | false => rfl
      | true =>
        obtain ⟨a, b⟩ := endB_iff.1 he
        exact absurd ⟨b, by omega⟩ (hs1 h0 i hi)]
    rfl
  · rw [if_neg h0]
    obtain ⟨g1, g2, g3, g4⟩ := hs2 (by omega)
    generalize (lnA l t l.length).toNat = m at *
    refine rowG_congr fun u _ => ?_
    have hkm := hw.kd m g1
    unfold seenC
    have hcut : lst (endB l t) l.length = lst (endB l t) (m + 1) := lst_cut (by omega) fun i h1 h2 => by
      cases he : endB l t i with
      | false => rfl
      | true =>
        obtain ⟨a, b⟩ := endB_iff.1 he
        exact absurd ⟨b, by omega⟩ (g4 i (by omega) h2)
    rw [hcut]
    have hle := lst_le (Q := endB l t) (m + 1)
    have hmin : min l.length (lst (endB l t) (m + 1)) = lst (endB l t) (m + 1) := by omega
    have key := ckE_min (l := l) (last := m) (u := (u : Int)) (f := lst (endB l t) (m + 1)) l.length
    rw [hmin] at key
    refine key fun j hj h4 hju => ?_
    have hcj := cnt_end hj h4
    by_cases hut : thr l j = t
    · -- an end of the thread itself
      have hq : endB l t j = true := endB_iff.2 ⟨h4, hut⟩
      have hjm : j ≤ m := by
        rcases Nat.lt_or_ge m j with h | h
        · exact absurd ⟨hut, by omega⟩ (g4 j h hj)
        · exact h
      refine ⟨fun _ => lst_ge hq (by omega), fun _ => ?_⟩
      by_cases hjm2 : j = m
      · exact .inl hjm2
      · exact .inr (hbB_iff.2 ⟨by omega, hcj, ⟨g1, .inl g3⟩, .inl (by rw [hut, g2])⟩)
    · have hjm : j ≠ m := fun h => hut (by rw [h]; exact g2)
      have hne : thr l j ≠ thr l m := by rw [g2]; exact hut
      by_cases hp : knd l m = 4
      · -- an end
        have hf : lst (endB l t) (m + 1) = m + 1 := by
          show (if endB l t m = true then m + 1 else lst (endB l t) m) = _
          rw [if_pos (endB_iff.2 ⟨hp, g2⟩)]
        rw [hf]
        constructor
        · rintro (h | h)
          · exact absurd h hjm
          · have := (hbB_iff.1 h).1; omega
        · intro h
          refine .inr (hbB_iff.2 ⟨by omega, hcj, ⟨g1, .inl g3⟩, .inr (.inr ⟨fun hh => by rcases hh with hh | hh <;> omega, j, Nat.le_refl _, by omega, h4, rfl⟩)⟩)
      · have hpl : plainP l m := by unfold plainP; omega
        have hf : lst (endB l t) (m + 1) = lst (endB l t) m := by
          show (if endB l t m = true then m + 1 else lst (endB l t) m) = _
          rw [if_neg (fun h => hp (endB_iff.1 h).1)]
        rw [hf]
        have hsucc : eCnt l (u : Int) (j + 1) = eCnt l u j + 1 := by
          show eCnt l u j + (if endB l u j = true then 1 else 0) = _
          rw [if_pos (endB_iff.2 ⟨h4, hju⟩)]
        have hlm := lst_le (Q := endB l t) m
        constructor
        · rintro (h | h)
          · exact absurd h hjm
          · have hb := hbB_iff.1 h
            have := (hb_plain hcj g1 hb.1 hju hne hpl).1 hb
            unfold seenC at this
            rw [g2] at this
            rcases Nat.lt_or_ge j (lst (endB l t) m) with h5 | h5
            · exact h5
            · have := eCnt_mono (l := l) (t := (u : Int)) h5
              omega
        · intro h
          refine .inr (hbB_iff.2 ((hb_plain hcj g1 (by omega) hju hne hpl).2 ?_))
          unfold seenC
          rw [g2]
          have := eCnt_mono (l := l) (t := (u : Int)) (show j + 1 ≤ lst (endB l t) m by omega)
          omega
theorem seenR_mono {L : List EH} {e : EH} {n : Nat} {u : Int} {t : Nat} (ht : t < n) : gtC (seenR L n u) t ≤ gtC (seenR (L ++ [e]) n u) t := by
  unfold seenR
  rw [gtC_at (rowG_get ht), gtC_at (rowG_get ht), len1, seenC_succ]
  split
  · have h1 := eCnt_app (l := L) (r := [e]) (t := (t : Int)) (Nat.le_refl L.length)
    have h2 := eCnt_mono (l := L ++ [e]) (t := (t : Int)) (show L.length ≤ L.length + 1 by omega)
    have h3 := eCnt_mono (l := L) (t := (t : Int)) (lst_le (Q := endB L u) L.length)
    unfold seenC
    omega
  · rw [seenC_app (Nat.le_refl _)]
    exact Int.le_refl _
end Go.Proofs.YtofjnldidkiihaaDoor
namespace Go.Proofs.YtofjnldidkiihaaDoor
open Go
set_option maxRecDepth 10000
set_option maxHeartbeats 4000000
section
variable {W0 : World} {own : Own} {a b : Option Addr} {ca cb : Nat}
/-- Each element of a clock is at most that of another. -/
theorem sp_vleq {A B : List Int} (hA : RdE encI 1 W0 own a A) (hB : RdE encI 1 W0 own b B) (hl : A.length = B.length ∨ A.length = 0) (hl2 : B.length ≤ 65536) (hle : ∀ t : Nat, t < B.length → gtC A t ≤ gtC B t) :
    Pure Tryd.prog W0 32 [.slice a A.length ca, .slice b B.length cb] own (.bool true) := by
  refine pure_of (spec_of mixed low_vclock_Leq (by simp [ir_vclock_Leq]) ?_)
  have g1 := fun (own' : Own) [EntC own' own] (t : Int) => sp_vget (W0 := W0) (own := own') (cc := ca) hA.up t
  have g2 := fun (own' : Own) [EntC own' own] (t : Int) => sp_vget (W0 := W0) (own := own') (cc := cb) hB.up t
  have hm : max (A.length : Int) B.length = B.length := by omega
  repeat' ((try (conv => whnf)); first | (refine when_ye ?_ ?_; exact rfl) | (refine when_ne ?_ ?_; exact rfl) | (refine br_te ?_ ?_; exact rfl) | (refine br_fe ?_ ?_; exact rfl) | (apply br_pyE; (exact rfl); omega) | (apply br_pnE; (exact rfl); omega) | (apply when_pyE; (exact rfl); omega) | (apply when_pnE; (exact rfl); omega) | (apply br_npyE; (exact rfl); omega) | (apply br_npnE; (exact rfl); omega) | (apply when_npyE; (exact rfl); omega) | (apply when_npnE; (exact rfl); omega) | (refine ari ?_ ?_; omega) | (refine aru ?_ ?_; omega) | (apply sel; exact rfl) | (refine ix0 rfl ?_) | (refine ix1 rfl ?_) | (refine ix2 rfl ?_) | (refine ix3 rfl ?_) | (apply ixj; omega) | (refine ixn ?_ ?_; omega) | (refine ixs0 rfl ?_) | (refine ixs1 rfl ?_) | (refine ixs_j ?_ ?_; omega) | (refine ixs_n ?_ ?_; omega) | (apply ld_o; exact rfl) | (apply ldN_a; exact rfl) | (apply ldN_o; (exact rfl); exact rfl) | (apply st_o; (exact rfl); exact rfl) | (apply stN_o; (exact rfl); (exact rfl); exact rfl) | (refine new_i (fun bk hbk => ?_)) | (apply when_dE; (exact rfl); (exact rfl); all_goals intro hc) | (apply when_dF; (exact rfl); (exact rfl); all_goals intro hc) | (apply when_nE; (exact rfl); (exact rfl); all_goals intro hc) | (apply when_nF; (exact rfl); (exact rfl); all_goals intro hc) | (apply br_dE; (exact rfl); all_goals intro hc) | (apply br_nE; (exact rfl); all_goals intro hc) | (refine mm_min ?_) | (refine mm_max ?_) | (refine rem_i ?_ ?_; omega) | (refine SelN.mk ?_) | (refine cut_n ?_) | (refine Both.mk ?_ ?_) | (exact True.intro))
  refine loop_c (σ := Nat) (fun i => [(11, .int .i64 i)]) (fun i => i ≤ B.length) (fun i => B.length - i) 0 (by omega) (by repeat' (first | exact True.intro | refine And.intro ?_ ?_ | exact rfl | exact vi (by omega) | (dsimp only; exact rfl) | (dsimp only; exact vi (by omega)))) rfl ?_
  intro i junk hi
  by_cases hlt : i < B.length
  · have h1 : (i : Int) < max (A.length : Int) B.length := by omega
    have h2 : ¬ gtC A i > gtC B i := by have := hle i hlt; omega
    repeat' ((try (conv => whnf)); first | (refine when_ye ?_ ?_; exact rfl) | (refine when_ne ?_ ?_; exact rfl) | (refine br_te ?_ ?_; exact rfl) | (refine br_fe ?_ ?_; exact rfl) | (apply br_pyE; (exact rfl); omega) | (apply br_pnE; (exact rfl); omega) | (apply when_pyE; (exact rfl); omega) | (apply when_pnE; (exact rfl); omega) | (apply br_npyE; (exact rfl); omega) | (apply br_npnE; (exact rfl); omega) | (apply when_npyE; (exact rfl); omega) | (apply when_npnE; (exact rfl); omega) | (refine br_pyE ?_ h1 ?_; exact rfl) | (refine br_pnE ?_ h1 ?_; exact rfl) | (refine when_pyE ?_ h1 ?_; exact rfl) | (refine when_pnE ?_ h1 ?_; exact rfl) | (refine br_npyE ?_ h1 ?_; exact rfl) | (refine br_npnE ?_ h1 ?_; exact rfl) | (refine when_npyE ?_ h1 ?_; exact rfl) | (refine when_npnE ?_ h1 ?_; exact rfl) | (refine br_pyE ?_ h2 ?_; exact rfl) | (refine br_pnE ?_ h2 ?_; exact rfl) | (refine when_pyE ?_ h2 ?_; exact rfl) | (refine when_pnE ?_ h2 ?_; exact rfl) | (refine br_npyE ?_ h2 ?_; exact rfl) | (refine br_npnE ?_ h2 ?_; exact rfl) | (refine when_npyE ?_ h2 ?_; exact rfl) | (refine when_npnE ?_ h2 ?_; exact rfl) | ((with_reducible show CallT _ _ _ _ _ _); first | ((refine call_pe (g1 _ (i : Int)) ?_ ?_ ?_; (exact rfl); exact rfl)) | ((refine call_pe (g2 _ (i : Int)) ?_ ?_ ?_; (exact rfl); exact rfl))) | (refine ari ?_ ?_; omega) | (refine aru ?_ ?_; omega) | (apply sel; exact rfl) | (refine ix0 rfl ?_) | (refine ix1 rfl ?_) | (refine ix2 rfl ?_) | (refine ix3 rfl ?_) | (apply ixj; omega) | (refine ixn ?_ ?_; omega) | (refine ixs0 rfl ?_) | (refine ixs1 rfl ?_) | (refine ixs_j ?_ ?_; omega) | (refine ixs_n ?_ ?_; omega) | (apply ld_o; exact rfl) | (apply ldN_a; exact rfl) | (apply ldN_o; (exact rfl); exact rfl) | (apply st_o; (exact rfl); exact rfl) | (apply stN_o; (exact rfl); (exact rfl); exact rfl) | (refine new_i (fun bk hbk => ?_)) | (apply when_dE; (exact rfl); (exact rfl); all_goals intro hc) | (apply when_dF; (exact rfl); (exact rfl); all_goals intro hc) | (apply when_nE; (exact rfl); (exact rfl); all_goals intro hc) | (apply when_nF; (exact rfl); (exact rfl); all_goals intro hc) | (apply br_dE; (exact rfl); all_goals intro hc) | (apply br_nE; (exact rfl); all_goals intro hc) | (refine mm_min ?_) | (refine mm_max ?_) | (refine rem_i ?_ ?_; omega) | (refine SelN.mk ?_) | (refine cut_n ?_) | (refine Both.mk ?_ ?_) | (exact True.intro))
    exact ⟨i + 1, by omega, by omega, (by repeat' (first | exact True.intro | refine And.intro ?_ ?_ | exact rfl | exact vi (by omega) | (dsimp only; exact rfl) | (dsimp only; exact vi (by omega)))), (by first | exact ent_i | (repeat (first | exact Ent.refl | exact Ent.left | refine Ent.cons ?_ | refine Ent.app ?_)))⟩
  · have h1 : ¬ (i : Int) < max (A.length : Int) B.length := by omega
    repeat' ((try (conv => whnf)); first | (refine when_ye ?_ ?_; exact rfl) | (refine when_ne ?_ ?_; exact rfl) | (refine br_te ?_ ?_; exact rfl) | (refine br_fe ?_ ?_; exact rfl) | (apply br_pyE; (exact rfl); omega) | (apply br_pnE; (exact rfl); omega) | (apply when_pyE; (exact rfl); omega) | (apply when_pnE; (exact rfl); omega) | (apply br_npyE; (exact rfl); omega) | (apply br_npnE; (exact rfl); omega) | (apply when_npyE; (exact rfl); omega) | (apply when_npnE; (exact rfl); omega) | (refine br_pyE ?_ h1 ?_; exact rfl) | (refine br_pnE ?_ h1 ?_; exact rfl) | (refine when_pyE ?_ h1 ?_; exact rfl) | (refine when_pnE ?_ h1 ?_; exact rfl) | (refine br_npyE ?_ h1 ?_; exact rfl) | (refine br_npnE ?_ h1 ?_; exact rfl) | (refine when_npyE ?_ h1 ?_; exact rfl) | (refine when_npnE ?_ h1 ?_; exact rfl) | (refine ari ?_ ?_; omega) | (refine aru ?_ ?_; omega) | (apply sel; exact rfl) | (refine ix0 rfl ?_) | (refine ix1 rfl ?_) | (refine ix2 rfl ?_) | (refine ix3 rfl ?_) | (apply ixj; omega) | (refine ixn ?_ ?_; omega) | (refine ixs0 rfl ?_) | (refine ixs1 rfl ?_) | (refine ixs_j ?_ ?_; omega) | (refine ixs_n ?_ ?_; omega) | (apply ld_o; exact rfl) | (apply ldN_a; exact rfl) | (apply ldN_o; (exact rfl); exact rfl) | (apply st_o; (exact rfl); exact rfl) | (apply stN_o; (exact rfl); (exact rfl); exact rfl) | (refine new_i (fun bk hbk => ?_)) | (apply when_dE; (exact rfl); (exact rfl); all_goals intro hc) | (apply when_dF; (exact rfl); (exact rfl); all_goals intro hc) | (apply when_nE; (exact rfl); (exact rfl); all_goals intro hc) | (apply when_nF; (exact rfl); (exact rfl); all_goals intro hc) | (apply br_dE; (exact rfl); all_goals intro hc) | (apply br_nE; (exact rfl); all_goals intro hc) | (refine mm_min ?_) | (refine mm_max ?_) | (refine rem_i ?_ ?_; omega) | (refine SelN.mk ?_) | (refine cut_n ?_) | (refine Both.mk ?_ ?_) | (exact True.intro))
    exact ⟨rfl, (by first | exact ent_i | (repeat (first | exact Ent.refl | exact Ent.left | refine Ent.cons ?_ | refine Ent.app ?_)))⟩
end
end Go.Proofs.YtofjnldidkiihaaDoor
namespace Go.Proofs.YtofjnldidkiihaaDoor
open Go
set_option maxRecDepth 10000
set_option maxHeartbeats 8000000
section
variable {W0 : World} {own : Own} {a : Option Addr} {cap : Nat}
theorem sls_te {b o n c sz m : Nat} {r : Int} {K : Value → Prop} (e : r = (m : Int)) (hr : m ≤ c) (h : K (.slice (some ⟨b, o, none⟩) m c)) : SlsT (some ⟨b, o, none⟩) n c sz none (some r) none K := by
  subst e
  exact sls_t hr h
theorem sp_kints {a b : Option Addr} {c1 c2 : Nat} {L : List Int} (h1 : RdE encI 1 W0 own a L) (h2 : RdE encI 1 W0 own b L) (hl : L.length ≤ 9223372036854775807) : Pure Tryd.prog W0 30 [.slice a L.length c1, .slice b L.length c2] own (.bool true) := by
  refine pure_of (spec_of mixed low_kit_Ints (by simp [ir_kit_Ints]) ?_)
  have hne : ¬ ((L.length : Nat) : Int) ≠ L.length := by omega
  repeat' ((try (conv => whnf)); first | (refine when_ye ?_ ?_; exact rfl) | (refine when_ne ?_ ?_; exact rfl) | (refine br_te ?_ ?_; exact rfl) | (refine br_fe ?_ ?_; exact rfl) | (apply br_pyE; (exact rfl); omega) | (apply br_pnE; (exact rfl); omega) | (apply when_pyE; (exact rfl); omega) | (apply when_pnE; (exact rfl); omega) | (apply br_npyE; (exact rfl); omega) | (apply br_npnE; (exact rfl); omega) | (apply when_npyE; (exact rfl); omega) | (apply when_npnE; (exact rfl); omega) | (refine br_pyE ?_ hne ?_; exact rfl) | (refine br_pnE ?_ hne ?_; exact rfl) | (refine when_pyE ?_ hne ?_; exact rfl) | (refine when_pnE ?_ hne ?_; exact rfl) | (refine br_npyE ?_ hne ?_; exact rfl) | (refine br_npnE ?_ hne ?_; exact rfl) | (refine when_npyE ?_ hne ?_; exact rfl) | (refine when_npnE ?_ hne ?_; exact rfl) | (refine ari ?_ ?_; omega) | (refine aru ?_ ?_; omega) | (apply sel; exact rfl) | (refine ix0 rfl ?_) | (refine ix1 rfl ?_) | (refine ix2 rfl ?_) | (refine ix3 rfl ?_) | (apply ixj; omega) | (refine ixn ?_ ?_; omega) | (refine ixs0 rfl ?_) | (refine ixs1 rfl ?_) | (refine ixs_j ?_ ?_; omega) | (refine ixs_n ?_ ?_; omega) | (apply ld_o; exact rfl) | (apply ldN_a; exact rfl) | (apply ldN_o; (exact rfl); exact rfl) | (apply st_o; (exact rfl); exact rfl) | (apply stN_o; (exact rfl); (exact rfl); exact rfl) | (refine new_i (fun bk hbk => ?_)) | (apply when_dE; (exact rfl); (exact rfl); all_goals intro hc) | (apply when_dF; (exact rfl); (exact rfl); all_goals intro hc) | (apply when_nE; (exact rfl); (exact rfl); all_goals intro hc) | (apply when_nF; (exact rfl); (exact rfl); all_goals intro hc) | (apply br_dE; (exact rfl); all_goals intro hc) | (apply br_nE; (exact rfl); all_goals intro hc) | (refine mm_min ?_) | (refine mm_max ?_) | (refine rem_i ?_ ?_; omega) | (refine SelN.mk ?_) | (refine cut_n ?_) | (refine Both.mk ?_ ?_) | (exact True.intro))
  refine loop_c (σ := Nat) (fun i => [(5, .int .i64 i)]) (fun i => i ≤ L.length) (fun i => L.length - i) 0 (by omega) (by repeat' (first | exact True.intro | refine And.intro ?_ ?_ | exact rfl | exact vi (by omega) | (dsimp only; exact rfl) | (dsimp only; exact vi (by omega)))) rfl ?_
  intro i junk hi
  by_cases hlt : i < L.length
  · obtain ⟨x, hx⟩ : ∃ x, L[i]? = some x := ⟨_, List.getElem?_eq_getElem hlt⟩
    have hlt' : (i : Int) < L.length := by omega
    have hnx : ¬ x ≠ x := fun h => h rfl
    repeat' ((try (conv => whnf)); first | (refine when_ye ?_ ?_; exact rfl) | (refine when_ne ?_ ?_; exact rfl) | (refine br_te ?_ ?_; exact rfl) | (refine br_fe ?_ ?_; exact rfl) | (apply br_pyE; (exact rfl); omega) | (apply br_pnE; (exact rfl); omega) | (apply when_pyE; (exact rfl); omega) | (apply when_pnE; (exact rfl); omega) | (apply br_npyE; (exact rfl); omega) | (apply br_npnE; (exact rfl); omega) | (apply when_npyE; (exact rfl); omega) | (apply when_npnE; (exact rfl); omega) | (refine br_pyE ?_ hlt' ?_; exact rfl) | (refine br_pnE ?_ hlt' ?_; exact rfl) | (refine when_pyE ?_ hlt' ?_; exact rfl) | (refine when_pnE ?_ hlt' ?_; exact rfl) | (refine br_npyE ?_ hlt' ?_; exact rfl) | (refine br_npnE ?_ hlt' ?_; exact rfl) | (refine when_npyE ?_ hlt' ?_; exact rfl) | (refine when_npnE ?_ hlt' ?_; exact rfl) | (refine br_pyE ?_ hnx ?_; exact rfl) | (refine br_pnE ?_ hnx ?_; exact rfl) | (refine when_pyE ?_ hnx ?_; exact rfl) | (refine when_pnE ?_ hnx ?_; exact rfl) | (refine br_npyE ?_ hnx ?_; exact rfl) | (refine br_npnE ?_ hnx ?_; exact rfl) | (refine when_npyE ?_ hnx ?_; exact rfl) | (refine when_npnE ?_ hnx ?_; exact rfl) | ((with_reducible show Ld _ _ _ _); first | (refine ldE0 h1 hx rfl ?_) | (refine ldEk h1 hx rfl ?_) | (refine ldE1 h1 hx rfl ?_) | (refine ldE0 h2 hx rfl ?_) | (refine ldEk h2 hx rfl ?_) | (refine ldE1 h2 hx rfl ?_)) | ((with_reducible show IxS _ _ _ _ _); first | ((refine ixE h1 hx ?_ ?_; (first | rfl | omega))) | ((refine ixE h2 hx ?_ ?_; (first | rfl | omega)))) | ((with_reducible show LdN _ _ _ _ _); first | (refine ldNEi h1 hx rfl ?_) | (refine ldNEi h2 hx rfl ?_)) | (refine ari ?_ ?_; omega) | (refine aru ?_ ?_; omega) | (apply sel; exact rfl) | (refine ix0 rfl ?_) | (refine ix1 rfl ?_) | (refine ix2 rfl ?_) | (refine ix3 rfl ?_) | (apply ixj; omega) | (refine ixn ?_ ?_; omega) | (refine ixs0 rfl ?_) | (refine ixs1 rfl ?_) | (refine ixs_j ?_ ?_; omega) | (refine ixs_n ?_ ?_; omega) | (apply ld_o; exact rfl) | (apply ldN_a; exact rfl) | (apply ldN_o; (exact rfl); exact rfl) | (apply st_o; (exact rfl); exact rfl) | (apply stN_o; (exact rfl); (exact rfl); exact rfl) | (refine new_i (fun bk hbk => ?_)) | (apply when_dE; (exact rfl); (exact rfl); all_goals intro hc) | (apply when_dF; (exact rfl); (exact rfl); all_goals intro hc) | (apply when_nE; (exact rfl); (exact rfl); all_goals intro hc) | (apply when_nF; (exact rfl); (exact rfl); all_goals intro hc) | (apply br_dE; (exact rfl); all_goals intro hc) | (apply br_nE; (exact rfl); all_goals intro hc) | (refine mm_min ?_) | (refine mm_max ?_) | (refine rem_i ?_ ?_; omega) | (refine SelN.mk ?_) | (refine cut_n ?_) | (refine Both.mk ?_ ?_) | (exact True.intro))
    exact ⟨i + 1, by omega, by omega, (by repeat' (first | exact True.intro | refine And.intro ?_ ?_ | exact rfl | exact vi (by omega) | (dsimp only; exact rfl) | (dsimp only; exact vi (by omega)))), (by first | exact ent_i | (repeat (first | exact Ent.refl | exact Ent.left | refine Ent.cons ?_ | refine Ent.app ?_)))⟩
  · have hlt' : ¬ (i : Int) < L.length := by omega
    repeat' ((try (conv => whnf)); first | (refine when_ye ?_ ?_; exact rfl) | (refine when_ne ?_ ?_; exact rfl) | (refine br_te ?_ ?_; exact rfl) | (refine br_fe ?_ ?_; exact rfl) | (apply br_pyE; (exact rfl); omega) | (apply br_pnE; (exact rfl); omega) | (apply when_pyE; (exact rfl); omega) | (apply when_pnE; (exact rfl); omega) | (apply br_npyE; (exact rfl); omega) | (apply br_npnE; (exact rfl); omega) | (apply when_npyE; (exact rfl); omega) | (apply when_npnE; (exact rfl); omega) | (refine br_pyE ?_ hlt' ?_; exact rfl) | (refine br_pnE ?_ hlt' ?_; exact rfl) | (refine when_pyE ?_ hlt' ?_; exact rfl) | (refine when_pnE ?_ hlt' ?_; exact rfl) | (refine br_npyE ?_ hlt' ?_; exact rfl) | (refine br_npnE ?_ hlt' ?_; exact rfl) | (refine when_npyE ?_ hlt' ?_; exact rfl) | (refine when_npnE ?_ hlt' ?_; exact rfl) | (refine ari ?_ ?_; omega) | (refine aru ?_ ?_; omega) | (apply sel; exact rfl) | (refine ix0 rfl ?_) | (refine ix1 rfl ?_) | (refine ix2 rfl ?_) | (refine ix3 rfl ?_) | (apply ixj; omega) | (refine ixn ?_ ?_; omega) | (refine ixs0 rfl ?_) | (refine ixs1 rfl ?_) | (refine ixs_j ?_ ?_; omega) | (refine ixs_n ?_ ?_; omega) | (apply ld_o; exact rfl) | (apply ldN_a; exact rfl) | (apply ldN_o; (exact rfl); exact rfl) | (apply st_o; (exact rfl); exact rfl) | (apply stN_o; (exact rfl); (exact rfl); exact rfl) | (refine new_i (fun bk hbk => ?_)) | (apply when_dE; (exact rfl); (exact rfl); all_goals intro hc) | (apply when_dF; (exact rfl); (exact rfl); all_goals intro hc) | (apply when_nE; (exact rfl); (exact rfl); all_goals intro hc) | (apply when_nF; (exact rfl); (exact rfl); all_goals intro hc) | (apply br_dE; (exact rfl); all_goals intro hc) | (apply br_nE; (exact rfl); all_goals intro hc) | (refine mm_min ?_) | (refine mm_max ?_) | (refine rem_i ?_ ?_; omega) | (refine SelN.mk ?_) | (refine cut_n ?_) | (refine Both.mk ?_ ?_) | (exact True.intro))
    exact ⟨rfl, (by first | exact ent_i | (repeat (first | exact Ent.refl | exact Ent.left | refine Ent.cons ?_ | refine Ent.app ?_)))⟩
/-- The clocks that were kept. -/
structure WasM (W0 : World) (n : Nat) (Y : Own) (P : Nat → List EH) (W : List Sl) : Prop where
  len : W.length = n
  row : ∀ u : Nat, u < n → ∃ a c l, W[u]? = some (a, List.length l, c) ∧ RdE encI 1 W0 Y a l ∧ (l = [] ∨ l = seenR (P u) n u)
theorem WasM.set {n j : Nat} {Y D1 : Own} {P P' : Nat → List EH} {W : List Sl} {a1 : Option Addr} {c1 : Nat} (h : WasM W0 n Y P W) (hj : j < n) (hB : BufE encI 3 1 a1 c1 (seenR (P' j) n j) D1) (hP : ∀ u, u ≠ j → P' u = P u) : WasM W0 n (D1 ++ Y) P' (W.set j (a1, n, c1)) := by
  refine ⟨by rw [List.length_set]; exact h.len, fun u hu => ?_⟩
  rw [set_get (by rw [h.len]; exact hj)]
  by_cases huj : u = j
  · rw [if_pos huj]
    subst huj
    have hl : (seenR (P' u) n u).length = n := rowG_len
    exact ⟨a1, c1, seenR (P' u) n u, by rw [hl], hB.rd.up, .inr rfl⟩
  · rw [if_neg huj, hP u huj]
    obtain ⟨a, c, l, h1, h2, h3⟩ := h.row u hu
    exact ⟨a, c, l, h1, h2.up, h3⟩
theorem ent_was {D1 O Y R : Own} {e1 e2 : Nat × (Obj → Prop)} : Ent W0 (e1 :: (D1 ++ (O ++ (e2 :: (Y ++ R))))) (O ++ (e2 :: ((D1 ++ Y) ++ R))) := by
  refine Ent.drop.trans (Ent.of_perm ?_)
  have h1 : ∀ (P Q : Own), (D1 ++ (P ++ Q)).Perm (P ++ (D1 ++ Q)) := fun P Q => by
    rw [← List.append_assoc, ← List.append_assoc]
    exact List.perm_append_comm.append_right Q
  refine (h1 O _).trans (List.Perm.append_left O ?_)
  have := h1 [e2] (Y ++ R)
  rw [← List.append_assoc D1 Y R] at this
  exact this
theorem sp_TdrfClocks {l : List Int} (hN : LaidAt W0 0 noneV) (hR : RdE encI 1 W0 own a l) (th : Int) : Pure Tryd.prog W0 10 [.slice a l.length cap, .int .i64 th] own (.bool true) := by
  refine pure_of (spec_of mixed low_law25_TdrfClocks (by simp [ir_law25_TdrfClocks]) ?_)
  have h2 := sp_place W0 own th (n := 3) (by omega)
  have hp := plc_rng th (n := 3) (by omega)
  have h3 := sp_awake25 hN
  generalize plc th 3 = q at *
  obtain ⟨n, hn⟩ : ∃ n : Nat, 2 + q = n := ⟨(2 + q).toNat, by omega⟩
  by_cases hl : 24 < l.length
  · have hl' : (l.length : Int) > 24 := by omega
    repeat' ((try (conv => whnf)); first | (refine when_ye ?_ ?_; exact rfl) | (refine when_ne ?_ ?_; exact rfl) | (refine br_te ?_ ?_; exact rfl) | (refine br_fe ?_ ?_; exact rfl) | (apply br_pyE; (exact rfl); omega) | (apply br_pnE; (exact rfl); omega) | (apply when_pyE; (exact rfl); omega) | (apply when_pnE; (exact rfl); omega) | (apply br_npyE; (exact rfl); omega) | (apply br_npnE; (exact rfl); omega) | (apply when_npyE; (exact rfl); omega) | (apply when_npnE; (exact rfl); omega) | (refine br_pyE ?_ hl' ?_; exact rfl) | (refine br_pnE ?_ hl' ?_; exact rfl) | (refine when_pyE ?_ hl' ?_; exact rfl) | (refine when_pnE ?_ hl' ?_; exact rfl) | (refine br_npyE ?_ hl' ?_; exact rfl) | (refine br_npnE ?_ hl' ?_; exact rfl) | (refine when_npyE ?_ hl' ?_; exact rfl) | (refine when_npnE ?_ hl' ?_; exact rfl) | ((with_reducible show CallT _ _ _ _ _ _); first | ((refine call_pe (h3 _) ?_ ?_ ?_; (exact rfl); exact rfl))) | (refine ari ?_ ?_; omega) | (refine aru ?_ ?_; omega) | (apply sel; exact rfl) | (refine ix0 rfl ?_) | (refine ix1 rfl ?_) | (refine ix2 rfl ?_) | (refine ix3 rfl ?_) | (apply ixj; omega) | (refine ixn ?_ ?_; omega) | (refine ixs0 rfl ?_) | (refine ixs1 rfl ?_) | (refine ixs_j ?_ ?_; omega) | (refine ixs_n ?_ ?_; omega) | (apply ld_o; exact rfl) | (apply ldN_a; exact rfl) | (apply ldN_o; (exact rfl); exact rfl) | (apply st_o; (exact rfl); exact rfl) | (apply stN_o; (exact rfl); (exact rfl); exact rfl) | (refine new_i (fun bk hbk => ?_)) | (apply when_dE; (exact rfl); (exact rfl); all_goals intro hc) | (apply when_dF; (exact rfl); (exact rfl); all_goals intro hc) | (apply when_nE; (exact rfl); (exact rfl); all_goals intro hc) | (apply when_nF; (exact rfl); (exact rfl); all_goals intro hc) | (apply br_dE; (exact rfl); all_goals intro hc) | (apply br_nE; (exact rfl); all_goals intro hc) | (refine mm_min ?_) | (refine mm_max ?_) | (refine rem_i ?_ ?_; omega) | (refine SelN.mk ?_) | (refine cut_n ?_) | (refine Both.mk ?_ ?_) | (exact True.intro))
    exact ⟨rfl, (by first | exact ent_i | (repeat (first | exact Ent.refl | exact Ent.left | refine Ent.cons ?_ | refine Ent.app ?_)))⟩
  · have hl' : ¬ (l.length : Int) > 24 := by omega
    have hev := sp_events (W0 := W0) (own := own) (cap := cap) (n := n) (by omega) hR (by omega)
    have hnew := fun own' => sp_tnew (W0 := W0) (own := own') hN (n := n) (by omega) (by omega)
    rw [← hn] at hev hnew
    repeat' ((try (conv => whnf)); first | (refine when_ye ?_ ?_; exact rfl) | (refine when_ne ?_ ?_; exact rfl) | (refine br_te ?_ ?_; exact rfl) | (refine br_fe ?_ ?_; exact rfl) | (apply br_pyE; (exact rfl); omega) | (apply br_pnE; (exact rfl); omega) | (apply when_pyE; (exact rfl); omega) | (apply when_pnE; (exact rfl); omega) | (apply br_npyE; (exact rfl); omega) | (apply br_npnE; (exact rfl); omega) | (apply when_npyE; (exact rfl); omega) | (apply when_npnE; (exact rfl); omega) | (refine br_pyE ?_ hl' ?_; exact rfl) | (refine br_pnE ?_ hl' ?_; exact rfl) | (refine when_pyE ?_ hl' ?_; exact rfl) | (refine when_pnE ?_ hl' ?_; exact rfl) | (refine br_npyE ?_ hl' ?_; exact rfl) | (refine br_npnE ?_ hl' ?_; exact rfl) | (refine when_npyE ?_ hl' ?_; exact rfl) | (refine when_npnE ?_ hl' ?_; exact rfl) | ((with_reducible show CallT _ _ _ _ _ _); first | ((refine call_pe (h2) ?_ ?_ ?_; (exact rfl); exact rfl)) | ((refine call_x hev ?_ ?_ (fun s v hv => ?_); (exact rfl); (exact rfl); (obtain ⟨ea, ec, L, D, X⟩ := s; obtain ⟨rfl, hL, hB, hM⟩ := hv; dsimp only at hL hB hM); (apply Stop.h)))) | (refine ari ?_ ?_; omega) | (refine aru ?_ ?_; omega) | (apply sel; exact rfl) | (refine ix0 rfl ?_) | (refine ix1 rfl ?_) | (refine ix2 rfl ?_) | (refine ix3 rfl ?_) | (apply ixj; omega) | (refine ixn ?_ ?_; omega) | (refine ixs0 rfl ?_) | (refine ixs1 rfl ?_) | (refine ixs_j ?_ ?_; omega) | (refine ixs_n ?_ ?_; omega) | (apply ld_o; exact rfl) | (apply ldN_a; exact rfl) | (apply ldN_o; (exact rfl); exact rfl) | (apply st_o; (exact rfl); exact rfl) | (apply stN_o; (exact rfl); (exact rfl); exact rfl) | (refine new_i (fun bk hbk => ?_)) | (apply when_dE; (exact rfl); (exact rfl); all_goals intro hc) | (apply when_dF; (exact rfl); (exact rfl); all_goals intro hc) | (apply when_nE; (exact rfl); (exact rfl); all_goals intro hc) | (apply when_nF; (exact rfl); (exact rfl); all_goals intro hc) | (apply br_dE; (exact rfl); all_goals intro hc) | (apply br_nE; (exact rfl); all_goals intro hc) | (refine mm_min ?_) | (refine mm_max ?_) | (refine rem_i ?_ ?_; omega) | (refine SelN.mk ?_) | (refine cut_n ?_) | (refine Both.mk ?_ ?_) | (exact True.intro))
    refine Stop.mk ?_
    dsimp only
    repeat' ((try (conv => whnf)); first | (refine when_ye ?_ ?_; exact rfl) | (refine when_ne ?_ ?_; exact rfl) | (refine br_te ?_ ?_; exact rfl) | (refine br_fe ?_ ?_; exact rfl) | (apply br_pyE; (exact rfl); omega) | (apply br_pnE; (exact rfl); omega) | (apply when_pyE; (exact rfl); omega) | (apply when_pnE; (exact rfl); omega) | (apply br_npyE; (exact rfl); omega) | (apply br_npnE; (exact rfl); omega) | (apply when_npyE; (exact rfl); omega) | (apply when_npnE; (exact rfl); omega) | ((with_reducible show CallT _ _ _ _ _ _); first | ((refine call_x (hnew _) ?_ ?_ (fun s v hv => ?_); (exact rfl); (exact rfl); (obtain ⟨rfl, hM0⟩ := hv); (apply Stop.h)))) | (refine ari ?_ ?_; omega) | (refine aru ?_ ?_; omega) | (apply sel; exact rfl) | (refine ix0 rfl ?_) | (refine ix1 rfl ?_) | (refine ix2 rfl ?_) | (refine ix3 rfl ?_) | (apply ixj; omega) | (refine ixn ?_ ?_; omega) | (refine ixs0 rfl ?_) | (refine ixs1 rfl ?_) | (refine ixs_j ?_ ?_; omega) | (refine ixs_n ?_ ?_; omega) | (apply ld_o; exact rfl) | (apply ldN_a; exact rfl) | (apply ldN_o; (exact rfl); exact rfl) | (apply st_o; (exact rfl); exact rfl) | (apply stN_o; (exact rfl); (exact rfl); exact rfl) | (refine new_i (fun bk hbk => ?_)) | (apply when_dE; (exact rfl); (exact rfl); all_goals intro hc) | (apply when_dF; (exact rfl); (exact rfl); all_goals intro hc) | (apply when_nE; (exact rfl); (exact rfl); all_goals intro hc) | (apply when_nF; (exact rfl); (exact rfl); all_goals intro hc) | (apply br_dE; (exact rfl); all_goals intro hc) | (apply br_nE; (exact rfl); all_goals intro hc) | (refine mm_min ?_) | (refine mm_max ?_) | (refine rem_i ?_ ?_; omega) | (refine SelN.mk ?_) | (refine cut_n ?_) | (refine Both.mk ?_ ?_) | (exact True.intro))
    refine Stop.mk ?_
    rw [hn]
    repeat' ((try (conv => whnf)); first | (refine when_ye ?_ ?_; exact rfl) | (refine when_ne ?_ ?_; exact rfl) | (refine br_te ?_ ?_; exact rfl) | (refine br_fe ?_ ?_; exact rfl) | (apply br_pyE; (exact rfl); omega) | (apply br_pnE; (exact rfl); omega) | (apply when_pyE; (exact rfl); omega) | (apply when_pnE; (exact rfl); omega) | (apply br_npyE; (exact rfl); omega) | (apply br_npnE; (exact rfl); omega) | (apply when_npyE; (exact rfl); omega) | (apply when_npnE; (exact rfl); omega) | (refine mkC (enc := encSl) (T := 22) n (none, 0, 0) rfl rfl rfl ?_ (fun wb => ?_); (omega)) | (refine ari ?_ ?_; omega) | (refine aru ?_ ?_; omega) | (apply sel; exact rfl) | (refine ix0 rfl ?_) | (refine ix1 rfl ?_) | (refine ix2 rfl ?_) | (refine ix3 rfl ?_) | (apply ixj; omega) | (refine ixn ?_ ?_; omega) | (refine ixs0 rfl ?_) | (refine ixs1 rfl ?_) | (refine ixs_j ?_ ?_; omega) | (refine ixs_n ?_ ?_; omega) | (apply ld_o; exact rfl) | (apply ldN_a; exact rfl) | (apply ldN_o; (exact rfl); exact rfl) | (apply st_o; (exact rfl); exact rfl) | (apply stN_o; (exact rfl); (exact rfl); exact rfl) | (refine new_i (fun bk hbk => ?_)) | (apply when_dE; (exact rfl); (exact rfl); all_goals intro hc) | (apply when_dF; (exact rfl); (exact rfl); all_goals intro hc) | (apply when_nE; (exact rfl); (exact rfl); all_goals intro hc) | (apply when_nF; (exact rfl); (exact rfl); all_goals intro hc) | (apply br_dE; (exact rfl); all_goals intro hc) | (apply br_nE; (exact rfl); all_goals intro hc) | (refine mm_min ?_) | (refine mm_max ?_) | (refine rem_i ?_ ?_; omega) | (refine SelN.mk ?_) | (refine cut_n ?_) | (refine Both.mk ?_ ?_) | (exact True.intro))
    have hRL : RdE EH.enc 6 W0 D ea L := hB.rd
    have hcap : L.length ≤ ec := by
      rcases hB.how with ⟨h, _, _⟩ | ⟨_, _, _, _, _, h⟩
      · rw [h]; exact Nat.zero_le _
      · exact h
    have hEv : ∀ e ∈ L, ∀ r0 : Own, [EntC r0 X] → EvR W0 r0 e := fun e he r0 _ => (hM.ev e he).up
    refine loop_i (σ := Nat × CkB × List Sl × Own) (fun s => match s with | (i, _, _, _) => [(10, .int .i64 i)]) (fun q => match q with | (i, s', W, Y) => s'.O (L.take i) n ++ (canE encSl 22 wb W :: (Y ++ (X ++ (D ++ own)))))
      (fun q => match q with | (i, s', W, Y) => i ≤ L.length ∧ s'.cb = s.cb ∧ CkM W0 n (L.take i) s' ∧ WasM W0 n Y (fun _ => L.take i) W) (fun q => match q with | (i, _, _, _) => L.length - i) (0, s, List.replicate n (none, 0, 0), [])
      ⟨Nat.zero_le _, rfl, hM0, ⟨List.length_replicate, fun u hu => ⟨none, 0, [], by rw [List.getElem?_replicate, if_pos hu]; rfl, RdE.nil, .inl rfl⟩⟩⟩ (by repeat' (first | exact True.intro | refine And.intro ?_ ?_ | exact rfl | exact vi (by omega) | (dsimp only; exact rfl) | (dsimp only; exact vi (by omega)))) (Ent.of_perm List.perm_middle.symm) rfl ?_
    clear hM0 hnew hev
    rintro ⟨i, s', W, Y⟩ junk ⟨hi, hcb, hMi, hW⟩
    obtain ⟨cb', eb', sb', sc', bb', bs', S', B', D', X'⟩ := s'
    dsimp only at hi hcb hMi hW ⊢
    subst hcb
    by_cases hlt : i < L.length
    · obtain ⟨e, he⟩ : ∃ e, L[i]? = some e := ⟨_, List.getElem?_eq_getElem hlt⟩
      have hlt' : (i : Int) < L.length := by omega
      have htk : L.take (i + 1) = L.take i ++ [e] := by rw [List.take_add_one, he]; rfl
      have htl : (L.take i).length = i := by rw [List.length_take]; omega
      have htl1 : (L.take (i + 1)).length = i + 1 := by rw [List.length_take]; omega
      have hok := okAt_take (n := n) he
      rw [hM.wf.2.2.2 i hlt] at hok
      have hadd := fun (r0 : Own) (_ : EntC r0 X) => sp_tadd (r0 := r0) hN hMi (hEv e (List.mem_of_getElem? he) r0) hok.symm (by omega)
      rw [← htk] at hadd
      have hea := hRL.isS (fun h => by rw [h] at hlt; simp at hlt)
      have hclk := fun (own' : Own) (_ : EntC own' D) (j : Nat) (hj : j < n) (hw : Wf (L.take (i + 1)) n) => sp_rclock (W0 := W0) (own := own') (a := ea) (cap := ec) (l := L.take (i + 1)) (n := n) (t := (j : Int)) hw (by omega) ⟨by omega, by omega⟩ (RdE.up (RdE.pre (r := L.drop (i + 1)) (by rw [List.take_append_drop]; exact hRL))) (by omega)
      rw [htl1] at hclk
      generalize ab ea = eb1 at hea
      generalize ao ea = eo1 at hea
      subst hea
      have hmono : ∀ (u : Int) (t : Nat), t < n → gtC (seenR (L.take i) n u) t ≤ gtC (seenR (L.take (i + 1)) n u) t := fun u t ht => by rw [htk]; exact seenR_mono ht
      obtain ⟨ev, tt, k, wd, ra, rl, rc, wa, wl, wc⟩ := e
      dsimp only [EH.v] at hadd
      repeat' ((try (conv => whnf)); first | (refine when_ye ?_ ?_; exact rfl) | (refine when_ne ?_ ?_; exact rfl) | (refine br_te ?_ ?_; exact rfl) | (refine br_fe ?_ ?_; exact rfl) | (apply br_pyE; (exact rfl); omega) | (apply br_pnE; (exact rfl); omega) | (apply when_pyE; (exact rfl); omega) | (apply when_pnE; (exact rfl); omega) | (apply br_npyE; (exact rfl); omega) | (apply br_npnE; (exact rfl); omega) | (apply when_npyE; (exact rfl); omega) | (apply when_npnE; (exact rfl); omega) | (refine br_pyE ?_ hlt' ?_; exact rfl) | (refine br_pnE ?_ hlt' ?_; exact rfl) | (refine when_pyE ?_ hlt' ?_; exact rfl) | (refine when_pnE ?_ hlt' ?_; exact rfl) | (refine br_npyE ?_ hlt' ?_; exact rfl) | (refine br_npnE ?_ hlt' ?_; exact rfl) | (refine when_npyE ?_ hlt' ?_; exact rfl) | (refine when_npnE ?_ hlt' ?_; exact rfl) | ((with_reducible show Ld _ _ _ _); first | (refine ldE0 hRL he rfl ?_) | (refine ldEk hRL he rfl ?_) | (refine ldE1 hRL he rfl ?_)) | ((with_reducible show IxS _ _ _ _ _); first | ((refine ixE hRL he ?_ ?_; (first | rfl | omega)))) | ((with_reducible show LdN _ _ _ _ _); first | (refine ldNEi hRL he rfl ?_)) | ((with_reducible show CallT _ _ _ _ _ _); first | ((refine call_x (hadd _ inferInstance) ?_ ?_ (fun s2 v hv => ?_); (exact rfl); (exact rfl); (obtain ⟨rfl, hcb2, hM2⟩ := hv); (apply Stop.h)))) | (refine ari ?_ ?_; omega) | (refine aru ?_ ?_; omega) | (apply sel; exact rfl) | (refine ix0 rfl ?_) | (refine ix1 rfl ?_) | (refine ix2 rfl ?_) | (refine ix3 rfl ?_) | (apply ixj; omega) | (refine ixn ?_ ?_; omega) | (refine ixs0 rfl ?_) | (refine ixs1 rfl ?_) | (refine ixs_j ?_ ?_; omega) | (refine ixs_n ?_ ?_; omega) | (apply ld_o; exact rfl) | (apply ldN_a; exact rfl) | (apply ldN_o; (exact rfl); exact rfl) | (apply st_o; (exact rfl); exact rfl) | (apply stN_o; (exact rfl); (exact rfl); exact rfl) | (refine new_i (fun bk hbk => ?_)) | (apply when_dE; (exact rfl); (exact rfl); all_goals intro hc) | (apply when_dF; (exact rfl); (exact rfl); all_goals intro hc) | (apply when_nE; (exact rfl); (exact rfl); all_goals intro hc) | (apply when_nF; (exact rfl); (exact rfl); all_goals intro hc) | (apply br_dE; (exact rfl); all_goals intro hc) | (apply br_nE; (exact rfl); all_goals intro hc) | (refine mm_min ?_) | (refine mm_max ?_) | (refine rem_i ?_ ?_; omega) | (refine SelN.mk ?_) | (refine cut_n ?_) | (refine Both.mk ?_ ?_) | (exact True.intro))
      refine Stop.mk ?_
      clear hadd
      obtain ⟨cb2, eb2, sb2, sc2, bb2, bs2, S2, B2, D2, X2⟩ := s2
      dsimp only at hcb2 hM2 ⊢
      subst hcb2
      have hw2 := hM2.wf.wf
      repeat' ((try (conv => whnf)); first | (refine when_ye ?_ ?_; exact rfl) | (refine when_ne ?_ ?_; exact rfl) | (refine br_te ?_ ?_; exact rfl) | (refine br_fe ?_ ?_; exact rfl) | (apply br_pyE; (exact rfl); omega) | (apply br_pnE; (exact rfl); omega) | (apply when_pyE; (exact rfl); omega) | (apply when_pnE; (exact rfl); omega) | (apply br_npyE; (exact rfl); omega) | (apply br_npnE; (exact rfl); omega) | (apply when_npyE; (exact rfl); omega) | (apply when_npnE; (exact rfl); omega) | (refine ari ?_ ?_; omega) | (refine aru ?_ ?_; omega) | (apply sel; exact rfl) | (refine ix0 rfl ?_) | (refine ix1 rfl ?_) | (refine ix2 rfl ?_) | (refine ix3 rfl ?_) | (apply ixj; omega) | (refine ixn ?_ ?_; omega) | (refine ixs0 rfl ?_) | (refine ixs1 rfl ?_) | (refine ixs_j ?_ ?_; omega) | (refine ixs_n ?_ ?_; omega) | (apply ld_o; exact rfl) | (apply ldN_a; exact rfl) | (apply ldN_o; (exact rfl); exact rfl) | (apply st_o; (exact rfl); exact rfl) | (apply stN_o; (exact rfl); (exact rfl); exact rfl) | (refine new_i (fun bk hbk => ?_)) | (apply when_dE; (exact rfl); (exact rfl); all_goals intro hc) | (apply when_dF; (exact rfl); (exact rfl); all_goals intro hc) | (apply when_nE; (exact rfl); (exact rfl); all_goals intro hc) | (apply when_nF; (exact rfl); (exact rfl); all_goals intro hc) | (apply br_dE; (exact rfl); all_goals intro hc) | (apply br_nE; (exact rfl); all_goals intro hc) | (refine mm_min ?_) | (refine mm_max ?_) | (refine rem_i ?_ ?_; omega) | (refine SelN.mk ?_) | (refine cut_n ?_) | (refine Both.mk ?_ ?_) | (exact True.intro))
      refine loop_i (σ := Nat × List Sl × Own) (fun s => match s with | (j, _, _) => [(11, .int .i64 j)]) (fun q => match q with | (_, W, Y) => (⟨s.cb, eb2, sb2, sc2, bb2, bs2, S2, B2, D2, X2⟩ : CkB).O (L.take (i + 1)) n ++ (canE encSl 22 wb W :: (Y ++ (X ++ (D ++ own)))))
        (fun q => match q with | (j, W, Y) => j ≤ n ∧ WasM W0 n Y (fun u => if u < j then L.take (i + 1) else L.take i) W) (fun q => match q with | (j, _, _) => n - j) (0, W, Y) ⟨Nat.zero_le _, ⟨hW.len, fun u hu => by rw [if_neg (Nat.not_lt_zero u)]; exact hW.row u hu⟩⟩ (by repeat' (first | exact True.intro | refine And.intro ?_ ?_ | exact rfl | exact vi (by omega) | (dsimp only; exact rfl) | (dsimp only; exact vi (by omega)))) Ent.refl rfl ?_
      clear hW
      rintro ⟨j, W, Y⟩ junk ⟨hj, hW⟩
      dsimp only at hj hW ⊢
      by_cases hjn : j < n
      · have hjn' : (j : Int) < n := by omega
        have hck := fun (own' : Own) (i1 : EntC own' [ckN (L.take (i + 1)).length (paAt (L.take (i + 1)) (L.take (i + 1)).length) s.cb eb2 sb2 bb2 n sc2 bs2 (frst (L.take (i + 1)))]) (i2 : EntC own' D2) (i3 : EntC own' X2) => sp_tclock (own := own') hM2 hjn (i1 := i1) (i2 := i2) (i3 := i3)
        obtain ⟨wa0, wc0, wl0, hwx, hwr, hwl⟩ := hW.row j hjn
        rw [if_neg (Nat.lt_irrefl j)] at hwl
        have hWl := hW.len.symm
        have hsl : (seenR (L.take (i + 1)) n j).length = n := rowG_len
        have hrc := fun (own' : Own) (i1 : EntC own' D) => hclk own' i1 j hjn hw2
        repeat' ((try (conv => whnf)); first | (refine when_ye ?_ ?_; exact rfl) | (refine when_ne ?_ ?_; exact rfl) | (refine br_te ?_ ?_; exact rfl) | (refine br_fe ?_ ?_; exact rfl) | (apply br_pyE; (exact rfl); omega) | (apply br_pnE; (exact rfl); omega) | (apply when_pyE; (exact rfl); omega) | (apply when_pnE; (exact rfl); omega) | (apply br_npyE; (exact rfl); omega) | (apply br_npnE; (exact rfl); omega) | (apply when_npyE; (exact rfl); omega) | (apply when_npnE; (exact rfl); omega) | (refine br_pyE ?_ hjn' ?_; exact rfl) | (refine br_pnE ?_ hjn' ?_; exact rfl) | (refine when_pyE ?_ hjn' ?_; exact rfl) | (refine when_pnE ?_ hjn' ?_; exact rfl) | (refine br_npyE ?_ hjn' ?_; exact rfl) | (refine br_npnE ?_ hjn' ?_; exact rfl) | (refine when_npyE ?_ hjn' ?_; exact rfl) | (refine when_npnE ?_ hjn' ?_; exact rfl) | ((with_reducible show CallT _ _ _ _ _ _); first | ((refine call_x (hck _ inferInstance inferInstance inferInstance) ?_ ?_ (fun s v hv => ?_); (exact rfl); (exact rfl); (obtain ⟨a1, c1, D1⟩ := s; obtain ⟨rfl, hB1⟩ := hv; dsimp only at hB1); (apply Stop.h)))) | (refine ari ?_ ?_; omega) | (refine aru ?_ ?_; omega) | (apply sel; exact rfl) | (refine ix0 rfl ?_) | (refine ix1 rfl ?_) | (refine ix2 rfl ?_) | (refine ix3 rfl ?_) | (apply ixj; omega) | (refine ixn ?_ ?_; omega) | (refine ixs0 rfl ?_) | (refine ixs1 rfl ?_) | (refine ixs_j ?_ ?_; omega) | (refine ixs_n ?_ ?_; omega) | (apply ld_o; exact rfl) | (apply ldN_a; exact rfl) | (apply ldN_o; (exact rfl); exact rfl) | (apply st_o; (exact rfl); exact rfl) | (apply stN_o; (exact rfl); (exact rfl); exact rfl) | (refine new_i (fun bk hbk => ?_)) | (apply when_dE; (exact rfl); (exact rfl); all_goals intro hc) | (apply when_dF; (exact rfl); (exact rfl); all_goals intro hc) | (apply when_nE; (exact rfl); (exact rfl); all_goals intro hc) | (apply when_nF; (exact rfl); (exact rfl); all_goals intro hc) | (apply br_dE; (exact rfl); all_goals intro hc) | (apply br_nE; (exact rfl); all_goals intro hc) | (refine mm_min ?_) | (refine mm_max ?_) | (refine rem_i ?_ ?_; omega) | (refine SelN.mk ?_) | (refine cut_n ?_) | (refine Both.mk ?_ ?_) | (exact True.intro))
        refine Stop.mk ?_
        dsimp only
        have hcle := clk_seen (t := (j : Int)) hw2
        rw [hcle] at hrc
        repeat' ((try (conv => whnf)); first | (refine when_ye ?_ ?_; exact rfl) | (refine when_ne ?_ ?_; exact rfl) | (refine br_te ?_ ?_; exact rfl) | (refine br_fe ?_ ?_; exact rfl) | (apply br_pyE; (exact rfl); omega) | (apply br_pnE; (exact rfl); omega) | (apply when_pyE; (exact rfl); omega) | (apply when_pnE; (exact rfl); omega) | (apply br_npyE; (exact rfl); omega) | (apply br_npnE; (exact rfl); omega) | (apply when_npyE; (exact rfl); omega) | (apply when_npnE; (exact rfl); omega) | (refine sls_te (m := i + 1) (by omega) (by omega) ?_) | ((with_reducible show CallT _ _ _ _ _ _); first | ((refine call_x (hrc _ inferInstance) ?_ ?_ (fun rb v hv => ?_); (exact rfl); (exact rfl); (subst hv); (apply Stop.h)))) | (refine ari ?_ ?_; omega) | (refine aru ?_ ?_; omega) | (apply sel; exact rfl) | (refine ix0 rfl ?_) | (refine ix1 rfl ?_) | (refine ix2 rfl ?_) | (refine ix3 rfl ?_) | (apply ixj; omega) | (refine ixn ?_ ?_; omega) | (refine ixs0 rfl ?_) | (refine ixs1 rfl ?_) | (refine ixs_j ?_ ?_; omega) | (refine ixs_n ?_ ?_; omega) | (apply ld_o; exact rfl) | (apply ldN_a; exact rfl) | (apply ldN_o; (exact rfl); exact rfl) | (apply st_o; (exact rfl); exact rfl) | (apply stN_o; (exact rfl); (exact rfl); exact rfl) | (refine new_i (fun bk hbk => ?_)) | (apply when_dE; (exact rfl); (exact rfl); all_goals intro hc) | (apply when_dF; (exact rfl); (exact rfl); all_goals intro hc) | (apply when_nE; (exact rfl); (exact rfl); all_goals intro hc) | (apply when_nF; (exact rfl); (exact rfl); all_goals intro hc) | (apply br_dE; (exact rfl); all_goals intro hc) | (apply br_nE; (exact rfl); all_goals intro hc) | (refine mm_min ?_) | (refine mm_max ?_) | (refine rem_i ?_ ?_; omega) | (refine SelN.mk ?_) | (refine Both.mk ?_ ?_) | (exact True.intro))
        refine Stop.mk ?_
        have hin := fun (own' : Own) (i1 : EntC own' D1) (i2 : EntC own' [canE encI 3 rb (seenR (L.take (i + 1)) n j)]) => sp_kints (W0 := W0) (own := own') (c1 := c1) (c2 := n) (a := a1) (b := some ⟨rb, 0, none⟩) (L := seenR (L.take (i + 1)) n j) hB1.rd.up ((can_rd (T := 3) ne_wid).ent (i2.h W0)) (by omega)
        have hlq := fun (own' : Own) (i1 : EntC own' D1) (i2 : EntC own' Y) => sp_vleq (W0 := W0) (own := own') (ca := wc0) (cb := c1) (a := wa0) (b := a1) (A := wl0) (B := seenR (L.take (i + 1)) n j) hwr.up hB1.rd.up (hwl.elim (fun h => .inr (by rw [h]; rfl)) (fun h => .inl (by rw [h, hsl]; exact rowG_len))) (by omega) (fun t ht => by
          rw [hsl] at ht
          rcases hwl with h | h
          · rw [h]
            have : 0 ≤ gtC (seenR (L.take (i + 1)) n j) t := by unfold seenR; rw [gtC_at (rowG_get ht)]; omega
            exact this
          · rw [h]; exact hmono j t ht)
        rw [hsl] at hin hlq
        repeat' ((try (conv => whnf)); first | (refine when_ye ?_ ?_; exact rfl) | (refine when_ne ?_ ?_; exact rfl) | (refine br_te ?_ ?_; exact rfl) | (refine br_fe ?_ ?_; exact rfl) | (apply br_pyE; (exact rfl); omega) | (apply br_pnE; (exact rfl); omega) | (apply when_pyE; (exact rfl); omega) | (apply when_pnE; (exact rfl); omega) | (apply br_npyE; (exact rfl); omega) | (apply br_npnE; (exact rfl); omega) | (apply when_npyE; (exact rfl); omega) | (apply when_npnE; (exact rfl); omega) | (refine stC (T := 22) (k := 0) (a1, n, c1) sl_wid hwx ?_ ?_ ?_ ?_ ?_; (exact rfl); (omega); (exact rfl); (exact rfl)) | ((with_reducible show Ld _ _ _ _); first | (refine ldC0 sl_wid hwx rfl ?_) | (refine ldC1 sl_wid hwx rfl ?_) | (refine ldC sl_wid hwx rfl ?_)) | ((with_reducible show IxS _ _ _ _ _); first | ((refine ixC hwx hWl ?_ ?_; (first | rfl | omega)))) | ((with_reducible show LdN _ _ _ _ _); first | (refine ldNC sl_wid hwx rfl ?_)) | ((with_reducible show CallT _ _ _ _ _ _); first | ((refine call_pe (hin _ inferInstance inferInstance) ?_ ?_ ?_; (exact rfl); exact rfl)) | ((refine call_pe (hlq _ inferInstance inferInstance) ?_ ?_ ?_; (exact rfl); exact rfl))) | (refine ari ?_ ?_; omega) | (refine aru ?_ ?_; omega) | (apply sel; exact rfl) | (refine ix0 rfl ?_) | (refine ix1 rfl ?_) | (refine ix2 rfl ?_) | (refine ix3 rfl ?_) | (apply ixj; omega) | (refine ixn ?_ ?_; omega) | (refine ixs0 rfl ?_) | (refine ixs1 rfl ?_) | (refine ixs_j ?_ ?_; omega) | (refine ixs_n ?_ ?_; omega) | (apply ld_o; exact rfl) | (apply ldN_a; exact rfl) | (apply ldN_o; (exact rfl); exact rfl) | (apply st_o; (exact rfl); exact rfl) | (apply stN_o; (exact rfl); (exact rfl); exact rfl) | (refine new_i (fun bk hbk => ?_)) | (apply when_dE; (exact rfl); (exact rfl); all_goals intro hc) | (apply when_dF; (exact rfl); (exact rfl); all_goals intro hc) | (apply when_nE; (exact rfl); (exact rfl); all_goals intro hc) | (apply when_nF; (exact rfl); (exact rfl); all_goals intro hc) | (apply br_dE; (exact rfl); all_goals intro hc) | (apply br_nE; (exact rfl); all_goals intro hc) | (refine mm_min ?_) | (refine mm_max ?_) | (refine rem_i ?_ ?_; omega) | (refine SelN.mk ?_) | (refine cut_n ?_) | (refine Both.mk ?_ ?_) | (exact True.intro))
        refine ⟨(j + 1, W.set j (a1, n, c1), D1 ++ Y), ⟨hjn, hW.set hjn (by rw [if_pos (Nat.lt_succ_self j)]; exact hB1) fun u hu => ?_⟩, by show n - (j + 1) < n - j; omega, ⟨vi (by show (j : Int) + 1 = ((j + 1 : Nat) : Int); omega), trivial⟩, ent_was (e2 := canE encSl 22 wb (W.set j (a1, n, c1))) (D1 := D1) (O := CkB.O (⟨s.cb, eb2, sb2, sc2, bb2, bs2, S2, B2, D2, X2⟩ : CkB) (L.take (i + 1)) n) (Y := Y) (R := X ++ (D ++ own))⟩
        by_cases huj : u < j
        · rw [if_pos huj, if_pos (by omega)]
        · rw [if_neg huj, if_neg (by omega)]
      · have hjn' : ¬ (j : Int) < n := by omega
        have hje : j = n := by omega
        subst hje
        repeat' ((try (conv => whnf)); first | (refine when_ye ?_ ?_; exact rfl) | (refine when_ne ?_ ?_; exact rfl) | (refine br_te ?_ ?_; exact rfl) | (refine br_fe ?_ ?_; exact rfl) | (apply br_pyE; (exact rfl); omega) | (apply br_pnE; (exact rfl); omega) | (apply when_pyE; (exact rfl); omega) | (apply when_pnE; (exact rfl); omega) | (apply br_npyE; (exact rfl); omega) | (apply br_npnE; (exact rfl); omega) | (apply when_npyE; (exact rfl); omega) | (apply when_npnE; (exact rfl); omega) | (refine br_pyE ?_ hjn' ?_; exact rfl) | (refine br_pnE ?_ hjn' ?_; exact rfl) | (refine when_pyE ?_ hjn' ?_; exact rfl) | (refine when_pnE ?_ hjn' ?_; exact rfl) | (refine br_npyE ?_ hjn' ?_; exact rfl) | (refine br_npnE ?_ hjn' ?_; exact rfl) | (refine when_npyE ?_ hjn' ?_; exact rfl) | (refine when_npnE ?_ hjn' ?_; exact rfl) | (refine ari ?_ ?_; omega) | (refine aru ?_ ?_; omega) | (apply sel; exact rfl) | (refine ix0 rfl ?_) | (refine ix1 rfl ?_) | (refine ix2 rfl ?_) | (refine ix3 rfl ?_) | (apply ixj; omega) | (refine ixn ?_ ?_; omega) | (refine ixs0 rfl ?_) | (refine ixs1 rfl ?_) | (refine ixs_j ?_ ?_; omega) | (refine ixs_n ?_ ?_; omega) | (apply ld_o; exact rfl) | (apply ldN_a; exact rfl) | (apply ldN_o; (exact rfl); exact rfl) | (apply st_o; (exact rfl); exact rfl) | (apply stN_o; (exact rfl); (exact rfl); exact rfl) | (refine new_i (fun bk hbk => ?_)) | (apply when_dE; (exact rfl); (exact rfl); all_goals intro hc) | (apply when_dF; (exact rfl); (exact rfl); all_goals intro hc) | (apply when_nE; (exact rfl); (exact rfl); all_goals intro hc) | (apply when_nF; (exact rfl); (exact rfl); all_goals intro hc) | (apply br_dE; (exact rfl); all_goals intro hc) | (apply br_nE; (exact rfl); all_goals intro hc) | (refine mm_min ?_) | (refine mm_max ?_) | (refine rem_i ?_ ?_; omega) | (refine SelN.mk ?_) | (refine cut_n ?_) | (refine Both.mk ?_ ?_) | (exact True.intro))
        refine ⟨(i + 1, (⟨s.cb, eb2, sb2, sc2, bb2, bs2, S2, B2, D2, X2⟩ : CkB), W, Y), ⟨hlt, rfl, hM2, ⟨hW.len, fun u hu => ?_⟩⟩, by show L.length - (i + 1) < L.length - i; omega, ⟨vi (by show (i : Int) + 1 = ((i + 1 : Nat) : Int); omega), trivial⟩, Ent.refl⟩
        have := hW.row u hu
        rw [if_pos hu] at this
        exact this
    · have hlt' : ¬ (i : Int) < L.length := by omega
      have hc := fun (own' : Own) (t : Int) (ht : t < 0 ∨ n ≤ t) (i1 : EntC own' [ckN (L.take i).length (paAt (L.take i) (L.take i).length) s.cb eb' sb' bb' n sc' bs' (frst (L.take i))]) => sp_tclock_no (W0 := W0) (own := own') (i1 := i1) ht
      repeat' ((try (conv => whnf)); first | (refine when_ye ?_ ?_; exact rfl) | (refine when_ne ?_ ?_; exact rfl) | (refine br_te ?_ ?_; exact rfl) | (refine br_fe ?_ ?_; exact rfl) | (apply br_pyE; (exact rfl); omega) | (apply br_pnE; (exact rfl); omega) | (apply when_pyE; (exact rfl); omega) | (apply when_pnE; (exact rfl); omega) | (apply br_npyE; (exact rfl); omega) | (apply br_npnE; (exact rfl); omega) | (apply when_npyE; (exact rfl); omega) | (apply when_npnE; (exact rfl); omega) | (refine br_pyE ?_ hlt' ?_; exact rfl) | (refine br_pnE ?_ hlt' ?_; exact rfl) | (refine when_pyE ?_ hlt' ?_; exact rfl) | (refine when_pnE ?_ hlt' ?_; exact rfl) | (refine br_npyE ?_ hlt' ?_; exact rfl) | (refine br_npnE ?_ hlt' ?_; exact rfl) | (refine when_npyE ?_ hlt' ?_; exact rfl) | (refine when_npnE ?_ hlt' ?_; exact rfl) | ((with_reducible show CallT _ _ _ _ _ _); first | ((refine call_pe (hc _ (-1) (by omega) inferInstance) ?_ ?_ ?_; (exact rfl); exact rfl)) | ((refine call_pe (hc _ n (by omega) inferInstance) ?_ ?_ ?_; (exact rfl); exact rfl)) | ((refine call_pe (h3 _) ?_ ?_ ?_; (exact rfl); exact rfl))) | (refine ari ?_ ?_; omega) | (refine aru ?_ ?_; omega) | (apply sel; exact rfl) | (refine ix0 rfl ?_) | (refine ix1 rfl ?_) | (refine ix2 rfl ?_) | (refine ix3 rfl ?_) | (apply ixj; omega) | (refine ixn ?_ ?_; omega) | (refine ixs0 rfl ?_) | (refine ixs1 rfl ?_) | (refine ixs_j ?_ ?_; omega) | (refine ixs_n ?_ ?_; omega) | (apply ld_o; exact rfl) | (apply ldN_a; exact rfl) | (apply ldN_o; (exact rfl); exact rfl) | (apply st_o; (exact rfl); exact rfl) | (apply stN_o; (exact rfl); (exact rfl); exact rfl) | (refine new_i (fun bk hbk => ?_)) | (apply when_dE; (exact rfl); (exact rfl); all_goals intro hc) | (apply when_dF; (exact rfl); (exact rfl); all_goals intro hc) | (apply when_nE; (exact rfl); (exact rfl); all_goals intro hc) | (apply when_nF; (exact rfl); (exact rfl); all_goals intro hc) | (apply br_dE; (exact rfl); all_goals intro hc) | (apply br_nE; (exact rfl); all_goals intro hc) | (refine mm_min ?_) | (refine mm_max ?_) | (refine rem_i ?_ ?_; omega) | (refine SelN.mk ?_) | (refine cut_n ?_) | (refine Both.mk ?_ ?_) | (exact True.intro))
      exact ⟨rfl, (by first | exact ent_i | (repeat (first | exact Ent.refl | exact Ent.left | refine Ent.cons ?_ | refine Ent.app ?_)))⟩
end
end Go.Proofs.YtofjnldidkiihaaDoor
namespace Go.Proofs.YtofjnldidkiihaaDoor
open Go
set_option maxRecDepth 10000
set_option maxHeartbeats 8000000
/-- What of an event the order looks at. -/
def EH.core (e : EH) : Int × Int × Int × Int × List Int × List Int := (e.ev, e.t, e.k, e.w, e.rl, e.wl)
theorem fits_core {n : Nat} {fs : Bool} {pa last : Int} {e e' : EH} (h : e.core = e'.core) : fitsM n fs pa last e = fitsM n fs pa last e' := by
  obtain ⟨ev, t, k, w, ra, rl, rc, wa, wl, wc⟩ := e
  obtain ⟨ev', t', k', w', ra', rl', rc', wa', wl', wc'⟩ := e'
  simp only [EH.core, Prod.mk.injEq] at h
  obtain ⟨rfl, rfl, rfl, rfl, rfl, rfl⟩ := h
  rfl
theorem chkG_core {n : Nat} : ∀ (l l' : List EH) (i : Nat) (pa : Int) (last : List Int), l.map EH.core = l'.map EH.core → chkG n l i pa last = chkG n l' i pa last
  | [], [], _, _, _, _ => rfl
  | [], _ :: _, _, _, _, h => by cases h
  | _ :: _, [], _, _, _, h => by cases h
  | e :: l, e' :: l', i, pa, last, h => by
    simp only [List.map_cons, List.cons.injEq] at h
    obtain ⟨h1, h2⟩ := h
    unfold chkG
    rw [fits_core h1]
    have he := h1
    simp only [EH.core, Prod.mk.injEq] at he
    rw [he.1, he.2.1, he.2.2.1, chkG_core l l' _ _ _ h2]
theorem chkE_core {n : Int} {l l' : List EH} (h : l.map EH.core = l'.map EH.core) : chkE l n = chkE l' n := by
  have hl : l.length = l'.length := by simpa using congrArg List.length h
  unfold chkE
  rw [hl, chkG_core l l' _ _ _ h]
section
variable {W0 : World} {own : Own} {a : Option Addr} {cap : Nat}
theorem sp_twinints {l : List Int} (hR : RdE encI 1 W0 own a l) (hl : l.length ≤ 17592186043904) :
    Spec Tryd.prog W0 42 [.slice a l.length cap] own fun v own' => ∃ s : Option Addr × Nat × Own, (v = .slice s.1 l.length s.2.1 ∧ BufE encI 3 1 s.1 s.2.1 l s.2.2) ∧ Ent W0 own' (s.2.2 ++ own) := by
  refine spec_of mixed low_kit_TwinInts (by simp [ir_kit_TwinInts]) ?_
  repeat' ((try (conv => whnf)); first | (refine when_ye ?_ ?_; exact rfl) | (refine when_ne ?_ ?_; exact rfl) | (refine br_te ?_ ?_; exact rfl) | (refine br_fe ?_ ?_; exact rfl) | (apply br_pyE; (exact rfl); omega) | (apply br_pnE; (exact rfl); omega) | (apply when_pyE; (exact rfl); omega) | (apply when_pnE; (exact rfl); omega) | (apply br_npyE; (exact rfl); omega) | (apply br_npnE; (exact rfl); omega) | (apply when_npyE; (exact rfl); omega) | (apply when_npnE; (exact rfl); omega) | (refine ari ?_ ?_; omega) | (refine aru ?_ ?_; omega) | (apply sel; exact rfl) | (refine ix0 rfl ?_) | (refine ix1 rfl ?_) | (refine ix2 rfl ?_) | (refine ix3 rfl ?_) | (apply ixj; omega) | (refine ixn ?_ ?_; omega) | (refine ixs0 rfl ?_) | (refine ixs1 rfl ?_) | (refine ixs_j ?_ ?_; omega) | (refine ixs_n ?_ ?_; omega) | (apply ld_o; exact rfl) | (apply ldN_a; exact rfl) | (apply ldN_o; (exact rfl); exact rfl) | (apply st_o; (exact rfl); exact rfl) | (apply stN_o; (exact rfl); (exact rfl); exact rfl) | (refine new_i (fun bk hbk => ?_)) | (apply when_dE; (exact rfl); (exact rfl); all_goals intro hc) | (apply when_dF; (exact rfl); (exact rfl); all_goals intro hc) | (apply when_nE; (exact rfl); (exact rfl); all_goals intro hc) | (apply when_nF; (exact rfl); (exact rfl); all_goals intro hc) | (apply br_dE; (exact rfl); all_goals intro hc) | (apply br_nE; (exact rfl); all_goals intro hc) | (refine mm_min ?_) | (refine mm_max ?_) | (refine rem_i ?_ ?_; omega) | (refine SelN.mk ?_) | (refine cut_n ?_) | (refine Both.mk ?_ ?_) | (exact True.intro))
  refine loop_i (σ := Nat × Option Addr × Nat × List Int × Own) (fun s => match s with | (i, a1, c1, F, _) => [(3, .slice a1 F.length c1), (4, .int .i64 i)]) (fun s => match s with | (_, _, _, _, D1) => D1 ++ own)
    (fun s => match s with | (i, a1, c1, F, D1) => i ≤ l.length ∧ F = l.take i ∧ BufE encI 3 1 a1 c1 F D1) (fun s => match s with | (i, _, _, _, _) => l.length - i) (0, none, 0, [], []) ⟨Nat.zero_le _, rfl, BufE.nil⟩ (by repeat' (first | exact True.intro | refine And.intro ?_ ?_ | exact rfl | exact vi (by omega) | (dsimp only; exact rfl) | (dsimp only; exact vi (by omega)))) Ent.refl rfl ?_
  rintro ⟨i, a1, c1, F, D1⟩ junk ⟨hi, hF, hB1⟩
  dsimp only
  have hFl : F.length = i := by rw [hF, List.length_take]; omega
  by_cases hlt : i < l.length
  · obtain ⟨x, hx⟩ : ∃ x, l[i]? = some x := ⟨_, List.getElem?_eq_getElem hlt⟩
    have hlt' : (i : Int) < l.length := by omega
    have htk : l.take (i + 1) = F ++ [x] := by rw [List.take_add_one, hx, hF]; rfl
    have hln : (l.take (i + 1)).length = F.length + 1 := by rw [htk]; simp
    repeat' ((try (conv => whnf)); first | (refine when_ye ?_ ?_; exact rfl) | (refine when_ne ?_ ?_; exact rfl) | (refine br_te ?_ ?_; exact rfl) | (refine br_fe ?_ ?_; exact rfl) | (apply br_pyE; (exact rfl); omega) | (apply br_pnE; (exact rfl); omega) | (apply when_pyE; (exact rfl); omega) | (apply when_pnE; (exact rfl); omega) | (apply br_npyE; (exact rfl); omega) | (apply br_npnE; (exact rfl); omega) | (apply when_npyE; (exact rfl); omega) | (apply when_npnE; (exact rfl); omega) | (refine br_pyE ?_ hlt' ?_; exact rfl) | (refine br_pnE ?_ hlt' ?_; exact rfl) | (refine when_pyE ?_ hlt' ?_; exact rfl) | (refine when_pnE ?_ hlt' ?_; exact rfl) | (refine br_npyE ?_ hlt' ?_; exact rfl) | (refine br_npnE ?_ hlt' ?_; exact rfl) | (refine when_npyE ?_ hlt' ?_; exact rfl) | (refine when_npnE ?_ hlt' ?_; exact rfl) | (apply app_i (enc := encI) (T2 := 3) x hB1; (exact rfl); (exact rfl); (omega); (exact rfl); (exact rfl); (omega); intro a2 c2 D2 hB2) | ((with_reducible show Ld _ _ _ _); first | (refine ldE0 hR hx rfl ?_) | (refine ldEk hR hx rfl ?_) | (refine ldE1 hR hx rfl ?_)) | ((with_reducible show IxS _ _ _ _ _); first | ((refine ixE hR hx ?_ ?_; (first | rfl | omega)))) | ((with_reducible show LdN _ _ _ _ _); first | (refine ldNEi hR hx rfl ?_)) | (refine ari ?_ ?_; omega) | (refine aru ?_ ?_; omega) | (apply sel; exact rfl) | (refine ix0 rfl ?_) | (refine ix1 rfl ?_) | (refine ix2 rfl ?_) | (refine ix3 rfl ?_) | (apply ixj; omega) | (refine ixn ?_ ?_; omega) | (refine ixs0 rfl ?_) | (refine ixs1 rfl ?_) | (refine ixs_j ?_ ?_; omega) | (refine ixs_n ?_ ?_; omega) | (apply ld_o; exact rfl) | (apply ldN_a; exact rfl) | (apply ldN_o; (exact rfl); exact rfl) | (apply st_o; (exact rfl); exact rfl) | (apply stN_o; (exact rfl); (exact rfl); exact rfl) | (refine new_i (fun bk hbk => ?_)) | (apply when_dE; (exact rfl); (exact rfl); all_goals intro hc) | (apply when_dF; (exact rfl); (exact rfl); all_goals intro hc) | (apply when_nE; (exact rfl); (exact rfl); all_goals intro hc) | (apply when_nF; (exact rfl); (exact rfl); all_goals intro hc) | (apply br_dE; (exact rfl); all_goals intro hc) | (apply br_nE; (exact rfl); all_goals intro hc) | (refine mm_min ?_) | (refine mm_max ?_) | (refine rem_i ?_ ?_; omega) | (refine SelN.mk ?_) | (refine cut_n ?_) | (refine Both.mk ?_ ?_) | (exact True.intro))
    rw [← htk] at hB2
    exact ⟨(i + 1, a2, c2, l.take (i + 1), D2), ⟨hlt, rfl, hB2⟩, by show l.length - (i + 1) < l.length - i; omega, ⟨by show Value.slice a2 (F.length + 1) c2 = .slice a2 (l.take (i + 1)).length c2; rw [hln], vi (by show (i : Int) + 1 = ((i + 1 : Nat) : Int); omega), trivial⟩, (by first | exact ent_i | (repeat (first | exact Ent.refl | exact Ent.left | refine Ent.cons ?_ | refine Ent.app ?_)))⟩
  · have hlt' : ¬ (i : Int) < l.length := by omega
    have hie : i = l.length := by omega
    rw [hie, List.take_length] at hF
    subst hF
    repeat' ((try (conv => whnf)); first | (refine when_ye ?_ ?_; exact rfl) | (refine when_ne ?_ ?_; exact rfl) | (refine br_te ?_ ?_; exact rfl) | (refine br_fe ?_ ?_; exact rfl) | (apply br_pyE; (exact rfl); omega) | (apply br_pnE; (exact rfl); omega) | (apply when_pyE; (exact rfl); omega) | (apply when_pnE; (exact rfl); omega) | (apply br_npyE; (exact rfl); omega) | (apply br_npnE; (exact rfl); omega) | (apply when_npyE; (exact rfl); omega) | (apply when_npnE; (exact rfl); omega) | (refine br_pyE ?_ hlt' ?_; exact rfl) | (refine br_pnE ?_ hlt' ?_; exact rfl) | (refine when_pyE ?_ hlt' ?_; exact rfl) | (refine when_pnE ?_ hlt' ?_; exact rfl) | (refine br_npyE ?_ hlt' ?_; exact rfl) | (refine br_npnE ?_ hlt' ?_; exact rfl) | (refine when_npyE ?_ hlt' ?_; exact rfl) | (refine when_npnE ?_ hlt' ?_; exact rfl) | (refine ari ?_ ?_; omega) | (refine aru ?_ ?_; omega) | (apply sel; exact rfl) | (refine ix0 rfl ?_) | (refine ix1 rfl ?_) | (refine ix2 rfl ?_) | (refine ix3 rfl ?_) | (apply ixj; omega) | (refine ixn ?_ ?_; omega) | (refine ixs0 rfl ?_) | (refine ixs1 rfl ?_) | (refine ixs_j ?_ ?_; omega) | (refine ixs_n ?_ ?_; omega) | (apply ld_o; exact rfl) | (apply ldN_a; exact rfl) | (apply ldN_o; (exact rfl); exact rfl) | (apply st_o; (exact rfl); exact rfl) | (apply stN_o; (exact rfl); (exact rfl); exact rfl) | (refine new_i (fun bk hbk => ?_)) | (apply when_dE; (exact rfl); (exact rfl); all_goals intro hc) | (apply when_dF; (exact rfl); (exact rfl); all_goals intro hc) | (apply when_nE; (exact rfl); (exact rfl); all_goals intro hc) | (apply when_nF; (exact rfl); (exact rfl); all_goals intro hc) | (apply br_dE; (exact rfl); all_goals intro hc) | (apply br_nE; (exact rfl); all_goals intro hc) | (refine mm_min ?_) | (refine mm_max ?_) | (refine rem_i ?_ ?_; omega) | (refine SelN.mk ?_) | (refine cut_n ?_) | (refine Both.mk ?_ ?_) | (exact True.intro))
    exact ⟨(a1, c1, D1), ⟨rfl, hB1⟩, Ent.refl⟩
theorem ent_tw {D D1 D2 X : Own} {e1 e2 : Nat × (Obj → Prop)} : Ent W0 (e1 :: (D2 ++ (D1 ++ (e2 :: (D ++ (X ++ own)))))) (D ++ ((D2 ++ (D1 ++ X)) ++ own)) := by
  refine Ent.drop.trans ?_
  have h1 : ∀ (A P Q : Own), (A ++ (P ++ Q)).Perm (P ++ (A ++ Q)) := fun A P Q => by
    rw [← List.append_assoc, ← List.append_assoc]
    exact List.perm_append_comm.append_right Q
  refine (Ent.of_sub ((((List.sublist_cons_self e2 _).append_left D1).append_left D2))).trans (Ent.of_perm ?_)
  have h2 := (List.Perm.append_left D2 (h1 D1 D (X ++ own))).trans (h1 D2 D _)
  simpa using h2
theorem sp_twinev {l : List EH} (hR : RdE EH.enc 6 W0 own a l) (hE : ∀ e ∈ l, EvR W0 own e) (hl : l.length ≤ 65536) :
    Spec Tryd.prog W0 25 [.slice a l.length cap] own fun v own' => ∃ s : Option Addr × Nat × List EH × Own × Own, (v = .slice s.1 s.2.2.1.length s.2.1 ∧ s.2.2.1.map EH.core = l.map EH.core ∧ BufE EH.enc 42 6 s.1 s.2.1 s.2.2.1 s.2.2.2.1 ∧ ∀ e ∈ s.2.2.1, EvR W0 s.2.2.2.2 e) ∧ Ent W0 own' (s.2.2.2.1 ++ (s.2.2.2.2 ++ own)) := by
  refine spec_of mixed low_kit_TwinEvents (by simp [ir_kit_TwinEvents]) ?_
  repeat' ((try (conv => whnf)); first | (refine when_ye ?_ ?_; exact rfl) | (refine when_ne ?_ ?_; exact rfl) | (refine br_te ?_ ?_; exact rfl) | (refine br_fe ?_ ?_; exact rfl) | (apply br_pyE; (exact rfl); omega) | (apply br_pnE; (exact rfl); omega) | (apply when_pyE; (exact rfl); omega) | (apply when_pnE; (exact rfl); omega) | (apply br_npyE; (exact rfl); omega) | (apply br_npnE; (exact rfl); omega) | (apply when_npyE; (exact rfl); omega) | (apply when_npnE; (exact rfl); omega) | (refine ari ?_ ?_; omega) | (refine aru ?_ ?_; omega) | (apply sel; exact rfl) | (refine ix0 rfl ?_) | (refine ix1 rfl ?_) | (refine ix2 rfl ?_) | (refine ix3 rfl ?_) | (apply ixj; omega) | (refine ixn ?_ ?_; omega) | (refine ixs0 rfl ?_) | (refine ixs1 rfl ?_) | (refine ixs_j ?_ ?_; omega) | (refine ixs_n ?_ ?_; omega) | (apply ld_o; exact rfl) | (apply ldN_a; exact rfl) | (apply ldN_o; (exact rfl); exact rfl) | (apply st_o; (exact rfl); exact rfl) | (apply stN_o; (exact rfl); (exact rfl); exact rfl) | (refine new_i (fun bk hbk => ?_)) | (apply when_dE; (exact rfl); (exact rfl); all_goals intro hc) | (apply when_dF; (exact rfl); (exact rfl); all_goals intro hc) | (apply when_nE; (exact rfl); (exact rfl); all_goals intro hc) | (apply when_nF; (exact rfl); (exact rfl); all_goals intro hc) | (apply br_dE; (exact rfl); all_goals intro hc) | (apply br_nE; (exact rfl); all_goals intro hc) | (refine mm_min ?_) | (refine mm_max ?_) | (refine rem_i ?_ ?_; omega) | (refine SelN.mk ?_) | (refine cut_n ?_) | (refine Both.mk ?_ ?_) | (exact True.intro))
  refine loop_i (σ := Nat × Option Addr × Nat × List EH × Own × Own) (fun s => match s with | (i, a1, c1, F, _, _) => [(3, .slice a1 F.length c1), (4, .int .i64 i)]) (fun s => match s with | (_, _, _, _, D, X) => D ++ (X ++ own))
    (fun s => match s with | (i, a1, c1, F, D, X) => i ≤ l.length ∧ F.map EH.core = (l.take i).map EH.core ∧ BufE EH.enc 42 6 a1 c1 F D ∧ ∀ e ∈ F, EvR W0 X e) (fun s => match s with | (i, _, _, _, _, _) => l.length - i) (0, none, 0, [], [], []) ⟨Nat.zero_le _, rfl, BufE.nil, fun e h => by cases h⟩ (by repeat' (first | exact True.intro | refine And.intro ?_ ?_ | exact rfl | exact vi (by omega) | (dsimp only; exact rfl) | (dsimp only; exact vi (by omega)))) Ent.refl rfl ?_
  rintro ⟨i, a1, c1, F, D, X⟩ junk ⟨hi, hF, hB1, hEF⟩
  dsimp only
  have hFl : F.length = i := by
    have := congrArg List.length hF
    rw [List.length_map, List.length_map, List.length_take] at this
    omega
  by_cases hlt : i < l.length
  · obtain ⟨x, hx⟩ : ∃ x, l[i]? = some x := ⟨_, List.getElem?_eq_getElem hlt⟩
    have hlt' : (i : Int) < l.length := by omega
    have hEx := hE x (List.mem_of_getElem? hx)
    have hti := fun (own' : Own) (_ : EntC own' own) => sp_twinints (W0 := W0) (own := own') (cap := x.rc) hEx.r.up hEx.rb
    have htw := fun (own' : Own) (_ : EntC own' own) => sp_twinints (W0 := W0) (own := own') (cap := x.wc) hEx.w.up hEx.wb
    have hrb := hEx.rb
    have hwb := hEx.wb
    have hcore : ∀ (a2 : Option Addr) (c2 : Nat) (a3 : Option Addr) (c3 : Nat), (F ++ [(⟨x.ev, x.t, x.k, x.w, a2, x.rl, c2, a3, x.wl, c3⟩ : EH)]).map EH.core = (l.take (i + 1)).map EH.core := fun a2 c2 a3 c3 => by
      rw [List.take_add_one, hx, List.map_append, List.map_append, hF]
      rfl
    obtain ⟨ev, tt, k, wd, ra, rl, rc, wa, wl, wc⟩ := x
    dsimp only at hti htw hcore hrb hwb
    clear hEx
    repeat' ((try (conv => whnf)); first | (refine when_ye ?_ ?_; exact rfl) | (refine when_ne ?_ ?_; exact rfl) | (refine br_te ?_ ?_; exact rfl) | (refine br_fe ?_ ?_; exact rfl) | (apply br_pyE; (exact rfl); omega) | (apply br_pnE; (exact rfl); omega) | (apply when_pyE; (exact rfl); omega) | (apply when_pnE; (exact rfl); omega) | (apply br_npyE; (exact rfl); omega) | (apply br_npnE; (exact rfl); omega) | (apply when_npyE; (exact rfl); omega) | (apply when_npnE; (exact rfl); omega) | (refine br_pyE ?_ hlt' ?_; exact rfl) | (refine br_pnE ?_ hlt' ?_; exact rfl) | (refine when_pyE ?_ hlt' ?_; exact rfl) | (refine when_pnE ?_ hlt' ?_; exact rfl) | (refine br_npyE ?_ hlt' ?_; exact rfl) | (refine br_npnE ?_ hlt' ?_; exact rfl) | (refine when_npyE ?_ hlt' ?_; exact rfl) | (refine when_npnE ?_ hlt' ?_; exact rfl) | (apply app_i (enc := EH.enc) (T2 := 42) ⟨ev, tt, k, wd, a2, rl, c2, a3, wl, c3⟩ hB1; (exact rfl); (exact rfl); (omega); (exact rfl); (exact rfl); (omega); intro a4 c4 D4 hB4) | ((with_reducible show Ld _ _ _ _); first | (refine ldE0 hR hx rfl ?_) | (refine ldEk hR hx rfl ?_) | (refine ldE1 hR hx rfl ?_)) | ((with_reducible show IxS _ _ _ _ _); first | ((refine ixE hR hx ?_ ?_; (first | rfl | omega)))) | ((with_reducible show LdN _ _ _ _ _); first | (refine ldNEi hR hx rfl ?_)) | ((with_reducible show CallT _ _ _ _ _ _); first | ((refine call_x (hti _ inferInstance) ?_ ?_ (fun s v hv => ?_); (exact rfl); (exact rfl); (obtain ⟨a2, c2, D2⟩ := s; obtain ⟨rfl, hb2⟩ := hv; dsimp only at hb2))) | ((refine call_x (htw _ inferInstance) ?_ ?_ (fun s v hv => ?_); (exact rfl); (exact rfl); (obtain ⟨a3, c3, D3⟩ := s; obtain ⟨rfl, hb3⟩ := hv; dsimp only at hb3)))) | (refine ari ?_ ?_; omega) | (refine aru ?_ ?_; omega) | (apply sel; exact rfl) | (refine ix0 rfl ?_) | (refine ix1 rfl ?_) | (refine ix2 rfl ?_) | (refine ix3 rfl ?_) | (apply ixj; omega) | (refine ixn ?_ ?_; omega) | (refine ixs0 rfl ?_) | (refine ixs1 rfl ?_) | (refine ixs_j ?_ ?_; omega) | (refine ixs_n ?_ ?_; omega) | (apply ld_o; exact rfl) | (apply ldN_a; exact rfl) | (apply ldN_o; (exact rfl); exact rfl) | (apply st_o; (exact rfl); exact rfl) | (apply stN_o; (exact rfl); (exact rfl); exact rfl) | (refine new_i (fun bk hbk => ?_)) | (apply when_dE; (exact rfl); (exact rfl); all_goals intro hc) | (apply when_dF; (exact rfl); (exact rfl); all_goals intro hc) | (apply when_nE; (exact rfl); (exact rfl); all_goals intro hc) | (apply when_nF; (exact rfl); (exact rfl); all_goals intro hc) | (apply br_dE; (exact rfl); all_goals intro hc) | (apply br_nE; (exact rfl); all_goals intro hc) | (refine mm_min ?_) | (refine mm_max ?_) | (refine rem_i ?_ ?_; omega) | (refine SelN.mk ?_) | (refine cut_n ?_) | (refine Both.mk ?_ ?_) | (exact True.intro))
    all_goals
      have hln : (F ++ [(⟨ev, tt, k, wd, a2, rl, c2, a3, wl, c3⟩ : EH)]).length = F.length + 1 := by simp
      refine ⟨(i + 1, a4, c4, F ++ [⟨ev, tt, k, wd, a2, rl, c2, a3, wl, c3⟩], D4, D3 ++ (D2 ++ X)), ⟨hlt, hcore a2 c2 a3 c3, hB4, fun e he => ?_⟩, by show l.length - (i + 1) < l.length - i; omega, ⟨by show Value.slice a4 (F.length + 1) c4 = .slice a4 (F ++ [(⟨ev, tt, k, wd, a2, rl, c2, a3, wl, c3⟩ : EH)]).length c4; rw [hln], vi (by show (i : Int) + 1 = ((i + 1 : Nat) : Int); omega), trivial⟩, ent_tw (D := D4) (D1 := D2) (D2 := D3) (X := X)⟩
      rcases List.mem_append.1 he with he | he
      · exact (hEF e he).up
      · rw [List.mem_singleton.1 he]
        exact ⟨hb2.rd.up, hb3.rd.up, hrb, hwb⟩
  · have hlt' : ¬ (i : Int) < l.length := by omega
    have hie : i = l.length := by omega
    rw [hie, List.take_length] at hF
    repeat' ((try (conv => whnf)); first | (refine when_ye ?_ ?_; exact rfl) | (refine when_ne ?_ ?_; exact rfl) | (refine br_te ?_ ?_; exact rfl) | (refine br_fe ?_ ?_; exact rfl) | (apply br_pyE; (exact rfl); omega) | (apply br_pnE; (exact rfl); omega) | (apply when_pyE; (exact rfl); omega) | (apply when_pnE; (exact rfl); omega) | (apply br_npyE; (exact rfl); omega) | (apply br_npnE; (exact rfl); omega) | (apply when_npyE; (exact rfl); omega) | (apply when_npnE; (exact rfl); omega) | (refine br_pyE ?_ hlt' ?_; exact rfl) | (refine br_pnE ?_ hlt' ?_; exact rfl) | (refine when_pyE ?_ hlt' ?_; exact rfl) | (refine when_pnE ?_ hlt' ?_; exact rfl) | (refine br_npyE ?_ hlt' ?_; exact rfl) | (refine br_npnE ?_ hlt' ?_; exact rfl) | (refine when_npyE ?_ hlt' ?_; exact rfl) | (refine when_npnE ?_ hlt' ?_; exact rfl) | (refine ari ?_ ?_; omega) | (refine aru ?_ ?_; omega) | (apply sel; exact rfl) | (refine ix0 rfl ?_) | (refine ix1 rfl ?_) | (refine ix2 rfl ?_) | (refine ix3 rfl ?_) | (apply ixj; omega) | (refine ixn ?_ ?_; omega) | (refine ixs0 rfl ?_) | (refine ixs1 rfl ?_) | (refine ixs_j ?_ ?_; omega) | (refine ixs_n ?_ ?_; omega) | (apply ld_o; exact rfl) | (apply ldN_a; exact rfl) | (apply ldN_o; (exact rfl); exact rfl) | (apply st_o; (exact rfl); exact rfl) | (apply stN_o; (exact rfl); (exact rfl); exact rfl) | (refine new_i (fun bk hbk => ?_)) | (apply when_dE; (exact rfl); (exact rfl); all_goals intro hc) | (apply when_dF; (exact rfl); (exact rfl); all_goals intro hc) | (apply when_nE; (exact rfl); (exact rfl); all_goals intro hc) | (apply when_nF; (exact rfl); (exact rfl); all_goals intro hc) | (apply br_dE; (exact rfl); all_goals intro hc) | (apply br_nE; (exact rfl); all_goals intro hc) | (refine mm_min ?_) | (refine mm_max ?_) | (refine rem_i ?_ ?_; omega) | (refine SelN.mk ?_) | (refine cut_n ?_) | (refine Both.mk ?_ ?_) | (exact True.intro))
    exact ⟨(a1, c1, F, D, X), ⟨rfl, hF, hB1, hEF⟩, Ent.refl⟩
end
end Go.Proofs.YtofjnldidkiihaaDoor
namespace Go.Proofs.YtofjnldidkiihaaDoor
open Go
set_option maxRecDepth 10000
set_option maxHeartbeats 16000000
section
variable {W0 : World} {own : Own} {a ao : Option Addr} {cap co : Nat}
theorem chk_snoc {L : List EH} {x : EH} {n : Nat} (hw : WF0 L n) (hl : L.length + 1 ≤ 65536) : (chkE (L ++ [x]) n).2 = if fitsM n (L.length == 0) (paAt L L.length) (lkL L x.t L.length) x = true then 0 else 91 := by
  split
  · rename_i h
    exact chk_ok.2 ⟨by omega, by rw [Int.toNat_natCast]; exact hw.snoc hl h⟩
  · rename_i h
    have hn1 := hw.1
    have hn2 := hw.2.1
    exact chk_bad hn1 hn2 (by simpa using hl) (k := L.length) (by simp) (by rw [okAt_end]; exact Bool.eq_false_iff.2 h)
theorem sp_TdrfOnline {l : List Int} {od : List EH} (hN : LaidAt W0 0 noneV) (hR : RdE encI 1 W0 own a l) (th : Int) (hO : RdE EH.enc 6 W0 own ao od) (hEo : ∀ e ∈ od, EvR W0 own e) : Pure Tryd.prog W0 5 [.slice a l.length cap, .int .i64 th, .slice ao od.length co] own (.bool true) := by
  refine pure_of (spec_of mixed lowc_law25_TdrfOnline (by simp [irc_law25_TdrfOnline]) ?_)
  have h2 := sp_place W0 own th (n := 3) (by omega)
  have hp := plc_rng th (n := 3) (by omega)
  have h3 := sp_awake25 hN
  generalize plc th 3 = q at *
  obtain ⟨n, hn⟩ : ∃ n : Nat, 2 + q = n := ⟨(2 + q).toNat, by omega⟩
  by_cases hl : 30 < l.length ∨ 40 < od.length
  · by_cases hl1 : 30 < l.length
    · have hl' : (l.length : Int) > 30 := by omega
      repeat' ((try (conv => whnf)); first | (refine when_ye ?_ ?_; exact rfl) | (refine when_ne ?_ ?_; exact rfl) | (refine br_te ?_ ?_; exact rfl) | (refine br_fe ?_ ?_; exact rfl) | (apply br_pyE; (exact rfl); omega) | (apply br_pnE; (exact rfl); omega) | (apply when_pyE; (exact rfl); omega) | (apply when_pnE; (exact rfl); omega) | (apply br_npyE; (exact rfl); omega) | (apply br_npnE; (exact rfl); omega) | (apply when_npyE; (exact rfl); omega) | (apply when_npnE; (exact rfl); omega) | (refine br_pyE ?_ hl' ?_; exact rfl) | (refine br_pnE ?_ hl' ?_; exact rfl) | (refine when_pyE ?_ hl' ?_; exact rfl) | (refine when_pnE ?_ hl' ?_; exact rfl) | (refine br_npyE ?_ hl' ?_; exact rfl) | (refine br_npnE ?_ hl' ?_; exact rfl) | (refine when_npyE ?_ hl' ?_; exact rfl) | (refine when_npnE ?_ hl' ?_; exact rfl) | ((with_reducible show CallT _ _ _ _ _ _); first | ((refine call_pe (h3 _) ?_ ?_ ?_; (exact rfl); exact rfl))) | (refine ari ?_ ?_; omega) | (refine aru ?_ ?_; omega) | (apply sel; exact rfl) | (refine ix0 rfl ?_) | (refine ix1 rfl ?_) | (refine ix2 rfl ?_) | (refine ix3 rfl ?_) | (apply ixj; omega) | (refine ixn ?_ ?_; omega) | (refine ixs0 rfl ?_) | (refine ixs1 rfl ?_) | (refine ixs_j ?_ ?_; omega) | (refine ixs_n ?_ ?_; omega) | (apply ld_o; exact rfl) | (apply ldN_a; exact rfl) | (apply ldN_o; (exact rfl); exact rfl) | (apply st_o; (exact rfl); exact rfl) | (apply stN_o; (exact rfl); (exact rfl); exact rfl) | (refine new_i (fun bk hbk => ?_)) | (apply when_dE; (exact rfl); (exact rfl); all_goals intro hc) | (apply when_dF; (exact rfl); (exact rfl); all_goals intro hc) | (apply when_nE; (exact rfl); (exact rfl); all_goals intro hc) | (apply when_nF; (exact rfl); (exact rfl); all_goals intro hc) | (apply br_dE; (exact rfl); all_goals intro hc) | (apply br_nE; (exact rfl); all_goals intro hc) | (refine mm_min ?_) | (refine mm_max ?_) | (refine rem_i ?_ ?_; omega) | (refine SelN.mk ?_) | (refine cut_n ?_) | (refine Both.mk ?_ ?_) | (exact True.intro))
      exact ⟨rfl, (by first | exact ent_i | (repeat (first | exact Ent.refl | exact Ent.left | refine Ent.cons ?_ | refine Ent.app ?_)))⟩
    · have hl' : ¬ (l.length : Int) > 30 := by omega
      have hl2 : (od.length : Int) > 40 := by omega
      repeat' ((try (conv => whnf)); first | (refine when_ye ?_ ?_; exact rfl) | (refine when_ne ?_ ?_; exact rfl) | (refine br_te ?_ ?_; exact rfl) | (refine br_fe ?_ ?_; exact rfl) | (apply br_pyE; (exact rfl); omega) | (apply br_pnE; (exact rfl); omega) | (apply when_pyE; (exact rfl); omega) | (apply when_pnE; (exact rfl); omega) | (apply br_npyE; (exact rfl); omega) | (apply br_npnE; (exact rfl); omega) | (apply when_npyE; (exact rfl); omega) | (apply when_npnE; (exact rfl); omega) | (refine br_pyE ?_ hl' ?_; exact rfl) | (refine br_pnE ?_ hl' ?_; exact rfl) | (refine when_pyE ?_ hl' ?_; exact rfl) | (refine when_pnE ?_ hl' ?_; exact rfl) | (refine br_npyE ?_ hl' ?_; exact rfl) | (refine br_npnE ?_ hl' ?_; exact rfl) | (refine when_npyE ?_ hl' ?_; exact rfl) | (refine when_npnE ?_ hl' ?_; exact rfl) | (refine br_pyE ?_ hl2 ?_; exact rfl) | (refine br_pnE ?_ hl2 ?_; exact rfl) | (refine when_pyE ?_ hl2 ?_; exact rfl) | (refine when_pnE ?_ hl2 ?_; exact rfl) | (refine br_npyE ?_ hl2 ?_; exact rfl) | (refine br_npnE ?_ hl2 ?_; exact rfl) | (refine when_npyE ?_ hl2 ?_; exact rfl) | (refine when_npnE ?_ hl2 ?_; exact rfl) | ((with_reducible show CallT _ _ _ _ _ _); first | ((refine call_pe (h3 _) ?_ ?_ ?_; (exact rfl); exact rfl))) | (refine ari ?_ ?_; omega) | (refine aru ?_ ?_; omega) | (apply sel; exact rfl) | (refine ix0 rfl ?_) | (refine ix1 rfl ?_) | (refine ix2 rfl ?_) | (refine ix3 rfl ?_) | (apply ixj; omega) | (refine ixn ?_ ?_; omega) | (refine ixs0 rfl ?_) | (refine ixs1 rfl ?_) | (refine ixs_j ?_ ?_; omega) | (refine ixs_n ?_ ?_; omega) | (apply ld_o; exact rfl) | (apply ldN_a; exact rfl) | (apply ldN_o; (exact rfl); exact rfl) | (apply st_o; (exact rfl); exact rfl) | (apply stN_o; (exact rfl); (exact rfl); exact rfl) | (refine new_i (fun bk hbk => ?_)) | (apply when_dE; (exact rfl); (exact rfl); all_goals intro hc) | (apply when_dF; (exact rfl); (exact rfl); all_goals intro hc) | (apply when_nE; (exact rfl); (exact rfl); all_goals intro hc) | (apply when_nF; (exact rfl); (exact rfl); all_goals intro hc) | (apply br_dE; (exact rfl); all_goals intro hc) | (apply br_nE; (exact rfl); all_goals intro hc) | (refine mm_min ?_) | (refine mm_max ?_) | (refine rem_i ?_ ?_; omega) | (refine SelN.mk ?_) | (refine cut_n ?_) | (refine Both.mk ?_ ?_) | (exact True.intro))
      exact ⟨rfl, (by first | exact ent_i | (repeat (first | exact Ent.refl | exact Ent.left | refine Ent.cons ?_ | refine Ent.app ?_)))⟩
  · have hl' : ¬ (l.length : Int) > 30 := by omega
    have hl2 : ¬ (od.length : Int) > 40 := by omega
    have hev := sp_events (W0 := W0) (own := own) (cap := cap) (n := n) (by omega) hR (by omega)
    have hnew := fun own' => sp_tnew (W0 := W0) (own := own') hN (n := n) (by omega) (by omega)
    have hnn := sp_rnone W0
    rw [← hn] at hev hnew
    repeat' ((try (conv => whnf)); first | (refine when_ye ?_ ?_; exact rfl) | (refine when_ne ?_ ?_; exact rfl) | (refine br_te ?_ ?_; exact rfl) | (refine br_fe ?_ ?_; exact rfl) | (apply br_pyE; (exact rfl); omega) | (apply br_pnE; (exact rfl); omega) | (apply when_pyE; (exact rfl); omega) | (apply when_pnE; (exact rfl); omega) | (apply br_npyE; (exact rfl); omega) | (apply br_npnE; (exact rfl); omega) | (apply when_npyE; (exact rfl); omega) | (apply when_npnE; (exact rfl); omega) | (refine br_pyE ?_ hl' ?_; exact rfl) | (refine br_pnE ?_ hl' ?_; exact rfl) | (refine when_pyE ?_ hl' ?_; exact rfl) | (refine when_pnE ?_ hl' ?_; exact rfl) | (refine br_npyE ?_ hl' ?_; exact rfl) | (refine br_npnE ?_ hl' ?_; exact rfl) | (refine when_npyE ?_ hl' ?_; exact rfl) | (refine when_npnE ?_ hl' ?_; exact rfl) | (refine br_pyE ?_ hl2 ?_; exact rfl) | (refine br_pnE ?_ hl2 ?_; exact rfl) | (refine when_pyE ?_ hl2 ?_; exact rfl) | (refine when_pnE ?_ hl2 ?_; exact rfl) | (refine br_npyE ?_ hl2 ?_; exact rfl) | (refine br_npnE ?_ hl2 ?_; exact rfl) | (refine when_npyE ?_ hl2 ?_; exact rfl) | (refine when_npnE ?_ hl2 ?_; exact rfl) | ((with_reducible show CallT _ _ _ _ _ _); first | ((refine call_pe (h2) ?_ ?_ ?_; (exact rfl); exact rfl)) | ((refine call_x hev ?_ ?_ (fun s v hv => ?_); (exact rfl); (exact rfl); (obtain ⟨ea, ec, L, D, X⟩ := s; obtain ⟨rfl, hL, hB, hM⟩ := hv; dsimp only at hL hB hM); (apply Stop.h)))) | (refine ari ?_ ?_; omega) | (refine aru ?_ ?_; omega) | (apply sel; exact rfl) | (refine ix0 rfl ?_) | (refine ix1 rfl ?_) | (refine ix2 rfl ?_) | (refine ix3 rfl ?_) | (apply ixj; omega) | (refine ixn ?_ ?_; omega) | (refine ixs0 rfl ?_) | (refine ixs1 rfl ?_) | (refine ixs_j ?_ ?_; omega) | (refine ixs_n ?_ ?_; omega) | (apply ld_o; exact rfl) | (apply ldN_a; exact rfl) | (apply ldN_o; (exact rfl); exact rfl) | (apply st_o; (exact rfl); exact rfl) | (apply stN_o; (exact rfl); (exact rfl); exact rfl) | (refine new_i (fun bk hbk => ?_)) | (apply when_dE; (exact rfl); (exact rfl); all_goals intro hc) | (apply when_dF; (exact rfl); (exact rfl); all_goals intro hc) | (apply when_nE; (exact rfl); (exact rfl); all_goals intro hc) | (apply when_nF; (exact rfl); (exact rfl); all_goals intro hc) | (apply br_dE; (exact rfl); all_goals intro hc) | (apply br_nE; (exact rfl); all_goals intro hc) | (refine mm_min ?_) | (refine mm_max ?_) | (refine rem_i ?_ ?_; omega) | (refine SelN.mk ?_) | (refine cut_n ?_) | (refine Both.mk ?_ ?_) | (exact True.intro))
    refine Stop.mk ?_
    dsimp only
    repeat' ((try (conv => whnf)); first | (refine when_ye ?_ ?_; exact rfl) | (refine when_ne ?_ ?_; exact rfl) | (refine br_te ?_ ?_; exact rfl) | (refine br_fe ?_ ?_; exact rfl) | (apply br_pyE; (exact rfl); omega) | (apply br_pnE; (exact rfl); omega) | (apply when_pyE; (exact rfl); omega) | (apply when_pnE; (exact rfl); omega) | (apply br_npyE; (exact rfl); omega) | (apply br_npnE; (exact rfl); omega) | (apply when_npyE; (exact rfl); omega) | (apply when_npnE; (exact rfl); omega) | ((with_reducible show CallT _ _ _ _ _ _); first | ((refine call_x (hnew _) ?_ ?_ (fun s v hv => ?_); (exact rfl); (exact rfl); (obtain ⟨rfl, hM0⟩ := hv); (apply Stop.h)))) | (refine ari ?_ ?_; omega) | (refine aru ?_ ?_; omega) | (apply sel; exact rfl) | (refine ix0 rfl ?_) | (refine ix1 rfl ?_) | (refine ix2 rfl ?_) | (refine ix3 rfl ?_) | (apply ixj; omega) | (refine ixn ?_ ?_; omega) | (refine ixs0 rfl ?_) | (refine ixs1 rfl ?_) | (refine ixs_j ?_ ?_; omega) | (refine ixs_n ?_ ?_; omega) | (apply ld_o; exact rfl) | (apply ldN_a; exact rfl) | (apply ldN_o; (exact rfl); exact rfl) | (apply st_o; (exact rfl); exact rfl) | (apply stN_o; (exact rfl); (exact rfl); exact rfl) | (refine new_i (fun bk hbk => ?_)) | (apply when_dE; (exact rfl); (exact rfl); all_goals intro hc) | (apply when_dF; (exact rfl); (exact rfl); all_goals intro hc) | (apply when_nE; (exact rfl); (exact rfl); all_goals intro hc) | (apply when_nF; (exact rfl); (exact rfl); all_goals intro hc) | (apply br_dE; (exact rfl); all_goals intro hc) | (apply br_nE; (exact rfl); all_goals intro hc) | (refine mm_min ?_) | (refine mm_max ?_) | (refine rem_i ?_ ?_; omega) | (refine SelN.mk ?_) | (refine cut_n ?_) | (refine Both.mk ?_ ?_) | (exact True.intro))
    refine Stop.mk ?_
    rw [hn]
    have hr0 := fun (own' : Own) (j1 : EntC own' [ckN 0 (paAt [] 0) s.cb s.eb s.sb s.bb n s.sc s.bs (frst [])]) => sp_trace (W0 := W0) (own := own') (i1 := j1)
    rw [frst_nil] at hr0
    have hs0 : s.O [] n = ckO 0 (paAt [] 0) nnR (endsR [] n) (hisR [] n) s.cb s.eb s.sb s.bb n s.sc s.bs s.B s.D s.X := by
      show ckO 0 (paAt [] 0) (frst []) _ _ _ _ _ _ _ _ _ _ _ _ = _
      rw [frst_nil]
    rw [hs0]
    repeat' ((try (conv => whnf)); first | (refine when_ye ?_ ?_; exact rfl) | (refine when_ne ?_ ?_; exact rfl) | (refine br_te ?_ ?_; exact rfl) | (refine br_fe ?_ ?_; exact rfl) | (apply br_pyE; (exact rfl); omega) | (apply br_pnE; (exact rfl); omega) | (apply when_pyE; (exact rfl); omega) | (apply when_pnE; (exact rfl); omega) | (apply br_npyE; (exact rfl); omega) | (apply br_npnE; (exact rfl); omega) | (apply when_npyE; (exact rfl); omega) | (apply when_npnE; (exact rfl); omega) | (refine eq_yes (by simp [eqC, eqOne]) ?_) | ((with_reducible show CallT _ _ _ _ _ _); first | ((refine call_pe (hr0 _ inferInstance) ?_ ?_ ?_; (exact rfl); exact rfl)) | ((refine call_pe (hnn _) ?_ ?_ ?_; (exact rfl); exact rfl))) | (refine ari ?_ ?_; omega) | (refine aru ?_ ?_; omega) | (apply sel; exact rfl) | (refine ix0 rfl ?_) | (refine ix1 rfl ?_) | (refine ix2 rfl ?_) | (refine ix3 rfl ?_) | (apply ixj; omega) | (refine ixn ?_ ?_; omega) | (refine ixs0 rfl ?_) | (refine ixs1 rfl ?_) | (refine ixs_j ?_ ?_; omega) | (refine ixs_n ?_ ?_; omega) | (apply ld_o; exact rfl) | (apply ldN_a; exact rfl) | (apply ldN_o; (exact rfl); exact rfl) | (apply st_o; (exact rfl); exact rfl) | (apply stN_o; (exact rfl); (exact rfl); exact rfl) | (refine new_i (fun bk hbk => ?_)) | (apply when_dE; (exact rfl); (exact rfl); all_goals intro hc) | (apply when_dF; (exact rfl); (exact rfl); all_goals intro hc) | (apply when_nE; (exact rfl); (exact rfl); all_goals intro hc) | (apply when_nF; (exact rfl); (exact rfl); all_goals intro hc) | (apply br_dE; (exact rfl); all_goals intro hc) | (apply br_nE; (exact rfl); all_goals intro hc) | (refine mm_min ?_) | (refine mm_max ?_) | (refine rem_i ?_ ?_; omega) | (refine SelN.mk ?_) | (refine cut_n ?_) | (refine Both.mk ?_ ?_) | (exact True.intro))
    rw [← hs0]
    have hRL : RdE EH.enc 6 W0 D ea L := hB.rd
    have hcap : L.length ≤ ec := by
      rcases hB.how with ⟨h, _, _⟩ | ⟨_, _, _, _, _, h⟩
      · rw [h]; exact Nat.zero_le _
      · exact h
    have hEv : ∀ e ∈ L, ∀ r0 : Own, [EntC r0 X] → EvR W0 r0 e := fun e he r0 _ => (hM.ev e he).up
    refine loop_i (σ := Nat × CkB) (fun s => match s with | (i, _) => [(11, .int .i64 i)]) (fun q => match q with | (i, s') => s'.O (L.take i) n ++ (X ++ (D ++ own)))
      (fun q => match q with | (i, s') => i ≤ L.length ∧ s'.cb = s.cb ∧ CkM W0 n (L.take i) s') (fun q => match q with | (i, _) => L.length - i) (0, s) ⟨Nat.zero_le _, rfl, hM0⟩ (by repeat' (first | exact True.intro | refine And.intro ?_ ?_ | exact rfl | exact vi (by omega) | (dsimp only; exact rfl) | (dsimp only; exact vi (by omega)))) Ent.refl rfl ?_
    clear hM0 hnew hev hr0 hs0
    rintro ⟨i, s'⟩ junk ⟨hi, hcb, hMi⟩
    obtain ⟨cb', eb', sb', sc', bb', bs', S', B', D', X'⟩ := s'
    dsimp only at hi hcb hMi ⊢
    subst hcb
    by_cases hlt : i < L.length
    · obtain ⟨e, he⟩ : ∃ e, L[i]? = some e := ⟨_, List.getElem?_eq_getElem hlt⟩
      have hlt' : (i : Int) < L.length := by omega
      have htk : L.take (i + 1) = L.take i ++ [e] := by rw [List.take_add_one, he]; rfl
      have htl : (L.take i).length = i := by rw [List.length_take]; omega
      have htl1 : (L.take (i + 1)).length = i + 1 := by rw [List.length_take]; omega
      have hok := okAt_take (n := n) he
      rw [hM.wf.2.2.2 i hlt] at hok
      have hwf1 : WF0 (L.take (i + 1)) n := by rw [htk]; exact hMi.wf.snoc (by omega) hok.symm
      have hadd := fun (r0 : Own) (_ : EntC r0 X) => sp_tadd (r0 := r0) hN hMi (hEv e (List.mem_of_getElem? he) r0) hok.symm (by omega)
      rw [← htk] at hadd
      have hea := hRL.isS (fun h => by rw [h] at hlt; simp at hlt)
      have hck0 : (chkE (L.take (i + 1)) n).2 = 0 := chk_ok.2 ⟨by omega, by rw [Int.toNat_natCast]; exact hwf1⟩
      have hfirst := fun (own' : Own) (_ : EntC own' D) (_ : EntC own' X) => sp_rfirst (W0 := W0) (own := own') (a := ea) (cap := ec) (l := L.take (i + 1)) (RdE.up (RdE.pre (r := L.drop (i + 1)) (by rw [List.take_append_drop]; exact hRL))) (fun e he => hEv e (List.mem_of_mem_take he) own') n
      have hfr : frR (L.take (i + 1)) n = frst (L.take (i + 1)) := by unfold frR; rw [if_pos hck0]
      rw [htl1, hfr] at hfirst
      have htwin := fun (own' : Own) (_ : EntC own' D) (_ : EntC own' X) => sp_twinev (W0 := W0) (own := own') (a := ea) (cap := ec) (l := L.take i) (RdE.up (RdE.pre (r := L.drop i) (by rw [List.take_append_drop]; exact hRL))) (fun e he => hEv e (List.mem_of_mem_take he) own') (by omega)
      rw [htl] at htwin
      generalize ab ea = eb1 at hea
      generalize Go.Proofs.YtofjnldidkiihaaDoor.ao ea = eo1 at hea
      subst hea
      clear hok hB
      by_cases hio : i < od.length
      · obtain ⟨x, hxo⟩ : ∃ x, od[i]? = some x := ⟨_, List.getElem?_eq_getElem hio⟩
        have hio' : (i : Int) < od.length := by omega
        have hEx := hEo x (List.mem_of_getElem? hxo)
        have hno := fun (hf : fitsM n ((L.take i).length == 0) (paAt (L.take i) (L.take i).length) (lkL (L.take i) x.t (L.take i).length) x = false) (own' : Own) (j1 : EntC own' [ckN (L.take i).length (paAt (L.take i) (L.take i).length) s.cb eb' sb' bb' n sc' bs' (frst (L.take i))]) (j2 : EntC own' [canE encSl 22 bb' B']) (j3 : EntC own' own) => sp_tadd_no (own := own') hN hMi hEx hf (by omega)
        have hcs := chk_snoc (x := x) hMi.wf (by omega)
        have hchk := fun (own' : Own) (F : List EH) (a4 : Option Addr) (c4 : Nat) (D4 X4 : Own) (hF : F.map EH.core = (L.take i).map EH.core) (hB4 : BufE EH.enc 42 6 a4 c4 (F ++ [x]) D4) (hE4 : ∀ e ∈ F, EvR W0 X4 e) (_ : EntC own' D4) (_ : EntC own' X4) (_ : EntC own' own) => sp_rcheck (W0 := W0) (own := own') (a := a4) (cap := c4) (l := F ++ [x]) hB4.rd.up (fun e he => (List.mem_append.1 he).elim (fun he => (hE4 e he).up) (fun he => by rw [List.mem_singleton.1 he]; exact hEx.up)) n
        have hcc : ∀ F : List EH, F.map EH.core = (L.take i).map EH.core → chkE (F ++ [x]) n = chkE (L.take i ++ [x]) n := fun F hF => chkE_core (by rw [List.map_append, List.map_append, hF])
        have hlen : ∀ F : List EH, F.map EH.core = (L.take i).map EH.core → F.length = i := fun F hF => by
          have := congrArg List.length hF
          rw [List.length_map, List.length_map, htl] at this
          exact this
        have hxe : x.v = .agg x.enc.toArray := rfl
        repeat' ((try (conv => whnf)); first | (refine when_ye ?_ ?_; exact rfl) | (refine when_ne ?_ ?_; exact rfl) | (refine br_te ?_ ?_; exact rfl) | (refine br_fe ?_ ?_; exact rfl) | (apply br_pyE; (exact rfl); omega) | (apply br_pnE; (exact rfl); omega) | (apply when_pyE; (exact rfl); omega) | (apply when_pnE; (exact rfl); omega) | (apply br_npyE; (exact rfl); omega) | (apply br_npnE; (exact rfl); omega) | (apply when_npyE; (exact rfl); omega) | (apply when_npnE; (exact rfl); omega) | (refine br_pyE ?_ hlt' ?_; exact rfl) | (refine br_pnE ?_ hlt' ?_; exact rfl) | (refine when_pyE ?_ hlt' ?_; exact rfl) | (refine when_pnE ?_ hlt' ?_; exact rfl) | (refine br_npyE ?_ hlt' ?_; exact rfl) | (refine br_npnE ?_ hlt' ?_; exact rfl) | (refine when_npyE ?_ hlt' ?_; exact rfl) | (refine when_npnE ?_ hlt' ?_; exact rfl) | (refine br_pyE ?_ hio' ?_; exact rfl) | (refine br_pnE ?_ hio' ?_; exact rfl) | (refine when_pyE ?_ hio' ?_; exact rfl) | (refine when_pnE ?_ hio' ?_; exact rfl) | (refine br_npyE ?_ hio' ?_; exact rfl) | (refine br_npnE ?_ hio' ?_; exact rfl) | (refine when_npyE ?_ hio' ?_; exact rfl) | (refine when_npnE ?_ hio' ?_; exact rfl) | (refine new_i (fun xb hxb => ?_)) | ((with_reducible show Ld _ _ _ _); first | (refine ldE0 hO hxo rfl ?_) | (refine ldEk hO hxo rfl ?_) | (refine ldE1 hO hxo rfl ?_)) | ((with_reducible show IxS _ _ _ _ _); first | ((refine ixE hO hxo ?_ ?_; (first | rfl | omega)))) | ((with_reducible show LdN _ _ _ _ _); first | (refine ldNEi hO hxo rfl ?_)) | (refine ari ?_ ?_; omega) | (refine aru ?_ ?_; omega) | (apply sel; exact rfl) | (refine ix0 rfl ?_) | (refine ix1 rfl ?_) | (refine ix2 rfl ?_) | (refine ix3 rfl ?_) | (apply ixj; omega) | (refine ixn ?_ ?_; omega) | (refine ixs0 rfl ?_) | (refine ixs1 rfl ?_) | (refine ixs_j ?_ ?_; omega) | (refine ixs_n ?_ ?_; omega) | (apply ld_o; exact rfl) | (apply ldN_a; exact rfl) | (apply ldN_o; (exact rfl); exact rfl) | (apply st_o; (exact rfl); exact rfl) | (apply stN_o; (exact rfl); (exact rfl); exact rfl) | (refine new_i (fun bk hbk => ?_)) | (apply when_dE; (exact rfl); (exact rfl); all_goals intro hc) | (apply when_dF; (exact rfl); (exact rfl); all_goals intro hc) | (apply when_nE; (exact rfl); (exact rfl); all_goals intro hc) | (apply when_nF; (exact rfl); (exact rfl); all_goals intro hc) | (apply br_dE; (exact rfl); all_goals intro hc) | (apply br_nE; (exact rfl); all_goals intro hc) | (refine mm_min ?_) | (refine mm_max ?_) | (refine rem_i ?_ ?_; omega) | (refine SelN.mk ?_) | (refine Both.mk ?_ ?_) | (exact True.intro))
        refine cut_i (σ := Unit) 302157667927362455494656 (fun _ => [(14, .int .i64 (chkE (L.take i ++ [x]) n).2)]) (fun _ => (xb, fun o => o = Obj.cells x.enc.toArray 42) :: ((⟨s.cb, eb', sb', sc', bb', bs', S', B', D', X'⟩ : CkB).O (L.take i) n ++ (X ++ (D ++ own)))) (fun _ => True) rfl ?_ (fun _ junk2 _ => ?_)
        · clear hadd hno
          repeat' ((try (conv => whnf)); first | (refine when_ye ?_ ?_; exact rfl) | (refine when_ne ?_ ?_; exact rfl) | (refine br_te ?_ ?_; exact rfl) | (refine br_fe ?_ ?_; exact rfl) | (apply br_pyE; (exact rfl); omega) | (apply br_pnE; (exact rfl); omega) | (apply when_pyE; (exact rfl); omega) | (apply when_pnE; (exact rfl); omega) | (apply br_npyE; (exact rfl); omega) | (apply br_npnE; (exact rfl); omega) | (apply when_npyE; (exact rfl); omega) | (apply when_npnE; (exact rfl); omega) | (refine sls_te (m := i) rfl (by omega) ?_) | (apply app_i (enc := EH.enc) (T2 := 42) x hB3; (exact rfl); (exact rfl); (omega); (exact rfl); (exact rfl); (omega); intro a4 c4 D4 hB4; have hq := fun (own' : Own) (i1 : EntC own' D4) (i2 : EntC own' X3) (i3 : EntC own' own) => hchk own' F a4 c4 D4 X3 hF hB4 hE3 i1 i2 i3; (rw [List.length_append, hcc F hF] at hq)) | ((with_reducible show CallT _ _ _ _ _ _); first | ((refine call_x (htwin _ inferInstance inferInstance) ?_ ?_ (fun s3 v hv => ?_); (exact rfl); (exact rfl); (obtain ⟨a3, c3, F, D3, X3⟩ := s3; obtain ⟨rfl, hF, hB3, hE3⟩ := hv; dsimp only at hF hB3 hE3; have hFl := hlen F hF)))) | ((with_reducible show CallQ _ _ _ _ _ _); first | (((refine call_qi (fun ex => hq (ex ++ _) inferInstance inferInstance inferInstance) ?_ ?_ ?_; (exact rfl); exact rfl)))) | (refine ari ?_ ?_; omega) | (refine aru ?_ ?_; omega) | (apply sel; exact rfl) | (refine ix0 rfl ?_) | (refine ix1 rfl ?_) | (refine ix2 rfl ?_) | (refine ix3 rfl ?_) | (apply ixj; omega) | (refine ixn ?_ ?_; omega) | (refine ixs0 rfl ?_) | (refine ixs1 rfl ?_) | (refine ixs_j ?_ ?_; omega) | (refine ixs_n ?_ ?_; omega) | (apply ld_o; exact rfl) | (apply ldN_a; exact rfl) | (apply ldN_o; (exact rfl); exact rfl) | (apply st_o; (exact rfl); exact rfl) | (apply stN_o; (exact rfl); (exact rfl); exact rfl) | (refine new_i (fun bk hbk => ?_)) | (apply when_dE; (exact rfl); (exact rfl); all_goals intro hc) | (apply when_dF; (exact rfl); (exact rfl); all_goals intro hc) | (apply when_nE; (exact rfl); (exact rfl); all_goals intro hc) | (apply when_nF; (exact rfl); (exact rfl); all_goals intro hc) | (apply br_dE; (exact rfl); all_goals intro hc) | (apply br_nE; (exact rfl); all_goals intro hc) | (refine mm_min ?_) | (refine mm_max ?_) | (refine rem_i ?_ ?_; omega) | (refine SelN.mk ?_) | (refine Both.mk ?_ ?_) | (exact True.intro))
          all_goals exact ⟨(), trivial, ⟨rfl, trivial⟩, by repeat (first | exact Ent.refl | refine Ent.cons ?_ | refine Ent.app ?_)⟩
        · clear htwin hchk hcc hlen
          by_cases hf : fitsM n ((L.take i).length == 0) (paAt (L.take i) (L.take i).length) (lkL (L.take i) x.t (L.take i).length) x = true
          · rw [if_pos hf] at hcs
            rw [hcs]
            obtain ⟨ev, tt, k, wd, ra, rl, rc, wa, wl, wc⟩ := e
            dsimp only [EH.v] at hadd
            repeat' ((try (conv => whnf)); first | (refine when_ye ?_ ?_; exact rfl) | (refine when_ne ?_ ?_; exact rfl) | (refine br_te ?_ ?_; exact rfl) | (refine br_fe ?_ ?_; exact rfl) | (apply br_pyE; (exact rfl); omega) | (apply br_pnE; (exact rfl); omega) | (apply when_pyE; (exact rfl); omega) | (apply when_pnE; (exact rfl); omega) | (apply br_npyE; (exact rfl); omega) | (apply br_npnE; (exact rfl); omega) | (apply when_npyE; (exact rfl); omega) | (apply when_npnE; (exact rfl); omega) | ((with_reducible show Ld _ _ _ _); first | (refine ldE0 hRL he rfl ?_) | (refine ldEk hRL he rfl ?_) | (refine ldE1 hRL he rfl ?_)) | ((with_reducible show IxS _ _ _ _ _); first | ((refine ixE hRL he ?_ ?_; (first | rfl | omega)))) | ((with_reducible show LdN _ _ _ _ _); first | (refine ldNEi hRL he rfl ?_)) | ((with_reducible show CallT _ _ _ _ _ _); first | ((refine call_x (spec_f1 (hadd ([_] ++ _) inferInstance)) ?_ ?_ (fun s2 v hv => ?_); (exact rfl); (exact rfl); (obtain ⟨rfl, hcb2, hM2⟩ := hv); (apply Stop.h)))) | (refine ari ?_ ?_; omega) | (refine aru ?_ ?_; omega) | (apply sel; exact rfl) | (refine ix0 rfl ?_) | (refine ix1 rfl ?_) | (refine ix2 rfl ?_) | (refine ix3 rfl ?_) | (apply ixj; omega) | (refine ixn ?_ ?_; omega) | (refine ixs0 rfl ?_) | (refine ixs1 rfl ?_) | (refine ixs_j ?_ ?_; omega) | (refine ixs_n ?_ ?_; omega) | (apply ld_o; exact rfl) | (apply ldN_a; exact rfl) | (apply ldN_o; (exact rfl); exact rfl) | (apply st_o; (exact rfl); exact rfl) | (apply stN_o; (exact rfl); (exact rfl); exact rfl) | (refine new_i (fun bk hbk => ?_)) | (apply when_dE; (exact rfl); (exact rfl); all_goals intro hc) | (apply when_dF; (exact rfl); (exact rfl); all_goals intro hc) | (apply when_nE; (exact rfl); (exact rfl); all_goals intro hc) | (apply when_nF; (exact rfl); (exact rfl); all_goals intro hc) | (apply br_dE; (exact rfl); all_goals intro hc) | (apply br_nE; (exact rfl); all_goals intro hc) | (refine mm_min ?_) | (refine mm_max ?_) | (refine rem_i ?_ ?_; omega) | (refine SelN.mk ?_) | (refine Both.mk ?_ ?_) | (exact True.intro))
            refine Stop.mk ?_
            obtain ⟨cb2, eb2, sb2, sc2, bb2, bs2, S2, B2, D2, X2⟩ := s2
            dsimp only at hcb2 hM2 ⊢
            subst hcb2
            have hfi := fun (own' : Own) (i1 : EntC own' D) (i2 : EntC own' X) => hfirst own' i1 i2
            have hrc := fun (own' : Own) (j1 : EntC own' [ckN (L.take (i + 1)).length (paAt (L.take (i + 1)) (L.take (i + 1)).length) s.cb eb2 sb2 bb2 n sc2 bs2 (frst (L.take (i + 1)))]) => sp_trace (W0 := W0) (own := own') (i1 := j1)
            repeat' ((try (conv => whnf)); first | (refine when_ye ?_ ?_; exact rfl) | (refine when_ne ?_ ?_; exact rfl) | (refine br_te ?_ ?_; exact rfl) | (refine br_fe ?_ ?_; exact rfl) | (apply br_pyE; (exact rfl); omega) | (apply br_pnE; (exact rfl); omega) | (apply when_pyE; (exact rfl); omega) | (apply when_pnE; (exact rfl); omega) | (apply br_npyE; (exact rfl); omega) | (apply br_npnE; (exact rfl); omega) | (apply when_npyE; (exact rfl); omega) | (apply when_npnE; (exact rfl); omega) | (refine sls_te (m := i + 1) (by omega) (by omega) ?_) | (refine eq_yes (by simp [eqC, eqOne]) ?_) | ((with_reducible show CallT _ _ _ _ _ _); first | ((refine call_pe (hfi _ inferInstance inferInstance) ?_ ?_ ?_; (exact rfl); exact rfl))) | ((with_reducible show CallQ _ _ _ _ _ _); first | (((refine call_qi (fun ex => hrc (ex ++ _) inferInstance) ?_ ?_ ?_; (exact rfl); exact rfl)))) | (refine ari ?_ ?_; omega) | (refine aru ?_ ?_; omega) | (apply sel; exact rfl) | (refine ix0 rfl ?_) | (refine ix1 rfl ?_) | (refine ix2 rfl ?_) | (refine ix3 rfl ?_) | (apply ixj; omega) | (refine ixn ?_ ?_; omega) | (refine ixs0 rfl ?_) | (refine ixs1 rfl ?_) | (refine ixs_j ?_ ?_; omega) | (refine ixs_n ?_ ?_; omega) | (apply ld_o; exact rfl) | (apply ldN_a; exact rfl) | (apply ldN_o; (exact rfl); exact rfl) | (apply st_o; (exact rfl); exact rfl) | (apply stN_o; (exact rfl); (exact rfl); exact rfl) | (refine new_i (fun bk hbk => ?_)) | (apply when_dE; (exact rfl); (exact rfl); all_goals intro hc) | (apply when_dF; (exact rfl); (exact rfl); all_goals intro hc) | (apply when_nE; (exact rfl); (exact rfl); all_goals intro hc) | (apply when_nF; (exact rfl); (exact rfl); all_goals intro hc) | (apply br_dE; (exact rfl); all_goals intro hc) | (apply br_nE; (exact rfl); all_goals intro hc) | (refine mm_min ?_) | (refine mm_max ?_) | (refine rem_i ?_ ?_; omega) | (refine SelN.mk ?_) | (refine Both.mk ?_ ?_) | (exact True.intro))
            exact ⟨(i + 1, ⟨s.cb, eb2, sb2, sc2, bb2, bs2, S2, B2, D2, X2⟩), ⟨hlt, rfl, hM2⟩, by show L.length - (i + 1) < L.length - i; omega, ⟨vi (by show (i : Int) + 1 = ((i + 1 : Nat) : Int); omega), trivial⟩, by repeat (first | exact Ent.refl | refine Ent.cons ?_)⟩
          · rw [if_neg hf] at hcs
            rw [hcs]
            have hnox := hno (Bool.eq_false_iff.2 hf)
            obtain ⟨ev, tt, k, wd, ra, rl, rc, wa, wl, wc⟩ := e
            dsimp only [EH.v] at hadd
            repeat' ((try (conv => whnf)); first | (refine when_ye ?_ ?_; exact rfl) | (refine when_ne ?_ ?_; exact rfl) | (refine br_te ?_ ?_; exact rfl) | (refine br_fe ?_ ?_; exact rfl) | (apply br_pyE; (exact rfl); omega) | (apply br_pnE; (exact rfl); omega) | (apply when_pyE; (exact rfl); omega) | (apply when_pnE; (exact rfl); omega) | (apply br_npyE; (exact rfl); omega) | (apply br_npnE; (exact rfl); omega) | (apply when_npyE; (exact rfl); omega) | (apply when_npnE; (exact rfl); omega) | (refine ldN_x ?_) | (refine eq_yes (by simp [eqC, eqOne]) ?_) | (refine new_i (fun rb hrb => ?_)) | ((with_reducible show Ld _ _ _ _); first | (refine ldE0 hRL he rfl ?_) | (refine ldEk hRL he rfl ?_) | (refine ldE1 hRL he rfl ?_)) | ((with_reducible show IxS _ _ _ _ _); first | ((refine ixE hRL he ?_ ?_; (first | rfl | omega)))) | ((with_reducible show LdN _ _ _ _ _); first | (refine ldNEi hRL he rfl ?_)) | ((with_reducible show CallT _ _ _ _ _ _); first | ((refine call_pe (hnox _ inferInstance inferInstance inferInstance) ?_ ?_ ?_; (exact rfl); exact rfl)) | ((refine call_x (spec_f2 (hadd ([_, _] ++ _) inferInstance)) ?_ ?_ (fun s2 v hv => ?_); (exact rfl); (exact rfl); (obtain ⟨rfl, hcb2, hM2⟩ := hv); (apply Stop.h)))) | ((with_reducible show CallQ _ _ _ _ _ _); first | (((refine call_qq hnn ?_ ?_ ?_; (exact rfl); exact rfl)))) | (refine ari ?_ ?_; omega) | (refine aru ?_ ?_; omega) | (apply sel; exact rfl) | (refine ix0 rfl ?_) | (refine ix1 rfl ?_) | (refine ix2 rfl ?_) | (refine ix3 rfl ?_) | (apply ixj; omega) | (refine ixn ?_ ?_; omega) | (refine ixs0 rfl ?_) | (refine ixs1 rfl ?_) | (refine ixs_j ?_ ?_; omega) | (refine ixs_n ?_ ?_; omega) | (apply ld_o; exact rfl) | (apply ldN_a; exact rfl) | (apply ldN_o; (exact rfl); exact rfl) | (apply st_o; (exact rfl); exact rfl) | (apply stN_o; (exact rfl); (exact rfl); exact rfl) | (refine new_i (fun bk hbk => ?_)) | (apply when_dE; (exact rfl); (exact rfl); all_goals intro hc) | (apply when_dF; (exact rfl); (exact rfl); all_goals intro hc) | (apply when_nE; (exact rfl); (exact rfl); all_goals intro hc) | (apply when_nF; (exact rfl); (exact rfl); all_goals intro hc) | (apply br_dE; (exact rfl); all_goals intro hc) | (apply br_nE; (exact rfl); all_goals intro hc) | (refine mm_min ?_) | (refine mm_max ?_) | (refine rem_i ?_ ?_; omega) | (refine SelN.mk ?_) | (refine Both.mk ?_ ?_) | (exact True.intro))
            refine Stop.mk ?_
            obtain ⟨cb2, eb2, sb2, sc2, bb2, bs2, S2, B2, D2, X2⟩ := s2
            dsimp only at hcb2 hM2 ⊢
            subst hcb2
            have hfi := fun (own' : Own) (i1 : EntC own' D) (i2 : EntC own' X) => hfirst own' i1 i2
            have hrc := fun (own' : Own) (j1 : EntC own' [ckN (L.take (i + 1)).length (paAt (L.take (i + 1)) (L.take (i + 1)).length) s.cb eb2 sb2 bb2 n sc2 bs2 (frst (L.take (i + 1)))]) => sp_trace (W0 := W0) (own := own') (i1 := j1)
            repeat' ((try (conv => whnf)); first | (refine when_ye ?_ ?_; exact rfl) | (refine when_ne ?_ ?_; exact rfl) | (refine br_te ?_ ?_; exact rfl) | (refine br_fe ?_ ?_; exact rfl) | (apply br_pyE; (exact rfl); omega) | (apply br_pnE; (exact rfl); omega) | (apply when_pyE; (exact rfl); omega) | (apply when_pnE; (exact rfl); omega) | (apply br_npyE; (exact rfl); omega) | (apply br_npnE; (exact rfl); omega) | (apply when_npyE; (exact rfl); omega) | (apply when_npnE; (exact rfl); omega) | (refine sls_te (m := i + 1) (by omega) (by omega) ?_) | (refine eq_yes (by simp [eqC, eqOne]) ?_) | ((with_reducible show CallT _ _ _ _ _ _); first | ((refine call_pe (hfi _ inferInstance inferInstance) ?_ ?_ ?_; (exact rfl); exact rfl))) | ((with_reducible show CallQ _ _ _ _ _ _); first | (((refine call_qi (fun ex => hrc (ex ++ _) inferInstance) ?_ ?_ ?_; (exact rfl); exact rfl)))) | (refine ari ?_ ?_; omega) | (refine aru ?_ ?_; omega) | (apply sel; exact rfl) | (refine ix0 rfl ?_) | (refine ix1 rfl ?_) | (refine ix2 rfl ?_) | (refine ix3 rfl ?_) | (apply ixj; omega) | (refine ixn ?_ ?_; omega) | (refine ixs0 rfl ?_) | (refine ixs1 rfl ?_) | (refine ixs_j ?_ ?_; omega) | (refine ixs_n ?_ ?_; omega) | (apply ld_o; exact rfl) | (apply ldN_a; exact rfl) | (apply ldN_o; (exact rfl); exact rfl) | (apply st_o; (exact rfl); exact rfl) | (apply stN_o; (exact rfl); (exact rfl); exact rfl) | (refine new_i (fun bk hbk => ?_)) | (apply when_dE; (exact rfl); (exact rfl); all_goals intro hc) | (apply when_dF; (exact rfl); (exact rfl); all_goals intro hc) | (apply when_nE; (exact rfl); (exact rfl); all_goals intro hc) | (apply when_nF; (exact rfl); (exact rfl); all_goals intro hc) | (apply br_dE; (exact rfl); all_goals intro hc) | (apply br_nE; (exact rfl); all_goals intro hc) | (refine mm_min ?_) | (refine mm_max ?_) | (refine rem_i ?_ ?_; omega) | (refine SelN.mk ?_) | (refine Both.mk ?_ ?_) | (exact True.intro))
            exact ⟨(i + 1, ⟨s.cb, eb2, sb2, sc2, bb2, bs2, S2, B2, D2, X2⟩), ⟨hlt, rfl, hM2⟩, by show L.length - (i + 1) < L.length - i; omega, ⟨vi (by show (i : Int) + 1 = ((i + 1 : Nat) : Int); omega), trivial⟩, by repeat (first | exact Ent.refl | refine Ent.cons ?_)⟩

      · have hio' : ¬ (i : Int) < od.length := by omega
        obtain ⟨ev, tt, k, wd, ra, rl, rc, wa, wl, wc⟩ := e
        dsimp only [EH.v] at hadd
        repeat' ((try (conv => whnf)); first | (refine when_ye ?_ ?_; exact rfl) | (refine when_ne ?_ ?_; exact rfl) | (refine br_te ?_ ?_; exact rfl) | (refine br_fe ?_ ?_; exact rfl) | (apply br_pyE; (exact rfl); omega) | (apply br_pnE; (exact rfl); omega) | (apply when_pyE; (exact rfl); omega) | (apply when_pnE; (exact rfl); omega) | (apply br_npyE; (exact rfl); omega) | (apply br_npnE; (exact rfl); omega) | (apply when_npyE; (exact rfl); omega) | (apply when_npnE; (exact rfl); omega) | (refine br_pyE ?_ hlt' ?_; exact rfl) | (refine br_pnE ?_ hlt' ?_; exact rfl) | (refine when_pyE ?_ hlt' ?_; exact rfl) | (refine when_pnE ?_ hlt' ?_; exact rfl) | (refine br_npyE ?_ hlt' ?_; exact rfl) | (refine br_npnE ?_ hlt' ?_; exact rfl) | (refine when_npyE ?_ hlt' ?_; exact rfl) | (refine when_npnE ?_ hlt' ?_; exact rfl) | (refine br_pyE ?_ hio' ?_; exact rfl) | (refine br_pnE ?_ hio' ?_; exact rfl) | (refine when_pyE ?_ hio' ?_; exact rfl) | (refine when_pnE ?_ hio' ?_; exact rfl) | (refine br_npyE ?_ hio' ?_; exact rfl) | (refine br_npnE ?_ hio' ?_; exact rfl) | (refine when_npyE ?_ hio' ?_; exact rfl) | (refine when_npnE ?_ hio' ?_; exact rfl) | ((with_reducible show Ld _ _ _ _); first | (refine ldE0 hRL he rfl ?_) | (refine ldEk hRL he rfl ?_) | (refine ldE1 hRL he rfl ?_)) | ((with_reducible show IxS _ _ _ _ _); first | ((refine ixE hRL he ?_ ?_; (first | rfl | omega)))) | ((with_reducible show LdN _ _ _ _ _); first | (refine ldNEi hRL he rfl ?_)) | ((with_reducible show CallT _ _ _ _ _ _); first | ((refine call_x (hadd _ inferInstance) ?_ ?_ (fun s2 v hv => ?_); (exact rfl); (exact rfl); (obtain ⟨rfl, hcb2, hM2⟩ := hv); (apply Stop.h)))) | (refine ari ?_ ?_; omega) | (refine aru ?_ ?_; omega) | (apply sel; exact rfl) | (refine ix0 rfl ?_) | (refine ix1 rfl ?_) | (refine ix2 rfl ?_) | (refine ix3 rfl ?_) | (apply ixj; omega) | (refine ixn ?_ ?_; omega) | (refine ixs0 rfl ?_) | (refine ixs1 rfl ?_) | (refine ixs_j ?_ ?_; omega) | (refine ixs_n ?_ ?_; omega) | (apply ld_o; exact rfl) | (apply ldN_a; exact rfl) | (apply ldN_o; (exact rfl); exact rfl) | (apply st_o; (exact rfl); exact rfl) | (apply stN_o; (exact rfl); (exact rfl); exact rfl) | (refine new_i (fun bk hbk => ?_)) | (apply when_dE; (exact rfl); (exact rfl); all_goals intro hc) | (apply when_dF; (exact rfl); (exact rfl); all_goals intro hc) | (apply when_nE; (exact rfl); (exact rfl); all_goals intro hc) | (apply when_nF; (exact rfl); (exact rfl); all_goals intro hc) | (apply br_dE; (exact rfl); all_goals intro hc) | (apply br_nE; (exact rfl); all_goals intro hc) | (refine mm_min ?_) | (refine mm_max ?_) | (refine rem_i ?_ ?_; omega) | (refine SelN.mk ?_) | (refine Both.mk ?_ ?_) | (exact True.intro))
        refine Stop.mk ?_
        obtain ⟨cb2, eb2, sb2, sc2, bb2, bs2, S2, B2, D2, X2⟩ := s2
        dsimp only at hcb2 hM2 ⊢
        subst hcb2
        have hfi := fun (own' : Own) (i1 : EntC own' D) (i2 : EntC own' X) => hfirst own' i1 i2
        have hrc := fun (own' : Own) (j1 : EntC own' [ckN (L.take (i + 1)).length (paAt (L.take (i + 1)) (L.take (i + 1)).length) s.cb eb2 sb2 bb2 n sc2 bs2 (frst (L.take (i + 1)))]) => sp_trace (W0 := W0) (own := own') (i1 := j1)
        repeat' ((try (conv => whnf)); first | (refine when_ye ?_ ?_; exact rfl) | (refine when_ne ?_ ?_; exact rfl) | (refine br_te ?_ ?_; exact rfl) | (refine br_fe ?_ ?_; exact rfl) | (apply br_pyE; (exact rfl); omega) | (apply br_pnE; (exact rfl); omega) | (apply when_pyE; (exact rfl); omega) | (apply when_pnE; (exact rfl); omega) | (apply br_npyE; (exact rfl); omega) | (apply br_npnE; (exact rfl); omega) | (apply when_npyE; (exact rfl); omega) | (apply when_npnE; (exact rfl); omega) | (refine sls_te (m := i + 1) (by omega) (by omega) ?_) | (refine eq_yes (by simp [eqC, eqOne]) ?_) | ((with_reducible show CallT _ _ _ _ _ _); first | ((refine call_pe (hfi _ inferInstance inferInstance) ?_ ?_ ?_; (exact rfl); exact rfl))) | ((with_reducible show CallQ _ _ _ _ _ _); first | (((refine call_qi (fun ex => hrc (ex ++ _) inferInstance) ?_ ?_ ?_; (exact rfl); exact rfl)))) | (refine ari ?_ ?_; omega) | (refine aru ?_ ?_; omega) | (apply sel; exact rfl) | (refine ix0 rfl ?_) | (refine ix1 rfl ?_) | (refine ix2 rfl ?_) | (refine ix3 rfl ?_) | (apply ixj; omega) | (refine ixn ?_ ?_; omega) | (refine ixs0 rfl ?_) | (refine ixs1 rfl ?_) | (refine ixs_j ?_ ?_; omega) | (refine ixs_n ?_ ?_; omega) | (apply ld_o; exact rfl) | (apply ldN_a; exact rfl) | (apply ldN_o; (exact rfl); exact rfl) | (apply st_o; (exact rfl); exact rfl) | (apply stN_o; (exact rfl); (exact rfl); exact rfl) | (refine new_i (fun bk hbk => ?_)) | (apply when_dE; (exact rfl); (exact rfl); all_goals intro hc) | (apply when_dF; (exact rfl); (exact rfl); all_goals intro hc) | (apply when_nE; (exact rfl); (exact rfl); all_goals intro hc) | (apply when_nF; (exact rfl); (exact rfl); all_goals intro hc) | (apply br_dE; (exact rfl); all_goals intro hc) | (apply br_nE; (exact rfl); all_goals intro hc) | (refine mm_min ?_) | (refine mm_max ?_) | (refine rem_i ?_ ?_; omega) | (refine SelN.mk ?_) | (refine Both.mk ?_ ?_) | (exact True.intro))
        exact ⟨(i + 1, ⟨s.cb, eb2, sb2, sc2, bb2, bs2, S2, B2, D2, X2⟩), ⟨hlt, rfl, hM2⟩, by show L.length - (i + 1) < L.length - i; omega, ⟨vi (by show (i : Int) + 1 = ((i + 1 : Nat) : Int); omega), trivial⟩, by repeat (first | exact Ent.refl | refine Ent.cons ?_)⟩
    · have hlt' : ¬ (i : Int) < L.length := by omega
      repeat' ((try (conv => whnf)); first | (refine when_ye ?_ ?_; exact rfl) | (refine when_ne ?_ ?_; exact rfl) | (refine br_te ?_ ?_; exact rfl) | (refine br_fe ?_ ?_; exact rfl) | (apply br_pyE; (exact rfl); omega) | (apply br_pnE; (exact rfl); omega) | (apply when_pyE; (exact rfl); omega) | (apply when_pnE; (exact rfl); omega) | (apply br_npyE; (exact rfl); omega) | (apply br_npnE; (exact rfl); omega) | (apply when_npyE; (exact rfl); omega) | (apply when_npnE; (exact rfl); omega) | (refine br_pyE ?_ hlt' ?_; exact rfl) | (refine br_pnE ?_ hlt' ?_; exact rfl) | (refine when_pyE ?_ hlt' ?_; exact rfl) | (refine when_pnE ?_ hlt' ?_; exact rfl) | (refine br_npyE ?_ hlt' ?_; exact rfl) | (refine br_npnE ?_ hlt' ?_; exact rfl) | (refine when_npyE ?_ hlt' ?_; exact rfl) | (refine when_npnE ?_ hlt' ?_; exact rfl) | ((with_reducible show CallT _ _ _ _ _ _); first | ((refine call_pe (h3 _) ?_ ?_ ?_; (exact rfl); exact rfl))) | (refine ari ?_ ?_; omega) | (refine aru ?_ ?_; omega) | (apply sel; exact rfl) | (refine ix0 rfl ?_) | (refine ix1 rfl ?_) | (refine ix2 rfl ?_) | (refine ix3 rfl ?_) | (apply ixj; omega) | (refine ixn ?_ ?_; omega) | (refine ixs0 rfl ?_) | (refine ixs1 rfl ?_) | (refine ixs_j ?_ ?_; omega) | (refine ixs_n ?_ ?_; omega) | (apply ld_o; exact rfl) | (apply ldN_a; exact rfl) | (apply ldN_o; (exact rfl); exact rfl) | (apply st_o; (exact rfl); exact rfl) | (apply stN_o; (exact rfl); (exact rfl); exact rfl) | (refine new_i (fun bk hbk => ?_)) | (apply when_dE; (exact rfl); (exact rfl); all_goals intro hc) | (apply when_dF; (exact rfl); (exact rfl); all_goals intro hc) | (apply when_nE; (exact rfl); (exact rfl); all_goals intro hc) | (apply when_nF; (exact rfl); (exact rfl); all_goals intro hc) | (apply br_dE; (exact rfl); all_goals intro hc) | (apply br_nE; (exact rfl); all_goals intro hc) | (refine mm_min ?_) | (refine mm_max ?_) | (refine rem_i ?_ ?_; omega) | (refine SelN.mk ?_) | (refine cut_n ?_) | (refine Both.mk ?_ ?_) | (exact True.intro))
      exact ⟨rfl, (by first | exact ent_i | (repeat (first | exact Ent.refl | exact Ent.left | refine Ent.cons ?_ | refine Ent.app ?_)))⟩
end
end Go.Proofs.YtofjnldidkiihaaDoor
namespace Go.Proofs.YtofjnldidkiihaaDoor
open Go Go.ChangeShapes Go.WideShapes Go.ChangeAt Go.RowKit
set_option maxRecDepth 100000
section
variable {H : Type} {enc : TypeId × Value → H} {P : Program} {w : World} {spare : Nat → Bool} {held : Bool} {q : Nat → Bool}
theorem weight_head {t : TypeId} {ts : List TypeId} {d : DataW H} {ds : List (DataW H)} (h : (DataW.weightsEach P (t :: ts) (d :: ds)).all q = true) : (d.weights P t).all q = true ∧ (DataW.weightsEach P ts ds).all q = true := by
  simpa only [DataW.weightsEach, List.all_append, Bool.and_eq_true] using h
theorem weights_mem {e : TypeId} : ∀ {E : List (DataW H)} {d : DataW H}, (DataW.weightsAll P e E).all q = true → d ∈ E → (d.weights P e).all q = true
  | [], _, _, hd => by cases hd
  | c :: r, d, h, hd => by
    simp only [DataW.weightsAll, List.all_append, Bool.and_eq_true] at h
    rcases List.mem_cons.1 hd with rfl | hd
    · exact h.1
    · exact weights_mem h.2 hd
theorem weights_get : ∀ {ts : List TypeId} {E : List (DataW H)} {i : Nat} {t : TypeId} {d : DataW H}, (DataW.weightsEach P ts E).all q = true → ts[i]? = some t → E[i]? = some d → (d.weights P t).all q = true
  | [], _, i, _, _, _, ht, _ => by simp at ht
  | _ :: _, [], i, _, _, _, _, hd => by simp at hd
  | t :: ts, c :: r, 0, _, _, h, ht, hd => by
    simp only [List.getElem?_cons_zero, Option.some.injEq] at ht hd
    subst ht hd
    exact (weight_head h).1
  | t :: ts, c :: r, i + 1, _, _, h, ht, hd => by
    rw [List.getElem?_cons_succ] at ht hd
    exact weights_get (weight_head h).2 ht hd
/-- A slice that is read, with its weight. -/
theorem trod_slW {α : Type} {en : α → List Value} {sz : Nat} {Φ : α → Prop} {fuel : Nat} {t e : TypeId} {cs : List Value} {x : DataW H × List MemPlace} (ht : P.underlying t = some (.slice e)) (hsz : P.cellsOf e = sz) (hpos : 0 < sz)
    (hel : ∀ n cs x, DataW.trod enc P w 0 spare held n e cs = some x → (x.1.weights P e).all q = true → ∃ y, cs = en y ∧ Φ y) (h : DataW.trod enc P w 0 spare held fuel t cs = some x) (hw : (x.1.weights P t).all q = true) :
    ∃ a l cap, cs = [.slice a l.length cap] ∧ RdE en sz w [] a l ∧ (∀ y ∈ l, Φ y) ∧ l.length ≤ cap ∧ (l = [] ∨ ∃ k, q ((l.length + k) * P.bytesOf e) = true) := by
  rcases DataW.trod_slice ht h with ⟨rfl, _⟩ | ⟨a, len, cap, elems, rest, n, _, rfl, rfl, _, hl, _, hlen, hel', _⟩
  · exact ⟨none, [], 0, rfl, RdE.nil, fun _ h => (by cases h), by simp, .inl rfl⟩
  · simp only [DataW.weights, ht, List.all_cons, List.all_append, Bool.and_eq_true, List.length_map] at hw
    obtain ⟨hw1, hw2, _⟩ := hw
    have key : ∀ i, i < len → ∃ y, (w.cells? 0 (a.add (i * sz)) sz = some (en y)) ∧ Φ y := fun i hi => by
      have := hel' i hi
      rw [hsz] at this
      have hi' : i < elems.length := by omega
      rw [List.getElem?_eq_getElem hi', Option.bind_eq_some_iff] at this
      obtain ⟨c, hc, hx⟩ := this
      obtain ⟨y, rfl, hy⟩ := hel _ _ _ hx (weights_mem hw2 (List.mem_map_of_mem (List.getElem_mem hi')))
      exact ⟨y, hc, hy⟩
    obtain ⟨l, hll, hq⟩ := list_of len key
    have hget : ∀ {j k : Nat} {y : α} {v : Value}, l[j]? = some y → (en y)[k]? = some v → w.cell? ((a.add (j * sz)).add k) = some v ∧ (en y).length = sz := fun {j k y v} hy hv => by
      obtain ⟨hc, _⟩ := hq j y hy
      obtain ⟨_, hlen, hget⟩ := World.cells?_some hc
      have hk := (List.getElem?_eq_some_iff.1 hv).1
      exact ⟨(hget k (by omega)).trans hv, hlen⟩
    have hspot : l ≠ [] → a.spot = none := fun hne => by
      cases l with
      | nil => exact absurd rfl hne
      | cons y r =>
        obtain ⟨hc, _⟩ := hq 0 y rfl
        obtain ⟨_, hlen, hget⟩ := World.cells?_some hc
        have h0 := hget 0 hpos
        rw [List.getElem?_eq_getElem (by omega)] at h0
        rw [Nat.zero_mul] at h0
        have e0 : (a.add 0).add 0 = a := by simp [Addr.add]
        rw [e0] at h0
        unfold World.cell? at h0
        split at h0
        · split at h0
          · cases h0
          · rename_i hs; simpa using hs
        · cases h0
    refine ⟨some a, l, cap, by rw [hll], ⟨fun hne => ?_, fun y hy => ?_, fun {j k y v} hy hv => ?_⟩, fun y hy => ?_, by omega, .inr ⟨rest.length, by rw [hll, ← hlen]; exact hw1⟩⟩
    · have := hspot hne
      obtain ⟨b, o, s⟩ := a
      simp only at this
      subst this
      rfl
    · obtain ⟨i, hi⟩ := List.getElem?_of_mem hy
      obtain ⟨hc, _⟩ := hq i y hi
      exact (World.cells?_some hc).2.1
    · obtain ⟨hc, _⟩ := hget hy hv
      have hs := hspot (by intro e; subst e; simp at hy)
      have he : (a.add (j * sz)).add k = ⟨ab (some a), ao (some a) + j * sz + k, none⟩ := by
        obtain ⟨b, o, s⟩ := a
        simp only at hs
        subst hs
        rw [addr_add, addr_add]
        rfl
      rw [he] at hc
      exact cell_st hc
    · obtain ⟨i, hi⟩ := List.getElem?_of_mem hy
      exact (hq i y hi).2
/-- A field of a struct, with its weight. -/
theorem trod_atW {fuel : Nat} {t ft : TypeId} {off n : Nat} {cs : List Value} {x : DataW H × List MemPlace} (i : Nat) (hf : fieldAt P t i = some (off, ft)) (hn : P.cellsOf ft = n) (h : DataW.trod enc P w 0 spare held fuel t cs = some x) (hw : (x.1.weights P t).all q = true) :
    ∃ m y, DataW.trod enc P w 0 spare held m ft ((cs.drop off).take n) = some y ∧ (y.1.weights P ft).all q = true := by
  unfold fieldAt at hf
  split at hf
  · rename_i fs hu
    obtain ⟨f, hf1, hf2⟩ := Option.map_eq_some_iff.1 hf
    simp only [Prod.mk.injEq] at hf2
    obtain ⟨rfl, rfl⟩ := hf2
    subst hn
    obtain ⟨xs, n, _, rfl, hl, hxl, hel⟩ := DataW.trod_struct hu h
    have hi := (Array.getElem?_eq_some_iff.1 hf1).1
    have he := hel i f hf1
    have hi' : i < xs.length := by omega
    rw [List.getElem?_eq_getElem hi'] at he
    refine ⟨n, _, he, ?_⟩
    simp only [DataW.weights, hu] at hw
    refine weights_get hw (i := i) (t := f.type) (d := (xs[i]).1) ?_ ?_
    · rw [List.getElem?_map, Array.getElem?_toList, hf1]; rfl
    · rw [List.getElem?_map, List.getElem?_eq_getElem hi']; rfl
  · cases hf
end
section
variable {H : Type} {enc : TypeId × Value → H} {w : World} {spare : Nat → Bool} {held : Bool}
theorem ints_W {fuel : Nat} {cs : List Value} {x : DataW H × List MemPlace} (h : DataW.trod enc Tryd.prog w 0 spare held fuel 22 cs = some x) (hw : (x.1.weights Tryd.prog 22).all (· ≤ reachBytes) = true) :
    ∃ a l cap, cs = [.slice a (List.length l) cap] ∧ RdE encI 1 w [] a l ∧ l.length ≤ 17592186043904 := by
  obtain ⟨a, l, cap, e, hr, _, _, hk⟩ := trod_slW (q := (· ≤ reachBytes)) (en := encI) (sz := 1) (Φ := fun _ => True) Tryd.underlying22 (by kernel_rfl) (by omega) (fun n cs x h _ => by
    obtain ⟨n, rfl, _⟩ := trod_i64 Tryd.underlying3 h
    exact ⟨n, rfl, trivial⟩) h hw
  refine ⟨a, l, cap, e, hr, ?_⟩
  rcases hk with rfl | ⟨k, hk⟩
  · simp
  · have h8 : Tryd.prog.bytesOf 3 = 8 := by kernel_rfl
    rw [h8] at hk
    have hk := of_decide_eq_true hk
    have h9 : reachBytes = 140737488351232 := rfl
    rw [h9] at hk
    omega
theorem trod_ev {fuel : Nat} {cs : List Value} {x : DataW H × List MemPlace} (h : DataW.trod enc Tryd.prog w 0 spare held fuel 42 cs = some x) (hw : (x.1.weights Tryd.prog 42).all (· ≤ reachBytes) = true) : ∃ y : EH, cs = y.enc ∧ EvR w [] y := by
  obtain ⟨hl, m0, y0, h0⟩ := trod_at 0 (off := 0) (ft := 3) (n := 1) (by kernel_rfl) (by kernel_rfl) h
  obtain ⟨_, m1, y1, h1⟩ := trod_at 1 (off := 1) (ft := 3) (n := 1) (by kernel_rfl) (by kernel_rfl) h
  obtain ⟨_, m2, y2, h2⟩ := trod_at 2 (off := 2) (ft := 3) (n := 1) (by kernel_rfl) (by kernel_rfl) h
  obtain ⟨_, m3, y3, h3⟩ := trod_at 3 (off := 3) (ft := 3) (n := 1) (by kernel_rfl) (by kernel_rfl) h
  obtain ⟨m4, y4, h4, w4⟩ := trod_atW 4 (off := 4) (ft := 22) (n := 1) (by kernel_rfl) (by kernel_rfl) h hw
  obtain ⟨m5, y5, h5, w5⟩ := trod_atW 5 (off := 5) (ft := 22) (n := 1) (by kernel_rfl) (by kernel_rfl) h hw
  obtain ⟨n0, e0, _⟩ := trod_i64 Tryd.underlying3 h0
  obtain ⟨n1, e1, _⟩ := trod_i64 Tryd.underlying3 h1
  obtain ⟨n2, e2, _⟩ := trod_i64 Tryd.underlying3 h2
  obtain ⟨n3, e3, _⟩ := trod_i64 Tryd.underlying3 h3
  obtain ⟨ra, rl, rc, e4, r4, b4⟩ := ints_W h4 w4
  obtain ⟨wa, wl, wc, e5, r5, b5⟩ := ints_W h5 w5
  have hl' : cs.length = 6 := hl.trans (by kernel_rfl)
  refine ⟨⟨n0, n1, n2, n3, ra, rl, rc, wa, wl, wc⟩, ?_, ⟨r4, r5, b4, b5⟩⟩
  match cs, hl' with
  | [c0, c1, c2, c3, c4, c5], _ =>
    simp at e0 e1 e2 e3 e4 e5
    rw [e0, e1, e2, e3, e4, e5]
theorem events_open {b0 : Nat} {v : Value} {d : DataW H} {p : List MemPlace} (hv : Value.okWide Tryd.prog w .any b0 25 v) (ht : DataW.Trod enc Tryd.prog w 0 spare held 25 v d p) (hw : (d.weights Tryd.prog 25).all (· ≤ reachBytes) = true) :
    ∃ a l cap, v = .slice a (List.length l) cap ∧ RdE EH.enc 6 w [] a l ∧ ∀ e ∈ l, EvR w [] e := by
  obtain ⟨fuel, h⟩ := ht
  obtain ⟨a, l, cap, e, hr, hE, _, _⟩ := trod_slW (q := (· ≤ reachBytes)) (en := EH.enc) (sz := 6) (Φ := fun e => EvR w [] e) Tryd.underlying25 (by kernel_rfl) (by omega) (fun n cs x h hw => trod_ev h hw) h hw
  exact ⟨a, l, cap, one_of rfl e (slice_agg Tryd.underlying25 hv), hr, hE⟩
end
end Go.Proofs.YtofjnldidkiihaaDoor
