/- What the laws share, part 25. No condition. -/
import Derived.Test.YtkieffpjjfebjaaGreatDoorY24
namespace Go.Proofs.YtkieffpjjfebjaaGreatDoor.Ord
open Go
set_option maxRecDepth 10000
set_option maxHeartbeats 4000000
def gtC (C : List Int) (t : Int) : Int := if 0 ≤ t ∧ t < C.length then C[t.toNat]?.getD 0 else 0
theorem gtC_at {C : List Int} {t : Nat} {x : Int} (h : C[t]? = some x) : gtC C t = x := by
  unfold gtC
  have := (List.getElem?_eq_some_iff.1 h).1
  rw [if_pos ⟨by omega, by omega⟩, Int.toNat_natCast, h]
  rfl
abbrev encAc (x : Int × Int) : List Value := [.int .i64 x.1, .int .i64 x.2]
def fAc (A : List (Int × Int)) (t : Nat) : Int × Int := A[t]?.getD (0, 0)
theorem fAc_at {A : List (Int × Int)} {t : Nat} {x : Int × Int} (h : A[t]? = some x) : fAc A t = x := by unfold fAc; rw [h]; rfl
section
variable {W0 : World} {own : Own} {a c : Option Addr} {cap cc : Nat}
theorem sp_vget {C : List Int} (hC : RdE encI 1 W0 own c C) (t : Int) : Pure Tryz.prog W0 174 [.slice c C.length cc, .int .i64 t] own (.int .i64 (gtC C t)) := by
  refine pure_of (spec_of mixed low_vclock_Get (by simp [ir_vclock_Get]) ?_)
  by_cases h : 0 ≤ t ∧ t < C.length
  · obtain ⟨k, rfl⟩ : ∃ k : Nat, t = k := ⟨t.toNat, by omega⟩
    obtain ⟨x, hx⟩ : ∃ x, C[k]? = some x := ⟨_, List.getElem?_eq_getElem (by omega)⟩
    have h1 : ¬ (k : Int) < 0 := by omega
    have h2 : ¬ (k : Int) ≥ C.length := by omega
    rw [gtC_at hx]
    repeat' ((try (conv => whnf)); first | (refine when_ye ?_ ?_; exact rfl) | (apply br_pnE; (exact rfl); omega) | ((with_reducible show Ld _ _ _ _); first | (refine ldE0 hC hx rfl ?_)) | ((with_reducible show IxS _ _ _ _ _); first | ((refine ixE hC hx ?_ ?_; (first | rfl | omega)))))
    exact ⟨rfl, (by first | exact ent_i | (repeat (first | exact Ent.refl | exact Ent.left | refine Ent.cons ?_ | refine Ent.app ?_)))⟩
  · have e : gtC C t = 0 := by unfold gtC; rw [if_neg h]
    rw [e]
    by_cases h1 : t < 0
    · repeat' ((try (conv => whnf)); first | (refine when_ne ?_ ?_; exact rfl) | (refine br_te ?_ ?_; exact rfl) | (apply when_pyE; (exact rfl); omega))
      exact ⟨rfl, (by first | exact ent_i | (repeat (first | exact Ent.refl | exact Ent.left | refine Ent.cons ?_ | refine Ent.app ?_)))⟩
    · have h2 : t ≥ C.length := by omega
      repeat' ((try (conv => whnf)); first | (refine when_ye ?_ ?_; exact rfl) | (apply br_pyE; (exact rfl); omega) | (apply when_pnE; (exact rfl); omega))
      exact ⟨rfl, (by first | exact ent_i | (repeat (first | exact Ent.refl | exact Ent.left | refine Ent.cons ?_ | refine Ent.app ?_)))⟩
theorem sp_latest {C : List Int} {A : List (Int × Int)} (hC : RdE encI 1 W0 own c C) (hA : RdE encAc 2 W0 own a A) (hl : A.length ≤ 65536) (pl o : Int) :
    Pure Tryz.prog W0 144 [.int .i64 pl, .slice a A.length cap, .int .i64 o, .slice c C.length cc] own (.int .i64 (ltM o (fun t => gtC C t) (fAc A) pl A.length)) := by
  refine pure_of (spec_of mixed low_tdrf_latest (by simp [ir_tdrf_latest]) ?_)
  have hg := fun (own' : Own) [EntC own' own] (t : Int) => sp_vget (W0 := W0) (own := own') (cc := cc) hC.up t
  skip
  refine loop_c (σ := Nat) (fun i => [(0, .int .i64 (ltM o (fun t => gtC C t) (fAc A) pl i)), (13, .int .i64 i)]) (fun i => i ≤ A.length) (fun i => A.length - i) 0 (by omega) (by repeat' (first | exact True.intro | refine And.intro ?_ ?_ | exact rfl | exact vi (by omega) | (dsimp only; exact rfl) | (dsimp only; exact vi (by omega)))) rfl ?_
  intro i junk hi
  by_cases hlt : i < A.length
  · have hlt' : (i : Int) < A.length := by omega
    obtain ⟨x, hx⟩ : ∃ x, A[i]? = some x := ⟨_, List.getElem?_eq_getElem hlt⟩
    have hs : ltM o (fun t => gtC C t) (fAc A) pl (i + 1) = if (i : Int) ≠ o ∧ x.2 > gtC C i ∧ x.1 > ltM o (fun t => gtC C t) (fAc A) pl i then x.1 else ltM o (fun t => gtC C t) (fAc A) pl i := by
      show (if (i : Int) ≠ o ∧ (fAc A i).2 > gtC C i ∧ (fAc A i).1 > _ then (fAc A i).1 else _) = _
      rw [fAc_at hx]
    obtain ⟨x1, x2⟩ := x
    dsimp only at hs
    generalize hp : ltM o (fun t => gtC C t) (fAc A) pl i = p at *
    by_cases h1 : (i : Int) = o
    · rw [if_neg (fun h => h.1 h1)] at hs
      have h1' : ¬ (i : Int) ≠ o := fun h => h h1
      repeat' ((try (conv => whnf)); first | (refine when_ne ?_ ?_; exact rfl) | (refine br_fe ?_ ?_; exact rfl) | (apply br_pyE; (exact rfl); omega) | (apply when_pnE; (exact rfl); omega) | ((with_reducible show IxS _ _ _ _ _); first | ((refine ixE hA hx ?_ ?_; (first | rfl | omega)))) | ((with_reducible show LdN _ _ _ _ _); first | (refine ldNEi hA hx rfl ?_)) | (refine ari ?_ ?_; omega) | (apply stN_o; (exact rfl); (exact rfl); exact rfl) | (refine new_i (fun bk hbk => ?_)))
      exact ⟨i + 1, by omega, by omega, by rw [hs]; exact (by repeat' (first | exact True.intro | refine And.intro ?_ ?_ | exact rfl | exact vi (by omega) | (dsimp only; exact rfl) | (dsimp only; exact vi (by omega)))), (by first | exact ent_i | (repeat (first | exact Ent.refl | exact Ent.left | refine Ent.cons ?_ | refine Ent.app ?_)))⟩
    · by_cases h2 : x2 > gtC C i
      · by_cases h3 : x1 > p
        · rw [if_pos ⟨h1, h2, h3⟩] at hs
          repeat' ((try (conv => whnf)); first | (refine when_ye ?_ ?_; exact rfl) | (apply br_pyE; (exact rfl); omega) | (apply when_pyE; (exact rfl); omega) | ((with_reducible show IxS _ _ _ _ _); first | ((refine ixE hA hx ?_ ?_; (first | rfl | omega)))) | ((with_reducible show LdN _ _ _ _ _); first | (refine ldNEi hA hx rfl ?_)) | ((with_reducible show CallQ _ _ _ _ _ _); first | (((refine call_qi (fun ex => hg (ex ++ _) i) ?_ ?_ ?_; (exact rfl); exact rfl)))) | (refine ari ?_ ?_; omega) | (apply ld_o; exact rfl) | (apply stN_o; (exact rfl); (exact rfl); exact rfl) | (refine new_i (fun bk hbk => ?_)))
          exact ⟨i + 1, by omega, by omega, by rw [hs]; exact (by repeat' (first | exact True.intro | refine And.intro ?_ ?_ | exact rfl | exact vi (by omega) | (dsimp only; exact rfl) | (dsimp only; exact vi (by omega)))), (by first | exact ent_i | (repeat (first | exact Ent.refl | exact Ent.left | refine Ent.cons ?_ | refine Ent.app ?_)))⟩
        · rw [if_neg (fun h => h3 h.2.2)] at hs
          repeat' ((try (conv => whnf)); first | (refine when_ye ?_ ?_; exact rfl) | (apply br_pyE; (exact rfl); omega) | (apply br_pnE; (exact rfl); omega) | (apply when_pyE; (exact rfl); omega) | ((with_reducible show IxS _ _ _ _ _); first | ((refine ixE hA hx ?_ ?_; (first | rfl | omega)))) | ((with_reducible show LdN _ _ _ _ _); first | (refine ldNEi hA hx rfl ?_)) | ((with_reducible show CallQ _ _ _ _ _ _); first | (((refine call_qi (fun ex => hg (ex ++ _) i) ?_ ?_ ?_; (exact rfl); exact rfl)))) | (refine ari ?_ ?_; omega) | (apply ld_o; exact rfl) | (apply stN_o; (exact rfl); (exact rfl); exact rfl) | (refine new_i (fun bk hbk => ?_)))
          exact ⟨i + 1, by omega, by omega, by rw [hs]; exact (by repeat' (first | exact True.intro | refine And.intro ?_ ?_ | exact rfl | exact vi (by omega) | (dsimp only; exact rfl) | (dsimp only; exact vi (by omega)))), (by first | exact ent_i | (repeat (first | exact Ent.refl | exact Ent.left | refine Ent.cons ?_ | refine Ent.app ?_)))⟩
      · rw [if_neg (fun h => h2 h.2.1)] at hs
        repeat' ((try (conv => whnf)); first | (refine when_ye ?_ ?_; exact rfl) | (refine when_ne ?_ ?_; exact rfl) | (refine br_fe ?_ ?_; exact rfl) | (apply br_pyE; (exact rfl); omega) | (apply when_pyE; (exact rfl); omega) | (apply when_pnE; (exact rfl); omega) | ((with_reducible show IxS _ _ _ _ _); first | ((refine ixE hA hx ?_ ?_; (first | rfl | omega)))) | ((with_reducible show LdN _ _ _ _ _); first | (refine ldNEi hA hx rfl ?_)) | ((with_reducible show CallQ _ _ _ _ _ _); first | (((refine call_qi (fun ex => hg (ex ++ _) i) ?_ ?_ ?_; (exact rfl); exact rfl)))) | (refine ari ?_ ?_; omega) | (apply ld_o; exact rfl) | (apply stN_o; (exact rfl); (exact rfl); exact rfl) | (refine new_i (fun bk hbk => ?_)))
        exact ⟨i + 1, by omega, by omega, by rw [hs]; exact (by repeat' (first | exact True.intro | refine And.intro ?_ ?_ | exact rfl | exact vi (by omega) | (dsimp only; exact rfl) | (dsimp only; exact vi (by omega)))), (by first | exact ent_i | (repeat (first | exact Ent.refl | exact Ent.left | refine Ent.cons ?_ | refine Ent.app ?_)))⟩
  · have hlt' : ¬ (i : Int) < A.length := by omega
    have hi2 : i = A.length := by omega
    subst hi2
    repeat' ((try (conv => whnf)); first | (apply br_pnE; (exact rfl); omega))
    exact ⟨rfl, (by first | exact ent_i | (repeat (first | exact Ent.refl | exact Ent.left | refine Ent.cons ?_ | refine Ent.app ?_)))⟩
end
end Go.Proofs.YtkieffpjjfebjaaGreatDoor.Ord
namespace Go.Proofs.YtkieffpjjfebjaaGreatDoor.Ord
open Go
set_option maxRecDepth 10000
set_option maxHeartbeats 4000000
def accO (bs : Nat → Nat) (H : Nat → List (Int × Int)) : Nat → Own
  | 0 => []
  | k + 1 => accO bs H k ++ [canE encAc 188 (bs k) (H k)]
theorem accO_congr {bs bs' : Nat → Nat} {H H' : Nat → List (Int × Int)} : ∀ {k}, (∀ j, j < k → bs j = bs' j ∧ H j = H' j) → accO bs H k = accO bs' H' k
  | 0, _ => rfl
  | k + 1, h => by unfold accO; rw [accO_congr fun j hj => h j (by omega), (h k (by omega)).1, (h k (by omega)).2]
theorem accO_at {bs : Nat → Nat} {H : Nat → List (Int × Int)} {i : Nat} : ∀ {k}, i < k → ∃ C, At [canE encAc 188 (bs i) (H i)] (accO bs H k) C ∧ ∀ h, C [canE encAc 188 (bs i) h] = accO bs (fun j => if j = i then h else H j) k
  | 0, h => by omega
  | k + 1, h => by
    by_cases e : i = k
    · subst e
      refine ⟨fun X => accO bs H i ++ (X ++ []), At.skip (A := accO bs H i) (At.head (D := [canE encAc 188 (bs i) (H i)]) (r := [])), fun h => ?_⟩
      show accO bs H i ++ [canE encAc 188 (bs i) h] = accO bs (fun j => if j = i then h else H j) i ++ [canE encAc 188 (bs i) (if i = i then h else H i)]
      rw [if_pos rfl, accO_congr (H := fun j => if j = i then h else H j) (H' := H) (bs' := bs) fun j hj => ⟨rfl, if_neg (by omega)⟩]
    · obtain ⟨C, hC, hh⟩ := accO_at (bs := bs) (H := H) (i := i) (k := k) (by omega)
      refine ⟨fun X => C X ++ [canE encAc 188 (bs k) (H k)], hC.left, fun h => ?_⟩
      show C _ ++ _ = accO bs (fun j => if j = i then h else H j) k ++ [canE encAc 188 (bs k) (if k = i then h else H k)]
      rw [hh, if_neg (fun x : k = i => e x.symm)]
theorem accO_mem {bs : Nat → Nat} {H : Nat → List (Int × Int)} {i : Nat} : ∀ {k}, i < k → canE encAc 188 (bs i) (H i) ∈ accO bs H k
  | 0, h => by omega
  | k + 1, h => by
    unfold accO
    by_cases e : i = k
    · subst e; simp
    · exact List.mem_append_left _ (accO_mem (by omega))
section
variable {W0 : World} {own : Own}
theorem accO_rd {bs : Nat → Nat} {H : Nat → List (Int × Int)} {i k : Nat} (h : i < k) : RdE encAc 2 W0 (accO bs H k) (some ⟨bs i, 0, none⟩) (H i) := rd_blk (accO_mem h) (fun _ _ => rfl) rfl
theorem sp_new1 {tb n : Nat} [m : MemC tb (fun o => o = Obj.cells #[.int .i64 n] 3) own] (hn : n ≤ 65536) :
    Spec Tryz.prog W0 84 [.pointer (some ⟨tb, 0, none⟩)] own fun v own' => ∃ b : Nat, v = .slice (some ⟨b, 0, none⟩) n n ∧ Ent W0 own' (canE encAc 188 b (List.replicate n (0, 0)) :: own) := by
  refine spec_of mixed low_tdrf_New_1 (by simp [ir_tdrf_New_1]) ?_
  repeat' ((try (conv => whnf)); first | (refine mkC (enc := encAc) n (0, 0) rfl rfl rfl (by omega) (fun b6 => ?_)) | (apply ld_o; exact rfl))
  exact ⟨b6, rfl, Ent.refl⟩
end
end Go.Proofs.YtkieffpjjfebjaaGreatDoor.Ord
namespace Go.Proofs.YtkieffpjjfebjaaGreatDoor.Ord
open Go
set_option maxRecDepth 10000
set_option maxHeartbeats 4000000
section
variable {W0 : World} {own : Own} {a : Option Addr} {cap : Nat} {l : List Int}
theorem sp_twords1 (W0 : World) (own : Own) (x : Int) : Pure Tryz.prog W0 140 [.int .i64 x] own (.bool (!inW x)) := by
  refine pure_of (spec_of mixed low_tdrf_words_1 (by simp [ir_tdrf_words_1]) ?_)
  by_cases hw : 0 ≤ x ∧ x < 64
  · have hx1 : inW x = true := by unfold inW; exact decide_eq_true hw
    rw [hx1]
    repeat' ((try (conv => whnf)); first | (refine when_ye ?_ ?_; exact rfl) | (apply when_pnE; (exact rfl); omega))
    exact ⟨ret1 (vb (decide_eq_false (by omega))), (by first | exact ent_i | (repeat (first | exact Ent.refl | exact Ent.left | refine Ent.cons ?_ | refine Ent.app ?_)))⟩
  · have hx1 : inW x = false := by unfold inW; exact decide_eq_false hw
    rw [hx1]
    repeat' ((try (conv => whnf)); first | (refine when_ye ?_ ?_; exact rfl) | (refine when_ne ?_ ?_; exact rfl) | (apply when_dF; (exact rfl); (exact rfl); all_goals intro hc))
    all_goals first | exact ⟨ret1 rfl, (by first | exact ent_i | (repeat (first | exact Ent.refl | exact Ent.left | refine Ent.cons ?_ | refine Ent.app ?_)))⟩ | exact ⟨ret1 (vb (decide_eq_true (by omega))), (by first | exact ent_i | (repeat (first | exact Ent.refl | exact Ent.left | refine Ent.cons ?_ | refine Ent.app ?_)))⟩
theorem oktw1 : okF Tryz.prog 140 = true := by kernel_rfl
theorem sp_twords (hR : RdE encI 1 W0 own a l) (hl : l.length ≤ 9223372036854775807) : Pure Tryz.prog W0 114 [.slice a l.length cap] own (.bool (l.all inW)) := by
  refine pure_of (spec_of mixed low_tdrf_words (by simp [ir_tdrf_words]) ?_)
  have h := sp_containsf (cap := cap) oktw1 (fun own x => sp_twords1 W0 own x) hR hl
  have e : l.all inW = !l.any (fun x => !inW x) := by simp [List.all_eq_not_any_not]
  rw [e]
  generalize l.any (fun x => !inW x) = z at *
  repeat' ((try (conv => whnf)); first | ((with_reducible show CallT _ _ _ _ _ _); first | ((refine call_pe (h) ?_ ?_ ?_; (exact rfl); exact rfl))))
  exact ⟨rfl, (by first | exact ent_i | (repeat (first | exact Ent.refl | exact Ent.left | refine Ent.cons ?_ | refine Ent.app ?_)))⟩
end
abbrev encSl (x : Option Addr × Nat × Nat) : List Value := [.slice x.1 x.2.1 x.2.2]
section
variable {W0 : World} {own : Own}
theorem sp_tfits {e : EH} {cb n eb ec bb bc : Nat} {cnt at1 last : Int} {B : List (Option Addr × Nat × Nat)} (hE : EvR W0 own e) (h0 : Cl W0 own cb 0 (.int .i64 cnt)) (h1 : Cl W0 own cb 1 (.int .i64 at1)) (h2 : Cl W0 own cb 2 (.slice (some ⟨eb, 0, none⟩) n ec)) (h4 : Cl W0 own cb 4 (.slice (some ⟨bb, 0, none⟩) B.length bc))
    (hB : RdE encSl 1 W0 own (some ⟨bb, 0, none⟩) B) (hl : B.length = n) (hc : 0 ≤ cnt) (hlast : ∀ x, B[e.t.toNat]? = some x → (x.1 ≠ none ↔ last = 3)) :
    Pure Tryz.prog W0 85 [.pointer (some ⟨cb, 0, none⟩), e.v] own (.bool (fitsM n (cnt == 0) at1 last e)) := by
  refine pure_of (spec_of mixed low_tdrf_Checker_fits (by simp [ir_tdrf_Checker_fits]) ?_)
  have hr : ∀ own' [EntC own' own], Pure Tryz.prog W0 114 [.slice e.ra e.rl.length e.rc] own' (.bool (e.rl.all inW)) := fun own' h => sp_twords (hE.r.ent (h.h W0)) hE.rn
  have hw : ∀ own' [EntC own' own], Pure Tryz.prog W0 114 [.slice e.wa e.wl.length e.wc] own' (.bool (e.wl.all inW)) := fun own' h => sp_twords (hE.w.ent (h.h W0)) hE.wn
  have h1w : ∀ (own' : Own) (b : Nat), EntC own' [(b, fun o => o = Obj.cells #[.int .i64 e.w] 3)] → Pure Tryz.prog W0 114 [.slice (some ⟨b, 0, none⟩) 1 1] own' (.bool (inW e.w)) := fun own' b h => by
    have := sp_twords (W0 := W0) (own := own') (a := some ⟨b, 0, none⟩) (cap := 1) (l := [e.w]) ((can_rd (enc := encI) (sz := 1) (T := 3) (fun _ _ => rfl)).ent (h.h W0)) (by simp)
    simpa using this
  unfold fitsM
  have er : decide (e.rl = [] ∧ e.wl = []) = decide (e.rl.length = 0 ∧ e.wl.length = 0) := by
    refine decide_eq_decide.2 ?_
    rw [List.length_eq_zero_iff, List.length_eq_zero_iff]
  have ea : e.rl.length = 0 → e.rl.all inW = true := fun h => by rw [List.length_eq_zero_iff.1 h]; rfl
  have eb2 : e.wl.length = 0 → e.wl.all inW = true := fun h => by rw [List.length_eq_zero_iff.1 h]; rfl
  rw [er]
  clear hE er
  obtain ⟨ev, t, k, w, ra, rl, rc, wa, wl, wc⟩ := e
  dsimp only [EH.v] at *
  generalize rl.all inW = zr at *
  generalize wl.all inW = zw at *
  generalize rl.length = lr at *
  generalize wl.length = lw at *
  have hf : (cnt == 0) = true ↔ cnt = 0 := by simp
  generalize (cnt == 0) = fs at *
  by_cases hg : 0 ≤ t ∧ t < n ∧ 1 ≤ k ∧ k ≤ 4
  · by_cases hw0 : 0 ≤ w ∧ w < 64
    · have hw0' : inW w = true := decide_eq_true hw0
      rw [hw0'] at h1w
      by_cases ha : cnt > 0 ∧ ev < at1
      · rw [decide_eq_false (fun h => h.2.2.2.2.1.elim (fun h => absurd (hf.1 h) (by omega)) (fun h => by omega))]
        obtain ⟨a1, a2, a3, a4⟩ := hg
        obtain ⟨a5, a6⟩ := ha
        repeat' ((try (conv => whnf)); first | (refine when_ye ?_ ?_; exact rfl) | (apply br_pyE; (exact rfl); omega) | (apply when_pyE; (exact rfl); omega) | (apply when_pnE; (exact rfl); omega) | ((with_reducible show Ld _ _ _ _); first | (refine ldK h0 ?_) | (refine ldK h1 ?_) | (refine ldK h2 ?_)) | ((with_reducible show CallQ _ _ _ _ _ _); first | (((refine call_qi (fun ex => h1w _ _ ⟨fun _ => Ent.app (Ent.left (D := [_]))⟩) ?_ ?_ ?_; (exact rfl); exact rfl)))) | (apply ld_o; exact rfl) | (refine new_i (fun bk hbk => ?_)))
        all_goals first | exact ⟨rfl, (by first | exact ent_i | (repeat (first | exact Ent.refl | exact Ent.left | refine Ent.cons ?_ | refine Ent.app ?_)))⟩ | (exfalso; omega)
      · have ha' : fs = true ∨ at1 ≤ ev := by
          by_cases h : cnt = 0
          · exact .inl (hf.2 h)
          · exact .inr (by omega)
        rw [decide_eq_true ⟨hg.1, hg.2.1, hg.2.2.1, hg.2.2.2, ha', hw0.1, hw0.2⟩, Bool.true_and]
        by_cases hk : k = 4
        · rw [if_pos hk]
          obtain ⟨j, rfl⟩ : ∃ j : Nat, t = j := ⟨t.toNat, by omega⟩
          obtain ⟨x, hx⟩ : ∃ x, B[j]? = some x := ⟨_, List.getElem?_eq_getElem (by omega)⟩
          have hlx := hlast x (by rw [Int.toNat_natCast]; exact hx)
          clear hlast
          obtain ⟨x1, x2, x3⟩ := x
          dsimp only at hlx
          cases x1 with
          | none =>
            rw [decide_eq_false (fun h => (hlx.2 h) rfl), Bool.and_false]
            repeat' ((try (conv => whnf)); first | (refine when_ye ?_ ?_; exact rfl) | (refine when_ne ?_ ?_; exact rfl) | (refine br_fe ?_ ?_; exact rfl) | (apply br_pnE; (exact rfl); omega) | (apply when_pnE; (exact rfl); omega) | ((with_reducible show Ld _ _ _ _); first | (refine ldE0 hB hx rfl ?_) | (refine ldK h0 ?_) | (refine ldK h1 ?_) | (refine ldK h2 ?_) | (refine ldK h4 ?_)) | ((with_reducible show IxS _ _ _ _ _); first | ((refine ixE hB hx ?_ ?_; (first | rfl | omega)))) | ((with_reducible show CallQ _ _ _ _ _ _); first | (((refine call_qi (fun ex => h1w _ _ ⟨fun _ => Ent.app (Ent.left (D := [_]))⟩) ?_ ?_ ?_; (exact rfl); exact rfl)))) | (apply ld_o; exact rfl) | (refine new_i (fun bk hbk => ?_)) | (apply when_dE; (exact rfl); (exact rfl); all_goals intro hc))
            all_goals first | exact ⟨rfl, (by first | exact ent_i | (repeat (first | exact Ent.refl | exact Ent.left | refine Ent.cons ?_ | refine Ent.app ?_)))⟩ | (exfalso; omega)
          | some ad =>
            rw [decide_eq_true (hlx.1 (by simp)), Bool.and_true]
            cases zr <;> cases zw
            all_goals
              repeat' ((try (conv => whnf)); first | (refine when_ye ?_ ?_; exact rfl) | (refine when_ne ?_ ?_; exact rfl) | (refine br_fe ?_ ?_; exact rfl) | (apply br_pnE; (exact rfl); omega) | (apply when_pnE; (exact rfl); omega) | ((with_reducible show Ld _ _ _ _); first | (refine ldE0 hB hx rfl ?_) | (refine ldK h0 ?_) | (refine ldK h1 ?_) | (refine ldK h2 ?_) | (refine ldK h4 ?_)) | ((with_reducible show IxS _ _ _ _ _); first | ((refine ixE hB hx ?_ ?_; (first | rfl | omega)))) | ((with_reducible show CallQ _ _ _ _ _ _); first | (((refine call_qi (fun ex => h1w _ _ ⟨fun _ => Ent.app (Ent.left (D := [_]))⟩) ?_ ?_ ?_; (exact rfl); exact rfl))) | (((refine call_qi (fun ex => hr (ex ++ _)) ?_ ?_ ?_; (exact rfl); exact rfl))) | (((refine call_qi (fun ex => hw (ex ++ _)) ?_ ?_ ?_; (exact rfl); exact rfl)))) | (apply ld_o; exact rfl) | (refine new_i (fun bk hbk => ?_)) | (apply when_dE; (exact rfl); (exact rfl); all_goals intro hc))
              all_goals first | exact ⟨rfl, (by first | exact ent_i | (repeat (first | exact Ent.refl | exact Ent.left | refine Ent.cons ?_ | refine Ent.app ?_)))⟩ | (exfalso; omega)
        · rw [if_neg hk]
          clear hlast
          by_cases hz : lr = 0 ∧ lw = 0
          · obtain ⟨hz1, hz2⟩ := hz
            rw [decide_eq_true ⟨hz1, hz2⟩, ea hz1, eb2 hz2]
            repeat' ((try (conv => whnf)); first | (refine when_ye ?_ ?_; exact rfl) | (refine when_ne ?_ ?_; exact rfl) | (refine br_fe ?_ ?_; exact rfl) | (apply br_pyE; (exact rfl); omega) | (apply br_pnE; (exact rfl); omega) | (apply when_pyE; (exact rfl); omega) | (apply when_pnE; (exact rfl); omega) | ((with_reducible show Ld _ _ _ _); first | (refine ldK h0 ?_) | (refine ldK h1 ?_) | (refine ldK h2 ?_)) | ((with_reducible show CallQ _ _ _ _ _ _); first | (((refine call_qi (fun ex => h1w _ _ ⟨fun _ => Ent.app (Ent.left (D := [_]))⟩) ?_ ?_ ?_; (exact rfl); exact rfl)))) | (apply ld_o; exact rfl) | (refine new_i (fun bk hbk => ?_)) | (apply when_dE; (exact rfl); (exact rfl); all_goals intro hc))
            all_goals first | exact ⟨ret1 (vb (by simp [hz2])), (by first | exact ent_i | (repeat (first | exact Ent.refl | exact Ent.left | refine Ent.cons ?_ | refine Ent.app ?_)))⟩ | (exfalso; omega)
          · rw [decide_eq_false hz, Bool.and_false]
            repeat' ((try (conv => whnf)); first | (refine when_ye ?_ ?_; exact rfl) | (refine when_ne ?_ ?_; exact rfl) | (refine br_fe ?_ ?_; exact rfl) | (apply br_pyE; (exact rfl); omega) | (apply br_pnE; (exact rfl); omega) | (apply when_pnE; (exact rfl); omega) | ((with_reducible show Ld _ _ _ _); first | (refine ldK h0 ?_) | (refine ldK h1 ?_) | (refine ldK h2 ?_)) | ((with_reducible show CallQ _ _ _ _ _ _); first | (((refine call_qi (fun ex => h1w _ _ ⟨fun _ => Ent.app (Ent.left (D := [_]))⟩) ?_ ?_ ?_; (exact rfl); exact rfl)))) | (apply ld_o; exact rfl) | (refine new_i (fun bk hbk => ?_)) | (apply when_dE; (exact rfl); (exact rfl); all_goals intro hc))
            all_goals first | exact ⟨rfl, (by first | exact ent_i | (repeat (first | exact Ent.refl | exact Ent.left | refine Ent.cons ?_ | refine Ent.app ?_)))⟩ | exact ⟨ret1 (vb (decide_eq_false (by omega))), (by first | exact ent_i | (repeat (first | exact Ent.refl | exact Ent.left | refine Ent.cons ?_ | refine Ent.app ?_)))⟩ | (exfalso; omega)
    · have hw0' : inW w = false := decide_eq_false hw0
      rw [hw0'] at h1w
      rw [decide_eq_false (fun h => hw0 ⟨h.2.2.2.2.2.1, h.2.2.2.2.2.2⟩)]
      obtain ⟨a1, a2, a3, a4⟩ := hg
      repeat' ((try (conv => whnf)); first | (refine when_ye ?_ ?_; exact rfl) | (refine when_ne ?_ ?_; exact rfl) | (refine br_te ?_ ?_; exact rfl) | (apply when_pnE; (exact rfl); omega) | ((with_reducible show Ld _ _ _ _); first | (refine ldK h2 ?_)) | ((with_reducible show CallQ _ _ _ _ _ _); first | (((refine call_qi (fun ex => h1w _ _ ⟨fun _ => Ent.app (Ent.left (D := [_]))⟩) ?_ ?_ ?_; (exact rfl); exact rfl)))) | (apply ld_o; exact rfl) | (refine new_i (fun bk hbk => ?_)))
      all_goals first | exact ⟨rfl, (by first | exact ent_i | (repeat (first | exact Ent.refl | exact Ent.left | refine Ent.cons ?_ | refine Ent.app ?_)))⟩ | (exfalso; omega)
  · rw [decide_eq_false (fun h => hg ⟨h.1, h.2.1, h.2.2.1, h.2.2.2.1⟩)]
    repeat' ((try (conv => whnf)); first | (refine when_ye ?_ ?_; exact rfl) | (refine when_ne ?_ ?_; exact rfl) | (refine br_te ?_ ?_; exact rfl) | (apply when_pyE; (exact rfl); omega) | ((with_reducible show Ld _ _ _ _); first | (refine ldK h2 ?_)) | (apply ld_o; exact rfl) | (refine new_i (fun bk hbk => ?_)) | (apply when_dF; (exact rfl); (exact rfl); all_goals intro hc))
    all_goals first | exact ⟨rfl, (by first | exact ent_i | (repeat (first | exact Ent.refl | exact Ent.left | refine Ent.cons ?_ | refine Ent.app ?_)))⟩ | (exfalso; omega)
end
end Go.Proofs.YtkieffpjjfebjaaGreatDoor.Ord
namespace Go.Proofs.YtkieffpjjfebjaaGreatDoor.Ord
open Go
def ckL (cnt at1 : Int) (eb sb bb n sc : Nat) (V : Nat → Value) (r : RaceM) : List Value :=
  [.int .i64 cnt, .int .i64 at1, .slice (some ⟨eb, 0, none⟩) n n, .slice (some ⟨sb, 0, none⟩) n sc, .slice (some ⟨bb, 0, none⟩) n n] ++ (rowG 256 V ++ encRc r)
section
variable {cnt at1 : Int} {eb sb bb n sc : Nat} {V : Nat → Value} {r : RaceM}
theorem ckL_len : (ckL cnt at1 eb sb bb n sc V r).length = 264 := by
  unfold ckL
  rw [List.length_append, List.length_append, rowG_len]
  rfl
theorem ckL_word {i : Nat} (h : i < 256) : (ckL cnt at1 eb sb bb n sc V r)[5 + i]? = some (V i) := by
  unfold ckL
  rw [List.getElem?_append_right (by simp)]
  have e : 5 + i - [Value.int .i64 cnt, .int .i64 at1, .slice (some ⟨eb, 0, none⟩) n n, .slice (some ⟨sb, 0, none⟩) n sc, .slice (some ⟨bb, 0, none⟩) n n].length = i := by simp
  rw [e, List.getElem?_append_left (by rw [rowG_len]; exact h), rowG_get h]
theorem ckL_race (r' : RaceM) : (ckL cnt at1 eb sb bb n sc V r).take 261 ++ encRc r' ++ (ckL cnt at1 eb sb bb n sc V r).drop 264 = ckL cnt at1 eb sb bb n sc V r' := by
  have e : ∀ r : RaceM, ckL cnt at1 eb sb bb n sc V r = ([.int .i64 cnt, .int .i64 at1, .slice (some ⟨eb, 0, none⟩) n n, .slice (some ⟨sb, 0, none⟩) n sc, .slice (some ⟨bb, 0, none⟩) n n] ++ rowG 256 V) ++ encRc r := fun r => by
    unfold ckL
    rw [List.append_assoc]
  have hl : ([.int .i64 cnt, .int .i64 at1, .slice (some ⟨eb, 0, none⟩) n n, .slice (some ⟨sb, 0, none⟩) n sc, .slice (some ⟨bb, 0, none⟩) n n] ++ rowG 256 V : List Value).length = 261 := by
    rw [List.length_append, rowG_len]; rfl
  have hd : (ckL cnt at1 eb sb bb n sc V r).drop 264 = [] := List.drop_of_length_le (by rw [ckL_len]; exact Nat.le_refl _)
  rw [hd, List.append_nil, e, e, List.take_left' hl]
end
section
variable {W0 : World} {own : Own}
theorem flat_one : ∀ l : List Value, l = (l.map fun v => [v]).flatten
  | [] => rfl
  | x :: r => congrArg (x :: ·) (flat_one r)
theorem cl_of {b i : Nat} {cs : List Value} {T : TypeId} {v : Value} (hm : (b, fun o => o = Obj.cells cs.toArray T) ∈ own) (hv : cs[i]? = some v) : Cl W0 own b i v := by
  have h := rd_blk (W0 := W0) (enc := fun v : Value => [v]) (sz := 1) (l := cs) hm (fun _ _ => rfl) (flat_one cs)
  have := h.cell (j := i) (k := 0) hv (by rfl)
  have this : Kn W0 own fun w => w.cell? ⟨b, 0 + i * 1 + 0, none⟩ = some v := this
  rw [Nat.mul_one, Nat.add_zero, Nat.zero_add] at this
  exact this
end
end Go.Proofs.YtkieffpjjfebjaaGreatDoor.Ord
namespace Go.Proofs.YtkieffpjjfebjaaGreatDoor.Ord
open Go
set_option maxRecDepth 10000
set_option maxHeartbeats 4000000
section
variable {W0 : World} {own : Own}
theorem stN_ck {cnt at1 : Int} {cb eb sb bb n sc k : Nat} {V : Nat → Value} {r : RaceM} {T : TypeId} {K : Own → Prop} {C : (Obj → Prop) → Own} (r' : RaceM) [m : UpC cb (fun o => o = Obj.cells (ckL cnt at1 eb sb bb n sc V r).toArray T (0, 0)) own C] (hk3 : 3 = k)
    (hk : K (C fun o => o = Obj.cells (ckL cnt at1 eb sb bb n sc V r').toArray T (0, 0))) : (encRc r').length = k ∧ StN W0 own ⟨cb, 261, none⟩ (encRc r') K := by
  subst hk3
  refine stN_o (cs := (ckL cnt at1 eb sb bb n sc V r).toArray) (T := T) rfl ?_ rfl ?_
  · show Nat.ble (261 + 3) (ckL cnt at1 eb sb bb n sc V r).length = true
    rw [ckL_len]
    rfl
  · show K (C fun o => o = Obj.cells ((ckL cnt at1 eb sb bb n sc V r).take 261 ++ encRc r' ++ (ckL cnt at1 eb sb bb n sc V r).drop 264).toArray T (0, 0))
    rw [ckL_race]
    exact hk
def tstL (n : Nat) (k o : Int) (wr : Bool) (ck : Nat → Int) (R W TR TW : List (Int × Int)) : Int :=
  let p0 := ltM o ck (fAc W) (-1) n
  let p1 := if wr = true then ltM o ck (fAc R) p0 n else p0
  let p2 := if k ≠ 4 then ltM o ck (fAc TW) p1 n else p1
  if k ≠ 4 ∧ wr = true then ltM o ck (fAc TR) p2 n else p2
theorem fAc_row {n : Nat} {g : Nat → Int × Int} {t : Nat} (h : t < n) : fAc (rowG n g) t = g t := fAc_at (rowG_get h)
theorem tstL_M {l : List EH} {n : Nat} {k o w : Int} {wr : Bool} {C : List Int} {ck : Nat → Int} (hC : ∀ t, t < n → gtC C t = ck t) :
    tstL n k o wr (fun t => gtC C t) (accR l n qR w) (accR l n qW w) (accR l n qTR w) (accR l n qTW w) = tstM l n l.length k o w wr ck := by
  unfold tstL tstM
  have h : ∀ (Q : List EH → Int → Nat → Bool) (pl : Int), ltM o (fun t => gtC C t) (fAc (accR l n Q w)) pl n = ltM o ck (fun t => accG l (Q l w) t l.length) pl n := fun Q pl => ltM_congr fun t ht => ⟨fAc_row ht, hC t ht⟩
  simp only [h]
end
end Go.Proofs.YtkieffpjjfebjaaGreatDoor.Ord
namespace Go.Proofs.YtkieffpjjfebjaaGreatDoor.Ord
open Go
set_option maxRecDepth 10000
set_option maxHeartbeats 4000000
section
variable {W0 : World} {own : Own}
theorem sp_test {e : EH} {cb eb sb bb n sc w bR bW bTR bTW cc : Nat} {cnt at1 : Int} {V : Nat → Value} {r : RaceM} {c : Option Addr} {Cl1 : List Int} {R W TR TW : List (Int × Int)} {wr : Bool} {Cf : (Obj → Prop) → Own}
    [u : UpC cb (fun o => o = Obj.cells (ckL cnt at1 eb sb bb n sc V r).toArray 151 (0, 0)) own Cf]
    (k0 : Cl W0 own cb 0 (.int .i64 cnt)) (hw : w < 64)
    (c0 : Cl W0 own cb (5 + w * 4 + 0) (.slice (some ⟨bR, 0, none⟩) n n)) (c1 : Cl W0 own cb (5 + w * 4 + 1) (.slice (some ⟨bW, 0, none⟩) n n))
    (c2 : Cl W0 own cb (5 + w * 4 + 2) (.slice (some ⟨bTR, 0, none⟩) n n)) (c3 : Cl W0 own cb (5 + w * 4 + 3) (.slice (some ⟨bTW, 0, none⟩) n n))
    (hR : RdE encAc 2 W0 own (some ⟨bR, 0, none⟩) R) (hW : RdE encAc 2 W0 own (some ⟨bW, 0, none⟩) W) (hTR : RdE encAc 2 W0 own (some ⟨bTR, 0, none⟩) TR) (hTW : RdE encAc 2 W0 own (some ⟨bTW, 0, none⟩) TW)
    (lR0 : R.length = n) (lW0 : W.length = n) (lTR0 : TR.length = n) (lTW0 : TW.length = n) (hn16 : n ≤ 65536) (hC : RdE encI 1 W0 own c Cl1) :
    Spec Tryz.prog W0 118 [.pointer (some ⟨cb, 0, none⟩), e.v, .int .i64 w, .bool wr, .slice c Cl1.length cc] own fun v own' => v = .bool (decide (0 ≤ tstL n e.k e.t wr (fun t => gtC Cl1 t) R W TR TW)) ∧ Ent W0 own' (if 0 ≤ tstL n e.k e.t wr (fun t => gtC Cl1 t) R W TR TW then Cf (fun o => o = Obj.cells (ckL cnt at1 eb sb bb n sc V (tstL n e.k e.t wr (fun t => gtC Cl1 t) R W TR TW, cnt, (w : Int))).toArray 151 (0, 0)) else own) := by
  refine spec_of mixed low_tdrf_Checker_test (by simp [ir_tdrf_Checker_test]) ?_
  have lat : ∀ {A : List (Int × Int)} {b : Nat}, RdE encAc 2 W0 own (some ⟨b, 0, none⟩) A → A.length = n → ∀ (own' : Own) [EntC own' own] (pl : Int), Pure Tryz.prog W0 144 [.int .i64 pl, .slice (some ⟨b, 0, none⟩) n n, .int .i64 e.t, .slice c Cl1.length cc] own' (.int .i64 (ltM e.t (fun t => gtC Cl1 t) (fAc A) pl n)) := fun {A b} hA hl own' _ pl => by
    have := sp_latest (W0 := W0) (own := own') (cap := n) (cc := cc) hC.up hA.up (by omega) pl e.t
    rwa [hl] at this
  have lR := fun own' [EntC own' own] => lat hR lR0 own'
  have lW := fun own' [EntC own' own] => lat hW lW0 own'
  have lTR := fun own' [EntC own' own] => lat hTR lTR0 own'
  have lTW := fun own' [EntC own' own] => lat hTW lTW0 own'
  have hw1 : (w : Int) < 64 := by omega
  clear lat hR hW hTR hTW
  unfold tstL
  obtain ⟨ev, t, k, wd, ra, rl, rc, wa, wl, wc⟩ := e
  dsimp only [EH.v] at *
  cases wr with
  | false =>
    by_cases hk : k = 4
    · have hk' : ¬ k ≠ 4 := fun h => h hk
      simp only [hk, ne_eq, not_true_eq_false, and_false, if_false, Bool.false_eq_true]
      have g0 := fun (own' : Own) [EntC own' own] => lW own' (-1)
      generalize ltM t (fun t => gtC Cl1 t) (fAc W) (-1) n = p at *
      by_cases hn : p < 0
      · rw [decide_eq_false (by omega), if_neg (by omega)]
        repeat' ((try (conv => whnf)); first | (refine br_fe ?_ ?_; exact rfl) | (apply br_pyE; (exact rfl); omega) | ((with_reducible show Ld _ _ _ _); first | (refine ldK c1 ?_)) | ((with_reducible show CallQ _ _ _ _ _ _); first | (((refine call_qi (fun ex => g0 (ex ++ _)) ?_ ?_ ?_; (exact rfl); exact rfl)))) | (apply ixj; omega) | (apply ld_o; exact rfl) | (refine new_i (fun bk hbk => ?_)))
        exact ⟨rfl, (by first | exact ent_i | (repeat (first | exact Ent.refl | exact Ent.left | refine Ent.cons ?_ | refine Ent.app ?_)))⟩
      · rw [decide_eq_true (by omega), if_pos (by omega)]
        repeat' ((try (conv => whnf)); first | (refine br_fe ?_ ?_; exact rfl) | (apply br_pnE; (exact rfl); omega) | (refine stN_ck (p, cnt, (w : Int)) ?_ ?_; (exact rfl)) | ((with_reducible show Ld _ _ _ _); first | (refine ldK k0 ?_) | (refine ldK c1 ?_)) | ((with_reducible show CallQ _ _ _ _ _ _); first | (((refine call_qi (fun ex => g0 (ex ++ _)) ?_ ?_ ?_; (exact rfl); exact rfl)))) | (apply ixj; omega) | (apply ld_o; exact rfl) | (refine new_i (fun bk hbk => ?_)))
        exact ⟨rfl, (by first | exact ent_i | (repeat (first | exact Ent.refl | exact Ent.left | refine Ent.cons ?_ | refine Ent.app ?_)))⟩
    · have hk' : k ≠ 4 := hk
      simp only [hk, ne_eq, not_false_eq_true, and_false, if_true, if_false, Bool.false_eq_true]
      have g0 := fun (own' : Own) [EntC own' own] => lW own' (-1)
      generalize ltM t (fun t => gtC Cl1 t) (fAc W) (-1) n = p0 at *
      have g1 := fun (own' : Own) [EntC own' own] => lTW own' p0
      generalize ltM t (fun t => gtC Cl1 t) (fAc TW) p0 n = p at *
      by_cases hn : p < 0
      · rw [decide_eq_false (by omega), if_neg (by omega)]
        repeat' ((try (conv => whnf)); first | (refine br_fe ?_ ?_; exact rfl) | (apply br_pyE; (exact rfl); omega) | ((with_reducible show Ld _ _ _ _); first | (refine ldK c1 ?_) | (refine ldK c3 ?_)) | ((with_reducible show CallQ _ _ _ _ _ _); first | (((refine call_qi (fun ex => g0 (ex ++ _)) ?_ ?_ ?_; (exact rfl); exact rfl))) | (((refine call_qi (fun ex => g1 (ex ++ _)) ?_ ?_ ?_; (exact rfl); exact rfl)))) | (apply ixj; omega) | (apply ld_o; exact rfl) | (refine new_i (fun bk hbk => ?_)))
        exact ⟨rfl, (by first | exact ent_i | (repeat (first | exact Ent.refl | exact Ent.left | refine Ent.cons ?_ | refine Ent.app ?_)))⟩
      · rw [decide_eq_true (by omega), if_pos (by omega)]
        repeat' ((try (conv => whnf)); first | (refine br_fe ?_ ?_; exact rfl) | (apply br_pyE; (exact rfl); omega) | (apply br_pnE; (exact rfl); omega) | (refine stN_ck (p, cnt, (w : Int)) ?_ ?_; (exact rfl)) | ((with_reducible show Ld _ _ _ _); first | (refine ldK k0 ?_) | (refine ldK c1 ?_) | (refine ldK c3 ?_)) | ((with_reducible show CallQ _ _ _ _ _ _); first | (((refine call_qi (fun ex => g0 (ex ++ _)) ?_ ?_ ?_; (exact rfl); exact rfl))) | (((refine call_qi (fun ex => g1 (ex ++ _)) ?_ ?_ ?_; (exact rfl); exact rfl)))) | (apply ixj; omega) | (apply ld_o; exact rfl) | (refine new_i (fun bk hbk => ?_)))
        exact ⟨rfl, (by first | exact ent_i | (repeat (first | exact Ent.refl | exact Ent.left | refine Ent.cons ?_ | refine Ent.app ?_)))⟩
  | true =>
    by_cases hk : k = 4
    · have hk' : ¬ k ≠ 4 := fun h => h hk
      simp only [hk, ne_eq, not_true_eq_false, and_true, if_true, if_false]
      have g0 := fun (own' : Own) [EntC own' own] => lW own' (-1)
      generalize ltM t (fun t => gtC Cl1 t) (fAc W) (-1) n = p0 at *
      have g1 := fun (own' : Own) [EntC own' own] => lR own' p0
      generalize ltM t (fun t => gtC Cl1 t) (fAc R) p0 n = p at *
      by_cases hn : p < 0
      · rw [decide_eq_false (by omega), if_neg (by omega)]
        repeat' ((try (conv => whnf)); first | (refine br_te ?_ ?_; exact rfl) | (refine br_fe ?_ ?_; exact rfl) | (apply br_pyE; (exact rfl); omega) | ((with_reducible show Ld _ _ _ _); first | (refine ldK c0 ?_) | (refine ldK c1 ?_)) | ((with_reducible show CallQ _ _ _ _ _ _); first | (((refine call_qi (fun ex => g0 (ex ++ _)) ?_ ?_ ?_; (exact rfl); exact rfl))) | (((refine call_qi (fun ex => g1 (ex ++ _)) ?_ ?_ ?_; (exact rfl); exact rfl)))) | (apply ixj; omega) | (apply ld_o; exact rfl) | (refine new_i (fun bk hbk => ?_)))
        exact ⟨rfl, (by first | exact ent_i | (repeat (first | exact Ent.refl | exact Ent.left | refine Ent.cons ?_ | refine Ent.app ?_)))⟩
      · rw [decide_eq_true (by omega), if_pos (by omega)]
        repeat' ((try (conv => whnf)); first | (refine br_te ?_ ?_; exact rfl) | (refine br_fe ?_ ?_; exact rfl) | (apply br_pnE; (exact rfl); omega) | (refine stN_ck (p, cnt, (w : Int)) ?_ ?_; (exact rfl)) | ((with_reducible show Ld _ _ _ _); first | (refine ldK k0 ?_) | (refine ldK c0 ?_) | (refine ldK c1 ?_)) | ((with_reducible show CallQ _ _ _ _ _ _); first | (((refine call_qi (fun ex => g0 (ex ++ _)) ?_ ?_ ?_; (exact rfl); exact rfl))) | (((refine call_qi (fun ex => g1 (ex ++ _)) ?_ ?_ ?_; (exact rfl); exact rfl)))) | (apply ixj; omega) | (apply ld_o; exact rfl) | (refine new_i (fun bk hbk => ?_)))
        exact ⟨rfl, (by first | exact ent_i | (repeat (first | exact Ent.refl | exact Ent.left | refine Ent.cons ?_ | refine Ent.app ?_)))⟩
    · have hk' : k ≠ 4 := hk
      simp only [hk, ne_eq, not_false_eq_true, and_true, if_true]
      have g0 := fun (own' : Own) [EntC own' own] => lW own' (-1)
      generalize ltM t (fun t => gtC Cl1 t) (fAc W) (-1) n = p0 at *
      have g1 := fun (own' : Own) [EntC own' own] => lR own' p0
      generalize ltM t (fun t => gtC Cl1 t) (fAc R) p0 n = p1 at *
      have g2 := fun (own' : Own) [EntC own' own] => lTW own' p1
      generalize ltM t (fun t => gtC Cl1 t) (fAc TW) p1 n = p2 at *
      have g3 := fun (own' : Own) [EntC own' own] => lTR own' p2
      generalize ltM t (fun t => gtC Cl1 t) (fAc TR) p2 n = p at *
      by_cases hn : p < 0
      · rw [decide_eq_false (by omega), if_neg (by omega)]
        repeat' ((try (conv => whnf)); first | (refine br_te ?_ ?_; exact rfl) | (apply br_pyE; (exact rfl); omega) | ((with_reducible show Ld _ _ _ _); first | (refine ldK c0 ?_) | (refine ldK c1 ?_) | (refine ldK c2 ?_) | (refine ldK c3 ?_)) | ((with_reducible show CallQ _ _ _ _ _ _); first | (((refine call_qi (fun ex => g0 (ex ++ _)) ?_ ?_ ?_; (exact rfl); exact rfl))) | (((refine call_qi (fun ex => g1 (ex ++ _)) ?_ ?_ ?_; (exact rfl); exact rfl))) | (((refine call_qi (fun ex => g2 (ex ++ _)) ?_ ?_ ?_; (exact rfl); exact rfl))) | (((refine call_qi (fun ex => g3 (ex ++ _)) ?_ ?_ ?_; (exact rfl); exact rfl)))) | (apply ixj; omega) | (apply ld_o; exact rfl) | (refine new_i (fun bk hbk => ?_)))
        exact ⟨rfl, (by first | exact ent_i | (repeat (first | exact Ent.refl | exact Ent.left | refine Ent.cons ?_ | refine Ent.app ?_)))⟩
      · rw [decide_eq_true (by omega), if_pos (by omega)]
        repeat' ((try (conv => whnf)); first | (refine br_te ?_ ?_; exact rfl) | (apply br_pyE; (exact rfl); omega) | (apply br_pnE; (exact rfl); omega) | (refine stN_ck (p, cnt, (w : Int)) ?_ ?_; (exact rfl)) | ((with_reducible show Ld _ _ _ _); first | (refine ldK k0 ?_) | (refine ldK c0 ?_) | (refine ldK c1 ?_) | (refine ldK c2 ?_) | (refine ldK c3 ?_)) | ((with_reducible show CallQ _ _ _ _ _ _); first | (((refine call_qi (fun ex => g0 (ex ++ _)) ?_ ?_ ?_; (exact rfl); exact rfl))) | (((refine call_qi (fun ex => g1 (ex ++ _)) ?_ ?_ ?_; (exact rfl); exact rfl))) | (((refine call_qi (fun ex => g2 (ex ++ _)) ?_ ?_ ?_; (exact rfl); exact rfl))) | (((refine call_qi (fun ex => g3 (ex ++ _)) ?_ ?_ ?_; (exact rfl); exact rfl)))) | (apply ixj; omega) | (apply ld_o; exact rfl) | (refine new_i (fun bk hbk => ?_)))
        exact ⟨rfl, (by first | exact ent_i | (repeat (first | exact Ent.refl | exact Ent.left | refine Ent.cons ?_ | refine Ent.app ?_)))⟩
end
end Go.Proofs.YtkieffpjjfebjaaGreatDoor.Ord
namespace Go.Proofs.YtkieffpjjfebjaaGreatDoor.Ord
open Go
abbrev nnR : RaceM := (-1, -1, -1)
theorem frst_alt {l : List EH} : (frst l = nnR ∧ rcA l l.length = []) ∨ (frst l ≠ nnR ∧ (frst l).2.1 ≥ 0) := by
  by_cases h : rcA l l.length = []
  · exact .inl ⟨frst_none h, h⟩
  · have := frst_ge.2 h
    exact .inr ⟨fun e => by rw [e] at this; revert this; decide, this⟩
def hitP (L : List EH) (n : Nat) (e : EH) (w : Int) (wr : Bool) (C : List Int) : Int := tstL n e.k e.t wr (fun t => gtC C t) (accR L n qR w) (accR L n qW w) (accR L n qTR w) (accR L n qTW w)
theorem hit_race {L : List EH} {n : Nat} {e : EH} {w : Int} {wr : Bool} {C : List Int} {ck : Nat → Int} (hw : Wf (L ++ [e]) n) (h3 : e.k ≠ 3)
    (hA : (e.k ≠ 4 ∧ e.w = w ∧ wr = decide (e.k = 2)) ∨ (e.k = 4 ∧ wr = e.wl.contains w ∧ (e.wl.contains w = true ∨ e.rl.contains w = true))) (hC : ∀ t, t < n → gtC C t = ck t) (hck : ∀ t, 0 ≤ ck t)
    (hH : ∀ x, x < L.length → knd (L ++ [e]) x ≠ 3 → thr (L ++ [e]) x ≠ thr (L ++ [e]) L.length → (HB (L ++ [e]) x (toP (L ++ [e]) L.length) ↔ (eCnt (L ++ [e]) (thr (L ++ [e]) x) x : Int) + 1 ≤ ck (thr (L ++ [e]) x).toNat)) :
    (hitP L n e w wr C < 0 → rcL (L ++ [e]) L.length w L.length = []) ∧ (0 ≤ hitP L n e w wr C → (rcL (L ++ [e]) L.length w L.length).getLast? = some (hitP L n e w wr C, (L.length : Int), w)) := by
  have h := tst_race (l := L ++ [e]) (n := n) (y := L.length) (w := w) (wr := wr) (ck := ck) hw (by simp) (by rw [knd_end]; exact h3) (by rw [knd_end, at_end]; exact hA) hck hH
  have e1 : hitP L n e w wr C = tstM (L ++ [e]) n L.length (knd (L ++ [e]) L.length) (thr (L ++ [e]) L.length) w wr ck := by
    unfold hitP
    rw [tstM_app, knd_end, thr_end, tstL_M hC]
  rw [e1]
  exact h
theorem plain_frst {L : List EH} {n : Nat} {e : EH} (hw : Wf (L ++ [e]) n) (hw0 : Wf L n) (hk : e.k = 1 ∨ e.k = 2) :
    frst (L ++ [e]) = if frst L = nnR then (if 0 ≤ hitP L n e e.w (decide (e.k = 2)) (seenR L n e.t) then (hitP L n e e.w (decide (e.k = 2)) (seenR L n e.t), (L.length : Int), e.w) else nnR) else frst L := by
  have hr := hit_race (w := e.w) (wr := decide (e.k = 2)) (C := seenR L n e.t) (ck := fun t => (seenC (L ++ [e]) e.t L.length (t : Int) : Int)) hw (by omega) (.inl ⟨by omega, rfl, rfl⟩) (fun t ht => by
    unfold seenR
    rw [gtC_at (rowG_get ht), seenC_app (Nat.le_refl _)]) (fun t => by omega) (by
    have := hH_plain (y := L.length) hw (by simp) (by rw [knd_end]; exact hk)
    rwa [thr_end] at this ⊢)
  have ht : touW e = [e.w] := by unfold touW; rw [if_pos hk]
  rcases frst_alt (l := L) with ⟨h1, h2⟩ | ⟨h1, h2⟩
  · rw [if_pos h1]
    split
    · rename_i hp
      exact fr_hit (i := 0) hw hw0 h2 (by omega) (by rw [ht]; rfl) (fun j w' hj => by omega) (hr.2 hp)
    · rename_i hp
      exact fr_none hw hw0 h2 fun _ w hwm => by
        rw [ht, List.mem_singleton] at hwm
        subst hwm
        exact hr.1 (by omega)
  · rw [if_neg h1]
    exact frst_app hw0 h2
theorem begin_frst {L : List EH} {n : Nat} {e : EH} (hw : Wf (L ++ [e]) n) (hw0 : Wf L n) (hk : e.k = 3) : frst (L ++ [e]) = frst L := by
  rcases frst_alt (l := L) with ⟨h1, h2⟩ | ⟨h1, h2⟩
  · rw [h1]
    exact fr_none hw hw0 h2 fun h => absurd hk h
  · exact frst_app hw0 h2
theorem end_test {L : List EH} {n : Nat} {e : EH} {w : Int} (hw : Wf (L ++ [e]) n) (hk : e.k = 4) (hm : w ∈ touW e) :
    (hitP L n e w (e.wl.contains w) (begR L n e.t) < 0 → rcL (L ++ [e]) L.length w L.length = []) ∧ (0 ≤ hitP L n e w (e.wl.contains w) (begR L n e.t) → (rcL (L ++ [e]) L.length w L.length).getLast? = some (hitP L n e w (e.wl.contains w) (begR L n e.t), (L.length : Int), w)) := by
  have h2 := ((touW_spec e).2.1 w).1 hm
  rw [if_neg (by omega)] at h2
  refine hit_race (ck := fun t => (begC (L ++ [e]) e.t L.length (t : Int) : Int)) hw (by omega) (.inr ⟨hk, rfl, ?_⟩) (fun t ht => ?_) (fun t => by omega) ?_
  · simp only [List.contains_iff_mem]
    exact h2.symm
  · unfold begR
    rw [gtC_at (rowG_get ht)]
    unfold begC
    rw [bgL_app L.length (Nat.le_refl _), eCnt_app (bgL_rng (Nat.le_refl _))]
  · have := hH_end (y := L.length) hw (by simp) (by rw [knd_end]; exact hk)
    rwa [thr_end] at this ⊢
def hisQ (q : Nat) : List EH → Int → Nat → Bool := if q = 0 then qR else if q = 1 then qW else if q = 2 then qTR else qTW
def hisR (L : List EH) (n : Nat) (j : Nat) : List (Int × Int) := accR L n (hisQ (j % 4)) ((j / 4 : Nat) : Int)
theorem hisR_len {L : List EH} {n j : Nat} : (hisR L n j).length = n := rowG_len
def hitQ (e : EH) (q : Nat) (w : Int) : Bool := if q = 0 then decide (e.k = 1 ∧ e.w = w) else if q = 1 then decide (e.k = 2 ∧ e.w = w) else if q = 2 then decide (e.k = 4) && e.rl.contains w else decide (e.k = 4) && e.wl.contains w
theorem hisQ_app {L : List EH} {e : EH} {q : Nat} {w : Int} : ∀ i, i < L.length → hisQ q (L ++ [e]) w i = hisQ q L w i := fun i hi => by
  unfold hisQ
  split
  · unfold qR; rw [knd_app hi, at_app hi]
  split
  · unfold qW; rw [knd_app hi, at_app hi]
  split
  · unfold qTR; rw [knd_app hi, at_app hi]
  · unfold qTW; rw [knd_app hi, at_app hi]
theorem hisQ_end {L : List EH} {e : EH} {q : Nat} {w : Int} : hisQ q (L ++ [e]) w L.length = hitQ e q w := by
  unfold hisQ hitQ
  split
  · unfold qR; rw [knd_end, at_end]
  split
  · unfold qW; rw [knd_end, at_end]
  split
  · unfold qTR; rw [knd_end, at_end]
  · unfold qTW; rw [knd_end, at_end]
theorem hisR_end {L : List EH} {e : EH} {n u j : Nat} (hu : e.t = u) : hisR (L ++ [e]) n j = if hitQ e (j % 4) ((j / 4 : Nat) : Int) = true then (hisR L n j).set u ((L.length : Int), (eCnt L u L.length : Int) + 1) else hisR L n j := by
  unfold hisR
  split
  · rename_i h
    exact (accR_set hisQ_app hu (by rw [hisQ_end]; exact h)).symm
  · rename_i h
    exact accR_same hisQ_app (by rw [hisQ_end]; simpa using h)
theorem hisR_begin {L : List EH} {e : EH} {n j : Nat} (hk : e.k = 3) : hisR (L ++ [e]) n j = hisR L n j := by
  unfold hisR
  refine accR_same hisQ_app ?_
  rw [hisQ_end]
  unfold hitQ
  simp [hk]
theorem hisR_plain {L : List EH} {e : EH} {n u w j : Nat} (hu : e.t = u) (hk : e.k = 1 ∨ e.k = 2) (hwd : e.w = w) :
    hisR (L ++ [e]) n j = if j = 4 * w + (if e.k = 2 then 1 else 0) then (hisR L n (4 * w + (if e.k = 2 then 1 else 0))).set u ((L.length : Int), (eCnt L u L.length : Int) + 1) else hisR L n j := by
  rw [hisR_end hu]
  have h : hitQ e (j % 4) ((j / 4 : Nat) : Int) = true ↔ j = 4 * w + (if e.k = 2 then 1 else 0) := by
    obtain ⟨i, q, hj, hq⟩ : ∃ i q, j = 4 * i + q ∧ q < 4 := ⟨j / 4, j % 4, by omega, by omega⟩
    have e1 : j % 4 = q := by omega
    have e2 : j / 4 = i := by omega
    rw [e1, e2]
    subst hj
    unfold hitQ
    have hq4 : q = 0 ∨ q = 1 ∨ q = 2 ∨ q = 3 := by omega
    rcases hk with hk | hk <;> rcases hq4 with rfl | rfl | rfl | rfl <;> simp [hk, hwd] <;> omega
  by_cases hj : j = 4 * w + (if e.k = 2 then 1 else 0)
  · rw [if_pos (h.2 hj), if_pos hj, ← hj]
  · rw [if_neg (fun x => hj (h.1 x)), if_neg hj]
end Go.Proofs.YtkieffpjjfebjaaGreatDoor.Ord
namespace Go.Proofs.YtkieffpjjfebjaaGreatDoor.Ord
open Go
set_option maxRecDepth 10000
instance EntC.mem {b : Nat} {p : Obj → Prop} {own : Own} [m : MemC b p own] : EntC own [(b, p)] := ⟨fun _ => Ent.of_sub (List.singleton_sublist.2 m.h)⟩
abbrev Sl := Option Addr × Nat × Nat
abbrev wrdV (bs : Nat → Nat) (n : Nat) (i : Nat) : Value := .slice (some ⟨bs i, 0, none⟩) n n
abbrev ckN (cnt at1 : Int) (cb eb sb bb n sc : Nat) (bs : Nat → Nat) (r : RaceM) : Nat × (Obj → Prop) := (cb, fun o => o = Obj.cells (ckL cnt at1 eb sb bb n sc (wrdV bs n) r).toArray 151 (0, 0))
abbrev ckO (cnt at1 : Int) (r : RaceM) (E : List Int) (H : Nat → List (Int × Int)) (cb eb sb bb n sc : Nat) (bs : Nat → Nat) (B : List Sl) (D X : Own) : Own :=
  ckN cnt at1 cb eb sb bb n sc bs r :: canE encI 3 eb E :: canE encSl 23 bb B :: (D ++ (accO bs H 256 ++ X))
section
variable {W0 : World} {own : Own} {cnt at1 : Int} {cb eb sb bb n sc : Nat} {V : Nat → Value} {bs : Nat → Nat} {r : RaceM} {T : TypeId}
theorem ldN_ck {k : Nat} {K : Array Value → Prop} [m : MemC cb (fun o => o = Obj.cells (ckL cnt at1 eb sb bb n sc V r).toArray T (0, 0)) own] (hk3 : 3 = k) (hk : K (encRc r).toArray) : LdN W0 own ⟨cb, 261, none⟩ k K := by
  subst hk3
  refine ldN_own (encRc r) m.h ?_ rfl hk
  rw [List.toList_toArray]
  have e : ckL cnt at1 eb sb bb n sc V r = ([.int .i64 cnt, .int .i64 at1, .slice (some ⟨eb, 0, none⟩) n n, .slice (some ⟨sb, 0, none⟩) n sc, .slice (some ⟨bb, 0, none⟩) n n] ++ rowG 256 V) ++ encRc r := by
    unfold ckL
    rw [List.append_assoc]
  have hl : ([.int .i64 cnt, .int .i64 at1, .slice (some ⟨eb, 0, none⟩) n n, .slice (some ⟨sb, 0, none⟩) n sc, .slice (some ⟨bb, 0, none⟩) n n] ++ rowG 256 V : List Value).length = 261 := by
    rw [List.length_append, rowG_len]; rfl
  rw [e, List.drop_left' hl]
  rfl
theorem st_ck0 {c : Int} {K : Own → Prop} {C : (Obj → Prop) → Own} [m : UpC cb (fun o => o = Obj.cells (ckL cnt at1 eb sb bb n sc V r).toArray T (0, 0)) own C] (h : K (C fun o => o = Obj.cells (ckL c at1 eb sb bb n sc V r).toArray T (0, 0))) : StT W0 own ⟨cb, 0, none⟩ (.int .i64 c) K :=
  st_o (by show Nat.ble 1 (ckL cnt at1 eb sb bb n sc V r).length = true; rw [ckL_len]; rfl) rfl h
theorem st_ck1 {c : Int} {K : Own → Prop} {C : (Obj → Prop) → Own} [m : UpC cb (fun o => o = Obj.cells (ckL cnt at1 eb sb bb n sc V r).toArray T (0, 0)) own C] (h : K (C fun o => o = Obj.cells (ckL cnt c eb sb bb n sc V r).toArray T (0, 0))) : StT W0 own ⟨cb, 1, none⟩ (.int .i64 c) K :=
  st_o (by show Nat.ble 2 (ckL cnt at1 eb sb bb n sc V r).length = true; rw [ckL_len]; rfl) rfl h
theorem cl_word {w q : Nat} (hw : w < 64) (hq : q < 4) : Cl W0 [(cb, fun o => o = Obj.cells (ckL cnt at1 eb sb bb n sc (wrdV bs n) r).toArray T (0, 0))] cb (5 + w * 4 + q) (wrdV bs n (4 * w + q)) := by
  have e : 5 + w * 4 + q = 5 + (4 * w + q) := by omega
  rw [e]
  exact cl_of (List.mem_singleton.2 rfl) (ckL_word (by omega))
theorem ldW {w q : Nat} {K : Value → Prop} [m : MemC cb (fun o => o = Obj.cells (ckL cnt at1 eb sb bb n sc (wrdV bs n) r).toArray T (0, 0)) own] (hw : w < 64) (hq : Nat.blt q 4 = true) (hk : K (wrdV bs n (4 * w + q))) : Ld W0 own ⟨cb, 5 + w * 4 + q, none⟩ K := by
  have hq' : q < 4 := by simpa using hq
  have e : 5 + w * 4 + q = 5 + (4 * w + q) := by omega
  rw [e]
  exact ldK (own' := own) (cl_of m.h (ckL_word (by omega))) (m := ⟨fun _ => Ent.refl⟩) hk
theorem hisR_at {L : List EH} {w q : Nat} (hq : q < 4) : hisR L n (4 * w + q) = accR L n (hisQ q) (w : Int) := by
  unfold hisR
  have e1 : (4 * w + q) % 4 = q := by omega
  have e2 : (4 * w + q) / 4 = w := by omega
  rw [e1, e2]
theorem call_e {P : Program} {k k0 : FuncId} {args args0 : List Value} {v0 : Value} {O : Own} {K : Value → Own → Prop} (h : Spec P W0 k0 args0 own fun v own' => v = v0 ∧ Ent W0 own' O) (ek : k = k0) (ea : args = args0) (hk : K v0 O) : CallT P W0 own k args K :=
  call_x (σ := Unit) (R := fun _ v => v = v0) (O := fun _ => O) (fun w hw => (h w hw).mono fun _ _ ⟨v, o, a, b, c, d⟩ => ⟨v, o, a, b, (), c, d⟩) ek ea (fun _ _ e => by subst e; exact hk)
theorem stNC {α : Type} {enc : α → List Value} {sz : Nat} {l : List α} {T : TypeId} {b j o k : Nat} {C : Own → Own} {x : α} {vs : List Value} {K : Own → Prop} (x' : α) (hw : ∀ x ∈ l, (enc x).length = sz) (hx : l[j]? = some x) [m : AtC [canE enc T b l] own C] (hn : vs.length = k) (ho : o = j * sz) (hv : enc x' = vs) (hwv : vs.length = sz) (h1 : vs.all oneC = true)
    (hk : K (C [canE enc T b (l.set j x')])) : vs.length = k ∧ StN W0 own ⟨b, o, none⟩ vs K :=
  stNE_i (T := T) (D := [canE enc T b l]) (a := some ⟨b, 0, none⟩) x' (can_buf hw) hx hn (by simp [ao, ho]) hv hwv h1 (fun D' hb => by
    have hne : l.set j x' ≠ [] := fun e => by
      have := congrArg List.length e
      rw [List.length_set] at this
      have := List.eq_nil_of_length_eq_zero this
      subst this
      simp at hx
    have := can_eq hne (by rw [List.length_set]; exact hb)
    subst this
    exact hk)
theorem eq_rc {a b : RaceM} : eqC [0, 0, 0] (encRc a) (encRc b) = some (decide (a = b)) := by
  obtain ⟨a1, a2, a3⟩ := a
  obtain ⟨b1, b2, b3⟩ := b
  simp [eqC, eqOne, Prod.mk.injEq]
end
end Go.Proofs.YtkieffpjjfebjaaGreatDoor.Ord
