/- What the laws of this seat share, part 8: contracts of the functions, plain laws, and the rules of their proofs. No condition. -/
import Derived.Test.YtofjnldidkiihaaDoorK7
namespace Go.Proofs.YtofjnldidkiihaaDoor
open Go
set_option maxRecDepth 10000
set_option maxHeartbeats 4000000
theorem wrapu_rng (x : Int) : 0 ≤ IntKind.u64.wrap x ∧ IntKind.u64.wrap x ≤ 18446744073709551615 := by
  unfold IntKind.wrap
  have h3 : ((2 : Int) ^ IntKind.u64.bits) = 18446744073709551616 := rfl
  simp only [h3, IntKind.signed, Bool.false_and, Bool.false_eq_true, if_false]
  omega
/-- A trace that is made, where it lies. -/
structure MkR (W0 : World) (X : Own) (n : Nat) (L : List EH) : Prop where
  wf : WF0 L n
  ev : ∀ e ∈ L, EvR W0 X e
  cp : ∀ e ∈ L, e.rc = e.rl.length ∧ e.wc = e.wl.length ∧ e.rl.length ≤ 1 ∧ e.wl.length ≤ 1
theorem MkR.snoc {W0 : World} {X : Own} {n : Nat} {L : List EH} {e : EH} (h : MkR W0 X n L) (he : EvR W0 X e) (hl : L.length + 1 ≤ 65536) (hf : fitsM n (L.length == 0) (paAt L L.length) (lkL L e.t L.length) e = true) (hc : e.rc = e.rl.length ∧ e.wc = e.wl.length ∧ e.rl.length ≤ 1 ∧ e.wl.length ≤ 1) : MkR W0 X n (L ++ [e]) :=
  ⟨h.wf.snoc hl hf, fun x hx => (List.mem_append.1 hx).elim (h.ev x) (fun hx => by rw [List.mem_singleton.1 hx]; exact he), fun x hx => (List.mem_append.1 hx).elim (h.cp x) (fun hx => by rw [List.mem_singleton.1 hx]; exact hc)⟩
theorem MkR.next {W0 : World} {X X' : Own} {n : Nat} {L : List EH} {e : EH} (h : MkR W0 X n L) [EntC X' X] (he : EvR W0 X' e) (hl : L.length + 1 ≤ 65536) (hf : fitsM n (L.length == 0) (paAt L L.length) (lkL L e.t L.length) e = true) (hc : e.rc = e.rl.length ∧ e.wc = e.wl.length ∧ e.rl.length ≤ 1 ∧ e.wl.length ≤ 1 := by exact ⟨rfl, rfl, by simp, by simp⟩) : MkR W0 X' n (L ++ [e]) :=
  MkR.snoc ⟨h.wf, fun e he => (h.ev e he).up, h.cp⟩ he hl hf hc
theorem evr_nil {W0 : World} {X : Own} {ev t k w : Int} : EvR W0 X ⟨ev, t, k, w, none, [], 0, none, [], 0⟩ := ⟨RdE.nil, RdE.nil, by simp, by simp⟩
theorem evr_of {W0 : World} {X : Own} {e : EH} (h1 : RdE encI 1 W0 X e.ra e.rl) (h2 : RdE encI 1 W0 X e.wa e.wl) (h3 : e.rl.length ≤ 1) (h4 : e.wl.length ≤ 1) : EvR W0 X e := ⟨h1, h2, by omega, by omega⟩
theorem rd_one {W0 : World} {X : Own} {b : Nat} {w : Int} [m : MemC b (fun o => o = Obj.cells #[.int .i64 w] 3) X] : RdE encI 1 W0 X (some ⟨b, 0, none⟩) [w] := rd_blk m.h (fun _ _ => rfl) rfl
theorem fits_mk {n q : Nat} {L : List EH} {k w : Int} {ra wa : Option Addr} {rl wl : List Int} {rc wc : Nat} (hq : q < n) (hk : 1 ≤ k ∧ k ≤ 4) (hw : 0 ≤ w ∧ w < 64) (hr : rl.all inW = true) (hwl : wl.all inW = true) (hpa : paAt L L.length ≤ L.length)
    (h4 : (k = 4 ∧ lkL L q L.length = 3) ∨ (k ≠ 4 ∧ rl = [] ∧ wl = [])) : fitsM n (L.length == 0) (paAt L L.length) (lkL L (q : Int) L.length) ⟨L.length, q, k, w, ra, rl, rc, wa, wl, wc⟩ = true := by
  unfold fitsM
  dsimp only
  rw [hr, hwl, decide_eq_true (by omega)]
  rcases h4 with ⟨h, h3⟩ | ⟨h, h1, h2⟩
  · rw [if_pos h, decide_eq_true h3]; rfl
  · rw [if_neg h, decide_eq_true ⟨h1, h2⟩]; rfl
theorem lk_row {L : List EH} {e : EH} {n q : Nat} {k : Int} (ht : e.t = q) (hk : e.k = k) : (rowG n fun t => lkL L t L.length).set q k = rowG n fun t => lkL (L ++ [e]) t (L ++ [e]).length := by
  refine rowG_set_eq fun t _ => ?_
  rw [List.length_append]
  show _ = lkL (L ++ [e]) t (L.length + 1)
  rw [lkL_end, ht, hk]
  by_cases h : t = q
  · subst h; rw [if_pos rfl, if_pos rfl]
  · rw [if_neg h, if_neg (fun h2 => h (by omega))]
section
variable {W0 : World} {own : Own} {a : Option Addr} {cap : Nat} {l : List Int}
theorem sp_events {n : Nat} (hn : 1 ≤ n ∧ n ≤ 4) (hR : RdE encI 1 W0 own a l) (hl : l.length ≤ 65536) :
    Spec Tryd.prog W0 18 [.slice a l.length cap, .int .i64 n] own fun v own' => ∃ s : Option Addr × Nat × List EH × Own × Own, (v = .slice s.1 s.2.2.1.length s.2.1 ∧ s.2.2.1.length = l.length ∧ BufE EH.enc 42 6 s.1 s.2.1 s.2.2.1 s.2.2.2.1 ∧ MkR W0 s.2.2.2.2 n s.2.2.1) ∧ Ent W0 own' (s.2.2.2.2 ++ (s.2.2.2.1 ++ own)) := by
  refine spec_of mixed low_make_Events (by simp [ir_make_Events]) ?_
  repeat' ((try (conv => whnf)); first | (refine when_ye ?_ ?_; exact rfl) | (refine when_ne ?_ ?_; exact rfl) | (refine br_te ?_ ?_; exact rfl) | (refine br_fe ?_ ?_; exact rfl) | (apply br_pyE; (exact rfl); omega) | (apply br_pnE; (exact rfl); omega) | (apply when_pyE; (exact rfl); omega) | (apply when_pnE; (exact rfl); omega) | (apply br_npyE; (exact rfl); omega) | (apply br_npnE; (exact rfl); omega) | (apply when_npyE; (exact rfl); omega) | (apply when_npnE; (exact rfl); omega) | (refine mkC (enc := encI) n 0 rfl rfl rfl (by omega) (fun b6 => ?_)) | (refine ari ?_ ?_; omega) | (refine aru ?_ ?_; omega) | (apply sel; exact rfl) | (refine ix0 rfl ?_) | (refine ix1 rfl ?_) | (refine ix2 rfl ?_) | (refine ix3 rfl ?_) | (apply ixj; omega) | (refine ixn ?_ ?_; omega) | (refine ixs0 rfl ?_) | (refine ixs1 rfl ?_) | (refine ixs_j ?_ ?_; omega) | (refine ixs_n ?_ ?_; omega) | (apply ld_o; exact rfl) | (apply ldN_a; exact rfl) | (apply ldN_o; (exact rfl); exact rfl) | (apply st_o; (exact rfl); exact rfl) | (apply stN_o; (exact rfl); (exact rfl); exact rfl) | (refine new_i (fun bk hbk => ?_)) | (apply when_dE; (exact rfl); (exact rfl); all_goals intro hc) | (apply when_dF; (exact rfl); (exact rfl); all_goals intro hc) | (apply when_nE; (exact rfl); (exact rfl); all_goals intro hc) | (apply when_nF; (exact rfl); (exact rfl); all_goals intro hc) | (apply br_dE; (exact rfl); all_goals intro hc) | (apply br_nE; (exact rfl); all_goals intro hc) | (refine mm_min ?_) | (refine mm_max ?_) | (refine rem_i ?_ ?_; omega) | (refine SelN.mk ?_) | (refine cut_n ?_) | (refine Both.mk ?_ ?_) | (exact True.intro))
  refine loop_i (σ := Option Addr × Nat × List EH × Own × Own) (fun s => [(5, .slice s.1 s.2.2.1.length s.2.1), (7, .int .i64 s.2.2.1.length)]) (fun s => s.2.2.2.2 ++ (s.2.2.2.1 ++ (canE encI 3 b6 (rowG n fun t => lkL s.2.2.1 t s.2.2.1.length) :: own)))
    (fun s => s.2.2.1.length ≤ l.length ∧ BufE EH.enc 42 6 s.1 s.2.1 s.2.2.1 s.2.2.2.1 ∧ MkR W0 s.2.2.2.2 n s.2.2.1 ∧ paAt s.2.2.1 s.2.2.1.length ≤ s.2.2.1.length) (fun s => l.length - s.2.2.1.length) (none, 0, [], [], []) ⟨by simp, BufE.nil, ⟨WF0.nil hn.1 (by omega), fun e he => (by cases he), fun e he => (by cases he)⟩, by simp [paAt]⟩ (by repeat' (first | exact True.intro | refine And.intro ?_ ?_ | exact rfl | exact vi (by omega) | (dsimp only; exact rfl) | (dsimp only; exact vi (by omega)))) (by rw [rowG_rep]; exact Ent.refl) rfl ?_
  rintro ⟨ea, ec, L, D, X⟩ junk ⟨hi, hB, hM, hpa⟩
  dsimp only at hi hB hM hpa ⊢
  by_cases hlt : L.length < l.length
  · obtain ⟨x, hx⟩ : ∃ x, l[L.length]? = some x := ⟨_, List.getElem?_eq_getElem hlt⟩
    have hlt' : (L.length : Int) < l.length := by omega
    repeat' ((try (conv => whnf)); first | (refine when_ye ?_ ?_; exact rfl) | (refine when_ne ?_ ?_; exact rfl) | (refine br_te ?_ ?_; exact rfl) | (refine br_fe ?_ ?_; exact rfl) | (apply br_pyE; (exact rfl); omega) | (apply br_pnE; (exact rfl); omega) | (apply when_pyE; (exact rfl); omega) | (apply when_pnE; (exact rfl); omega) | (apply br_npyE; (exact rfl); omega) | (apply br_npnE; (exact rfl); omega) | (apply when_npyE; (exact rfl); omega) | (apply when_npnE; (exact rfl); omega) | (refine br_pyE ?_ hlt' ?_; exact rfl) | (refine br_pnE ?_ hlt' ?_; exact rfl) | (refine when_pyE ?_ hlt' ?_; exact rfl) | (refine when_pnE ?_ hlt' ?_; exact rfl) | (refine br_npyE ?_ hlt' ?_; exact rfl) | (refine br_npnE ?_ hlt' ?_; exact rfl) | (refine when_npyE ?_ hlt' ?_; exact rfl) | (refine when_npnE ?_ hlt' ?_; exact rfl) | ((with_reducible show Ld _ _ _ _); first | (refine ldE0 hR hx rfl ?_) | (refine ldEk hR hx rfl ?_) | (refine ldE1 hR hx rfl ?_)) | ((with_reducible show IxS _ _ _ _ _); first | ((refine ixE hR hx ?_ ?_; (first | rfl | omega)))) | ((with_reducible show LdN _ _ _ _ _); first | (refine ldNEi hR hx rfl ?_)) | (refine ari ?_ ?_; omega) | (refine aru ?_ ?_; omega) | (apply sel; exact rfl) | (refine ix0 rfl ?_) | (refine ix1 rfl ?_) | (refine ix2 rfl ?_) | (refine ix3 rfl ?_) | (apply ixj; omega) | (refine ixn ?_ ?_; omega) | (refine ixs0 rfl ?_) | (refine ixs1 rfl ?_) | (refine ixs_j ?_ ?_; omega) | (refine ixs_n ?_ ?_; omega) | (apply ld_o; exact rfl) | (apply ldN_a; exact rfl) | (apply ldN_o; (exact rfl); exact rfl) | (apply st_o; (exact rfl); exact rfl) | (apply stN_o; (exact rfl); (exact rfl); exact rfl) | (refine new_i (fun bk hbk => ?_)) | (apply when_dE; (exact rfl); (exact rfl); all_goals intro hc) | (apply when_dF; (exact rfl); (exact rfl); all_goals intro hc) | (apply when_nE; (exact rfl); (exact rfl); all_goals intro hc) | (apply when_nF; (exact rfl); (exact rfl); all_goals intro hc) | (apply br_dE; (exact rfl); all_goals intro hc) | (apply br_nE; (exact rfl); all_goals intro hc) | (refine mm_min ?_) | (refine mm_max ?_) | (refine rem_i ?_ ?_; omega) | (refine SelN.mk ?_) | (refine cut_n ?_) | (refine Both.mk ?_ ?_) | (exact True.intro))
    refine arw ?_
    have hu := wrapu_rng x
    generalize IntKind.u64.wrap x = u at *
    have hn0 : (0 : Int) < n := by omega
    have hq0 := Int.emod_nonneg u (show (n : Int) ≠ 0 by omega)
    have hq1 := Int.emod_lt_of_pos u hn0
    have hd0 : 0 ≤ u / n := Int.ediv_nonneg (by omega) (by omega)
    have hd1 : u / n ≤ u := Int.ediv_le_self _ (by omega)
    repeat' ((try (conv => whnf)); first | (refine when_ye ?_ ?_; exact rfl) | (refine when_ne ?_ ?_; exact rfl) | (refine br_te ?_ ?_; exact rfl) | (refine br_fe ?_ ?_; exact rfl) | (apply br_pyE; (exact rfl); omega) | (apply br_pnE; (exact rfl); omega) | (apply when_pyE; (exact rfl); omega) | (apply when_pnE; (exact rfl); omega) | (apply br_npyE; (exact rfl); omega) | (apply br_npnE; (exact rfl); omega) | (apply when_npyE; (exact rfl); omega) | (apply when_npnE; (exact rfl); omega) | (refine quo_u ?_ ?_; omega) | (refine new_i (fun b12 h12 => ?_); (apply Stop.h)) | (refine ari ?_ ?_; omega) | (refine aru ?_ ?_; omega) | (apply sel; exact rfl) | (refine ix0 rfl ?_) | (refine ix1 rfl ?_) | (refine ix2 rfl ?_) | (refine ix3 rfl ?_) | (apply ixj; omega) | (refine ixn ?_ ?_; omega) | (refine ixs0 rfl ?_) | (refine ixs1 rfl ?_) | (refine ixs_j ?_ ?_; omega) | (refine ixs_n ?_ ?_; omega) | (apply ld_o; exact rfl) | (apply ldN_a; exact rfl) | (apply ldN_o; (exact rfl); exact rfl) | (apply st_o; (exact rfl); exact rfl) | (apply stN_o; (exact rfl); (exact rfl); exact rfl) | (refine new_i (fun bk hbk => ?_)) | (apply when_dE; (exact rfl); (exact rfl); all_goals intro hc) | (apply when_dF; (exact rfl); (exact rfl); all_goals intro hc) | (apply when_nE; (exact rfl); (exact rfl); all_goals intro hc) | (apply when_nF; (exact rfl); (exact rfl); all_goals intro hc) | (apply br_dE; (exact rfl); all_goals intro hc) | (apply br_nE; (exact rfl); all_goals intro hc) | (refine mm_min ?_) | (refine mm_max ?_) | (refine rem_i ?_ ?_; omega) | (refine SelN.mk ?_) | (refine cut_n ?_) | (refine Both.mk ?_ ?_) | (exact True.intro))
    refine Stop.mk ?_
    generalize u % (n : Int) = t at *
    generalize u / (n : Int) = d at *
    obtain ⟨q, rfl⟩ : ∃ q : Nat, t = q := ⟨t.toNat, by omega⟩
    have hqn : q < n := by omega
    have hw0 : 0 ≤ d / 8 % 4 ∧ d / 8 % 4 < 64 := by omega
    have hv0 : 0 ≤ d / 32 % 4 ∧ d / 32 % 4 < 64 := by omega
    generalize d / 8 % 4 = w at *
    generalize d / 32 % 4 = v at *
    have hwi : [w].all inW = true := by simp [inW, hw0]
    have hvi : [v].all inW = true := by simp [inW, hv0]
    have hxl := rowG_get (n := n) (g := fun t : Nat => lkL L t L.length) hqn
    have hll : n = (rowG n fun t : Nat => lkL L t L.length).length := rowG_len.symm
    have hwl : ∀ x ∈ rowG n (fun t : Nat => lkL L t L.length), (encI x).length = 1 := fun _ _ => rfl
    by_cases h1 : lkL L q L.length = 3 ∧ d % 8 < 6
    · obtain ⟨h1, h2⟩ := h1
      repeat' ((try (conv => whnf)); first | (refine when_ye ?_ ?_; exact rfl) | (refine when_ne ?_ ?_; exact rfl) | (refine br_te ?_ ?_; exact rfl) | (refine br_fe ?_ ?_; exact rfl) | (apply br_pyE; (exact rfl); omega) | (apply br_pnE; (exact rfl); omega) | (apply when_pyE; (exact rfl); omega) | (apply when_pnE; (exact rfl); omega) | (apply br_npyE; (exact rfl); omega) | (apply br_npnE; (exact rfl); omega) | (apply when_npyE; (exact rfl); omega) | (apply when_npnE; (exact rfl); omega) | (refine br_pyE ?_ h1 ?_; exact rfl) | (refine br_pnE ?_ h1 ?_; exact rfl) | (refine when_pyE ?_ h1 ?_; exact rfl) | (refine when_pnE ?_ h1 ?_; exact rfl) | (refine br_npyE ?_ h1 ?_; exact rfl) | (refine br_npnE ?_ h1 ?_; exact rfl) | (refine when_npyE ?_ h1 ?_; exact rfl) | (refine when_npnE ?_ h1 ?_; exact rfl) | (refine br_pyE ?_ h2 ?_; exact rfl) | (refine br_pnE ?_ h2 ?_; exact rfl) | (refine when_pyE ?_ h2 ?_; exact rfl) | (refine when_pnE ?_ h2 ?_; exact rfl) | (refine br_npyE ?_ h2 ?_; exact rfl) | (refine br_npnE ?_ h2 ?_; exact rfl) | (refine when_npyE ?_ h2 ?_; exact rfl) | (refine when_npnE ?_ h2 ?_; exact rfl) | (refine new_i (fun br hbr => ?_); (apply Stop.h)) | ((with_reducible show Ld _ _ _ _); first | (refine ldC0 hwl hxl rfl ?_) | (refine ldC1 hwl hxl rfl ?_) | (refine ldC hwl hxl rfl ?_)) | ((with_reducible show IxS _ _ _ _ _); first | ((refine ixC hxl hll ?_ ?_; (first | rfl | omega)))) | ((with_reducible show LdN _ _ _ _ _); first | (refine ldNC hwl hxl rfl ?_)) | (refine ari ?_ ?_; omega) | (refine aru ?_ ?_; omega) | (apply sel; exact rfl) | (refine ix0 rfl ?_) | (refine ix1 rfl ?_) | (refine ix2 rfl ?_) | (refine ix3 rfl ?_) | (apply ixj; omega) | (refine ixn ?_ ?_; omega) | (refine ixs0 rfl ?_) | (refine ixs1 rfl ?_) | (refine ixs_j ?_ ?_; omega) | (refine ixs_n ?_ ?_; omega) | (apply ld_o; exact rfl) | (apply ldN_a; exact rfl) | (apply ldN_o; (exact rfl); exact rfl) | (apply st_o; (exact rfl); exact rfl) | (apply stN_o; (exact rfl); (exact rfl); exact rfl) | (refine new_i (fun bk hbk => ?_)) | (apply when_dE; (exact rfl); (exact rfl); all_goals intro hc) | (apply when_dF; (exact rfl); (exact rfl); all_goals intro hc) | (apply when_nE; (exact rfl); (exact rfl); all_goals intro hc) | (apply when_nF; (exact rfl); (exact rfl); all_goals intro hc) | (apply br_dE; (exact rfl); all_goals intro hc) | (apply br_nE; (exact rfl); all_goals intro hc) | (refine mm_min ?_) | (refine mm_max ?_) | (refine rem_i ?_ ?_; omega) | (refine SelN.mk ?_) | (refine cut_n ?_) | (refine Both.mk ?_ ?_) | (exact True.intro))
      refine Stop.mk ?_
      by_cases h3 : d % 8 < 4
      · repeat' ((try (conv => whnf)); first | (refine when_ye ?_ ?_; exact rfl) | (refine when_ne ?_ ?_; exact rfl) | (refine br_te ?_ ?_; exact rfl) | (refine br_fe ?_ ?_; exact rfl) | (apply br_pyE; (exact rfl); omega) | (apply br_pnE; (exact rfl); omega) | (apply when_pyE; (exact rfl); omega) | (apply when_pnE; (exact rfl); omega) | (apply br_npyE; (exact rfl); omega) | (apply br_npnE; (exact rfl); omega) | (apply when_npyE; (exact rfl); omega) | (apply when_npnE; (exact rfl); omega) | (refine br_pyE ?_ h3 ?_; exact rfl) | (refine br_pnE ?_ h3 ?_; exact rfl) | (refine when_pyE ?_ h3 ?_; exact rfl) | (refine when_pnE ?_ h3 ?_; exact rfl) | (refine br_npyE ?_ h3 ?_; exact rfl) | (refine br_npnE ?_ h3 ?_; exact rfl) | (refine when_npyE ?_ h3 ?_; exact rfl) | (refine when_npnE ?_ h3 ?_; exact rfl) | (refine new_i (fun bw hbw => ?_); (apply Stop.h)) | (refine ari ?_ ?_; omega) | (refine aru ?_ ?_; omega) | (apply sel; exact rfl) | (refine ix0 rfl ?_) | (refine ix1 rfl ?_) | (refine ix2 rfl ?_) | (refine ix3 rfl ?_) | (apply ixj; omega) | (refine ixn ?_ ?_; omega) | (refine ixs0 rfl ?_) | (refine ixs1 rfl ?_) | (refine ixs_j ?_ ?_; omega) | (refine ixs_n ?_ ?_; omega) | (apply ld_o; exact rfl) | (apply ldN_a; exact rfl) | (apply ldN_o; (exact rfl); exact rfl) | (apply st_o; (exact rfl); exact rfl) | (apply stN_o; (exact rfl); (exact rfl); exact rfl) | (refine new_i (fun bk hbk => ?_)) | (apply when_dE; (exact rfl); (exact rfl); all_goals intro hc) | (apply when_dF; (exact rfl); (exact rfl); all_goals intro hc) | (apply when_nE; (exact rfl); (exact rfl); all_goals intro hc) | (apply when_nF; (exact rfl); (exact rfl); all_goals intro hc) | (apply br_dE; (exact rfl); all_goals intro hc) | (apply br_nE; (exact rfl); all_goals intro hc) | (refine mm_min ?_) | (refine mm_max ?_) | (refine rem_i ?_ ?_; omega) | (refine SelN.mk ?_) | (refine cut_n ?_) | (refine Both.mk ?_ ?_) | (exact True.intro))
        refine Stop.mk ?_
        repeat' ((try (conv => whnf)); first | (refine when_ye ?_ ?_; exact rfl) | (refine when_ne ?_ ?_; exact rfl) | (refine br_te ?_ ?_; exact rfl) | (refine br_fe ?_ ?_; exact rfl) | (apply br_pyE; (exact rfl); omega) | (apply br_pnE; (exact rfl); omega) | (apply when_pyE; (exact rfl); omega) | (apply when_pnE; (exact rfl); omega) | (apply br_npyE; (exact rfl); omega) | (apply br_npnE; (exact rfl); omega) | (apply when_npyE; (exact rfl); omega) | (apply when_npnE; (exact rfl); omega) | (refine br_pyE ?_ h3 ?_; exact rfl) | (refine br_pnE ?_ h3 ?_; exact rfl) | (refine when_pyE ?_ h3 ?_; exact rfl) | (refine when_pnE ?_ h3 ?_; exact rfl) | (refine br_npyE ?_ h3 ?_; exact rfl) | (refine br_npnE ?_ h3 ?_; exact rfl) | (refine when_npyE ?_ h3 ?_; exact rfl) | (refine when_npnE ?_ h3 ?_; exact rfl) | (apply app_i (enc := EH.enc) (T := 42) ⟨L.length, q, 4, 0, some ⟨br, 0, none⟩, [w], 1, some ⟨bw, 0, none⟩, [v], 1⟩ hB; (exact rfl); (exact rfl); (omega); (exact rfl); (exact rfl); (omega); intro a1 c1 D1 hb1) | ((with_reducible show Ld _ _ _ _); first | (refine ldC0 hwl hxl rfl ?_) | (refine ldC1 hwl hxl rfl ?_) | (refine ldC hwl hxl rfl ?_)) | ((with_reducible show IxS _ _ _ _ _); first | ((refine ixC hxl hll ?_ ?_; (first | rfl | omega)))) | ((with_reducible show LdN _ _ _ _ _); first | (refine ldNC hwl hxl rfl ?_)) | ((with_reducible show StT _ _ _ _ _); first | ((refine stC (T := 3) (k := 0) (4) hwl hxl ?_ ?_ ?_ ?_ ?_; (exact rfl); (omega); (exact rfl); (exact rfl)))) | (refine ari ?_ ?_; omega) | (refine aru ?_ ?_; omega) | (apply sel; exact rfl) | (refine ix0 rfl ?_) | (refine ix1 rfl ?_) | (refine ix2 rfl ?_) | (refine ix3 rfl ?_) | (apply ixj; omega) | (refine ixn ?_ ?_; omega) | (refine ixs0 rfl ?_) | (refine ixs1 rfl ?_) | (refine ixs_j ?_ ?_; omega) | (refine ixs_n ?_ ?_; omega) | (apply ld_o; exact rfl) | (apply ldN_a; exact rfl) | (apply ldN_o; (exact rfl); exact rfl) | (apply st_o; (exact rfl); exact rfl) | (apply stN_o; (exact rfl); (exact rfl); exact rfl) | (refine new_i (fun bk hbk => ?_)) | (apply when_dE; (exact rfl); (exact rfl); all_goals intro hc) | (apply when_dF; (exact rfl); (exact rfl); all_goals intro hc) | (apply when_nE; (exact rfl); (exact rfl); all_goals intro hc) | (apply when_nF; (exact rfl); (exact rfl); all_goals intro hc) | (apply br_dE; (exact rfl); all_goals intro hc) | (apply br_nE; (exact rfl); all_goals intro hc) | (refine mm_min ?_) | (refine mm_max ?_) | (refine rem_i ?_ ?_; omega) | (refine SelN.mk ?_) | (refine cut_n ?_) | (refine Both.mk ?_ ?_) | (exact True.intro))
        have hrw := lk_row (L := L) (n := n) (q := q) (k := 4) (e := ⟨L.length, q, 4, 0, some ⟨br, 0, none⟩, [w], 1, some ⟨bw, 0, none⟩, [v], 1⟩) rfl rfl
        refine ⟨(a1, c1, L ++ [⟨L.length, q, 4, 0, some ⟨br, 0, none⟩, [w], 1, some ⟨bw, 0, none⟩, [v], 1⟩], D1, ((bw, fun o => o = Obj.cells #[.int .i64 v] 3)) :: ((br, fun o => o = Obj.cells #[.int .i64 w] 3)) :: X), ⟨by simp; omega, hb1, hM.next (evr_of rd_one rd_one (by simp) (by simp)) (by omega) (fits_mk hqn (by omega) (by omega) hwi hvi hpa (.inl ⟨rfl, h1⟩)), ?_⟩, by simp; omega, by simp only [List.length_append, List.length_cons, List.length_nil]; exact (by repeat' (first | exact True.intro | refine And.intro ?_ ?_ | exact rfl | exact vi (by omega) | (dsimp only; exact rfl) | (dsimp only; exact vi (by omega)))), ?_⟩
        · simp only [List.length_append, List.length_cons, List.length_nil]; rw [paAt_end]; simp only; omega
        · simp only; rw [← hrw]; exact Ent.of_sub (((((List.Sublist.refl _).cons _).cons_cons _).cons_cons _).cons _)
      · by_cases h5 : d % 8 = 5
        · repeat' ((try (conv => whnf)); first | (refine when_ye ?_ ?_; exact rfl) | (refine when_ne ?_ ?_; exact rfl) | (refine br_te ?_ ?_; exact rfl) | (refine br_fe ?_ ?_; exact rfl) | (apply br_pyE; (exact rfl); omega) | (apply br_pnE; (exact rfl); omega) | (apply when_pyE; (exact rfl); omega) | (apply when_pnE; (exact rfl); omega) | (apply br_npyE; (exact rfl); omega) | (apply br_npnE; (exact rfl); omega) | (apply when_npyE; (exact rfl); omega) | (apply when_npnE; (exact rfl); omega) | (refine br_pyE ?_ h3 ?_; exact rfl) | (refine br_pnE ?_ h3 ?_; exact rfl) | (refine when_pyE ?_ h3 ?_; exact rfl) | (refine when_pnE ?_ h3 ?_; exact rfl) | (refine br_npyE ?_ h3 ?_; exact rfl) | (refine br_npnE ?_ h3 ?_; exact rfl) | (refine when_npyE ?_ h3 ?_; exact rfl) | (refine when_npnE ?_ h3 ?_; exact rfl) | (refine br_pyE ?_ h5 ?_; exact rfl) | (refine br_pnE ?_ h5 ?_; exact rfl) | (refine when_pyE ?_ h5 ?_; exact rfl) | (refine when_pnE ?_ h5 ?_; exact rfl) | (refine br_npyE ?_ h5 ?_; exact rfl) | (refine br_npnE ?_ h5 ?_; exact rfl) | (refine when_npyE ?_ h5 ?_; exact rfl) | (refine when_npnE ?_ h5 ?_; exact rfl) | (apply app_i (enc := EH.enc) (T := 42) ⟨L.length, q, 4, 0, none, [], 0, none, [], 0⟩ hB; (exact rfl); (exact rfl); (omega); (exact rfl); (exact rfl); (omega); intro a1 c1 D1 hb1) | ((with_reducible show Ld _ _ _ _); first | (refine ldC0 hwl hxl rfl ?_) | (refine ldC1 hwl hxl rfl ?_) | (refine ldC hwl hxl rfl ?_)) | ((with_reducible show IxS _ _ _ _ _); first | ((refine ixC hxl hll ?_ ?_; (first | rfl | omega)))) | ((with_reducible show LdN _ _ _ _ _); first | (refine ldNC hwl hxl rfl ?_)) | ((with_reducible show StT _ _ _ _ _); first | ((refine stC (T := 3) (k := 0) (4) hwl hxl ?_ ?_ ?_ ?_ ?_; (exact rfl); (omega); (exact rfl); (exact rfl)))) | (refine ari ?_ ?_; omega) | (refine aru ?_ ?_; omega) | (apply sel; exact rfl) | (refine ix0 rfl ?_) | (refine ix1 rfl ?_) | (refine ix2 rfl ?_) | (refine ix3 rfl ?_) | (apply ixj; omega) | (refine ixn ?_ ?_; omega) | (refine ixs0 rfl ?_) | (refine ixs1 rfl ?_) | (refine ixs_j ?_ ?_; omega) | (refine ixs_n ?_ ?_; omega) | (apply ld_o; exact rfl) | (apply ldN_a; exact rfl) | (apply ldN_o; (exact rfl); exact rfl) | (apply st_o; (exact rfl); exact rfl) | (apply stN_o; (exact rfl); (exact rfl); exact rfl) | (refine new_i (fun bk hbk => ?_)) | (apply when_dE; (exact rfl); (exact rfl); all_goals intro hc) | (apply when_dF; (exact rfl); (exact rfl); all_goals intro hc) | (apply when_nE; (exact rfl); (exact rfl); all_goals intro hc) | (apply when_nF; (exact rfl); (exact rfl); all_goals intro hc) | (apply br_dE; (exact rfl); all_goals intro hc) | (apply br_nE; (exact rfl); all_goals intro hc) | (refine mm_min ?_) | (refine mm_max ?_) | (refine rem_i ?_ ?_; omega) | (refine SelN.mk ?_) | (refine cut_n ?_) | (refine Both.mk ?_ ?_) | (exact True.intro))
          have hrw := lk_row (L := L) (n := n) (q := q) (k := 4) (e := ⟨L.length, q, 4, 0, none, [], 0, none, [], 0⟩) rfl rfl
          refine ⟨(a1, c1, L ++ [⟨L.length, q, 4, 0, none, [], 0, none, [], 0⟩], D1, X), ⟨by simp; omega, hb1, hM.next evr_nil (by omega) (fits_mk hqn (by omega) (by omega) rfl rfl hpa (.inl ⟨rfl, h1⟩)), ?_⟩, by simp; omega, by simp only [List.length_append, List.length_cons, List.length_nil]; exact (by repeat' (first | exact True.intro | refine And.intro ?_ ?_ | exact rfl | exact vi (by omega) | (dsimp only; exact rfl) | (dsimp only; exact vi (by omega)))), ?_⟩
          · simp only [List.length_append, List.length_cons, List.length_nil]; rw [paAt_end]; simp only; omega
          · simp only; rw [← hrw]; exact Ent.of_sub ((((List.Sublist.refl _).cons _).cons _).cons _)
        · repeat' ((try (conv => whnf)); first | (refine when_ye ?_ ?_; exact rfl) | (refine when_ne ?_ ?_; exact rfl) | (refine br_te ?_ ?_; exact rfl) | (refine br_fe ?_ ?_; exact rfl) | (apply br_pyE; (exact rfl); omega) | (apply br_pnE; (exact rfl); omega) | (apply when_pyE; (exact rfl); omega) | (apply when_pnE; (exact rfl); omega) | (apply br_npyE; (exact rfl); omega) | (apply br_npnE; (exact rfl); omega) | (apply when_npyE; (exact rfl); omega) | (apply when_npnE; (exact rfl); omega) | (refine br_pyE ?_ h3 ?_; exact rfl) | (refine br_pnE ?_ h3 ?_; exact rfl) | (refine when_pyE ?_ h3 ?_; exact rfl) | (refine when_pnE ?_ h3 ?_; exact rfl) | (refine br_npyE ?_ h3 ?_; exact rfl) | (refine br_npnE ?_ h3 ?_; exact rfl) | (refine when_npyE ?_ h3 ?_; exact rfl) | (refine when_npnE ?_ h3 ?_; exact rfl) | (refine br_pyE ?_ h5 ?_; exact rfl) | (refine br_pnE ?_ h5 ?_; exact rfl) | (refine when_pyE ?_ h5 ?_; exact rfl) | (refine when_pnE ?_ h5 ?_; exact rfl) | (refine br_npyE ?_ h5 ?_; exact rfl) | (refine br_npnE ?_ h5 ?_; exact rfl) | (refine when_npyE ?_ h5 ?_; exact rfl) | (refine when_npnE ?_ h5 ?_; exact rfl) | (apply app_i (enc := EH.enc) (T := 42) ⟨L.length, q, 4, 0, some ⟨br, 0, none⟩, [w], 1, none, [], 0⟩ hB; (exact rfl); (exact rfl); (omega); (exact rfl); (exact rfl); (omega); intro a1 c1 D1 hb1) | ((with_reducible show Ld _ _ _ _); first | (refine ldC0 hwl hxl rfl ?_) | (refine ldC1 hwl hxl rfl ?_) | (refine ldC hwl hxl rfl ?_)) | ((with_reducible show IxS _ _ _ _ _); first | ((refine ixC hxl hll ?_ ?_; (first | rfl | omega)))) | ((with_reducible show LdN _ _ _ _ _); first | (refine ldNC hwl hxl rfl ?_)) | ((with_reducible show StT _ _ _ _ _); first | ((refine stC (T := 3) (k := 0) (4) hwl hxl ?_ ?_ ?_ ?_ ?_; (exact rfl); (omega); (exact rfl); (exact rfl)))) | (refine ari ?_ ?_; omega) | (refine aru ?_ ?_; omega) | (apply sel; exact rfl) | (refine ix0 rfl ?_) | (refine ix1 rfl ?_) | (refine ix2 rfl ?_) | (refine ix3 rfl ?_) | (apply ixj; omega) | (refine ixn ?_ ?_; omega) | (refine ixs0 rfl ?_) | (refine ixs1 rfl ?_) | (refine ixs_j ?_ ?_; omega) | (refine ixs_n ?_ ?_; omega) | (apply ld_o; exact rfl) | (apply ldN_a; exact rfl) | (apply ldN_o; (exact rfl); exact rfl) | (apply st_o; (exact rfl); exact rfl) | (apply stN_o; (exact rfl); (exact rfl); exact rfl) | (refine new_i (fun bk hbk => ?_)) | (apply when_dE; (exact rfl); (exact rfl); all_goals intro hc) | (apply when_dF; (exact rfl); (exact rfl); all_goals intro hc) | (apply when_nE; (exact rfl); (exact rfl); all_goals intro hc) | (apply when_nF; (exact rfl); (exact rfl); all_goals intro hc) | (apply br_dE; (exact rfl); all_goals intro hc) | (apply br_nE; (exact rfl); all_goals intro hc) | (refine mm_min ?_) | (refine mm_max ?_) | (refine rem_i ?_ ?_; omega) | (refine SelN.mk ?_) | (refine cut_n ?_) | (refine Both.mk ?_ ?_) | (exact True.intro))
          have hrw := lk_row (L := L) (n := n) (q := q) (k := 4) (e := ⟨L.length, q, 4, 0, some ⟨br, 0, none⟩, [w], 1, none, [], 0⟩) rfl rfl
          refine ⟨(a1, c1, L ++ [⟨L.length, q, 4, 0, some ⟨br, 0, none⟩, [w], 1, none, [], 0⟩], D1, ((br, fun o => o = Obj.cells #[.int .i64 w] 3)) :: X), ⟨by simp; omega, hb1, hM.next (evr_of rd_one RdE.nil (by simp) (by simp)) (by omega) (fits_mk hqn (by omega) (by omega) hwi rfl hpa (.inl ⟨rfl, h1⟩)), ?_⟩, by simp; omega, by simp only [List.length_append, List.length_cons, List.length_nil]; exact (by repeat' (first | exact True.intro | refine And.intro ?_ ?_ | exact rfl | exact vi (by omega) | (dsimp only; exact rfl) | (dsimp only; exact vi (by omega)))), ?_⟩
          · simp only [List.length_append, List.length_cons, List.length_nil]; rw [paAt_end]; simp only; omega
          · simp only; rw [← hrw]; exact Ent.of_sub ((((List.Sublist.refl _).cons _).cons_cons _).cons _)
    · by_cases h2 : d % 8 < 2
      · repeat' ((try (conv => whnf)); first | (refine when_ye ?_ ?_; exact rfl) | (refine when_ne ?_ ?_; exact rfl) | (refine br_te ?_ ?_; exact rfl) | (refine br_fe ?_ ?_; exact rfl) | (apply br_pyE; (exact rfl); omega) | (apply br_pnE; (exact rfl); omega) | (apply when_pyE; (exact rfl); omega) | (apply when_pnE; (exact rfl); omega) | (apply br_npyE; (exact rfl); omega) | (apply br_npnE; (exact rfl); omega) | (apply when_npyE; (exact rfl); omega) | (apply when_npnE; (exact rfl); omega) | (refine br_pyE ?_ h2 ?_; exact rfl) | (refine br_pnE ?_ h2 ?_; exact rfl) | (refine when_pyE ?_ h2 ?_; exact rfl) | (refine when_pnE ?_ h2 ?_; exact rfl) | (refine br_npyE ?_ h2 ?_; exact rfl) | (refine br_npnE ?_ h2 ?_; exact rfl) | (refine when_npyE ?_ h2 ?_; exact rfl) | (refine when_npnE ?_ h2 ?_; exact rfl) | (apply app_i (enc := EH.enc) (T := 42) ⟨L.length, q, 1, w, none, [], 0, none, [], 0⟩ hB; (exact rfl); (exact rfl); (omega); (exact rfl); (exact rfl); (omega); intro a1 c1 D1 hb1) | ((with_reducible show Ld _ _ _ _); first | (refine ldC0 hwl hxl rfl ?_) | (refine ldC1 hwl hxl rfl ?_) | (refine ldC hwl hxl rfl ?_)) | ((with_reducible show IxS _ _ _ _ _); first | ((refine ixC hxl hll ?_ ?_; (first | rfl | omega)))) | ((with_reducible show LdN _ _ _ _ _); first | (refine ldNC hwl hxl rfl ?_)) | ((with_reducible show StT _ _ _ _ _); first | ((refine stC (T := 3) (k := 0) (1) hwl hxl ?_ ?_ ?_ ?_ ?_; (exact rfl); (omega); (exact rfl); (exact rfl)))) | (refine ari ?_ ?_; omega) | (refine aru ?_ ?_; omega) | (apply sel; exact rfl) | (refine ix0 rfl ?_) | (refine ix1 rfl ?_) | (refine ix2 rfl ?_) | (refine ix3 rfl ?_) | (apply ixj; omega) | (refine ixn ?_ ?_; omega) | (refine ixs0 rfl ?_) | (refine ixs1 rfl ?_) | (refine ixs_j ?_ ?_; omega) | (refine ixs_n ?_ ?_; omega) | (apply ld_o; exact rfl) | (apply ldN_a; exact rfl) | (apply ldN_o; (exact rfl); exact rfl) | (apply st_o; (exact rfl); exact rfl) | (apply stN_o; (exact rfl); (exact rfl); exact rfl) | (refine new_i (fun bk hbk => ?_)) | (apply when_dE; (exact rfl); (exact rfl); all_goals intro hc) | (apply when_dF; (exact rfl); (exact rfl); all_goals intro hc) | (apply when_nE; (exact rfl); (exact rfl); all_goals intro hc) | (apply when_nF; (exact rfl); (exact rfl); all_goals intro hc) | (apply br_dE; (exact rfl); all_goals intro hc) | (apply br_nE; (exact rfl); all_goals intro hc) | (refine mm_min ?_) | (refine mm_max ?_) | (refine rem_i ?_ ?_; omega) | (refine SelN.mk ?_) | (refine cut_n ?_) | (refine Both.mk ?_ ?_) | (exact True.intro))
        have hrw := lk_row (L := L) (n := n) (q := q) (k := 1) (e := ⟨L.length, q, 1, w, none, [], 0, none, [], 0⟩) rfl rfl
        refine ⟨(a1, c1, L ++ [⟨L.length, q, 1, w, none, [], 0, none, [], 0⟩], D1, X), ⟨by simp; omega, hb1, hM.next evr_nil (by omega) (fits_mk hqn (by omega) (hw0) rfl rfl hpa (.inr ⟨by omega, rfl, rfl⟩)), ?_⟩, by simp; omega, by simp only [List.length_append, List.length_cons, List.length_nil]; exact (by repeat' (first | exact True.intro | refine And.intro ?_ ?_ | exact rfl | exact vi (by omega) | (dsimp only; exact rfl) | (dsimp only; exact vi (by omega)))), ?_⟩
        · simp only [List.length_append, List.length_cons, List.length_nil]; rw [paAt_end]; simp only; omega
        · simp only; rw [← hrw]; exact Ent.of_sub (((List.Sublist.refl _).cons _).cons _)
      · by_cases h3 : d % 8 < 4
        · repeat' ((try (conv => whnf)); first | (refine when_ye ?_ ?_; exact rfl) | (refine when_ne ?_ ?_; exact rfl) | (refine br_te ?_ ?_; exact rfl) | (refine br_fe ?_ ?_; exact rfl) | (apply br_pyE; (exact rfl); omega) | (apply br_pnE; (exact rfl); omega) | (apply when_pyE; (exact rfl); omega) | (apply when_pnE; (exact rfl); omega) | (apply br_npyE; (exact rfl); omega) | (apply br_npnE; (exact rfl); omega) | (apply when_npyE; (exact rfl); omega) | (apply when_npnE; (exact rfl); omega) | (refine br_pyE ?_ h2 ?_; exact rfl) | (refine br_pnE ?_ h2 ?_; exact rfl) | (refine when_pyE ?_ h2 ?_; exact rfl) | (refine when_pnE ?_ h2 ?_; exact rfl) | (refine br_npyE ?_ h2 ?_; exact rfl) | (refine br_npnE ?_ h2 ?_; exact rfl) | (refine when_npyE ?_ h2 ?_; exact rfl) | (refine when_npnE ?_ h2 ?_; exact rfl) | (refine br_pyE ?_ h3 ?_; exact rfl) | (refine br_pnE ?_ h3 ?_; exact rfl) | (refine when_pyE ?_ h3 ?_; exact rfl) | (refine when_pnE ?_ h3 ?_; exact rfl) | (refine br_npyE ?_ h3 ?_; exact rfl) | (refine br_npnE ?_ h3 ?_; exact rfl) | (refine when_npyE ?_ h3 ?_; exact rfl) | (refine when_npnE ?_ h3 ?_; exact rfl) | (apply app_i (enc := EH.enc) (T := 42) ⟨L.length, q, 2, w, none, [], 0, none, [], 0⟩ hB; (exact rfl); (exact rfl); (omega); (exact rfl); (exact rfl); (omega); intro a1 c1 D1 hb1) | ((with_reducible show Ld _ _ _ _); first | (refine ldC0 hwl hxl rfl ?_) | (refine ldC1 hwl hxl rfl ?_) | (refine ldC hwl hxl rfl ?_)) | ((with_reducible show IxS _ _ _ _ _); first | ((refine ixC hxl hll ?_ ?_; (first | rfl | omega)))) | ((with_reducible show LdN _ _ _ _ _); first | (refine ldNC hwl hxl rfl ?_)) | ((with_reducible show StT _ _ _ _ _); first | ((refine stC (T := 3) (k := 0) (2) hwl hxl ?_ ?_ ?_ ?_ ?_; (exact rfl); (omega); (exact rfl); (exact rfl)))) | (refine ari ?_ ?_; omega) | (refine aru ?_ ?_; omega) | (apply sel; exact rfl) | (refine ix0 rfl ?_) | (refine ix1 rfl ?_) | (refine ix2 rfl ?_) | (refine ix3 rfl ?_) | (apply ixj; omega) | (refine ixn ?_ ?_; omega) | (refine ixs0 rfl ?_) | (refine ixs1 rfl ?_) | (refine ixs_j ?_ ?_; omega) | (refine ixs_n ?_ ?_; omega) | (apply ld_o; exact rfl) | (apply ldN_a; exact rfl) | (apply ldN_o; (exact rfl); exact rfl) | (apply st_o; (exact rfl); exact rfl) | (apply stN_o; (exact rfl); (exact rfl); exact rfl) | (refine new_i (fun bk hbk => ?_)) | (apply when_dE; (exact rfl); (exact rfl); all_goals intro hc) | (apply when_dF; (exact rfl); (exact rfl); all_goals intro hc) | (apply when_nE; (exact rfl); (exact rfl); all_goals intro hc) | (apply when_nF; (exact rfl); (exact rfl); all_goals intro hc) | (apply br_dE; (exact rfl); all_goals intro hc) | (apply br_nE; (exact rfl); all_goals intro hc) | (refine mm_min ?_) | (refine mm_max ?_) | (refine rem_i ?_ ?_; omega) | (refine SelN.mk ?_) | (refine cut_n ?_) | (refine Both.mk ?_ ?_) | (exact True.intro))
          have hrw := lk_row (L := L) (n := n) (q := q) (k := 2) (e := ⟨L.length, q, 2, w, none, [], 0, none, [], 0⟩) rfl rfl
          refine ⟨(a1, c1, L ++ [⟨L.length, q, 2, w, none, [], 0, none, [], 0⟩], D1, X), ⟨by simp; omega, hb1, hM.next evr_nil (by omega) (fits_mk hqn (by omega) (hw0) rfl rfl hpa (.inr ⟨by omega, rfl, rfl⟩)), ?_⟩, by simp; omega, by simp only [List.length_append, List.length_cons, List.length_nil]; exact (by repeat' (first | exact True.intro | refine And.intro ?_ ?_ | exact rfl | exact vi (by omega) | (dsimp only; exact rfl) | (dsimp only; exact vi (by omega)))), ?_⟩
          · simp only [List.length_append, List.length_cons, List.length_nil]; rw [paAt_end]; simp only; omega
          · simp only; rw [← hrw]; exact Ent.of_sub (((List.Sublist.refl _).cons _).cons _)
        · repeat' ((try (conv => whnf)); first | (refine when_ye ?_ ?_; exact rfl) | (refine when_ne ?_ ?_; exact rfl) | (refine br_te ?_ ?_; exact rfl) | (refine br_fe ?_ ?_; exact rfl) | (apply br_pyE; (exact rfl); omega) | (apply br_pnE; (exact rfl); omega) | (apply when_pyE; (exact rfl); omega) | (apply when_pnE; (exact rfl); omega) | (apply br_npyE; (exact rfl); omega) | (apply br_npnE; (exact rfl); omega) | (apply when_npyE; (exact rfl); omega) | (apply when_npnE; (exact rfl); omega) | (refine br_pyE ?_ h2 ?_; exact rfl) | (refine br_pnE ?_ h2 ?_; exact rfl) | (refine when_pyE ?_ h2 ?_; exact rfl) | (refine when_pnE ?_ h2 ?_; exact rfl) | (refine br_npyE ?_ h2 ?_; exact rfl) | (refine br_npnE ?_ h2 ?_; exact rfl) | (refine when_npyE ?_ h2 ?_; exact rfl) | (refine when_npnE ?_ h2 ?_; exact rfl) | (refine br_pyE ?_ h3 ?_; exact rfl) | (refine br_pnE ?_ h3 ?_; exact rfl) | (refine when_pyE ?_ h3 ?_; exact rfl) | (refine when_pnE ?_ h3 ?_; exact rfl) | (refine br_npyE ?_ h3 ?_; exact rfl) | (refine br_npnE ?_ h3 ?_; exact rfl) | (refine when_npyE ?_ h3 ?_; exact rfl) | (refine when_npnE ?_ h3 ?_; exact rfl) | (apply app_i (enc := EH.enc) (T := 42) ⟨L.length, q, 3, 0, none, [], 0, none, [], 0⟩ hB; (exact rfl); (exact rfl); (omega); (exact rfl); (exact rfl); (omega); intro a1 c1 D1 hb1) | ((with_reducible show Ld _ _ _ _); first | (refine ldC0 hwl hxl rfl ?_) | (refine ldC1 hwl hxl rfl ?_) | (refine ldC hwl hxl rfl ?_)) | ((with_reducible show IxS _ _ _ _ _); first | ((refine ixC hxl hll ?_ ?_; (first | rfl | omega)))) | ((with_reducible show LdN _ _ _ _ _); first | (refine ldNC hwl hxl rfl ?_)) | ((with_reducible show StT _ _ _ _ _); first | ((refine stC (T := 3) (k := 0) (3) hwl hxl ?_ ?_ ?_ ?_ ?_; (exact rfl); (omega); (exact rfl); (exact rfl)))) | (refine ari ?_ ?_; omega) | (refine aru ?_ ?_; omega) | (apply sel; exact rfl) | (refine ix0 rfl ?_) | (refine ix1 rfl ?_) | (refine ix2 rfl ?_) | (refine ix3 rfl ?_) | (apply ixj; omega) | (refine ixn ?_ ?_; omega) | (refine ixs0 rfl ?_) | (refine ixs1 rfl ?_) | (refine ixs_j ?_ ?_; omega) | (refine ixs_n ?_ ?_; omega) | (apply ld_o; exact rfl) | (apply ldN_a; exact rfl) | (apply ldN_o; (exact rfl); exact rfl) | (apply st_o; (exact rfl); exact rfl) | (apply stN_o; (exact rfl); (exact rfl); exact rfl) | (refine new_i (fun bk hbk => ?_)) | (apply when_dE; (exact rfl); (exact rfl); all_goals intro hc) | (apply when_dF; (exact rfl); (exact rfl); all_goals intro hc) | (apply when_nE; (exact rfl); (exact rfl); all_goals intro hc) | (apply when_nF; (exact rfl); (exact rfl); all_goals intro hc) | (apply br_dE; (exact rfl); all_goals intro hc) | (apply br_nE; (exact rfl); all_goals intro hc) | (refine mm_min ?_) | (refine mm_max ?_) | (refine rem_i ?_ ?_; omega) | (refine SelN.mk ?_) | (refine cut_n ?_) | (refine Both.mk ?_ ?_) | (exact True.intro))
          all_goals
            have hrw := lk_row (L := L) (n := n) (q := q) (k := 3) (e := ⟨L.length, q, 3, 0, none, [], 0, none, [], 0⟩) rfl rfl
            refine ⟨(a1, c1, L ++ [⟨L.length, q, 3, 0, none, [], 0, none, [], 0⟩], D1, X), ⟨by simp; omega, hb1, hM.next evr_nil (by omega) (fits_mk hqn (by omega) (by omega) rfl rfl hpa (.inr ⟨by omega, rfl, rfl⟩)), ?_⟩, by simp; omega, by simp only [List.length_append, List.length_cons, List.length_nil]; exact (by repeat' (first | exact True.intro | refine And.intro ?_ ?_ | exact rfl | exact vi (by omega) | (dsimp only; exact rfl) | (dsimp only; exact vi (by omega)))), ?_⟩
            · simp only [List.length_append, List.length_cons, List.length_nil]; rw [paAt_end]; simp only; omega
            · simp only; rw [← hrw]; exact Ent.of_sub (((List.Sublist.refl _).cons _).cons _)
  · have hlt' : ¬ (L.length : Int) < l.length := by omega
    repeat' ((try (conv => whnf)); first | (refine when_ye ?_ ?_; exact rfl) | (refine when_ne ?_ ?_; exact rfl) | (refine br_te ?_ ?_; exact rfl) | (refine br_fe ?_ ?_; exact rfl) | (apply br_pyE; (exact rfl); omega) | (apply br_pnE; (exact rfl); omega) | (apply when_pyE; (exact rfl); omega) | (apply when_pnE; (exact rfl); omega) | (apply br_npyE; (exact rfl); omega) | (apply br_npnE; (exact rfl); omega) | (apply when_npyE; (exact rfl); omega) | (apply when_npnE; (exact rfl); omega) | (refine br_pyE ?_ hlt' ?_; exact rfl) | (refine br_pnE ?_ hlt' ?_; exact rfl) | (refine when_pyE ?_ hlt' ?_; exact rfl) | (refine when_pnE ?_ hlt' ?_; exact rfl) | (refine br_npyE ?_ hlt' ?_; exact rfl) | (refine br_npnE ?_ hlt' ?_; exact rfl) | (refine when_npyE ?_ hlt' ?_; exact rfl) | (refine when_npnE ?_ hlt' ?_; exact rfl) | (refine ari ?_ ?_; omega) | (refine aru ?_ ?_; omega) | (apply sel; exact rfl) | (refine ix0 rfl ?_) | (refine ix1 rfl ?_) | (refine ix2 rfl ?_) | (refine ix3 rfl ?_) | (apply ixj; omega) | (refine ixn ?_ ?_; omega) | (refine ixs0 rfl ?_) | (refine ixs1 rfl ?_) | (refine ixs_j ?_ ?_; omega) | (refine ixs_n ?_ ?_; omega) | (apply ld_o; exact rfl) | (apply ldN_a; exact rfl) | (apply ldN_o; (exact rfl); exact rfl) | (apply st_o; (exact rfl); exact rfl) | (apply stN_o; (exact rfl); (exact rfl); exact rfl) | (refine new_i (fun bk hbk => ?_)) | (apply when_dE; (exact rfl); (exact rfl); all_goals intro hc) | (apply when_dF; (exact rfl); (exact rfl); all_goals intro hc) | (apply when_nE; (exact rfl); (exact rfl); all_goals intro hc) | (apply when_nF; (exact rfl); (exact rfl); all_goals intro hc) | (apply br_dE; (exact rfl); all_goals intro hc) | (apply br_nE; (exact rfl); all_goals intro hc) | (refine mm_min ?_) | (refine mm_max ?_) | (refine rem_i ?_ ?_; omega) | (refine SelN.mk ?_) | (refine cut_n ?_) | (refine Both.mk ?_ ?_) | (exact True.intro))
    exact ⟨(ea, ec, L, D, X), ⟨rfl, (by show L.length = l.length; omega), hB, hM⟩, Ent.of_sub ((((List.Sublist.refl own).cons _).append_left D).append_left X)⟩
end
end Go.Proofs.YtofjnldidkiihaaDoor
namespace Go.Proofs.YtofjnldidkiihaaDoor
open Go
set_option maxRecDepth 100000
/-- strongtx/tdrf.Run -/
def ir_tdrf_Run : IFn := ⟨40,
 (.seq (.region [
 ⟨some 4, .new 28 (.agg #[.int .i64 0, .int .i64 0, .int .i64 0]), none⟩,
 ⟨some 5, .mov (.const (.int .i64 0)), none⟩])
 (.seq (.region [
 ⟨some 13, .mov (.tmp 1), none⟩,
 ⟨some 14, .call 23 [(.tmp 13)], none⟩,
 ⟨some 12, .mov (.tmp 14), none⟩,
 ⟨some 15, .ext (.tmp 12) 0, none⟩,
 ⟨some 16, .ext (.tmp 12) 1, none⟩,
 ⟨some 6, .mov (.tmp 15), none⟩,
 ⟨some 7, .mov (.tmp 16), none⟩])
 (.seq (.seq (.region [
 ⟨some 17, .mov (.tmp 7), none⟩,
 ⟨some 18, .bin .neq (.tmp 17) (.const (.int .i64 0)), none⟩])
 (.cond (.tmp 18)
  (.seq (.region [
  ⟨some 19, .ldN 3 (.global 0), none⟩,
  ⟨some 20, .mov (.tmp 7), none⟩,
  ⟨none, .stN 3 (.tmp 4) (.tmp 19), none⟩,
  ⟨some 5, .mov (.tmp 20), none⟩])
  .ret)
  .skip))
 (.seq (.seq (.region [
 ⟨some 21, .mov (.tmp 0), none⟩,
 ⟨some 22, .len (.tmp 21), none⟩,
 ⟨some 23, .mov (.const (.int .i64 0)), none⟩])
 (.block 0
  (.loop 274869521952
   (.seq (.region [
   ⟨some 24, .bin .lss (.tmp 23) (.tmp 22), none⟩])
   (.seq (.cond (.tmp 24)
    .skip
    (.exit 0))
   (.seq (.block 1
    (.seq (.region [
    ⟨some 25, .ixs 6 (.tmp 21) (.tmp 23), none⟩,
    ⟨some 26, .ldN 6 (.tmp 25), none⟩,
    ⟨some 9, .new 42 (.agg #[.int .i64 0, .int .i64 0, .int .i64 0, .int .i64 0, .slice none 0 0, .slice none 0 0]), none⟩,
    ⟨none, .stN 6 (.tmp 9) (.tmp 26), none⟩])
    (.seq (.region [
    ⟨some 28, .mov (.tmp 6), none⟩,
    ⟨some 29, .ldN 6 (.tmp 9), none⟩,
    ⟨some 30, .call 26 [(.tmp 28), (.tmp 29)], none⟩,
    ⟨some 27, .mov (.tmp 30), none⟩,
    ⟨some 31, .ext (.tmp 27) 0, none⟩,
    ⟨some 32, .ext (.tmp 27) 1, none⟩,
    ⟨some 10, .new 28 (.agg #[.int .i64 0, .int .i64 0, .int .i64 0]), none⟩,
    ⟨none, .stN 3 (.tmp 10) (.tmp 31), none⟩,
    ⟨some 11, .mov (.tmp 32), none⟩])
    (.seq (.region [
    ⟨some 33, .mov (.tmp 11), none⟩,
    ⟨some 34, .bin .neq (.tmp 33) (.const (.int .i64 0)), none⟩])
    (.cond (.tmp 34)
     (.seq (.region [
     ⟨some 35, .ldN 3 (.global 0), none⟩,
     ⟨some 36, .mov (.tmp 11), none⟩,
     ⟨none, .stN 3 (.tmp 4) (.tmp 35), none⟩,
     ⟨some 5, .mov (.tmp 36), none⟩])
     .ret)
     .skip)))))
   (.region [
   ⟨some 37, .bin .add (.tmp 23) (.const (.int .i64 1)), none⟩,
   ⟨some 23, .mov (.tmp 37), none⟩])))))))
 (.seq (.region [
 ⟨some 38, .mov (.tmp 6), none⟩,
 ⟨some 39, .call 24 [(.tmp 38)], none⟩,
 ⟨none, .stN 3 (.tmp 4) (.tmp 39), none⟩,
 ⟨some 5, .mov (.const (.int .i64 0)), none⟩])
 .ret))))),
 [.cellN 4 3, .tmp 5]⟩
theorem low_tdrf_Run : lowFn Tryd.prog movers 19 = some ⟨ir_tdrf_Run.n, strip ir_tdrf_Run.body, ir_tdrf_Run.res⟩ := by kernel_rfl
/-- (*strongtx/tdrf.Checker).Race -/
def ir_tdrf_Checker_Race : IFn := ⟨10,
 (.seq (.region [
 ⟨some 2, .new 28 (.agg #[.int .i64 0, .int .i64 0, .int .i64 0]), none⟩])
 (.seq (.seq (.region [
 ⟨some 3, .mov (.tmp 0), none⟩,
 ⟨some 4, .nilq false 1 (.tmp 3) (.const (.pointer none)), none⟩])
 (.cond (.tmp 4)
  (.seq (.region [
  ⟨some 5, .ldN 3 (.global 0), none⟩,
  ⟨none, .stN 3 (.tmp 2) (.tmp 5), none⟩])
  .ret)
  .skip))
 (.seq (.region [
 ⟨some 6, .mov (.tmp 0), none⟩,
 ⟨some 7, .nilc (.tmp 6), none⟩,
 ⟨some 8, .fad 261 (.tmp 7), none⟩,
 ⟨some 9, .ldN 3 (.tmp 8), none⟩,
 ⟨none, .stN 3 (.tmp 2) (.tmp 9), none⟩])
 .ret))),
 [.cellN 2 3]⟩
theorem low_tdrf_Checker_Race : lowFn Tryd.prog movers 24 = some ⟨ir_tdrf_Checker_Race.n, strip ir_tdrf_Checker_Race.body, ir_tdrf_Checker_Race.res⟩ := by kernel_rfl
/-- (*strongtx/tdrf.Checker).Clock -/
def ir_tdrf_Checker_Clock : IFn := ⟨28,
 (.seq (.region [
 ⟨some 4, .mov (.const (.slice none 0 0)), none⟩])
 (.seq (.seq (.region [
 ⟨some 5, .mov (.tmp 0), none⟩,
 ⟨some 6, .nilq false 1 (.tmp 5) (.const (.pointer none)), none⟩,
 ⟨some 7, .mov (.tmp 6), none⟩,
 ⟨some 8, .mov (.tmp 1), some (7, false)⟩,
 ⟨some 9, .bin .lss (.tmp 8) (.const (.int .i64 0)), some (7, false)⟩,
 ⟨some 10, .pick (.tmp 7) (.const (.bool true)) (.tmp 9), none⟩,
 ⟨some 11, .mov (.tmp 10), none⟩,
 ⟨some 12, .mov (.tmp 1), some (11, false)⟩,
 ⟨some 13, .mov (.tmp 0), some (11, false)⟩,
 ⟨some 14, .nilc (.tmp 13), some (11, false)⟩,
 ⟨some 15, .fad 3 (.tmp 14), some (11, false)⟩,
 ⟨some 16, .ld (.tmp 15), some (11, false)⟩,
 ⟨some 17, .len (.tmp 16), some (11, false)⟩,
 ⟨some 18, .bin .geq (.tmp 12) (.tmp 17), some (11, false)⟩,
 ⟨some 19, .pick (.tmp 11) (.const (.bool true)) (.tmp 18), none⟩])
 (.cond (.tmp 19)
  (.seq (.region [
  ⟨some 4, .mov (.const (.slice none 0 0)), none⟩])
  .ret)
  .skip))
 (.seq (.region [
 ⟨some 20, .mov (.tmp 0), none⟩,
 ⟨some 21, .nilc (.tmp 20), none⟩,
 ⟨some 22, .fad 3 (.tmp 21), none⟩,
 ⟨some 23, .ld (.tmp 22), none⟩,
 ⟨some 24, .mov (.tmp 1), none⟩,
 ⟨some 25, .ixs 1 (.tmp 23) (.tmp 24), none⟩,
 ⟨some 26, .ld (.tmp 25), none⟩,
 ⟨some 27, .call 44 [(.tmp 26)], none⟩,
 ⟨some 4, .mov (.tmp 27), none⟩])
 .ret))),
 [.tmp 4]⟩
theorem low_tdrf_Checker_Clock : lowFn Tryd.prog movers 29 = some ⟨ir_tdrf_Checker_Clock.n, strip ir_tdrf_Checker_Clock.body, ir_tdrf_Checker_Clock.res⟩ := by kernel_rfl
/-- strongtx/tdrf.New$1 -/
def ir_tdrf_New_1 : IFn := ⟨4,
 (.seq (.region [
 ⟨some 1, .mov (.const (.slice none 0 0)), none⟩])
 (.seq (.region [
 ⟨some 2, .ld (.tmp 0), none⟩,
 ⟨some 3, .mk 91 2 16 [(.int .i64 0), (.int .i64 0)] (.tmp 2) (.tmp 2), none⟩,
 ⟨some 1, .mov (.tmp 3), none⟩])
 .ret)),
 [.tmp 1]⟩
theorem low_tdrf_New_1 : lowFn Tryd.prog movers 41 = some ⟨ir_tdrf_New_1.n, strip ir_tdrf_New_1.body, ir_tdrf_New_1.res⟩ := by kernel_rfl
/-- (*strongtx/tdrf.Checker).fits -/
def ir_tdrf_Checker_fits : IFn := ⟨83,
 (.seq (.region [
 ⟨some 3, .box 42 (.tmp 1), none⟩,
 ⟨some 4, .mov (.const (.bool false)), none⟩])
 (.seq (.seq (.draw (.f ⟨some 5, .fad 1 (.tmp 3), none⟩
 (.f ⟨some 6, .ld (.tmp 5), none⟩
 (.f ⟨some 7, .bin .lss (.tmp 6) (.const (.int .i64 0)), none⟩
 (.f ⟨some 8, .mov (.tmp 7), none⟩
 (.f ⟨some 9, .fad 1 (.tmp 3), some (8, false)⟩
 (.f ⟨some 10, .ld (.tmp 9), some (8, false)⟩
 (.f ⟨some 11, .mov (.tmp 0), some (8, false)⟩
 (.f ⟨some 12, .nilc (.tmp 11), some (8, false)⟩
 (.f ⟨some 13, .fad 2 (.tmp 12), some (8, false)⟩
 (.f ⟨some 14, .ld (.tmp 13), some (8, false)⟩
 (.f ⟨some 15, .len (.tmp 14), some (8, false)⟩
 (.f ⟨some 16, .bin .geq (.tmp 10) (.tmp 15), some (8, false)⟩
 (.f ⟨some 17, .pick (.tmp 8) (.const (.bool true)) (.tmp 16), none⟩
 (.f ⟨some 18, .mov (.tmp 17), none⟩
 (.f ⟨some 19, .fad 2 (.tmp 3), some (18, false)⟩
 (.f ⟨some 20, .ld (.tmp 19), some (18, false)⟩
 (.f ⟨some 21, .bin .lss (.tmp 20) (.const (.int .i64 1)), some (18, false)⟩
 (.f ⟨some 22, .pick (.tmp 18) (.const (.bool true)) (.tmp 21), none⟩
 (.f ⟨some 23, .mov (.tmp 22), none⟩
 (.f ⟨some 24, .fad 2 (.tmp 3), some (23, false)⟩
 (.f ⟨some 25, .ld (.tmp 24), some (23, false)⟩
 (.f ⟨some 26, .bin .gtr (.tmp 25) (.const (.int .i64 4)), some (23, false)⟩
 (.f ⟨some 27, .pick (.tmp 23) (.const (.bool true)) (.tmp 26), none⟩
 (.f ⟨some 28, .mov (.tmp 27), none⟩
 (.f ⟨some 29, .fad 3 (.tmp 3), some (28, false)⟩
 (.f ⟨some 30, .ld (.tmp 29), some (28, false)⟩
 (.m ⟨some 31, .blds 3 1 [(.int .i64 0)] [(0, 1, (.tmp 30))], some (28, false)⟩
 (.f ⟨some 32, .call 61 [(.tmp 31)], some (28, false)⟩
 (.f ⟨some 33, .not (.tmp 32), some (28, false)⟩
 (.f ⟨some 34, .pick (.tmp 28) (.const (.bool true)) (.tmp 33), none⟩
 (.f ⟨some 35, .mov (.tmp 34), none⟩
 (.f ⟨some 36, .mov (.tmp 0), some (35, false)⟩
 (.f ⟨some 37, .nilc (.tmp 36), some (35, false)⟩
 (.f ⟨some 38, .fad 0 (.tmp 37), some (35, false)⟩
 (.f ⟨some 39, .ld (.tmp 38), some (35, false)⟩
 (.f ⟨some 40, .bin .gtr (.tmp 39) (.const (.int .i64 0)), some (35, false)⟩
 (.f ⟨some 41, .mov (.tmp 40), some (35, false)⟩
 (.f ⟨some 42, .fad 0 (.tmp 3), some (41, true)⟩
 (.f ⟨some 43, .ld (.tmp 42), some (41, true)⟩
 (.f ⟨some 44, .mov (.tmp 0), some (41, true)⟩
 (.f ⟨some 45, .nilc (.tmp 44), some (41, true)⟩
 (.f ⟨some 46, .fad 1 (.tmp 45), some (41, true)⟩
 (.f ⟨some 47, .ld (.tmp 46), some (41, true)⟩
 (.f ⟨some 48, .bin .lss (.tmp 43) (.tmp 47), some (41, true)⟩
 (.f ⟨some 49, .pick (.tmp 41) (.tmp 48) (.const (.bool false)), some (35, false)⟩
 (.f ⟨some 50, .pick (.tmp 35) (.const (.bool true)) (.tmp 49), none⟩
 .done)))))))))))))))))))))))))))))))))))))))))))))))
 (.cond (.tmp 50)
  (.seq (.region [
  ⟨some 4, .mov (.const (.bool false)), none⟩])
  .ret)
  .skip))
 (.seq (.seq (.region [
 ⟨some 51, .fad 2 (.tmp 3), none⟩,
 ⟨some 52, .ld (.tmp 51), none⟩,
 ⟨some 53, .bin .neq (.tmp 52) (.const (.int .i64 4)), none⟩])
 (.cond (.tmp 53)
  (.seq (.region [
  ⟨some 54, .fad 4 (.tmp 3), none⟩,
  ⟨some 55, .ld (.tmp 54), none⟩,
  ⟨some 56, .len (.tmp 55), none⟩,
  ⟨some 57, .bin .eql (.tmp 56) (.const (.int .i64 0)), none⟩,
  ⟨some 58, .mov (.tmp 57), none⟩,
  ⟨some 59, .fad 5 (.tmp 3), some (58, true)⟩,
  ⟨some 60, .ld (.tmp 59), some (58, true)⟩,
  ⟨some 61, .len (.tmp 60), some (58, true)⟩,
  ⟨some 62, .bin .eql (.tmp 61) (.const (.int .i64 0)), some (58, true)⟩,
  ⟨some 63, .pick (.tmp 58) (.tmp 62) (.const (.bool false)), none⟩,
  ⟨some 4, .mov (.tmp 63), none⟩])
  .ret)
  .skip))
 (.seq (.draw (.f ⟨some 64, .mov (.tmp 0), none⟩
 (.f ⟨some 65, .nilc (.tmp 64), none⟩
 (.f ⟨some 66, .fad 4 (.tmp 65), none⟩
 (.f ⟨some 67, .ld (.tmp 66), none⟩
 (.f ⟨some 68, .fad 1 (.tmp 3), none⟩
 (.f ⟨some 69, .ld (.tmp 68), none⟩
 (.f ⟨some 70, .ixs 1 (.tmp 67) (.tmp 69), none⟩
 (.f ⟨some 71, .ld (.tmp 70), none⟩
 (.f ⟨some 72, .nilq true 0 (.tmp 71) (.const (.slice none 0 0)), none⟩
 (.f ⟨some 73, .mov (.tmp 72), none⟩
 (.f ⟨some 74, .fad 4 (.tmp 3), some (73, true)⟩
 (.f ⟨some 75, .ld (.tmp 74), some (73, true)⟩
 (.f ⟨some 76, .call 61 [(.tmp 75)], some (73, true)⟩
 (.f ⟨some 77, .pick (.tmp 73) (.tmp 76) (.const (.bool false)), none⟩
 (.f ⟨some 78, .mov (.tmp 77), none⟩
 (.f ⟨some 79, .fad 5 (.tmp 3), some (78, true)⟩
 (.f ⟨some 80, .ld (.tmp 79), some (78, true)⟩
 (.f ⟨some 81, .call 61 [(.tmp 80)], some (78, true)⟩
 (.f ⟨some 82, .pick (.tmp 78) (.tmp 81) (.const (.bool false)), none⟩
 (.f ⟨some 4, .mov (.tmp 82), none⟩
 .done)))))))))))))))))))))
 .ret)))),
 [.tmp 4]⟩
theorem low_tdrf_Checker_fits : lowFn Tryd.prog movers 43 = some ⟨ir_tdrf_Checker_fits.n, strip ir_tdrf_Checker_fits.body, ir_tdrf_Checker_fits.res⟩ := by kernel_rfl
/-- (*strongtx/tdrf.Checker).plain -/
def ir_tdrf_Checker_plain : IFn := ⟨68,
 (.seq (.region [
 ⟨some 3, .box 42 (.tmp 1), none⟩])
 (.seq (.region [
 ⟨some 6, .fad 2 (.tmp 3), none⟩,
 ⟨some 7, .ld (.tmp 6), none⟩,
 ⟨some 8, .bin .eql (.tmp 7) (.const (.int .i64 2)), none⟩,
 ⟨some 4, .mov (.tmp 8), none⟩])
 (.seq (.seq (.draw (.f ⟨some 9, .mov (.tmp 0), none⟩
 (.f ⟨some 10, .nilc (.tmp 9), none⟩
 (.f ⟨some 11, .fad 261 (.tmp 10), none⟩
 (.f ⟨some 12, .ldN 3 (.tmp 11), none⟩
 (.f ⟨some 13, .ldN 3 (.global 0), none⟩
 (.f ⟨some 14, .ageq false [0, 0, 0] (.tmp 12) (.tmp 13), none⟩
 .done)))))))
 (.cond (.tmp 14)
  (.draw (.f ⟨some 15, .mov (.tmp 0), none⟩
  (.f ⟨some 16, .ldN 6 (.tmp 3), none⟩
  (.f ⟨some 17, .fad 3 (.tmp 3), none⟩
  (.f ⟨some 18, .ld (.tmp 17), none⟩
  (.f ⟨some 19, .mov (.tmp 4), none⟩
  (.f ⟨some 20, .mov (.tmp 0), none⟩
  (.f ⟨some 21, .nilc (.tmp 20), none⟩
  (.f ⟨some 22, .fad 3 (.tmp 21), none⟩
  (.f ⟨some 23, .ld (.tmp 22), none⟩
  (.f ⟨some 24, .fad 1 (.tmp 3), none⟩
  (.f ⟨some 25, .ld (.tmp 24), none⟩
  (.f ⟨some 26, .ixs 1 (.tmp 23) (.tmp 25), none⟩
  (.f ⟨some 27, .ld (.tmp 26), none⟩
  (.m ⟨some 28, .call 65 [(.tmp 15), (.tmp 16), (.tmp 18), (.tmp 19), (.tmp 27)], none⟩
  .done)))))))))))))))
  .skip))
 (.seq (.draw (.f ⟨some 29, .mov (.tmp 0), none⟩
 (.f ⟨some 30, .nilc (.tmp 29), none⟩
 (.f ⟨some 31, .fad 0 (.tmp 30), none⟩
 (.f ⟨some 32, .ld (.tmp 31), none⟩
 (.f ⟨some 33, .mov (.tmp 0), none⟩
 (.f ⟨some 34, .nilc (.tmp 33), none⟩
 (.f ⟨some 35, .fad 2 (.tmp 34), none⟩
 (.f ⟨some 36, .ld (.tmp 35), none⟩
 (.f ⟨some 37, .fad 1 (.tmp 3), none⟩
 (.f ⟨some 38, .ld (.tmp 37), none⟩
 (.f ⟨some 39, .ixs 1 (.tmp 36) (.tmp 38), none⟩
 (.f ⟨some 40, .ld (.tmp 39), none⟩
 (.f ⟨some 41, .bin .add (.tmp 40) (.const (.int .i64 1)), none⟩
 (.f ⟨some 42, .bld [(.int .i64 0), (.int .i64 0)] [(0, 1, (.tmp 32)), (1, 1, (.tmp 41))], none⟩
 (.m ⟨some 5, .new 91 (.agg #[.int .i64 0, .int .i64 0]), none⟩
 (.m ⟨none, .stN 2 (.tmp 5) (.tmp 42), none⟩
 .done)))))))))))))))))
 (.seq (.region [
 ⟨some 43, .mov (.tmp 4), none⟩])
 (.cond (.tmp 43)
  (.draw (.f ⟨some 44, .mov (.tmp 0), none⟩
  (.f ⟨some 45, .fad 3 (.tmp 3), none⟩
  (.f ⟨some 46, .ld (.tmp 45), none⟩
  (.f ⟨some 47, .nilc (.tmp 44), none⟩
  (.f ⟨some 48, .fad 5 (.tmp 47), none⟩
  (.f ⟨some 49, .ixa 64 4 (.tmp 48) (.tmp 46), none⟩
  (.f ⟨some 50, .fad 1 (.tmp 49), none⟩
  (.f ⟨some 51, .ld (.tmp 50), none⟩
  (.f ⟨some 52, .fad 1 (.tmp 3), none⟩
  (.f ⟨some 53, .ld (.tmp 52), none⟩
  (.f ⟨some 54, .ldN 2 (.tmp 5), none⟩
  (.f ⟨some 55, .ixs 2 (.tmp 51) (.tmp 53), none⟩
  (.m ⟨none, .stN 2 (.tmp 55) (.tmp 54), none⟩
  .done))))))))))))))
  (.draw (.f ⟨some 56, .mov (.tmp 0), none⟩
  (.f ⟨some 57, .fad 3 (.tmp 3), none⟩
  (.f ⟨some 58, .ld (.tmp 57), none⟩
  (.f ⟨some 59, .nilc (.tmp 56), none⟩
  (.f ⟨some 60, .fad 5 (.tmp 59), none⟩
  (.f ⟨some 61, .ixa 64 4 (.tmp 60) (.tmp 58), none⟩
  (.f ⟨some 62, .fad 0 (.tmp 61), none⟩
  (.f ⟨some 63, .ld (.tmp 62), none⟩
  (.f ⟨some 64, .fad 1 (.tmp 3), none⟩
  (.f ⟨some 65, .ld (.tmp 64), none⟩
  (.f ⟨some 66, .ldN 2 (.tmp 5), none⟩
  (.f ⟨some 67, .ixs 2 (.tmp 63) (.tmp 65), none⟩
  (.m ⟨none, .stN 2 (.tmp 67) (.tmp 66), none⟩
  .done)))))))))))))))))))),
 []⟩
theorem low_tdrf_Checker_plain : lowFn Tryd.prog movers 46 = some ⟨ir_tdrf_Checker_plain.n, strip ir_tdrf_Checker_plain.body, ir_tdrf_Checker_plain.res⟩ := by kernel_rfl
/-- strongtx/tdrf.words -/
def ir_tdrf_words : IFn := ⟨6,
 (.seq (.region [
 ⟨some 2, .mov (.const (.bool false)), none⟩])
 (.seq (.region [
 ⟨some 3, .mov (.tmp 0), none⟩,
 ⟨some 4, .call 72 [(.tmp 3), (.func 73)], none⟩,
 ⟨some 5, .not (.tmp 4), none⟩,
 ⟨some 2, .mov (.tmp 5), none⟩])
 .ret)),
 [.tmp 2]⟩
theorem low_tdrf_words : lowFn Tryd.prog movers 61 = some ⟨ir_tdrf_words.n, strip ir_tdrf_words.body, ir_tdrf_words.res⟩ := by kernel_rfl
/-- (*strongtx/tdrf.Checker).test -/
def ir_tdrf_Checker_test : IFn := ⟨70,
 (.seq (.region [
 ⟨some 6, .box 42 (.tmp 1), none⟩,
 ⟨some 10, .mov (.const (.bool false)), none⟩])
 (.seq (.region [
 ⟨some 13, .mov (.tmp 0), none⟩,
 ⟨some 14, .mov (.tmp 2), none⟩,
 ⟨some 15, .nilc (.tmp 13), none⟩,
 ⟨some 16, .fad 5 (.tmp 15), none⟩,
 ⟨some 17, .ixa 64 4 (.tmp 16) (.tmp 14), none⟩,
 ⟨some 11, .mov (.tmp 17), none⟩])
 (.seq (.draw (.f ⟨some 18, .mov (.tmp 11), none⟩
 (.f ⟨some 19, .nilc (.tmp 18), none⟩
 (.f ⟨some 20, .fad 1 (.tmp 19), none⟩
 (.f ⟨some 21, .ld (.tmp 20), none⟩
 (.f ⟨some 22, .fad 1 (.tmp 6), none⟩
 (.f ⟨some 23, .ld (.tmp 22), none⟩
 (.f ⟨some 24, .mov (.tmp 4), none⟩
 (.f ⟨some 25, .call 77 [(.const (.int .i64 (-1))), (.tmp 21), (.tmp 23), (.tmp 24)], none⟩
 (.f ⟨some 12, .mov (.tmp 25), none⟩
 .done))))))))))
 (.seq (.seq (.region [
 ⟨some 26, .mov (.tmp 3), none⟩])
 (.cond (.tmp 26)
  (.draw (.f ⟨some 27, .mov (.tmp 12), none⟩
  (.f ⟨some 28, .mov (.tmp 11), none⟩
  (.f ⟨some 29, .nilc (.tmp 28), none⟩
  (.f ⟨some 30, .fad 0 (.tmp 29), none⟩
  (.f ⟨some 31, .ld (.tmp 30), none⟩
  (.f ⟨some 32, .fad 1 (.tmp 6), none⟩
  (.f ⟨some 33, .ld (.tmp 32), none⟩
  (.f ⟨some 34, .mov (.tmp 4), none⟩
  (.f ⟨some 35, .call 77 [(.tmp 27), (.tmp 31), (.tmp 33), (.tmp 34)], none⟩
  (.f ⟨some 12, .mov (.tmp 35), none⟩
  .done)))))))))))
  .skip))
 (.seq (.seq (.region [
 ⟨some 36, .fad 2 (.tmp 6), none⟩,
 ⟨some 37, .ld (.tmp 36), none⟩,
 ⟨some 38, .bin .neq (.tmp 37) (.const (.int .i64 4)), none⟩])
 (.cond (.tmp 38)
  (.seq (.draw (.f ⟨some 39, .mov (.tmp 12), none⟩
  (.f ⟨some 40, .mov (.tmp 11), none⟩
  (.f ⟨some 41, .nilc (.tmp 40), none⟩
  (.f ⟨some 42, .fad 3 (.tmp 41), none⟩
  (.f ⟨some 43, .ld (.tmp 42), none⟩
  (.f ⟨some 44, .fad 1 (.tmp 6), none⟩
  (.f ⟨some 45, .ld (.tmp 44), none⟩
  (.f ⟨some 46, .mov (.tmp 4), none⟩
  (.f ⟨some 47, .call 77 [(.tmp 39), (.tmp 43), (.tmp 45), (.tmp 46)], none⟩
  (.f ⟨some 12, .mov (.tmp 47), none⟩
  .done)))))))))))
  (.seq (.region [
  ⟨some 48, .mov (.tmp 3), none⟩])
  (.cond (.tmp 48)
   (.draw (.f ⟨some 49, .mov (.tmp 12), none⟩
   (.f ⟨some 50, .mov (.tmp 11), none⟩
   (.f ⟨some 51, .nilc (.tmp 50), none⟩
   (.f ⟨some 52, .fad 2 (.tmp 51), none⟩
   (.f ⟨some 53, .ld (.tmp 52), none⟩
   (.f ⟨some 54, .fad 1 (.tmp 6), none⟩
   (.f ⟨some 55, .ld (.tmp 54), none⟩
   (.f ⟨some 56, .mov (.tmp 4), none⟩
   (.f ⟨some 57, .call 77 [(.tmp 49), (.tmp 53), (.tmp 55), (.tmp 56)], none⟩
   (.f ⟨some 12, .mov (.tmp 57), none⟩
   .done)))))))))))
   .skip)))
  .skip))
 (.seq (.seq (.region [
 ⟨some 58, .mov (.tmp 12), none⟩,
 ⟨some 59, .bin .lss (.tmp 58) (.const (.int .i64 0)), none⟩])
 (.cond (.tmp 59)
  (.seq (.region [
  ⟨some 10, .mov (.const (.bool false)), none⟩])
  .ret)
  .skip))
 (.seq (.region [
 ⟨some 60, .mov (.tmp 0), none⟩,
 ⟨some 61, .mov (.tmp 12), none⟩,
 ⟨some 62, .mov (.tmp 0), none⟩,
 ⟨some 63, .nilc (.tmp 62), none⟩,
 ⟨some 64, .fad 0 (.tmp 63), none⟩,
 ⟨some 65, .ld (.tmp 64), none⟩,
 ⟨some 66, .mov (.tmp 2), none⟩,
 ⟨some 67, .bld [(.int .i64 0), (.int .i64 0), (.int .i64 0)] [(0, 1, (.tmp 61)), (1, 1, (.tmp 65)), (2, 1, (.tmp 66))], none⟩,
 ⟨some 68, .nilc (.tmp 60), none⟩,
 ⟨some 69, .fad 261 (.tmp 68), none⟩,
 ⟨none, .stN 3 (.tmp 69) (.tmp 67), none⟩])
 (.seq (.region [
 ⟨some 10, .mov (.const (.bool true)), none⟩])
 .ret)))))))),
 [.tmp 10]⟩
theorem low_tdrf_Checker_test : lowFn Tryd.prog movers 65 = some ⟨ir_tdrf_Checker_test.n, strip ir_tdrf_Checker_test.body, ir_tdrf_Checker_test.res⟩ := by kernel_rfl
/-- strongtx/tdrf.words$1 -/
def ir_tdrf_words_1 : IFn := ⟨9,
 (.seq (.region [
 ⟨some 2, .mov (.const (.bool false)), none⟩])
 (.seq (.region [
 ⟨some 3, .mov (.tmp 0), none⟩,
 ⟨some 4, .bin .lss (.tmp 3) (.const (.int .i64 0)), none⟩,
 ⟨some 5, .mov (.tmp 4), none⟩,
 ⟨some 6, .mov (.tmp 0), some (5, false)⟩,
 ⟨some 7, .bin .geq (.tmp 6) (.const (.int .i64 64)), some (5, false)⟩,
 ⟨some 8, .pick (.tmp 5) (.const (.bool true)) (.tmp 7), none⟩,
 ⟨some 2, .mov (.tmp 8), none⟩])
 .ret)),
 [.tmp 2]⟩
theorem low_tdrf_words_1 : lowFn Tryd.prog movers 73 = some ⟨ir_tdrf_words_1.n, strip ir_tdrf_words_1.body, ir_tdrf_words_1.res⟩ := by kernel_rfl
/-- strongtx/tdrf.latest -/
def ir_tdrf_latest : IFn := ⟨39,
 (.seq (.region [
 ⟨some 8, .mov (.const (.int .i64 0)), none⟩])
 (.seq (.seq (.region [
 ⟨some 11, .mov (.tmp 1), none⟩,
 ⟨some 12, .len (.tmp 11), none⟩,
 ⟨some 13, .mov (.const (.int .i64 0)), none⟩])
 (.block 0
  (.loop 274877900289
   (.seq (.region [
   ⟨some 14, .bin .lss (.tmp 13) (.tmp 12), none⟩])
   (.seq (.cond (.tmp 14)
    .skip
    (.exit 0))
   (.seq (.block 1
    (.seq (.region [
    ⟨some 15, .mov (.tmp 13), none⟩,
    ⟨some 16, .ixs 2 (.tmp 11) (.tmp 13), none⟩,
    ⟨some 17, .ldN 2 (.tmp 16), none⟩,
    ⟨some 10, .new 91 (.agg #[.int .i64 0, .int .i64 0]), none⟩,
    ⟨some 9, .mov (.tmp 15), none⟩,
    ⟨none, .stN 2 (.tmp 10) (.tmp 17), none⟩])
    (.seq (.draw (.f ⟨some 18, .mov (.tmp 9), none⟩
    (.f ⟨some 19, .mov (.tmp 2), none⟩
    (.f ⟨some 20, .bin .neq (.tmp 18) (.tmp 19), none⟩
    (.f ⟨some 21, .mov (.tmp 20), none⟩
    (.f ⟨some 22, .fad 1 (.tmp 10), some (21, true)⟩
    (.f ⟨some 23, .ld (.tmp 22), some (21, true)⟩
    (.f ⟨some 24, .mov (.tmp 3), some (21, true)⟩
    (.f ⟨some 25, .mov (.tmp 9), some (21, true)⟩
    (.f ⟨some 26, .call 53 [(.tmp 24), (.tmp 25)], some (21, true)⟩
    (.f ⟨some 27, .bin .gtr (.tmp 23) (.tmp 26), some (21, true)⟩
    (.f ⟨some 28, .pick (.tmp 21) (.tmp 27) (.const (.bool false)), none⟩
    (.f ⟨some 29, .mov (.tmp 28), none⟩
    (.f ⟨some 30, .fad 0 (.tmp 10), some (29, true)⟩
    (.f ⟨some 31, .ld (.tmp 30), some (29, true)⟩
    (.f ⟨some 32, .mov (.tmp 0), some (29, true)⟩
    (.f ⟨some 33, .bin .gtr (.tmp 31) (.tmp 32), some (29, true)⟩
    (.f ⟨some 34, .pick (.tmp 29) (.tmp 33) (.const (.bool false)), none⟩
    .done))))))))))))))))))
    (.cond (.tmp 34)
     (.region [
     ⟨some 35, .fad 0 (.tmp 10), none⟩,
     ⟨some 36, .ld (.tmp 35), none⟩,
     ⟨some 0, .mov (.tmp 36), none⟩])
     .skip))))
   (.region [
   ⟨some 37, .bin .add (.tmp 13) (.const (.int .i64 1)), none⟩,
   ⟨some 13, .mov (.tmp 37), none⟩])))))))
 (.seq (.region [
 ⟨some 38, .mov (.tmp 0), none⟩,
 ⟨some 8, .mov (.tmp 38), none⟩])
 .ret))),
 [.tmp 8]⟩
theorem low_tdrf_latest : lowFn Tryd.prog movers 77 = some ⟨ir_tdrf_latest.n, strip ir_tdrf_latest.body, ir_tdrf_latest.res⟩ := by kernel_rfl
end Go.Proofs.YtofjnldidkiihaaDoor
namespace Go.Proofs.YtofjnldidkiihaaDoor
open Go
set_option maxRecDepth 100000
/-- strongtx/vclock.Leq -/
def ir_vclock_Leq : IFn := ⟨22,
 (.seq (.region [
 ⟨some 4, .mov (.const (.bool false)), none⟩])
 (.seq (.seq (.region [
 ⟨some 6, .mov (.tmp 0), none⟩,
 ⟨some 7, .len (.tmp 6), none⟩,
 ⟨some 8, .mov (.tmp 1), none⟩,
 ⟨some 9, .len (.tmp 8), none⟩,
 ⟨some 10, .mm true (.tmp 7) (.tmp 9), none⟩,
 ⟨some 11, .mov (.const (.int .i64 0)), none⟩])
 (.block 0
  (.loop 4192304
   (.seq (.region [
   ⟨some 12, .bin .lss (.tmp 11) (.tmp 10), none⟩])
   (.seq (.cond (.tmp 12)
    .skip
    (.exit 0))
   (.seq (.block 1
    (.seq (.region [
    ⟨some 13, .mov (.tmp 11), none⟩,
    ⟨some 5, .mov (.tmp 13), none⟩])
    (.seq (.region [
    ⟨some 14, .mov (.tmp 0), none⟩,
    ⟨some 15, .mov (.tmp 5), none⟩,
    ⟨some 16, .call 53 [(.tmp 14), (.tmp 15)], none⟩,
    ⟨some 17, .mov (.tmp 1), none⟩,
    ⟨some 18, .mov (.tmp 5), none⟩,
    ⟨some 19, .call 53 [(.tmp 17), (.tmp 18)], none⟩,
    ⟨some 20, .bin .gtr (.tmp 16) (.tmp 19), none⟩])
    (.cond (.tmp 20)
     (.seq (.region [
     ⟨some 4, .mov (.const (.bool false)), none⟩])
     .ret)
     .skip))))
   (.region [
   ⟨some 21, .bin .add (.tmp 11) (.const (.int .i64 1)), none⟩,
   ⟨some 11, .mov (.tmp 21), none⟩])))))))
 (.seq (.region [
 ⟨some 4, .mov (.const (.bool true)), none⟩])
 .ret))),
 [.tmp 4]⟩
theorem low_vclock_Leq : lowFn Tryd.prog movers 32 = some ⟨ir_vclock_Leq.n, strip ir_vclock_Leq.body, ir_vclock_Leq.res⟩ := by kernel_rfl
/-- strongtx/vclock.Get -/
def ir_vclock_Get : IFn := ⟨17,
 (.seq (.region [
 ⟨some 4, .mov (.const (.int .i64 0)), none⟩])
 (.seq (.seq (.region [
 ⟨some 5, .mov (.tmp 1), none⟩,
 ⟨some 6, .bin .lss (.tmp 5) (.const (.int .i64 0)), none⟩,
 ⟨some 7, .mov (.tmp 6), none⟩,
 ⟨some 8, .mov (.tmp 1), some (7, false)⟩,
 ⟨some 9, .mov (.tmp 0), some (7, false)⟩,
 ⟨some 10, .len (.tmp 9), some (7, false)⟩,
 ⟨some 11, .bin .geq (.tmp 8) (.tmp 10), some (7, false)⟩,
 ⟨some 12, .pick (.tmp 7) (.const (.bool true)) (.tmp 11), none⟩])
 (.cond (.tmp 12)
  (.seq (.region [
  ⟨some 4, .mov (.const (.int .i64 0)), none⟩])
  .ret)
  .skip))
 (.seq (.region [
 ⟨some 13, .mov (.tmp 0), none⟩,
 ⟨some 14, .mov (.tmp 1), none⟩,
 ⟨some 15, .ixs 1 (.tmp 13) (.tmp 14), none⟩,
 ⟨some 16, .ld (.tmp 15), none⟩,
 ⟨some 4, .mov (.tmp 16), none⟩])
 .ret))),
 [.tmp 4]⟩
theorem low_vclock_Get : lowFn Tryd.prog movers 53 = some ⟨ir_vclock_Get.n, strip ir_vclock_Get.body, ir_vclock_Get.res⟩ := by kernel_rfl
end Go.Proofs.YtofjnldidkiihaaDoor
namespace Go.Proofs.YtofjnldidkiihaaDoor
open Go
set_option maxRecDepth 100000
def irc_tdrf_Checker_end : IFn := ⟨125,
 (.seq (.region [
 ⟨some 3, .box 42 (.tmp 1), none⟩])
 (.seq (.region [
 ⟨some 12, .fad 4 (.tmp 3), none⟩,
 ⟨some 13, .ld (.tmp 12), none⟩,
 ⟨some 14, .fad 5 (.tmp 3), none⟩,
 ⟨some 15, .ld (.tmp 14), none⟩,
 ⟨some 16, .blds 22 2 [(.slice none 0 0), (.slice none 0 0)] [(0, 1, (.tmp 13)), (1, 1, (.tmp 15))], none⟩,
 ⟨some 17, .call 62 [(.tmp 16)], none⟩,
 ⟨some 4, .mov (.tmp 17), none⟩])
 (.seq (.region [
 ⟨some 18, .mov (.tmp 4), none⟩,
 ⟨some 19, .call 63 [(.tmp 18)], none⟩])
 (.cut (.seq (.region [
 ⟨some 20, .mov (.tmp 4), none⟩,
 ⟨some 21, .call 64 [(.tmp 20)], none⟩,
 ⟨some 22, .len (.tmp 21), none⟩,
 ⟨some 23, .mov (.const (.int .i64 0)), none⟩])
 (.block 0
  (.loop 4503599618981952
   (.seq (.region [
   ⟨some 24, .bin .lss (.tmp 23) (.tmp 22), none⟩])
   (.seq (.cond (.tmp 24)
    .skip
    (.exit 0))
   (.seq (.block 1
    (.seq (.region [
    ⟨some 25, .ixs 1 (.tmp 21) (.tmp 23), none⟩,
    ⟨some 26, .ld (.tmp 25), none⟩,
    ⟨some 6, .mov (.tmp 26), none⟩])
    (.seq (.draw (.f ⟨some 27, .mov (.tmp 0), none⟩
    (.f ⟨some 28, .nilc (.tmp 27), none⟩
    (.f ⟨some 29, .fad 261 (.tmp 28), none⟩
    (.f ⟨some 30, .ldN 3 (.tmp 29), none⟩
    (.f ⟨some 31, .ldN 3 (.global 0), none⟩
    (.f ⟨some 32, .ageq false [0, 0, 0] (.tmp 30) (.tmp 31), none⟩
    (.f ⟨some 33, .mov (.tmp 32), none⟩
    (.f ⟨some 34, .mov (.tmp 0), some (33, true)⟩
    (.f ⟨some 35, .ldN 6 (.tmp 3), some (33, true)⟩
    (.f ⟨some 36, .mov (.tmp 6), some (33, true)⟩
    (.f ⟨some 37, .fad 5 (.tmp 3), some (33, true)⟩
    (.f ⟨some 38, .ld (.tmp 37), some (33, true)⟩
    (.f ⟨some 39, .mov (.tmp 6), some (33, true)⟩
    (.f ⟨some 40, .call 66 [(.tmp 38), (.tmp 39)], some (33, true)⟩
    (.f ⟨some 41, .mov (.tmp 0), some (33, true)⟩
    (.f ⟨some 42, .nilc (.tmp 41), some (33, true)⟩
    (.f ⟨some 43, .fad 4 (.tmp 42), some (33, true)⟩
    (.f ⟨some 44, .ld (.tmp 43), some (33, true)⟩
    (.f ⟨some 45, .fad 1 (.tmp 3), some (33, true)⟩
    (.f ⟨some 46, .ld (.tmp 45), some (33, true)⟩
    (.f ⟨some 47, .ixs 1 (.tmp 44) (.tmp 46), some (33, true)⟩
    (.f ⟨some 48, .ld (.tmp 47), some (33, true)⟩
    (.m ⟨some 49, .call 65 [(.tmp 34), (.tmp 35), (.tmp 36), (.tmp 40), (.tmp 48)], some (33, true)⟩
    (.f ⟨some 50, .pick (.tmp 33) (.tmp 49) (.const (.bool false)), none⟩
    .done)))))))))))))))))))))))))
    (.cond (.tmp 50)
     (.exit 0)
     .skip))))
   (.region [
   ⟨some 51, .bin .add (.tmp 23) (.const (.int .i64 1)), none⟩,
   ⟨some 23, .mov (.tmp 51), none⟩])))))))
 (.seq (.draw (.f ⟨some 52, .mov (.tmp 0), none⟩
 (.f ⟨some 53, .nilc (.tmp 52), none⟩
 (.f ⟨some 54, .fad 2 (.tmp 53), none⟩
 (.f ⟨some 55, .ld (.tmp 54), none⟩
 (.f ⟨some 56, .fad 1 (.tmp 3), none⟩
 (.f ⟨some 57, .ld (.tmp 56), none⟩
 (.f ⟨some 58, .ixs 1 (.tmp 55) (.tmp 57), none⟩
 (.f ⟨some 59, .ld (.tmp 58), none⟩
 (.f ⟨some 60, .bin .add (.tmp 59) (.const (.int .i64 1)), none⟩
 (.f ⟨some 61, .ixs 1 (.tmp 55) (.tmp 57), none⟩
 (.m ⟨none, .st (.tmp 61) (.tmp 60), none⟩
 .done))))))))))))
 (.cut (.draw (.f ⟨some 62, .mov (.tmp 0), none⟩
 (.f ⟨some 63, .nilc (.tmp 62), none⟩
 (.f ⟨some 64, .fad 3 (.tmp 63), none⟩
 (.f ⟨some 66, .fad 1 (.tmp 3), none⟩
 (.f ⟨some 68, .mov (.tmp 0), none⟩
 (.f ⟨some 69, .nilc (.tmp 68), none⟩
 (.f ⟨some 70, .fad 2 (.tmp 69), none⟩
 (.f ⟨some 71, .ld (.tmp 70), none⟩
 (.both (.f ⟨some 65, .ld (.tmp 64), none⟩
  (.both (.f ⟨some 67, .ld (.tmp 66), none⟩
   (.m ⟨some 72, .call 44 [(.tmp 71)], none⟩
   (.f ⟨some 73, .ixs 1 (.tmp 65) (.tmp 67), none⟩
   (.m ⟨none, .st (.tmp 73) (.tmp 72), none⟩
   .done))))
  (.m ⟨some 72, .call 44 [(.tmp 71)], none⟩
   (.f ⟨some 67, .ld (.tmp 66), none⟩
   (.f ⟨some 73, .ixs 1 (.tmp 65) (.tmp 67), none⟩
   (.m ⟨none, .st (.tmp 73) (.tmp 72), none⟩
   .done))))))
 (.both (.f ⟨some 67, .ld (.tmp 66), none⟩
   (.both (.f ⟨some 65, .ld (.tmp 64), none⟩
    (.m ⟨some 72, .call 44 [(.tmp 71)], none⟩
    (.f ⟨some 73, .ixs 1 (.tmp 65) (.tmp 67), none⟩
    (.m ⟨none, .st (.tmp 73) (.tmp 72), none⟩
    .done))))
   (.m ⟨some 72, .call 44 [(.tmp 71)], none⟩
    (.f ⟨some 65, .ld (.tmp 64), none⟩
    (.f ⟨some 73, .ixs 1 (.tmp 65) (.tmp 67), none⟩
    (.m ⟨none, .st (.tmp 73) (.tmp 72), none⟩
    .done))))))
  (.m ⟨some 72, .call 44 [(.tmp 71)], none⟩
   (.both (.f ⟨some 65, .ld (.tmp 64), none⟩
    (.f ⟨some 67, .ld (.tmp 66), none⟩
    (.f ⟨some 73, .ixs 1 (.tmp 65) (.tmp 67), none⟩
    (.m ⟨none, .st (.tmp 73) (.tmp 72), none⟩
    .done))))
   (.f ⟨some 67, .ld (.tmp 66), none⟩
    (.f ⟨some 65, .ld (.tmp 64), none⟩
    (.f ⟨some 73, .ixs 1 (.tmp 65) (.tmp 67), none⟩
    (.m ⟨none, .st (.tmp 73) (.tmp 72), none⟩
    .done)))))))))))))))))
 (.seq (.draw (.f ⟨some 74, .mov (.tmp 0), none⟩
 (.f ⟨some 75, .nilc (.tmp 74), none⟩
 (.f ⟨some 76, .fad 0 (.tmp 75), none⟩
 (.f ⟨some 77, .ld (.tmp 76), none⟩
 (.f ⟨some 78, .mov (.tmp 0), none⟩
 (.f ⟨some 79, .nilc (.tmp 78), none⟩
 (.f ⟨some 80, .fad 2 (.tmp 79), none⟩
 (.f ⟨some 81, .ld (.tmp 80), none⟩
 (.f ⟨some 82, .fad 1 (.tmp 3), none⟩
 (.f ⟨some 83, .ld (.tmp 82), none⟩
 (.f ⟨some 84, .ixs 1 (.tmp 81) (.tmp 83), none⟩
 (.f ⟨some 85, .ld (.tmp 84), none⟩
 (.f ⟨some 86, .bld [(.int .i64 0), (.int .i64 0)] [(0, 1, (.tmp 77)), (1, 1, (.tmp 85))], none⟩
 (.m ⟨some 7, .new 91 (.agg #[.int .i64 0, .int .i64 0]), none⟩
 (.m ⟨none, .stN 2 (.tmp 7) (.tmp 86), none⟩
 .done))))))))))))))))
 (.seq (.seq (.region [
 ⟨some 87, .fad 4 (.tmp 3), none⟩,
 ⟨some 88, .ld (.tmp 87), none⟩,
 ⟨some 89, .len (.tmp 88), none⟩,
 ⟨some 90, .mov (.const (.int .i64 0)), none⟩])
 (.block 2
  (.loop 81128400474567396315514106020352
   (.seq (.region [
   ⟨some 91, .bin .lss (.tmp 90) (.tmp 89), none⟩])
   (.seq (.cond (.tmp 91)
    .skip
    (.exit 2))
   (.seq (.block 3
    (.seq (.region [
    ⟨some 92, .ixs 1 (.tmp 88) (.tmp 90), none⟩,
    ⟨some 93, .ld (.tmp 92), none⟩,
    ⟨some 9, .mov (.tmp 93), none⟩])
    (.draw (.f ⟨some 94, .mov (.tmp 0), none⟩
    (.f ⟨some 95, .mov (.tmp 9), none⟩
    (.f ⟨some 96, .nilc (.tmp 94), none⟩
    (.f ⟨some 97, .fad 5 (.tmp 96), none⟩
    (.f ⟨some 98, .ixa 64 4 (.tmp 97) (.tmp 95), none⟩
    (.f ⟨some 99, .fad 2 (.tmp 98), none⟩
    (.f ⟨some 100, .ld (.tmp 99), none⟩
    (.f ⟨some 101, .fad 1 (.tmp 3), none⟩
    (.f ⟨some 102, .ld (.tmp 101), none⟩
    (.f ⟨some 103, .ldN 2 (.tmp 7), none⟩
    (.f ⟨some 104, .ixs 2 (.tmp 100) (.tmp 102), none⟩
    (.m ⟨none, .stN 2 (.tmp 104) (.tmp 103), none⟩
    .done)))))))))))))))
   (.region [
   ⟨some 105, .bin .add (.tmp 90) (.const (.int .i64 1)), none⟩,
   ⟨some 90, .mov (.tmp 105), none⟩])))))))
 (.seq (.region [
 ⟨some 106, .fad 5 (.tmp 3), none⟩,
 ⟨some 107, .ld (.tmp 106), none⟩,
 ⟨some 108, .len (.tmp 107), none⟩,
 ⟨some 109, .mov (.const (.int .i64 0)), none⟩])
 (.block 4
  (.loop 42534646828009991079468259616929875968
   (.seq (.region [
   ⟨some 110, .bin .lss (.tmp 109) (.tmp 108), none⟩])
   (.seq (.cond (.tmp 110)
    .skip
    (.exit 4))
   (.seq (.block 5
    (.seq (.region [
    ⟨some 111, .ixs 1 (.tmp 107) (.tmp 109), none⟩,
    ⟨some 112, .ld (.tmp 111), none⟩,
    ⟨some 11, .mov (.tmp 112), none⟩])
    (.draw (.f ⟨some 113, .mov (.tmp 0), none⟩
    (.f ⟨some 114, .mov (.tmp 11), none⟩
    (.f ⟨some 115, .nilc (.tmp 113), none⟩
    (.f ⟨some 116, .fad 5 (.tmp 115), none⟩
    (.f ⟨some 117, .ixa 64 4 (.tmp 116) (.tmp 114), none⟩
    (.f ⟨some 118, .fad 3 (.tmp 117), none⟩
    (.f ⟨some 119, .ld (.tmp 118), none⟩
    (.f ⟨some 120, .fad 1 (.tmp 3), none⟩
    (.f ⟨some 121, .ld (.tmp 120), none⟩
    (.f ⟨some 122, .ldN 2 (.tmp 7), none⟩
    (.f ⟨some 123, .ixs 2 (.tmp 119) (.tmp 121), none⟩
    (.m ⟨none, .stN 2 (.tmp 123) (.tmp 122), none⟩
    .done)))))))))))))))
   (.region [
   ⟨some 124, .bin .add (.tmp 109) (.const (.int .i64 1)), none⟩,
   ⟨some 109, .mov (.tmp 124), none⟩]))))))))))))))),
 []⟩
theorem lowc_tdrf_Checker_end : lowFn Tryd.prog movers 45 = some ⟨irc_tdrf_Checker_end.n, strip irc_tdrf_Checker_end.body, irc_tdrf_Checker_end.res⟩ := by kernel_rfl
def irc_tdrf_Checker_Add : IFn := ⟨77,
 (.seq (.region [
 ⟨some 3, .box 42 (.tmp 1), none⟩,
 ⟨some 4, .new 28 (.agg #[.int .i64 0, .int .i64 0, .int .i64 0]), none⟩,
 ⟨some 5, .mov (.const (.int .i64 0)), none⟩])
 (.seq (.block 0
  (.seq (.region [
  ⟨some 7, .mov (.tmp 0), none⟩,
  ⟨some 8, .nilq false 1 (.tmp 7) (.const (.pointer none)), none⟩,
  ⟨some 6, .mov (.tmp 8), none⟩])
  (.cond (.tmp 6)
   (.seq (.region [
   ⟨some 9, .ldN 3 (.global 0), none⟩,
   ⟨none, .stN 3 (.tmp 4) (.tmp 9), none⟩,
   ⟨some 5, .mov (.const (.int .i64 1)), none⟩])
   .ret)
   (.seq (.region [
   ⟨some 11, .mov (.tmp 0), none⟩,
   ⟨some 12, .nilc (.tmp 11), none⟩,
   ⟨some 13, .fad 0 (.tmp 12), none⟩,
   ⟨some 14, .ld (.tmp 13), none⟩,
   ⟨some 15, .bin .eql (.tmp 14) (.const (.int .i64 65536)), none⟩,
   ⟨some 10, .mov (.tmp 15), none⟩])
   (.cond (.tmp 10)
    (.seq (.region [
    ⟨some 16, .ldN 3 (.global 0), none⟩,
    ⟨none, .stN 3 (.tmp 4) (.tmp 16), none⟩,
    ⟨some 5, .mov (.const (.int .i64 3)), none⟩])
    .ret)
    (.seq (.region [
    ⟨some 18, .mov (.tmp 0), none⟩,
    ⟨some 19, .ldN 6 (.tmp 3), none⟩,
    ⟨some 20, .call 43 [(.tmp 18), (.tmp 19)], none⟩,
    ⟨some 21, .not (.tmp 20), none⟩,
    ⟨some 17, .mov (.tmp 21), none⟩])
    (.cond (.tmp 17)
     (.seq (.region [
     ⟨some 22, .ldN 3 (.global 0), none⟩,
     ⟨none, .stN 3 (.tmp 4) (.tmp 22), none⟩,
     ⟨some 5, .mov (.const (.int .i64 91)), none⟩])
     .ret)
     .skip)))))))
 (.cut (.seq (.region [
 ⟨some 23, .fad 2 (.tmp 3), none⟩,
 ⟨some 24, .ld (.tmp 23), none⟩])
 (.block 1
  (.seq (.region [
  ⟨some 36, .bin .eql (.tmp 24) (.const (.int .i64 3)), none⟩,
  ⟨some 35, .mov (.tmp 36), none⟩])
  (.cond (.tmp 35)
   (.draw (.f ⟨some 37, .mov (.tmp 0), none⟩
   (.f ⟨some 38, .nilc (.tmp 37), none⟩
   (.f ⟨some 39, .fad 4 (.tmp 38), none⟩
   (.f ⟨some 41, .fad 1 (.tmp 3), none⟩
   (.f ⟨some 43, .mov (.tmp 0), none⟩
   (.f ⟨some 44, .nilc (.tmp 43), none⟩
   (.f ⟨some 45, .fad 2 (.tmp 44), none⟩
   (.f ⟨some 46, .ld (.tmp 45), none⟩
   (.both (.f ⟨some 40, .ld (.tmp 39), none⟩
    (.both (.f ⟨some 42, .ld (.tmp 41), none⟩
     (.m ⟨some 47, .call 44 [(.tmp 46)], none⟩
     (.f ⟨some 48, .ixs 1 (.tmp 40) (.tmp 42), none⟩
     (.m ⟨none, .st (.tmp 48) (.tmp 47), none⟩
     .done))))
    (.m ⟨some 47, .call 44 [(.tmp 46)], none⟩
     (.f ⟨some 42, .ld (.tmp 41), none⟩
     (.f ⟨some 48, .ixs 1 (.tmp 40) (.tmp 42), none⟩
     (.m ⟨none, .st (.tmp 48) (.tmp 47), none⟩
     .done))))))
   (.both (.f ⟨some 42, .ld (.tmp 41), none⟩
     (.both (.f ⟨some 40, .ld (.tmp 39), none⟩
      (.m ⟨some 47, .call 44 [(.tmp 46)], none⟩
      (.f ⟨some 48, .ixs 1 (.tmp 40) (.tmp 42), none⟩
      (.m ⟨none, .st (.tmp 48) (.tmp 47), none⟩
      .done))))
     (.m ⟨some 47, .call 44 [(.tmp 46)], none⟩
      (.f ⟨some 40, .ld (.tmp 39), none⟩
      (.f ⟨some 48, .ixs 1 (.tmp 40) (.tmp 42), none⟩
      (.m ⟨none, .st (.tmp 48) (.tmp 47), none⟩
      .done))))))
    (.m ⟨some 47, .call 44 [(.tmp 46)], none⟩
     (.both (.f ⟨some 40, .ld (.tmp 39), none⟩
      (.f ⟨some 42, .ld (.tmp 41), none⟩
      (.f ⟨some 48, .ixs 1 (.tmp 40) (.tmp 42), none⟩
      (.m ⟨none, .st (.tmp 48) (.tmp 47), none⟩
      .done))))
     (.f ⟨some 42, .ld (.tmp 41), none⟩
      (.f ⟨some 40, .ld (.tmp 39), none⟩
      (.f ⟨some 48, .ixs 1 (.tmp 40) (.tmp 42), none⟩
      (.m ⟨none, .st (.tmp 48) (.tmp 47), none⟩
      .done)))))))))))))))))
   (.seq (.region [
   ⟨some 50, .bin .eql (.tmp 24) (.const (.int .i64 4)), none⟩,
   ⟨some 49, .mov (.tmp 50), none⟩])
   (.cond (.tmp 49)
    (.seq (.region [
    ⟨some 51, .mov (.tmp 0), none⟩,
    ⟨some 52, .ldN 6 (.tmp 3), none⟩,
    ⟨some 53, .call 45 [(.tmp 51), (.tmp 52)], none⟩])
    (.draw (.f ⟨some 54, .mov (.tmp 0), none⟩
    (.f ⟨some 55, .nilc (.tmp 54), none⟩
    (.f ⟨some 56, .fad 4 (.tmp 55), none⟩
    (.f ⟨some 57, .ld (.tmp 56), none⟩
    (.f ⟨some 58, .fad 1 (.tmp 3), none⟩
    (.f ⟨some 59, .ld (.tmp 58), none⟩
    (.f ⟨some 60, .ixs 1 (.tmp 57) (.tmp 59), none⟩
    (.m ⟨none, .st (.tmp 60) (.const (.slice none 0 0)), none⟩
    .done))))))))))
    (.seq (.region [
    ⟨some 25, .mov (.tmp 0), none⟩,
    ⟨some 26, .ldN 6 (.tmp 3), none⟩,
    ⟨some 27, .call 46 [(.tmp 25), (.tmp 26)], none⟩])
    (.draw (.f ⟨some 28, .mov (.tmp 0), none⟩
    (.f ⟨some 29, .nilc (.tmp 28), none⟩
    (.f ⟨some 30, .fad 4 (.tmp 29), none⟩
    (.f ⟨some 31, .ld (.tmp 30), none⟩
    (.f ⟨some 32, .fad 1 (.tmp 3), none⟩
    (.f ⟨some 33, .ld (.tmp 32), none⟩
    (.f ⟨some 34, .ixs 1 (.tmp 31) (.tmp 33), none⟩
    (.m ⟨none, .st (.tmp 34) (.const (.slice none 0 0)), none⟩
    .done))))))))))))))))
 (.seq (.region [
 ⟨some 61, .mov (.tmp 0), none⟩,
 ⟨some 62, .fad 0 (.tmp 3), none⟩,
 ⟨some 63, .ld (.tmp 62), none⟩,
 ⟨some 64, .nilc (.tmp 61), none⟩,
 ⟨some 65, .fad 1 (.tmp 64), none⟩,
 ⟨none, .st (.tmp 65) (.tmp 63), none⟩])
 (.seq (.region [
 ⟨some 66, .mov (.tmp 0), none⟩,
 ⟨some 67, .nilc (.tmp 66), none⟩,
 ⟨some 68, .fad 0 (.tmp 67), none⟩,
 ⟨some 69, .ld (.tmp 68), none⟩,
 ⟨some 70, .bin .add (.tmp 69) (.const (.int .i64 1)), none⟩,
 ⟨some 71, .nilc (.tmp 66), none⟩,
 ⟨some 72, .fad 0 (.tmp 71), none⟩,
 ⟨none, .st (.tmp 72) (.tmp 70), none⟩])
 (.seq (.region [
 ⟨some 73, .mov (.tmp 0), none⟩,
 ⟨some 74, .nilc (.tmp 73), none⟩,
 ⟨some 75, .fad 261 (.tmp 74), none⟩,
 ⟨some 76, .ldN 3 (.tmp 75), none⟩,
 ⟨none, .stN 3 (.tmp 4) (.tmp 76), none⟩,
 ⟨some 5, .mov (.const (.int .i64 0)), none⟩])
 .ret)))))),
 [.cellN 4 3, .tmp 5]⟩
theorem lowc_tdrf_Checker_Add : lowFn Tryd.prog movers 26 = some ⟨irc_tdrf_Checker_Add.n, strip irc_tdrf_Checker_Add.body, irc_tdrf_Checker_Add.res⟩ := by kernel_rfl
end Go.Proofs.YtofjnldidkiihaaDoor
namespace Go.Proofs.YtofjnldidkiihaaDoor
open Go
set_option maxRecDepth 100000
def irc_tdrf_New : IFn := ⟨55,
 (.seq (.region [
 ⟨some 1, .box 3 (.tmp 0), none⟩,
 ⟨some 2, .mov (.const (.pointer none)), none⟩,
 ⟨some 3, .mov (.const (.int .i64 0)), none⟩])
 (.seq (.seq (.region [
 ⟨some 7, .ld (.tmp 1), none⟩,
 ⟨some 8, .bin .lss (.tmp 7) (.const (.int .i64 1)), none⟩,
 ⟨some 9, .mov (.tmp 8), none⟩,
 ⟨some 10, .ld (.tmp 1), some (9, false)⟩,
 ⟨some 11, .bin .gtr (.tmp 10) (.const (.int .i64 16)), some (9, false)⟩,
 ⟨some 12, .pick (.tmp 9) (.const (.bool true)) (.tmp 11), none⟩])
 (.cond (.tmp 12)
  (.seq (.region [
  ⟨some 2, .mov (.const (.pointer none)), none⟩,
  ⟨some 3, .mov (.const (.int .i64 54)), none⟩])
  .ret)
  .skip))
 (.cut (.draw (.f ⟨some 13, .ld (.tmp 1), none⟩
 (.f ⟨some 15, .ld (.tmp 1), none⟩
 (.f ⟨some 17, .ldN 3 (.global 0), none⟩
 (.both (.m ⟨some 14, .mk 3 1 8 [(.int .i64 0)] (.tmp 13) (.tmp 13), none⟩
  (.m ⟨some 16, .mk 22 1 24 [(.slice none 0 0)] (.tmp 15) (.tmp 15), none⟩
  (.f ⟨some 18, .bld [(.int .i64 0), (.int .i64 0), (.slice none 0 0), (.slice none 0 0), (.slice none 0 0), (.slice none 0 0), (.slice none 0 0), (.slice none 0 0), (.slice none 0 0), (.slice none 0 0), (.slice none 0 0), (.slice none 0 0), (.slice none 0 0), (.slice none 0 0), (.slice none 0 0), (.slice none 0 0), (.slice none 0 0), (.slice none 0 0), (.slice none 0 0), (.slice none 0 0), (.slice none 0 0), (.slice none 0 0), (.slice none 0 0), (.slice none 0 0), (.slice none 0 0), (.slice none 0 0), (.slice none 0 0), (.slice none 0 0), (.slice none 0 0), (.slice none 0 0), (.slice none 0 0), (.slice none 0 0), (.slice none 0 0), (.slice none 0 0), (.slice none 0 0), (.slice none 0 0), (.slice none 0 0), (.slice none 0 0), (.slice none 0 0), (.slice none 0 0), (.slice none 0 0), (.slice none 0 0), (.slice none 0 0), (.slice none 0 0), (.slice none 0 0), (.slice none 0 0), (.slice none 0 0), (.slice none 0 0), (.slice none 0 0), (.slice none 0 0), (.slice none 0 0), (.slice none 0 0), (.slice none 0 0), (.slice none 0 0), (.slice none 0 0), (.slice none 0 0), (.slice none 0 0), (.slice none 0 0), (.slice none 0 0), (.slice none 0 0), (.slice none 0 0), (.slice none 0 0), (.slice none 0 0), (.slice none 0 0), (.slice none 0 0), (.slice none 0 0), (.slice none 0 0), (.slice none 0 0), (.slice none 0 0), (.slice none 0 0), (.slice none 0 0), (.slice none 0 0), (.slice none 0 0), (.slice none 0 0), (.slice none 0 0), (.slice none 0 0), (.slice none 0 0), (.slice none 0 0), (.slice none 0 0), (.slice none 0 0), (.slice none 0 0), (.slice none 0 0), (.slice none 0 0), (.slice none 0 0), (.slice none 0 0), (.slice none 0 0), (.slice none 0 0), (.slice none 0 0), (.slice none 0 0), (.slice none 0 0), (.slice none 0 0), (.slice none 0 0), (.slice none 0 0), (.slice none 0 0), (.slice none 0 0), (.slice none 0 0), (.slice none 0 0), (.slice none 0 0), (.slice none 0 0), (.slice none 0 0), (.slice none 0 0), (.slice none 0 0), (.slice none 0 0), (.slice none 0 0), (.slice none 0 0), (.slice none 0 0), (.slice none 0 0), (.slice none 0 0), (.slice none 0 0), (.slice none 0 0), (.slice none 0 0), (.slice none 0 0), (.slice none 0 0), (.slice none 0 0), (.slice none 0 0), (.slice none 0 0), (.slice none 0 0), (.slice none 0 0), (.slice none 0 0), (.slice none 0 0), (.slice none 0 0), (.slice none 0 0), (.slice none 0 0), (.slice none 0 0), (.slice none 0 0), (.slice none 0 0), (.slice none 0 0), (.slice none 0 0), (.slice none 0 0), (.slice none 0 0), (.slice none 0 0), (.slice none 0 0), (.slice none 0 0), (.slice none 0 0), (.slice none 0 0), (.slice none 0 0), (.slice none 0 0), (.slice none 0 0), (.slice none 0 0), (.slice none 0 0), (.slice none 0 0), (.slice none 0 0), (.slice none 0 0), (.slice none 0 0), (.slice none 0 0), (.slice none 0 0), (.slice none 0 0), (.slice none 0 0), (.slice none 0 0), (.slice none 0 0), (.slice none 0 0), (.slice none 0 0), (.slice none 0 0), (.slice none 0 0), (.slice none 0 0), (.slice none 0 0), (.slice none 0 0), (.slice none 0 0), (.slice none 0 0), (.slice none 0 0), (.slice none 0 0), (.slice none 0 0), (.slice none 0 0), (.slice none 0 0), (.slice none 0 0), (.slice none 0 0), (.slice none 0 0), (.slice none 0 0), (.slice none 0 0), (.slice none 0 0), (.slice none 0 0), (.slice none 0 0), (.slice none 0 0), (.slice none 0 0), (.slice none 0 0), (.slice none 0 0), (.slice none 0 0), (.slice none 0 0), (.slice none 0 0), (.slice none 0 0), (.slice none 0 0), (.slice none 0 0), (.slice none 0 0), (.slice none 0 0), (.slice none 0 0), (.slice none 0 0), (.slice none 0 0), (.slice none 0 0), (.slice none 0 0), (.slice none 0 0), (.slice none 0 0), (.slice none 0 0), (.slice none 0 0), (.slice none 0 0), (.slice none 0 0), (.slice none 0 0), (.slice none 0 0), (.slice none 0 0), (.slice none 0 0), (.slice none 0 0), (.slice none 0 0), (.slice none 0 0), (.slice none 0 0), (.slice none 0 0), (.slice none 0 0), (.slice none 0 0), (.slice none 0 0), (.slice none 0 0), (.slice none 0 0), (.slice none 0 0), (.slice none 0 0), (.slice none 0 0), (.slice none 0 0), (.slice none 0 0), (.slice none 0 0), (.slice none 0 0), (.slice none 0 0), (.slice none 0 0), (.slice none 0 0), (.slice none 0 0), (.slice none 0 0), (.slice none 0 0), (.slice none 0 0), (.slice none 0 0), (.slice none 0 0), (.slice none 0 0), (.slice none 0 0), (.slice none 0 0), (.slice none 0 0), (.slice none 0 0), (.slice none 0 0), (.slice none 0 0), (.slice none 0 0), (.slice none 0 0), (.slice none 0 0), (.slice none 0 0), (.slice none 0 0), (.slice none 0 0), (.slice none 0 0), (.slice none 0 0), (.slice none 0 0), (.slice none 0 0), (.slice none 0 0), (.slice none 0 0), (.slice none 0 0), (.slice none 0 0), (.slice none 0 0), (.slice none 0 0), (.slice none 0 0), (.slice none 0 0), (.slice none 0 0), (.slice none 0 0), (.slice none 0 0), (.slice none 0 0), (.slice none 0 0), (.slice none 0 0), (.slice none 0 0), (.slice none 0 0), (.slice none 0 0), (.slice none 0 0), (.slice none 0 0), (.int .i64 0), (.int .i64 0), (.int .i64 0)] [(2, 1, (.tmp 14)), (4, 1, (.tmp 16)), (261, 3, (.tmp 17))], none⟩
  (.m ⟨some 19, .box 68 (.tmp 18), none⟩
  (.f ⟨some 4, .mov (.tmp 19), none⟩
  .done)))))
 (.m ⟨some 16, .mk 22 1 24 [(.slice none 0 0)] (.tmp 15) (.tmp 15), none⟩
  (.m ⟨some 14, .mk 3 1 8 [(.int .i64 0)] (.tmp 13) (.tmp 13), none⟩
  (.f ⟨some 18, .bld [(.int .i64 0), (.int .i64 0), (.slice none 0 0), (.slice none 0 0), (.slice none 0 0), (.slice none 0 0), (.slice none 0 0), (.slice none 0 0), (.slice none 0 0), (.slice none 0 0), (.slice none 0 0), (.slice none 0 0), (.slice none 0 0), (.slice none 0 0), (.slice none 0 0), (.slice none 0 0), (.slice none 0 0), (.slice none 0 0), (.slice none 0 0), (.slice none 0 0), (.slice none 0 0), (.slice none 0 0), (.slice none 0 0), (.slice none 0 0), (.slice none 0 0), (.slice none 0 0), (.slice none 0 0), (.slice none 0 0), (.slice none 0 0), (.slice none 0 0), (.slice none 0 0), (.slice none 0 0), (.slice none 0 0), (.slice none 0 0), (.slice none 0 0), (.slice none 0 0), (.slice none 0 0), (.slice none 0 0), (.slice none 0 0), (.slice none 0 0), (.slice none 0 0), (.slice none 0 0), (.slice none 0 0), (.slice none 0 0), (.slice none 0 0), (.slice none 0 0), (.slice none 0 0), (.slice none 0 0), (.slice none 0 0), (.slice none 0 0), (.slice none 0 0), (.slice none 0 0), (.slice none 0 0), (.slice none 0 0), (.slice none 0 0), (.slice none 0 0), (.slice none 0 0), (.slice none 0 0), (.slice none 0 0), (.slice none 0 0), (.slice none 0 0), (.slice none 0 0), (.slice none 0 0), (.slice none 0 0), (.slice none 0 0), (.slice none 0 0), (.slice none 0 0), (.slice none 0 0), (.slice none 0 0), (.slice none 0 0), (.slice none 0 0), (.slice none 0 0), (.slice none 0 0), (.slice none 0 0), (.slice none 0 0), (.slice none 0 0), (.slice none 0 0), (.slice none 0 0), (.slice none 0 0), (.slice none 0 0), (.slice none 0 0), (.slice none 0 0), (.slice none 0 0), (.slice none 0 0), (.slice none 0 0), (.slice none 0 0), (.slice none 0 0), (.slice none 0 0), (.slice none 0 0), (.slice none 0 0), (.slice none 0 0), (.slice none 0 0), (.slice none 0 0), (.slice none 0 0), (.slice none 0 0), (.slice none 0 0), (.slice none 0 0), (.slice none 0 0), (.slice none 0 0), (.slice none 0 0), (.slice none 0 0), (.slice none 0 0), (.slice none 0 0), (.slice none 0 0), (.slice none 0 0), (.slice none 0 0), (.slice none 0 0), (.slice none 0 0), (.slice none 0 0), (.slice none 0 0), (.slice none 0 0), (.slice none 0 0), (.slice none 0 0), (.slice none 0 0), (.slice none 0 0), (.slice none 0 0), (.slice none 0 0), (.slice none 0 0), (.slice none 0 0), (.slice none 0 0), (.slice none 0 0), (.slice none 0 0), (.slice none 0 0), (.slice none 0 0), (.slice none 0 0), (.slice none 0 0), (.slice none 0 0), (.slice none 0 0), (.slice none 0 0), (.slice none 0 0), (.slice none 0 0), (.slice none 0 0), (.slice none 0 0), (.slice none 0 0), (.slice none 0 0), (.slice none 0 0), (.slice none 0 0), (.slice none 0 0), (.slice none 0 0), (.slice none 0 0), (.slice none 0 0), (.slice none 0 0), (.slice none 0 0), (.slice none 0 0), (.slice none 0 0), (.slice none 0 0), (.slice none 0 0), (.slice none 0 0), (.slice none 0 0), (.slice none 0 0), (.slice none 0 0), (.slice none 0 0), (.slice none 0 0), (.slice none 0 0), (.slice none 0 0), (.slice none 0 0), (.slice none 0 0), (.slice none 0 0), (.slice none 0 0), (.slice none 0 0), (.slice none 0 0), (.slice none 0 0), (.slice none 0 0), (.slice none 0 0), (.slice none 0 0), (.slice none 0 0), (.slice none 0 0), (.slice none 0 0), (.slice none 0 0), (.slice none 0 0), (.slice none 0 0), (.slice none 0 0), (.slice none 0 0), (.slice none 0 0), (.slice none 0 0), (.slice none 0 0), (.slice none 0 0), (.slice none 0 0), (.slice none 0 0), (.slice none 0 0), (.slice none 0 0), (.slice none 0 0), (.slice none 0 0), (.slice none 0 0), (.slice none 0 0), (.slice none 0 0), (.slice none 0 0), (.slice none 0 0), (.slice none 0 0), (.slice none 0 0), (.slice none 0 0), (.slice none 0 0), (.slice none 0 0), (.slice none 0 0), (.slice none 0 0), (.slice none 0 0), (.slice none 0 0), (.slice none 0 0), (.slice none 0 0), (.slice none 0 0), (.slice none 0 0), (.slice none 0 0), (.slice none 0 0), (.slice none 0 0), (.slice none 0 0), (.slice none 0 0), (.slice none 0 0), (.slice none 0 0), (.slice none 0 0), (.slice none 0 0), (.slice none 0 0), (.slice none 0 0), (.slice none 0 0), (.slice none 0 0), (.slice none 0 0), (.slice none 0 0), (.slice none 0 0), (.slice none 0 0), (.slice none 0 0), (.slice none 0 0), (.slice none 0 0), (.slice none 0 0), (.slice none 0 0), (.slice none 0 0), (.slice none 0 0), (.slice none 0 0), (.slice none 0 0), (.slice none 0 0), (.slice none 0 0), (.slice none 0 0), (.slice none 0 0), (.slice none 0 0), (.slice none 0 0), (.slice none 0 0), (.slice none 0 0), (.slice none 0 0), (.slice none 0 0), (.slice none 0 0), (.slice none 0 0), (.slice none 0 0), (.slice none 0 0), (.slice none 0 0), (.slice none 0 0), (.slice none 0 0), (.slice none 0 0), (.slice none 0 0), (.slice none 0 0), (.slice none 0 0), (.slice none 0 0), (.slice none 0 0), (.slice none 0 0), (.slice none 0 0), (.slice none 0 0), (.slice none 0 0), (.slice none 0 0), (.slice none 0 0), (.slice none 0 0), (.slice none 0 0), (.slice none 0 0), (.slice none 0 0), (.slice none 0 0), (.int .i64 0), (.int .i64 0), (.int .i64 0)] [(2, 1, (.tmp 14)), (4, 1, (.tmp 16)), (261, 3, (.tmp 17))], none⟩
  (.m ⟨some 19, .box 68 (.tmp 18), none⟩
  (.f ⟨some 4, .mov (.tmp 19), none⟩
  .done))))))))))
 (.seq (.seq (.region [
 ⟨some 20, .ld (.tmp 1), none⟩,
 ⟨some 21, .mov (.const (.int .i64 0)), none⟩])
 (.block 0
  (.loop 34357641216
   (.seq (.region [
   ⟨some 22, .bin .lss (.tmp 21) (.tmp 20), none⟩])
   (.seq (.cond (.tmp 22)
    .skip
    (.exit 0))
   (.seq (.block 1
    (.draw (.f ⟨some 23, .mov (.tmp 4), none⟩
    (.f ⟨some 24, .mov (.tmp 4), none⟩
    (.f ⟨some 25, .nilc (.tmp 24), none⟩
    (.f ⟨some 26, .fad 3 (.tmp 25), none⟩
    (.f ⟨some 27, .ld (.tmp 26), none⟩
    (.f ⟨some 28, .ld (.tmp 1), none⟩
    (.m ⟨some 29, .mk 3 1 8 [(.int .i64 0)] (.tmp 28) (.tmp 28), none⟩
    (.m ⟨some 30, .blds 22 1 [(.slice none 0 0)] [(0, 1, (.tmp 29))], none⟩
    (.m ⟨some 31, .app 22 1 24 [(.slice none 0 0)] (.tmp 27) (.tmp 30), none⟩
    (.f ⟨some 32, .nilc (.tmp 23), none⟩
    (.f ⟨some 33, .fad 3 (.tmp 32), none⟩
    (.m ⟨none, .st (.tmp 33) (.tmp 31), none⟩
    .done))))))))))))))
   (.region [
   ⟨some 34, .bin .add (.tmp 21) (.const (.int .i64 1)), none⟩,
   ⟨some 21, .mov (.tmp 34), none⟩])))))))
 (.seq (.seq (.region [
 ⟨some 35, .mov (.const (.int .i64 0)), none⟩])
 (.block 2
  (.loop 18014364149743712
   (.seq (.region [
   ⟨some 36, .bin .lss (.tmp 35) (.const (.int .i64 64)), none⟩])
   (.seq (.cond (.tmp 36)
    .skip
    (.exit 2))
   (.seq (.block 3
    (.seq (.region [
    ⟨some 37, .mov (.tmp 35), none⟩,
    ⟨some 5, .mov (.tmp 37), none⟩])
    (.seq (.region [
    ⟨some 38, .mkf 41 [(.tmp 1)], none⟩,
    ⟨some 6, .mov (.tmp 38), none⟩])
    (.draw (.f ⟨some 39, .mov (.tmp 4), none⟩
    (.f ⟨some 40, .mov (.tmp 5), none⟩
    (.f ⟨some 41, .mov (.tmp 6), none⟩
    (.f ⟨some 43, .mov (.tmp 6), none⟩
    (.f ⟨some 45, .mov (.tmp 6), none⟩
    (.f ⟨some 47, .mov (.tmp 6), none⟩
    (.f ⟨some 50, .nilc (.tmp 39), none⟩
    (.f ⟨some 51, .fad 5 (.tmp 50), none⟩
    (.m ⟨some 42, .callv (.tmp 41) [], none⟩
    (.m ⟨some 44, .callv (.tmp 43) [], none⟩
    (.m ⟨some 46, .callv (.tmp 45) [], none⟩
    (.m ⟨some 48, .callv (.tmp 47) [], none⟩
    (.f ⟨some 49, .bld [(.slice none 0 0), (.slice none 0 0), (.slice none 0 0), (.slice none 0 0)] [(0, 1, (.tmp 42)), (1, 1, (.tmp 44)), (2, 1, (.tmp 46)), (3, 1, (.tmp 48))], none⟩
    (.f ⟨some 52, .ixa 64 4 (.tmp 51) (.tmp 40), none⟩
    (.m ⟨none, .stN 4 (.tmp 52) (.tmp 49), none⟩
    .done)))))))))))))))))))
   (.region [
   ⟨some 53, .bin .add (.tmp 35) (.const (.int .i64 1)), none⟩,
   ⟨some 35, .mov (.tmp 53), none⟩])))))))
 (.seq (.region [
 ⟨some 54, .mov (.tmp 4), none⟩,
 ⟨some 2, .mov (.tmp 54), none⟩,
 ⟨some 3, .mov (.const (.int .i64 0)), none⟩])
 .ret)))))),
 [.tmp 2, .tmp 3]⟩
theorem lowc_tdrf_New : lowFn Tryd.prog movers 23 = some ⟨irc_tdrf_New.n, strip irc_tdrf_New.body, irc_tdrf_New.res⟩ := by kernel_rfl
end Go.Proofs.YtofjnldidkiihaaDoor
namespace Go.Proofs.YtofjnldidkiihaaDoor
open Go
set_option maxRecDepth 100000
/-- strongtx/strongtxlaw25.TdrfFree -/
def ir_law25_TdrfFree : IFn := ⟨65,
 (.seq (.region [
 ⟨some 4, .mov (.const (.bool false)), none⟩])
 (.seq (.seq (.region [
 ⟨some 11, .mov (.tmp 0), none⟩,
 ⟨some 12, .len (.tmp 11), none⟩,
 ⟨some 13, .bin .gtr (.tmp 12) (.const (.int .i64 60)), none⟩])
 (.cond (.tmp 13)
  (.seq (.region [
  ⟨some 14, .call 16 [], none⟩,
  ⟨some 4, .mov (.tmp 14), none⟩])
  .ret)
  .skip))
 (.seq (.region [
 ⟨some 15, .mov (.tmp 1), none⟩,
 ⟨some 16, .call 17 [(.tmp 15), (.const (.int .i64 4))], none⟩,
 ⟨some 17, .bin .add (.const (.int .i64 1)) (.tmp 16), none⟩,
 ⟨some 5, .mov (.tmp 17), none⟩])
 (.seq (.region [
 ⟨some 18, .mov (.tmp 0), none⟩,
 ⟨some 19, .mov (.tmp 5), none⟩,
 ⟨some 20, .call 18 [(.tmp 18), (.tmp 19)], none⟩,
 ⟨some 6, .mov (.tmp 20), none⟩])
 (.seq (.region [
 ⟨some 7, .mov (.const (.slice none 0 0)), none⟩])
 (.seq (.seq (.region [
 ⟨some 8, .mov (.const (.int .i64 0)), none⟩])
 (.block 0
  (.loop 17592183947648
   (.seq (.seq (.region [
   ⟨some 21, .mov (.tmp 8), none⟩,
   ⟨some 22, .mov (.tmp 6), none⟩,
   ⟨some 23, .len (.tmp 22), none⟩,
   ⟨some 24, .bin .lss (.tmp 21) (.tmp 23), none⟩])
   (.cond (.tmp 24)
    .skip
    (.exit 0)))
   (.seq (.block 1
    (.seq (.region [
    ⟨some 27, .mov (.tmp 5), none⟩,
    ⟨some 28, .bin .eql (.tmp 27) (.const (.int .i64 1)), none⟩,
    ⟨some 29, .mov (.tmp 28), none⟩,
    ⟨some 30, .mov (.tmp 6), some (29, false)⟩,
    ⟨some 31, .mov (.tmp 8), some (29, false)⟩,
    ⟨some 32, .ixs 6 (.tmp 30) (.tmp 31), some (29, false)⟩,
    ⟨some 33, .fad 2 (.tmp 32), some (29, false)⟩,
    ⟨some 34, .ld (.tmp 33), some (29, false)⟩,
    ⟨some 35, .bin .geq (.tmp 34) (.const (.int .i64 3)), some (29, false)⟩,
    ⟨some 36, .pick (.tmp 29) (.const (.bool true)) (.tmp 35), none⟩])
    (.cond (.tmp 36)
     (.region [
     ⟨some 37, .mov (.tmp 7), none⟩,
     ⟨some 38, .mov (.tmp 6), none⟩,
     ⟨some 39, .mov (.tmp 8), none⟩,
     ⟨some 40, .ixs 6 (.tmp 38) (.tmp 39), none⟩,
     ⟨some 41, .ldN 6 (.tmp 40), none⟩,
     ⟨some 42, .blds 42 1 [(.int .i64 0), (.int .i64 0), (.int .i64 0), (.int .i64 0), (.slice none 0 0), (.slice none 0 0)] [(0, 6, (.tmp 41))], none⟩,
     ⟨some 43, .app 42 6 80 [(.int .i64 0), (.int .i64 0), (.int .i64 0), (.int .i64 0), (.slice none 0 0), (.slice none 0 0)] (.tmp 37) (.tmp 42), none⟩,
     ⟨some 7, .mov (.tmp 43), none⟩])
     .skip)))
   (.region [
   ⟨some 25, .mov (.tmp 8), none⟩,
   ⟨some 26, .bin .add (.tmp 25) (.const (.int .i64 1)), none⟩,
   ⟨some 8, .mov (.tmp 26), none⟩]))))))
 (.seq (.region [
 ⟨some 45, .mov (.tmp 7), none⟩,
 ⟨some 46, .mov (.tmp 5), none⟩,
 ⟨some 47, .call 19 [(.tmp 45), (.tmp 46)], none⟩,
 ⟨some 44, .mov (.tmp 47), none⟩,
 ⟨some 48, .ext (.tmp 44) 0, none⟩,
 ⟨some 49, .ext (.tmp 44) 1, none⟩,
 ⟨some 9, .new 28 (.agg #[.int .i64 0, .int .i64 0, .int .i64 0]), none⟩,
 ⟨none, .stN 3 (.tmp 9) (.tmp 48), none⟩,
 ⟨some 10, .mov (.tmp 49), none⟩])
 (.seq (.region [
 ⟨some 50, .mov (.tmp 10), none⟩,
 ⟨some 51, .bin .eql (.tmp 50) (.const (.int .i64 0)), none⟩,
 ⟨some 52, .mov (.tmp 51), none⟩,
 ⟨some 53, .fad 1 (.tmp 9), some (52, true)⟩,
 ⟨some 54, .ld (.tmp 53), some (52, true)⟩,
 ⟨some 55, .bin .eql (.tmp 54) (.const (.int .i64 (-1))), some (52, true)⟩,
 ⟨some 56, .pick (.tmp 52) (.tmp 55) (.const (.bool false)), none⟩,
 ⟨some 57, .mov (.tmp 56), none⟩,
 ⟨some 58, .fad 0 (.tmp 9), some (57, true)⟩,
 ⟨some 59, .ld (.tmp 58), some (57, true)⟩,
 ⟨some 60, .bin .eql (.tmp 59) (.const (.int .i64 (-1))), some (57, true)⟩,
 ⟨some 61, .pick (.tmp 57) (.tmp 60) (.const (.bool false)), none⟩,
 ⟨some 62, .mov (.tmp 61), none⟩,
 ⟨some 63, .call 16 [], some (62, true)⟩,
 ⟨some 64, .pick (.tmp 62) (.tmp 63) (.const (.bool false)), none⟩,
 ⟨some 4, .mov (.tmp 64), none⟩])
 .ret)))))))),
 [.tmp 4]⟩
theorem low_law25_TdrfFree : lowFn Tryd.prog movers 6 = some ⟨ir_law25_TdrfFree.n, strip ir_law25_TdrfFree.body, ir_law25_TdrfFree.res⟩ := by kernel_rfl
/-- strongtx/strongtxlaw25.TdrfClocks -/
def ir_law25_TdrfClocks : IFn := ⟨93,
 (.seq (.region [
 ⟨some 4, .mov (.const (.bool false)), none⟩])
 (.seq (.seq (.region [
 ⟨some 13, .mov (.tmp 0), none⟩,
 ⟨some 14, .len (.tmp 13), none⟩,
 ⟨some 15, .bin .gtr (.tmp 14) (.const (.int .i64 24)), none⟩])
 (.cond (.tmp 15)
  (.seq (.region [
  ⟨some 16, .call 16 [], none⟩,
  ⟨some 4, .mov (.tmp 16), none⟩])
  .ret)
  .skip))
 (.seq (.region [
 ⟨some 17, .mov (.tmp 1), none⟩,
 ⟨some 18, .call 17 [(.tmp 17), (.const (.int .i64 3))], none⟩,
 ⟨some 19, .bin .add (.const (.int .i64 2)) (.tmp 18), none⟩,
 ⟨some 5, .mov (.tmp 19), none⟩])
 (.seq (.region [
 ⟨some 20, .mov (.tmp 0), none⟩,
 ⟨some 21, .mov (.tmp 5), none⟩,
 ⟨some 22, .call 18 [(.tmp 20), (.tmp 21)], none⟩,
 ⟨some 6, .mov (.tmp 22), none⟩])
 (.seq (.region [
 ⟨some 24, .mov (.tmp 5), none⟩,
 ⟨some 25, .call 23 [(.tmp 24)], none⟩,
 ⟨some 23, .mov (.tmp 25), none⟩,
 ⟨some 26, .ext (.tmp 23) 0, none⟩,
 ⟨some 27, .ext (.tmp 23) 1, none⟩,
 ⟨some 7, .mov (.tmp 26), none⟩,
 ⟨some 8, .mov (.tmp 27), none⟩])
 (.seq (.seq (.region [
 ⟨some 28, .mov (.tmp 8), none⟩,
 ⟨some 29, .bin .neq (.tmp 28) (.const (.int .i64 0)), none⟩,
 ⟨some 30, .mov (.tmp 29), none⟩,
 ⟨some 31, .mov (.tmp 7), some (30, false)⟩,
 ⟨some 32, .nilq false 1 (.tmp 31) (.const (.pointer none)), some (30, false)⟩,
 ⟨some 33, .pick (.tmp 30) (.const (.bool true)) (.tmp 32), none⟩])
 (.cond (.tmp 33)
  (.seq (.region [
  ⟨some 4, .mov (.const (.bool false)), none⟩])
  .ret)
  .skip))
 (.seq (.region [
 ⟨some 34, .mov (.tmp 5), none⟩,
 ⟨some 35, .mk 22 1 24 [(.slice none 0 0)] (.tmp 34) (.tmp 34), none⟩,
 ⟨some 9, .mov (.tmp 35), none⟩])
 (.seq (.seq (.region [
 ⟨some 10, .mov (.const (.int .i64 0)), none⟩])
 (.block 0
  (.loop 604462909807245867883536
   (.seq (.seq (.region [
   ⟨some 36, .mov (.tmp 10), none⟩,
   ⟨some 37, .mov (.tmp 6), none⟩,
   ⟨some 38, .len (.tmp 37), none⟩,
   ⟨some 39, .bin .lss (.tmp 36) (.tmp 38), none⟩])
   (.cond (.tmp 39)
    .skip
    (.exit 0)))
   (.seq (.block 1
    (.seq (.region [
    ⟨some 42, .mov (.tmp 7), none⟩,
    ⟨some 43, .mov (.tmp 6), none⟩,
    ⟨some 44, .mov (.tmp 10), none⟩,
    ⟨some 45, .ixs 6 (.tmp 43) (.tmp 44), none⟩,
    ⟨some 46, .ldN 6 (.tmp 45), none⟩,
    ⟨some 47, .call 26 [(.tmp 42), (.tmp 46)], none⟩])
    (.seq (.region [
    ⟨some 11, .mov (.const (.int .i64 0)), none⟩])
    (.block 2
     (.loop 604462909525839610648592
      (.seq (.seq (.region [
      ⟨some 48, .mov (.tmp 11), none⟩,
      ⟨some 49, .mov (.tmp 5), none⟩,
      ⟨some 50, .bin .lss (.tmp 48) (.tmp 49), none⟩])
      (.cond (.tmp 50)
       .skip
       (.exit 2)))
      (.seq (.block 3
       (.seq (.region [
       ⟨some 53, .mov (.tmp 7), none⟩,
       ⟨some 54, .mov (.tmp 11), none⟩,
       ⟨some 55, .call 29 [(.tmp 53), (.tmp 54)], none⟩,
       ⟨some 12, .mov (.tmp 55), none⟩])
       (.seq (.seq (.region [
       ⟨some 56, .mov (.tmp 12), none⟩,
       ⟨some 57, .mov (.tmp 6), none⟩,
       ⟨some 58, .mov (.tmp 10), none⟩,
       ⟨some 59, .bin .add (.tmp 58) (.const (.int .i64 1)), none⟩,
       ⟨some 60, .sls 6 (.tmp 57) none (some (.tmp 59)) none, none⟩,
       ⟨some 61, .mov (.tmp 5), none⟩,
       ⟨some 62, .mov (.tmp 11), none⟩,
       ⟨some 63, .call 31 [(.tmp 60), (.tmp 61), (.tmp 62)], none⟩,
       ⟨some 64, .call 30 [(.tmp 56), (.tmp 63)], none⟩,
       ⟨some 65, .not (.tmp 64), none⟩,
       ⟨some 66, .mov (.tmp 65), none⟩,
       ⟨some 67, .mov (.tmp 9), some (66, false)⟩,
       ⟨some 68, .mov (.tmp 11), some (66, false)⟩,
       ⟨some 69, .ixs 1 (.tmp 67) (.tmp 68), some (66, false)⟩,
       ⟨some 70, .ld (.tmp 69), some (66, false)⟩,
       ⟨some 71, .mov (.tmp 12), some (66, false)⟩,
       ⟨some 72, .call 32 [(.tmp 70), (.tmp 71)], some (66, false)⟩,
       ⟨some 73, .not (.tmp 72), some (66, false)⟩,
       ⟨some 74, .pick (.tmp 66) (.const (.bool true)) (.tmp 73), none⟩])
       (.cond (.tmp 74)
        (.seq (.region [
        ⟨some 4, .mov (.const (.bool false)), none⟩])
        .ret)
        .skip))
       (.region [
       ⟨some 75, .mov (.tmp 9), none⟩,
       ⟨some 76, .mov (.tmp 11), none⟩,
       ⟨some 77, .mov (.tmp 12), none⟩,
       ⟨some 78, .ixs 1 (.tmp 75) (.tmp 76), none⟩,
       ⟨none, .st (.tmp 78) (.tmp 77), none⟩]))))
      (.region [
      ⟨some 51, .mov (.tmp 11), none⟩,
      ⟨some 52, .bin .add (.tmp 51) (.const (.int .i64 1)), none⟩,
      ⟨some 11, .mov (.tmp 52), none⟩]))))))))
   (.region [
   ⟨some 40, .mov (.tmp 10), none⟩,
   ⟨some 41, .bin .add (.tmp 40) (.const (.int .i64 1)), none⟩,
   ⟨some 10, .mov (.tmp 41), none⟩]))))))
 (.seq (.region [
 ⟨some 79, .mov (.tmp 7), none⟩,
 ⟨some 80, .call 29 [(.tmp 79), (.const (.int .i64 (-1)))], none⟩,
 ⟨some 81, .len (.tmp 80), none⟩,
 ⟨some 82, .bin .eql (.tmp 81) (.const (.int .i64 0)), none⟩,
 ⟨some 83, .mov (.tmp 82), none⟩,
 ⟨some 84, .mov (.tmp 7), some (83, true)⟩,
 ⟨some 85, .mov (.tmp 5), some (83, true)⟩,
 ⟨some 86, .call 29 [(.tmp 84), (.tmp 85)], some (83, true)⟩,
 ⟨some 87, .len (.tmp 86), some (83, true)⟩,
 ⟨some 88, .bin .eql (.tmp 87) (.const (.int .i64 0)), some (83, true)⟩,
 ⟨some 89, .pick (.tmp 83) (.tmp 88) (.const (.bool false)), none⟩,
 ⟨some 90, .mov (.tmp 89), none⟩,
 ⟨some 91, .call 16 [], some (90, true)⟩,
 ⟨some 92, .pick (.tmp 90) (.tmp 91) (.const (.bool false)), none⟩,
 ⟨some 4, .mov (.tmp 92), none⟩])
 .ret))))))))),
 [.tmp 4]⟩
theorem low_law25_TdrfClocks : lowFn Tryd.prog movers 10 = some ⟨ir_law25_TdrfClocks.n, strip ir_law25_TdrfClocks.body, ir_law25_TdrfClocks.res⟩ := by kernel_rfl
/-- strongtx/strongtxlaw25.awake -/
def ir_law25_awake : IFn := ⟨38,
 (.seq (.region [
 ⟨some 0, .mov (.const (.bool false)), none⟩])
 (.seq (.region [
 ⟨some 6, .bld [(.int .i64 0), (.int .i64 0), (.int .i64 0), (.int .i64 0), (.slice none 0 0), (.slice none 0 0)] [(1, 1, (.const (.int .i64 1))), (2, 1, (.const (.int .i64 3)))], none⟩,
 ⟨some 7, .bld [(.int .i64 0), (.int .i64 0), (.int .i64 0), (.int .i64 0), (.slice none 0 0), (.slice none 0 0)] [(1, 1, (.const (.int .i64 0))), (2, 1, (.const (.int .i64 2))), (3, 1, (.const (.int .i64 3)))], none⟩,
 ⟨some 8, .blds 3 1 [(.int .i64 0)] [(0, 1, (.const (.int .i64 3)))], none⟩,
 ⟨some 9, .bld [(.int .i64 0), (.int .i64 0), (.int .i64 0), (.int .i64 0), (.slice none 0 0), (.slice none 0 0)] [(1, 1, (.const (.int .i64 1))), (2, 1, (.const (.int .i64 4))), (4, 1, (.tmp 8))], none⟩,
 ⟨some 10, .blds 42 3 [(.int .i64 0), (.int .i64 0), (.int .i64 0), (.int .i64 0), (.slice none 0 0), (.slice none 0 0), (.int .i64 0), (.int .i64 0), (.int .i64 0), (.int .i64 0), (.slice none 0 0), (.slice none 0 0), (.int .i64 0), (.int .i64 0), (.int .i64 0), (.int .i64 0), (.slice none 0 0), (.slice none 0 0)] [(0, 6, (.tmp 6)), (6, 6, (.tmp 7)), (12, 6, (.tmp 9))], none⟩,
 ⟨some 1, .mov (.tmp 10), none⟩])
 (.seq (.region [
 ⟨some 12, .mov (.tmp 1), none⟩,
 ⟨some 13, .call 19 [(.tmp 12), (.const (.int .i64 2))], none⟩,
 ⟨some 11, .mov (.tmp 13), none⟩,
 ⟨some 14, .ext (.tmp 11) 0, none⟩,
 ⟨some 15, .ext (.tmp 11) 1, none⟩,
 ⟨some 2, .new 28 (.agg #[.int .i64 0, .int .i64 0, .int .i64 0]), none⟩,
 ⟨none, .stN 3 (.tmp 2) (.tmp 14), none⟩,
 ⟨some 3, .mov (.tmp 15), none⟩])
 (.seq (.region [
 ⟨some 17, .mov (.tmp 1), none⟩,
 ⟨some 18, .sls 6 (.tmp 17) none (some (.const (.int .i64 2))) none, none⟩,
 ⟨some 19, .call 19 [(.tmp 18), (.const (.int .i64 2))], none⟩,
 ⟨some 16, .mov (.tmp 19), none⟩,
 ⟨some 20, .ext (.tmp 16) 0, none⟩,
 ⟨some 21, .ext (.tmp 16) 1, none⟩,
 ⟨some 4, .new 28 (.agg #[.int .i64 0, .int .i64 0, .int .i64 0]), none⟩,
 ⟨none, .stN 3 (.tmp 4) (.tmp 20), none⟩,
 ⟨some 5, .mov (.tmp 21), none⟩])
 (.seq (.region [
 ⟨some 22, .mov (.tmp 3), none⟩,
 ⟨some 23, .bin .eql (.tmp 22) (.const (.int .i64 0)), none⟩,
 ⟨some 24, .mov (.tmp 23), none⟩,
 ⟨some 25, .ldN 3 (.tmp 2), some (24, true)⟩,
 ⟨some 26, .bld [(.int .i64 0), (.int .i64 0), (.int .i64 0)] [(0, 1, (.const (.int .i64 1))), (1, 1, (.const (.int .i64 2))), (2, 1, (.const (.int .i64 3)))], some (24, true)⟩,
 ⟨some 27, .ageq false [0, 0, 0] (.tmp 25) (.tmp 26), some (24, true)⟩,
 ⟨some 28, .pick (.tmp 24) (.tmp 27) (.const (.bool false)), none⟩,
 ⟨some 29, .mov (.tmp 28), none⟩,
 ⟨some 30, .mov (.tmp 5), some (29, true)⟩,
 ⟨some 31, .bin .eql (.tmp 30) (.const (.int .i64 0)), some (29, true)⟩,
 ⟨some 32, .pick (.tmp 29) (.tmp 31) (.const (.bool false)), none⟩,
 ⟨some 33, .mov (.tmp 32), none⟩,
 ⟨some 34, .ldN 3 (.tmp 4), some (33, true)⟩,
 ⟨some 35, .bld [(.int .i64 0), (.int .i64 0), (.int .i64 0)] [(0, 1, (.const (.int .i64 (-1)))), (1, 1, (.const (.int .i64 (-1)))), (2, 1, (.const (.int .i64 (-1))))], some (33, true)⟩,
 ⟨some 36, .ageq false [0, 0, 0] (.tmp 34) (.tmp 35), some (33, true)⟩,
 ⟨some 37, .pick (.tmp 33) (.tmp 36) (.const (.bool false)), none⟩,
 ⟨some 0, .mov (.tmp 37), none⟩])
 .ret))))),
 [.tmp 0]⟩
theorem low_law25_awake : lowFn Tryd.prog movers 16 = some ⟨ir_law25_awake.n, strip ir_law25_awake.body, ir_law25_awake.res⟩ := by kernel_rfl
end Go.Proofs.YtofjnldidkiihaaDoor
namespace Go.Proofs.YtofjnldidkiihaaDoor
open Go
set_option maxRecDepth 100000
def irc_law25_TdrfOnline : IFn := ⟨123,
 (.seq (.region [
 ⟨some 6, .mov (.const (.bool false)), none⟩])
 (.seq (.seq (.region [
 ⟨some 20, .mov (.tmp 0), none⟩,
 ⟨some 21, .len (.tmp 20), none⟩,
 ⟨some 22, .bin .gtr (.tmp 21) (.const (.int .i64 30)), none⟩,
 ⟨some 23, .mov (.tmp 22), none⟩,
 ⟨some 24, .mov (.tmp 2), some (23, false)⟩,
 ⟨some 25, .len (.tmp 24), some (23, false)⟩,
 ⟨some 26, .bin .gtr (.tmp 25) (.const (.int .i64 40)), some (23, false)⟩,
 ⟨some 27, .pick (.tmp 23) (.const (.bool true)) (.tmp 26), none⟩])
 (.cond (.tmp 27)
  (.seq (.region [
  ⟨some 28, .call 16 [], none⟩,
  ⟨some 6, .mov (.tmp 28), none⟩])
  .ret)
  .skip))
 (.seq (.region [
 ⟨some 29, .mov (.tmp 1), none⟩,
 ⟨some 30, .call 17 [(.tmp 29), (.const (.int .i64 3))], none⟩,
 ⟨some 31, .bin .add (.const (.int .i64 2)) (.tmp 30), none⟩,
 ⟨some 7, .mov (.tmp 31), none⟩])
 (.seq (.region [
 ⟨some 32, .mov (.tmp 0), none⟩,
 ⟨some 33, .mov (.tmp 7), none⟩,
 ⟨some 34, .call 18 [(.tmp 32), (.tmp 33)], none⟩,
 ⟨some 8, .mov (.tmp 34), none⟩])
 (.seq (.region [
 ⟨some 36, .mov (.tmp 7), none⟩,
 ⟨some 37, .call 23 [(.tmp 36)], none⟩,
 ⟨some 35, .mov (.tmp 37), none⟩,
 ⟨some 38, .ext (.tmp 35) 0, none⟩,
 ⟨some 39, .ext (.tmp 35) 1, none⟩,
 ⟨some 9, .mov (.tmp 38), none⟩,
 ⟨some 10, .mov (.tmp 39), none⟩])
 (.seq (.seq (.region [
 ⟨some 40, .mov (.tmp 10), none⟩,
 ⟨some 41, .bin .neq (.tmp 40) (.const (.int .i64 0)), none⟩,
 ⟨some 42, .mov (.tmp 41), none⟩,
 ⟨some 43, .mov (.tmp 9), some (42, false)⟩,
 ⟨some 44, .nilq false 1 (.tmp 43) (.const (.pointer none)), some (42, false)⟩,
 ⟨some 45, .pick (.tmp 42) (.const (.bool true)) (.tmp 44), none⟩,
 ⟨some 46, .mov (.tmp 45), none⟩,
 ⟨some 47, .mov (.tmp 9), some (46, false)⟩,
 ⟨some 48, .call 24 [(.tmp 47)], some (46, false)⟩,
 ⟨some 49, .call 22 [], some (46, false)⟩,
 ⟨some 50, .ageq true [0, 0, 0] (.tmp 48) (.tmp 49), some (46, false)⟩,
 ⟨some 51, .pick (.tmp 46) (.const (.bool true)) (.tmp 50), none⟩])
 (.cond (.tmp 51)
  (.seq (.region [
  ⟨some 6, .mov (.const (.bool false)), none⟩])
  .ret)
  .skip))
 (.seq (.seq (.region [
 ⟨some 11, .mov (.const (.int .i64 0)), none⟩])
 (.block 0
  (.loop 5316911983139663491610724641495054400
   (.seq (.seq (.region [
   ⟨some 52, .mov (.tmp 11), none⟩,
   ⟨some 53, .mov (.tmp 8), none⟩,
   ⟨some 54, .len (.tmp 53), none⟩,
   ⟨some 55, .bin .lss (.tmp 52) (.tmp 54), none⟩])
   (.cond (.tmp 55)
    .skip
    (.exit 0)))
   (.seq (.block 1
    (.seq (.seq (.region [
    ⟨some 58, .mov (.tmp 11), none⟩,
    ⟨some 59, .mov (.tmp 2), none⟩,
    ⟨some 60, .len (.tmp 59), none⟩,
    ⟨some 61, .bin .lss (.tmp 58) (.tmp 60), none⟩])
    (.cond (.tmp 61)
     (.seq (.region [
     ⟨some 62, .mov (.tmp 2), none⟩,
     ⟨some 63, .mov (.tmp 11), none⟩,
     ⟨some 64, .ixs 6 (.tmp 62) (.tmp 63), none⟩,
     ⟨some 65, .ldN 6 (.tmp 64), none⟩,
     ⟨some 12, .new 42 (.agg #[.int .i64 0, .int .i64 0, .int .i64 0, .int .i64 0, .slice none 0 0, .slice none 0 0]), none⟩,
     ⟨none, .stN 6 (.tmp 12) (.tmp 65), none⟩])
     (.cut (.draw (.f ⟨some 67, .mov (.tmp 8), none⟩
     (.f ⟨some 68, .mov (.tmp 11), none⟩
     (.f ⟨some 69, .sls 6 (.tmp 67) none (some (.tmp 68)) none, none⟩
     (.f ⟨some 74, .mov (.tmp 7), none⟩
     (.both (.m ⟨some 70, .call 25 [(.tmp 69)], none⟩
      (.f ⟨some 71, .ldN 6 (.tmp 12), none⟩
      (.m ⟨some 72, .blds 42 1 [(.int .i64 0), (.int .i64 0), (.int .i64 0), (.int .i64 0), (.slice none 0 0), (.slice none 0 0)] [(0, 6, (.tmp 71))], none⟩
      (.m ⟨some 73, .app 42 6 80 [(.int .i64 0), (.int .i64 0), (.int .i64 0), (.int .i64 0), (.slice none 0 0), (.slice none 0 0)] (.tmp 70) (.tmp 72), none⟩
      (.f ⟨some 75, .call 21 [(.tmp 73), (.tmp 74)], none⟩
      (.f ⟨some 66, .mov (.tmp 75), none⟩
      (.f ⟨some 76, .ext (.tmp 66) 0, none⟩
      (.f ⟨some 77, .ext (.tmp 66) 1, none⟩
      (.f ⟨some 13, .mov (.tmp 76), none⟩
      (.f ⟨some 14, .mov (.tmp 77), none⟩
      .done))))))))))
     (.f ⟨some 71, .ldN 6 (.tmp 12), none⟩
      (.both (.m ⟨some 70, .call 25 [(.tmp 69)], none⟩
       (.m ⟨some 72, .blds 42 1 [(.int .i64 0), (.int .i64 0), (.int .i64 0), (.int .i64 0), (.slice none 0 0), (.slice none 0 0)] [(0, 6, (.tmp 71))], none⟩
       (.m ⟨some 73, .app 42 6 80 [(.int .i64 0), (.int .i64 0), (.int .i64 0), (.int .i64 0), (.slice none 0 0), (.slice none 0 0)] (.tmp 70) (.tmp 72), none⟩
       (.f ⟨some 75, .call 21 [(.tmp 73), (.tmp 74)], none⟩
       (.f ⟨some 66, .mov (.tmp 75), none⟩
       (.f ⟨some 76, .ext (.tmp 66) 0, none⟩
       (.f ⟨some 77, .ext (.tmp 66) 1, none⟩
       (.f ⟨some 13, .mov (.tmp 76), none⟩
       (.f ⟨some 14, .mov (.tmp 77), none⟩
       .done)))))))))
      (.m ⟨some 72, .blds 42 1 [(.int .i64 0), (.int .i64 0), (.int .i64 0), (.int .i64 0), (.slice none 0 0), (.slice none 0 0)] [(0, 6, (.tmp 71))], none⟩
       (.m ⟨some 70, .call 25 [(.tmp 69)], none⟩
       (.m ⟨some 73, .app 42 6 80 [(.int .i64 0), (.int .i64 0), (.int .i64 0), (.int .i64 0), (.slice none 0 0), (.slice none 0 0)] (.tmp 70) (.tmp 72), none⟩
       (.f ⟨some 75, .call 21 [(.tmp 73), (.tmp 74)], none⟩
       (.f ⟨some 66, .mov (.tmp 75), none⟩
       (.f ⟨some 76, .ext (.tmp 66) 0, none⟩
       (.f ⟨some 77, .ext (.tmp 66) 1, none⟩
       (.f ⟨some 13, .mov (.tmp 76), none⟩
       (.f ⟨some 14, .mov (.tmp 77), none⟩
       .done)))))))))))))))))
     (.seq (.region [
     ⟨some 78, .mov (.tmp 14), none⟩,
     ⟨some 79, .bin .neq (.tmp 78) (.const (.int .i64 0)), none⟩])
     (.cond (.tmp 79)
      (.seq (.region [
      ⟨some 81, .mov (.tmp 9), none⟩,
      ⟨some 82, .ldN 6 (.tmp 12), none⟩,
      ⟨some 83, .call 26 [(.tmp 81), (.tmp 82)], none⟩,
      ⟨some 80, .mov (.tmp 83), none⟩,
      ⟨some 84, .ext (.tmp 80) 0, none⟩,
      ⟨some 85, .ext (.tmp 80) 1, none⟩,
      ⟨some 15, .new 28 (.agg #[.int .i64 0, .int .i64 0, .int .i64 0]), none⟩,
      ⟨none, .stN 3 (.tmp 15) (.tmp 84), none⟩,
      ⟨some 16, .mov (.tmp 85), none⟩])
      (.seq (.draw (.f ⟨some 86, .mov (.tmp 16), none⟩
      (.f ⟨some 87, .mov (.tmp 14), none⟩
      (.f ⟨some 88, .bin .neq (.tmp 86) (.tmp 87), none⟩
      (.f ⟨some 89, .mov (.tmp 88), none⟩
      (.f ⟨some 90, .ldN 3 (.tmp 15), some (89, false)⟩
      (.f ⟨some 91, .call 22 [], some (89, false)⟩
      (.f ⟨some 92, .ageq true [0, 0, 0] (.tmp 90) (.tmp 91), some (89, false)⟩
      (.f ⟨some 93, .pick (.tmp 89) (.const (.bool true)) (.tmp 92), none⟩
      .done)))))))))
      (.cond (.tmp 93)
       (.seq (.region [
       ⟨some 6, .mov (.const (.bool false)), none⟩])
       .ret)
       .skip)))
      .skip))))
     .skip))
    (.seq (.region [
    ⟨some 95, .mov (.tmp 9), none⟩,
    ⟨some 96, .mov (.tmp 8), none⟩,
    ⟨some 97, .mov (.tmp 11), none⟩,
    ⟨some 98, .ixs 6 (.tmp 96) (.tmp 97), none⟩,
    ⟨some 99, .ldN 6 (.tmp 98), none⟩,
    ⟨some 100, .call 26 [(.tmp 95), (.tmp 99)], none⟩,
    ⟨some 94, .mov (.tmp 100), none⟩,
    ⟨some 101, .ext (.tmp 94) 0, none⟩,
    ⟨some 102, .ext (.tmp 94) 1, none⟩,
    ⟨some 17, .new 28 (.agg #[.int .i64 0, .int .i64 0, .int .i64 0]), none⟩,
    ⟨none, .stN 3 (.tmp 17) (.tmp 101), none⟩,
    ⟨some 18, .mov (.tmp 102), none⟩])
    (.seq (.region [
    ⟨some 103, .mov (.tmp 8), none⟩,
    ⟨some 104, .mov (.tmp 11), none⟩,
    ⟨some 105, .bin .add (.tmp 104) (.const (.int .i64 1)), none⟩,
    ⟨some 106, .sls 6 (.tmp 103) none (some (.tmp 105)) none, none⟩,
    ⟨some 107, .mov (.tmp 7), none⟩,
    ⟨some 108, .call 20 [(.tmp 106), (.tmp 107)], none⟩,
    ⟨some 19, .new 28 (.agg #[.int .i64 0, .int .i64 0, .int .i64 0]), none⟩,
    ⟨none, .stN 3 (.tmp 19) (.tmp 108), none⟩])
    (.seq (.draw (.f ⟨some 109, .mov (.tmp 18), none⟩
    (.f ⟨some 110, .bin .neq (.tmp 109) (.const (.int .i64 0)), none⟩
    (.f ⟨some 111, .mov (.tmp 110), none⟩
    (.f ⟨some 112, .ldN 3 (.tmp 17), some (111, false)⟩
    (.f ⟨some 113, .ldN 3 (.tmp 19), some (111, false)⟩
    (.f ⟨some 114, .ageq true [0, 0, 0] (.tmp 112) (.tmp 113), some (111, false)⟩
    (.f ⟨some 115, .pick (.tmp 111) (.const (.bool true)) (.tmp 114), none⟩
    (.f ⟨some 116, .mov (.tmp 115), none⟩
    (.f ⟨some 117, .mov (.tmp 9), some (116, false)⟩
    (.f ⟨some 118, .call 24 [(.tmp 117)], some (116, false)⟩
    (.f ⟨some 119, .ldN 3 (.tmp 19), some (116, false)⟩
    (.f ⟨some 120, .ageq true [0, 0, 0] (.tmp 118) (.tmp 119), some (116, false)⟩
    (.f ⟨some 121, .pick (.tmp 116) (.const (.bool true)) (.tmp 120), none⟩
    .done))))))))))))))
    (.cond (.tmp 121)
     (.seq (.region [
     ⟨some 6, .mov (.const (.bool false)), none⟩])
     .ret)
     .skip))))))
   (.region [
   ⟨some 56, .mov (.tmp 11), none⟩,
   ⟨some 57, .bin .add (.tmp 56) (.const (.int .i64 1)), none⟩,
   ⟨some 11, .mov (.tmp 57), none⟩]))))))
 (.seq (.region [
 ⟨some 122, .call 16 [], none⟩,
 ⟨some 6, .mov (.tmp 122), none⟩])
 .ret)))))))),
 [.tmp 6]⟩
theorem lowc_law25_TdrfOnline : lowFn Tryd.prog movers 5 = some ⟨irc_law25_TdrfOnline.n, strip irc_law25_TdrfOnline.body, irc_law25_TdrfOnline.res⟩ := by kernel_rfl
end Go.Proofs.YtofjnldidkiihaaDoor
