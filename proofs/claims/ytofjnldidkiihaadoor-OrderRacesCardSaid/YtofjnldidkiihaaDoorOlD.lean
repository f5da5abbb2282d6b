/- The laws of order, walked: OrderGrows. No condition. -/
import Derived.Test.YtofjnldidkiihaaDoorOlB
import Derived.Test.YtofjnldidkiihaaDoorOpH
namespace Go.Proofs.YtofjnldidkiihaaDoor
open Go
set_option maxRecDepth 10000
set_option maxHeartbeats 4000000

theorem RdE.take {α : Type} {enc : α → List Value} {sz : Nat} {W0 : World} {own : Own} {a : Option Addr} {l : List α} (h : RdE enc sz W0 own a l) (k : Nat) : RdE enc sz W0 own a (l.take k) :=
  ⟨fun hn => h.isS (fun e => hn (by rw [e]; simp)), fun x hx => h.wid x (List.mem_of_mem_take hx), fun {j i x v} hx hv => by
    rw [List.getElem?_take] at hx
    split at hx
    · exact h.cell hx hv
    · cases hx⟩
theorem sls_b {α : Type} {enc : α → List Value} {T : TypeId} {sz c : Nat} {a : Option Addr} {l : List α} {D : Own} {r : Nat} {hi : Int} {K : Value → Prop} (h : BufE enc T sz a c l D) (he : hi = r) (hr : r ≤ l.length) (hk : K (.slice a r c)) : SlsT a l.length c sz none (some hi) none K := by
  subst he
  have hc := h.le
  refine ⟨0, r, c, rfl, rfl, rfl, Nat.zero_le _, fun _ => by omega, fun h => Bool.noConfusion h, fun h => Bool.noConfusion h, ?_⟩
  have e : slA a c 0 sz = a := by
    unfold slA
    split
    · rfl
    · rcases h.how with ⟨_, rfl, _⟩ | ⟨b, _, rfl, _⟩
      · omega
      · simp [addr_add]
  rw [e]
  exact hk
section
variable {W0 : World} {own : Own} {a : Option Addr} {cap : Nat}
theorem sp_OrderGrows {l : List Int} (hN : LaidAt W0 1 noneV) (hR : RdE encI 1 W0 own a l) (th : Int) :
    Pure Tryd.prog W0 15 [.slice a l.length cap, .int .i64 th] own (.bool true) := by
  refine pure_of (spec_of mixed low_law24_OrderGrows (by simp [ir_law24_OrderGrows]) ?_)
  have h2 := sp_place W0 own th (n := 3) (by omega)
  have hp := plc_rng th (n := 3) (by omega)
  have h3 := fun own' => sp_awake (W0 := W0) hN own'
  generalize plc th 3 = q at *
  obtain ⟨n, hn⟩ : ∃ n : Nat, 2 + q = n := ⟨(2 + q).toNat, by omega⟩
  by_cases hl : l.length = 0 ∨ 30 < l.length
  · repeat' ((try (conv => whnf)); first | (refine when_ye ?_ ?_; exact rfl) | (refine when_ne ?_ ?_; exact rfl) | (refine br_te ?_ ?_; exact rfl) | (refine br_fe ?_ ?_; exact rfl) | (apply br_pyE; (exact rfl); omega) | (apply br_pnE; (exact rfl); omega) | (apply when_pyE; (exact rfl); omega) | (apply when_pnE; (exact rfl); omega) | (apply br_npyE; (exact rfl); omega) | (apply br_npnE; (exact rfl); omega) | (apply when_npyE; (exact rfl); omega) | (apply when_npnE; (exact rfl); omega) | ((with_reducible show CallT _ _ _ _ _ _); first | ((refine call_pe (h3 _) ?_ ?_ ?_; (exact rfl); exact rfl))) | (refine ari ?_ ?_; omega) | (refine aru ?_ ?_; omega) | (apply sel; exact rfl) | (refine ix0 rfl ?_) | (refine ix1 rfl ?_) | (refine ix2 rfl ?_) | (refine ix3 rfl ?_) | (apply ixj; omega) | (refine ixn ?_ ?_; omega) | (refine ixs0 rfl ?_) | (refine ixs1 rfl ?_) | (refine ixs_j ?_ ?_; omega) | (refine ixs_n ?_ ?_; omega) | (apply ld_o; exact rfl) | (apply ldN_a; exact rfl) | (apply ldN_o; (exact rfl); exact rfl) | (apply st_o; (exact rfl); exact rfl) | (apply stN_o; (exact rfl); (exact rfl); exact rfl) | (refine new_i (fun bk hbk => ?_)) | (apply when_dE; (exact rfl); (exact rfl); all_goals intro hc) | (apply when_dF; (exact rfl); (exact rfl); all_goals intro hc) | (apply when_nE; (exact rfl); (exact rfl); all_goals intro hc) | (apply when_nF; (exact rfl); (exact rfl); all_goals intro hc) | (apply br_dE; (exact rfl); all_goals intro hc) | (apply br_nE; (exact rfl); all_goals intro hc) | (refine mm_min ?_) | (refine mm_max ?_) | (refine rem_i ?_ ?_; omega) | (refine SelN.mk ?_) | (refine cut_n ?_) | (refine Both.mk ?_ ?_) | (exact True.intro))
    all_goals first | (exfalso; omega) | exact ⟨rfl, (by first | exact ent_i | (repeat (first | exact Ent.refl | exact Ent.left | refine Ent.cons ?_ | refine Ent.app ?_)))⟩
  · have hev := sp_events (W0 := W0) (own := own) (cap := cap) (n := n) (by omega) hR (by omega)
    rw [← hn] at hev
    repeat' ((try (conv => whnf)); first | (refine when_ye ?_ ?_; exact rfl) | (refine when_ne ?_ ?_; exact rfl) | (refine br_te ?_ ?_; exact rfl) | (refine br_fe ?_ ?_; exact rfl) | (apply br_pyE; (exact rfl); omega) | (apply br_pnE; (exact rfl); omega) | (apply when_pyE; (exact rfl); omega) | (apply when_pnE; (exact rfl); omega) | (apply br_npyE; (exact rfl); omega) | (apply br_npnE; (exact rfl); omega) | (apply when_npyE; (exact rfl); omega) | (apply when_npnE; (exact rfl); omega) | ((with_reducible show CallT _ _ _ _ _ _); first | ((refine call_pe (h2) ?_ ?_ ?_; (exact rfl); exact rfl)) | ((refine call_x hev ?_ ?_ (fun s v hv => ?_); (exact rfl); (exact rfl); (obtain ⟨ea, ec, L, D, X⟩ := s; obtain ⟨rfl, hL, hB, hM⟩ := hv; dsimp only at hL hB hM); (apply Stop.h)))) | (refine ari ?_ ?_; omega) | (refine aru ?_ ?_; omega) | (apply sel; exact rfl) | (refine ix0 rfl ?_) | (refine ix1 rfl ?_) | (refine ix2 rfl ?_) | (refine ix3 rfl ?_) | (apply ixj; omega) | (refine ixn ?_ ?_; omega) | (refine ixs0 rfl ?_) | (refine ixs1 rfl ?_) | (refine ixs_j ?_ ?_; omega) | (refine ixs_n ?_ ?_; omega) | (apply ld_o; exact rfl) | (apply ldN_a; exact rfl) | (apply ldN_o; (exact rfl); exact rfl) | (apply st_o; (exact rfl); exact rfl) | (apply stN_o; (exact rfl); (exact rfl); exact rfl) | (refine new_i (fun bk hbk => ?_)) | (apply when_dE; (exact rfl); (exact rfl); all_goals intro hc) | (apply when_dF; (exact rfl); (exact rfl); all_goals intro hc) | (apply when_nE; (exact rfl); (exact rfl); all_goals intro hc) | (apply when_nF; (exact rfl); (exact rfl); all_goals intro hc) | (apply br_dE; (exact rfl); all_goals intro hc) | (apply br_nE; (exact rfl); all_goals intro hc) | (refine mm_min ?_) | (refine mm_max ?_) | (refine rem_i ?_ ?_; omega) | (refine SelN.mk ?_) | (refine cut_n ?_) | (refine Both.mk ?_ ?_) | (exact True.intro))
    refine Stop.mk ?_
    dsimp only
    obtain ⟨L', e, rfl⟩ : ∃ L' e, L = L' ++ [e] := by
      refine ⟨L.dropLast, L.getLast (fun h => by rw [h] at hL; simp at hL; omega), (List.dropLast_concat_getLast _).symm⟩
    have hlen : (L' ++ [e]).length = L'.length + 1 := by simp
    obtain ⟨hw0, _⟩ := hM.wf.init
    have hw := hw0.wf
    obtain ⟨z, hz, hzk⟩ := rcA_snoc (e := e) hw
    have hck : (chkE (L' ++ [e]) (2 + q)).2 = 0 := chk_ok.2 ⟨by omega, by rw [hn, Int.toNat_natCast]; exact hM.wf⟩
    have hck' : (chkE L' (2 + q)).2 = 0 := chk_ok.2 ⟨by omega, by rw [hn, Int.toNat_natCast]; exact hw0⟩
    have hr1 : rcR L' (2 + q) = rcA L' L'.length := by unfold rcR; rw [if_pos hck']
    have hr2 : rcR (L' ++ [e]) (2 + q) = rcA L' L'.length ++ z := by unfold rcR; rw [if_pos hck, hz]
    have hal := rcA_len L' L'.length L'.length (Nat.le_refl _)
    have hal2 := rcA_len (L' ++ [e]) (L' ++ [e]).length (L' ++ [e]).length (Nat.le_refl _)
    rw [hz, List.length_append] at hal2
    have hm1 : L'.length * (64 * L'.length) ≤ 40 * (64 * 40) := Nat.mul_le_mul (by omega) (by omega)
    have hm2 : (L' ++ [e]).length * (64 * (L' ++ [e]).length) ≤ 40 * (64 * 40) := Nat.mul_le_mul (by omega) (by omega)
    have hRL : RdE EH.enc 6 W0 (X ++ (D ++ own)) ea (L' ++ [e]) := hB.rd.up
    have hRT : RdE EH.enc 6 W0 (X ++ (D ++ own)) ea L' := by
      have := hRL.take L'.length
      rwa [List.take_left'] at this
      rfl
    have hEv : ∀ x ∈ L' ++ [e], EvR W0 (X ++ (D ++ own)) x := fun x hx => (hM.ev x hx).up
    have hR1 := fun own' [EntC own' (X ++ (D ++ own))] => sp_oRaces (W0 := W0) (own := own') (cap := ec) (l := L') (hRT.up) (fun x hx => (hEv x (List.mem_append_left _ hx)).up) (2 + q)
    have hR2 := fun own' [EntC own' (X ++ (D ++ own))] => sp_oRaces (W0 := W0) (own := own') (cap := ec) (l := L' ++ [e]) (hRL.up) (fun x hx => (hEv x hx).up) (2 + q)
    rw [hr1] at hR1
    rw [hr2] at hR2
    generalize rcA L' L'.length = A at *
    clear hev h2
    repeat' ((try (conv => whnf)); first | (refine when_ye ?_ ?_; exact rfl) | (refine when_ne ?_ ?_; exact rfl) | (refine br_te ?_ ?_; exact rfl) | (refine br_fe ?_ ?_; exact rfl) | (apply br_pyE; (exact rfl); omega) | (apply br_pnE; (exact rfl); omega) | (apply when_pyE; (exact rfl); omega) | (apply when_pnE; (exact rfl); omega) | (apply br_npyE; (exact rfl); omega) | (apply br_npnE; (exact rfl); omega) | (apply when_npyE; (exact rfl); omega) | (apply when_npnE; (exact rfl); omega) | (refine sls_b (r := L'.length) hB ?_ ?_ ?_; (omega); (omega)) | ((with_reducible show CallT _ _ _ _ _ _); first | ((refine call_x (hR1 _) ?_ ?_ (fun s v hv => ?_); (exact rfl); (exact rfl); (obtain ⟨a1, c1, D1⟩ := s; obtain ⟨rfl, hB1⟩ := hv; dsimp only at hB1); (apply Stop.h)))) | (refine ari ?_ ?_; omega) | (refine aru ?_ ?_; omega) | (apply sel; exact rfl) | (refine ix0 rfl ?_) | (refine ix1 rfl ?_) | (refine ix2 rfl ?_) | (refine ix3 rfl ?_) | (apply ixj; omega) | (refine ixn ?_ ?_; omega) | (refine ixs0 rfl ?_) | (refine ixs1 rfl ?_) | (refine ixs_j ?_ ?_; omega) | (refine ixs_n ?_ ?_; omega) | (apply ld_o; exact rfl) | (apply ldN_a; exact rfl) | (apply ldN_o; (exact rfl); exact rfl) | (apply st_o; (exact rfl); exact rfl) | (apply stN_o; (exact rfl); (exact rfl); exact rfl) | (refine new_i (fun bk hbk => ?_)) | (apply when_dE; (exact rfl); (exact rfl); all_goals intro hc) | (apply when_dF; (exact rfl); (exact rfl); all_goals intro hc) | (apply when_nE; (exact rfl); (exact rfl); all_goals intro hc) | (apply when_nF; (exact rfl); (exact rfl); all_goals intro hc) | (apply br_dE; (exact rfl); all_goals intro hc) | (apply br_nE; (exact rfl); all_goals intro hc) | (refine mm_min ?_) | (refine mm_max ?_) | (refine rem_i ?_ ?_; omega) | (refine SelN.mk ?_) | (refine cut_n ?_) | (refine Both.mk ?_ ?_) | (exact True.intro))
    refine Stop.mk ?_
    repeat' ((try (conv => whnf)); first | (refine when_ye ?_ ?_; exact rfl) | (refine when_ne ?_ ?_; exact rfl) | (refine br_te ?_ ?_; exact rfl) | (refine br_fe ?_ ?_; exact rfl) | (apply br_pyE; (exact rfl); omega) | (apply br_pnE; (exact rfl); omega) | (apply when_pyE; (exact rfl); omega) | (apply when_pnE; (exact rfl); omega) | (apply br_npyE; (exact rfl); omega) | (apply br_npnE; (exact rfl); omega) | (apply when_npyE; (exact rfl); omega) | (apply when_npnE; (exact rfl); omega) | ((with_reducible show CallT _ _ _ _ _ _); first | ((refine call_x (hR2 _) ?_ ?_ (fun s v hv => ?_); (exact rfl); (exact rfl); (obtain ⟨a2, c2, D2⟩ := s; obtain ⟨rfl, hB2⟩ := hv; dsimp only at hB2); (apply Stop.h)))) | (refine ari ?_ ?_; omega) | (refine aru ?_ ?_; omega) | (apply sel; exact rfl) | (refine ix0 rfl ?_) | (refine ix1 rfl ?_) | (refine ix2 rfl ?_) | (refine ix3 rfl ?_) | (apply ixj; omega) | (refine ixn ?_ ?_; omega) | (refine ixs0 rfl ?_) | (refine ixs1 rfl ?_) | (refine ixs_j ?_ ?_; omega) | (refine ixs_n ?_ ?_; omega) | (apply ld_o; exact rfl) | (apply ldN_a; exact rfl) | (apply ldN_o; (exact rfl); exact rfl) | (apply st_o; (exact rfl); exact rfl) | (apply stN_o; (exact rfl); (exact rfl); exact rfl) | (refine new_i (fun bk hbk => ?_)) | (apply when_dE; (exact rfl); (exact rfl); all_goals intro hc) | (apply when_dF; (exact rfl); (exact rfl); all_goals intro hc) | (apply when_nE; (exact rfl); (exact rfl); all_goals intro hc) | (apply when_nF; (exact rfl); (exact rfl); all_goals intro hc) | (apply br_dE; (exact rfl); all_goals intro hc) | (apply br_nE; (exact rfl); all_goals intro hc) | (refine mm_min ?_) | (refine mm_max ?_) | (refine rem_i ?_ ?_; omega) | (refine SelN.mk ?_) | (refine cut_n ?_) | (refine Both.mk ?_ ?_) | (exact True.intro))
    refine Stop.mk ?_
    dsimp only
    have hazl : (A ++ z).length = A.length + z.length := List.length_append
    have hrd2 := hB2.rd (W0 := W0)
    have hrt2 : RdE encRc 3 W0 D2 a2 A := by
      have := hrd2.take A.length
      rwa [List.take_left'] at this
      rfl
    have hk := fun own' [EntC own' D1] [EntC own' D2] => sp_kraces (W0 := W0) (own := own') (c1 := c1) (c2 := c2) (hB1.rd.up) (hrt2.up) (by omega)
    repeat' ((try (conv => whnf)); first | (refine when_ye ?_ ?_; exact rfl) | (refine when_ne ?_ ?_; exact rfl) | (refine br_te ?_ ?_; exact rfl) | (refine br_fe ?_ ?_; exact rfl) | (apply br_pyE; (exact rfl); omega) | (apply br_pnE; (exact rfl); omega) | (apply when_pyE; (exact rfl); omega) | (apply when_pnE; (exact rfl); omega) | (apply br_npyE; (exact rfl); omega) | (apply br_npnE; (exact rfl); omega) | (apply when_npyE; (exact rfl); omega) | (apply when_npnE; (exact rfl); omega) | (refine sls_b (r := A.length) hB2 ?_ ?_ ?_; (omega); (omega)) | ((with_reducible show CallT _ _ _ _ _ _); first | ((refine call_pe (hk _) ?_ ?_ ?_; (exact rfl); exact rfl))) | (refine ari ?_ ?_; omega) | (refine aru ?_ ?_; omega) | (apply sel; exact rfl) | (refine ix0 rfl ?_) | (refine ix1 rfl ?_) | (refine ix2 rfl ?_) | (refine ix3 rfl ?_) | (apply ixj; omega) | (refine ixn ?_ ?_; omega) | (refine ixs0 rfl ?_) | (refine ixs1 rfl ?_) | (refine ixs_j ?_ ?_; omega) | (refine ixs_n ?_ ?_; omega) | (apply ld_o; exact rfl) | (apply ldN_a; exact rfl) | (apply ldN_o; (exact rfl); exact rfl) | (apply st_o; (exact rfl); exact rfl) | (apply stN_o; (exact rfl); (exact rfl); exact rfl) | (refine new_i (fun bk hbk => ?_)) | (apply when_dE; (exact rfl); (exact rfl); all_goals intro hc) | (apply when_dF; (exact rfl); (exact rfl); all_goals intro hc) | (apply when_nE; (exact rfl); (exact rfl); all_goals intro hc) | (apply when_nF; (exact rfl); (exact rfl); all_goals intro hc) | (apply br_dE; (exact rfl); all_goals intro hc) | (apply br_nE; (exact rfl); all_goals intro hc) | (refine mm_min ?_) | (refine mm_max ?_) | (refine rem_i ?_ ?_; omega) | (refine SelN.mk ?_) | (refine cut_n ?_) | (refine Both.mk ?_ ?_) | (exact True.intro))
    refine loop_c (σ := Nat) (fun i => [(10, .int .i64 i)]) (fun i => A.length ≤ i ∧ i ≤ (A ++ z).length) (fun i => (A ++ z).length - i) A.length ⟨Nat.le_refl _, by omega⟩ (by repeat' (first | exact True.intro | refine And.intro ?_ ?_ | exact rfl | exact vi (by omega) | (dsimp only; exact rfl) | (dsimp only; exact vi (by omega)))) rfl ?_
    rintro i junk ⟨hi1, hi2⟩
    by_cases hlt : i < (A ++ z).length
    · have hlt' : (i : Int) < (A ++ z).length := by omega
      obtain ⟨r, hr⟩ : ∃ r, (A ++ z)[i]? = some r := ⟨_, List.getElem?_eq_getElem hlt⟩
      have hrz : r.2.1 = (L'.length : Int) := hzk r (by rw [List.getElem?_append_right hi1] at hr; exact List.mem_of_getElem? hr)
      have hne : ¬ r.2.1 ≠ ((L' ++ [e]).length : Int) - 1 := by omega
      repeat' ((try (conv => whnf)); first | (refine when_ye ?_ ?_; exact rfl) | (refine when_ne ?_ ?_; exact rfl) | (refine br_te ?_ ?_; exact rfl) | (refine br_fe ?_ ?_; exact rfl) | (apply br_pyE; (exact rfl); omega) | (apply br_pnE; (exact rfl); omega) | (apply when_pyE; (exact rfl); omega) | (apply when_pnE; (exact rfl); omega) | (apply br_npyE; (exact rfl); omega) | (apply br_npnE; (exact rfl); omega) | (apply when_npyE; (exact rfl); omega) | (apply when_npnE; (exact rfl); omega) | (refine br_pyE ?_ hlt' ?_; exact rfl) | (refine br_pnE ?_ hlt' ?_; exact rfl) | (refine when_pyE ?_ hlt' ?_; exact rfl) | (refine when_pnE ?_ hlt' ?_; exact rfl) | (refine br_npyE ?_ hlt' ?_; exact rfl) | (refine br_npnE ?_ hlt' ?_; exact rfl) | (refine when_npyE ?_ hlt' ?_; exact rfl) | (refine when_npnE ?_ hlt' ?_; exact rfl) | (refine br_pyE ?_ hne ?_; exact rfl) | (refine br_pnE ?_ hne ?_; exact rfl) | (refine when_pyE ?_ hne ?_; exact rfl) | (refine when_pnE ?_ hne ?_; exact rfl) | (refine br_npyE ?_ hne ?_; exact rfl) | (refine br_npnE ?_ hne ?_; exact rfl) | (refine when_npyE ?_ hne ?_; exact rfl) | (refine when_npnE ?_ hne ?_; exact rfl) | ((with_reducible show Ld _ _ _ _); first | (refine ldE0 hrd2 hr rfl ?_) | (refine ldEk hrd2 hr rfl ?_) | (refine ldE1 hrd2 hr rfl ?_)) | ((with_reducible show IxS _ _ _ _ _); first | ((refine ixE hrd2 hr ?_ ?_; (first | rfl | omega)))) | ((with_reducible show LdN _ _ _ _ _); first | (refine ldNEi hrd2 hr rfl ?_)) | (refine ari ?_ ?_; omega) | (refine aru ?_ ?_; omega) | (apply sel; exact rfl) | (refine ix0 rfl ?_) | (refine ix1 rfl ?_) | (refine ix2 rfl ?_) | (refine ix3 rfl ?_) | (apply ixj; omega) | (refine ixn ?_ ?_; omega) | (refine ixs0 rfl ?_) | (refine ixs1 rfl ?_) | (refine ixs_j ?_ ?_; omega) | (refine ixs_n ?_ ?_; omega) | (apply ld_o; exact rfl) | (apply ldN_a; exact rfl) | (apply ldN_o; (exact rfl); exact rfl) | (apply st_o; (exact rfl); exact rfl) | (apply stN_o; (exact rfl); (exact rfl); exact rfl) | (refine new_i (fun bk hbk => ?_)) | (apply when_dE; (exact rfl); (exact rfl); all_goals intro hc) | (apply when_dF; (exact rfl); (exact rfl); all_goals intro hc) | (apply when_nE; (exact rfl); (exact rfl); all_goals intro hc) | (apply when_nF; (exact rfl); (exact rfl); all_goals intro hc) | (apply br_dE; (exact rfl); all_goals intro hc) | (apply br_nE; (exact rfl); all_goals intro hc) | (refine mm_min ?_) | (refine mm_max ?_) | (refine rem_i ?_ ?_; omega) | (refine SelN.mk ?_) | (refine cut_n ?_) | (refine Both.mk ?_ ?_) | (exact True.intro))
      exact ⟨i + 1, ⟨by omega, by omega⟩, by omega, (by repeat' (first | exact True.intro | refine And.intro ?_ ?_ | exact rfl | exact vi (by omega) | (dsimp only; exact rfl) | (dsimp only; exact vi (by omega)))), (by first | exact ent_i | (repeat (first | exact Ent.refl | exact Ent.left | refine Ent.cons ?_ | refine Ent.app ?_)))⟩
    · have hlt' : ¬ (i : Int) < (A ++ z).length := by omega
      repeat' ((try (conv => whnf)); first | (refine when_ye ?_ ?_; exact rfl) | (refine when_ne ?_ ?_; exact rfl) | (refine br_te ?_ ?_; exact rfl) | (refine br_fe ?_ ?_; exact rfl) | (apply br_pyE; (exact rfl); omega) | (apply br_pnE; (exact rfl); omega) | (apply when_pyE; (exact rfl); omega) | (apply when_pnE; (exact rfl); omega) | (apply br_npyE; (exact rfl); omega) | (apply br_npnE; (exact rfl); omega) | (apply when_npyE; (exact rfl); omega) | (apply when_npnE; (exact rfl); omega) | (refine br_pyE ?_ hlt' ?_; exact rfl) | (refine br_pnE ?_ hlt' ?_; exact rfl) | (refine when_pyE ?_ hlt' ?_; exact rfl) | (refine when_pnE ?_ hlt' ?_; exact rfl) | (refine br_npyE ?_ hlt' ?_; exact rfl) | (refine br_npnE ?_ hlt' ?_; exact rfl) | (refine when_npyE ?_ hlt' ?_; exact rfl) | (refine when_npnE ?_ hlt' ?_; exact rfl) | ((with_reducible show CallT _ _ _ _ _ _); first | ((refine call_pe (h3 _) ?_ ?_ ?_; (exact rfl); exact rfl))) | (refine ari ?_ ?_; omega) | (refine aru ?_ ?_; omega) | (apply sel; exact rfl) | (refine ix0 rfl ?_) | (refine ix1 rfl ?_) | (refine ix2 rfl ?_) | (refine ix3 rfl ?_) | (apply ixj; omega) | (refine ixn ?_ ?_; omega) | (refine ixs0 rfl ?_) | (refine ixs1 rfl ?_) | (refine ixs_j ?_ ?_; omega) | (refine ixs_n ?_ ?_; omega) | (apply ld_o; exact rfl) | (apply ldN_a; exact rfl) | (apply ldN_o; (exact rfl); exact rfl) | (apply st_o; (exact rfl); exact rfl) | (apply stN_o; (exact rfl); (exact rfl); exact rfl) | (refine new_i (fun bk hbk => ?_)) | (apply when_dE; (exact rfl); (exact rfl); all_goals intro hc) | (apply when_dF; (exact rfl); (exact rfl); all_goals intro hc) | (apply when_nE; (exact rfl); (exact rfl); all_goals intro hc) | (apply when_nF; (exact rfl); (exact rfl); all_goals intro hc) | (apply br_dE; (exact rfl); all_goals intro hc) | (apply br_nE; (exact rfl); all_goals intro hc) | (refine mm_min ?_) | (refine mm_max ?_) | (refine rem_i ?_ ?_; omega) | (refine SelN.mk ?_) | (refine cut_n ?_) | (refine Both.mk ?_ ?_) | (exact True.intro))
      exact ⟨rfl, Ent.app (Ent.app (Ent.app (Ent.app Ent.refl)))⟩
end
end Go.Proofs.YtofjnldidkiihaaDoor
