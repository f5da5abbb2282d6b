/- What the laws share, part 18. No condition. -/
import Derived.Test.YtfompmhncnkcfaaGreatDoorW17
namespace Go.Proofs.YtfompmhncnkcfaaGreatDoor
open Go
set_option maxRecDepth 10000
theorem sp_rclass (W0 : World) (own : Own) (c : Cfg) (b : Int) : Pure Tryz.prog W0 38 [c.v, .int .i64 b] own (.int .i64 (classM c b)) := by
  refine pure_of (spec_of mixed low_ref07_Class (by simp [ir_ref07_Class]) ?_)
  by_cases h0 : 0 ≤ b ∧ b < blocksM c
  · have hp := blocks_pos h0.1 h0.2
    have hbd := check_bd hp.1
    repeat' ((try (conv => whnf)); first | (apply call_p (sp_rblocks _ _ c)) | (refine loop_r 5 ?_) | (refine when_y ?_) | (refine when_tf ?_) | (refine br_t ?_) | (refine ari ?_ ?_; omega) | (refine ix0 rfl ?_) | (refine ix1 rfl ?_) | (refine ix2 rfl ?_) | (refine ix3 rfl ?_) | (apply ixj; omega) | (apply ld_own; (first | (solve | repeat (first | with_reducible exact List.mem_cons_self | (with_reducible (apply List.mem_append_left; exact List.mem_cons_self)) | with_reducible apply List.mem_cons_of_mem | with_reducible apply List.mem_append_right)) | (repeat (first | exact List.Mem.head _ | apply List.Mem.tail | apply List.mem_append_right))); exact rfl) | (apply ldN_all; (first | (solve | repeat (first | with_reducible exact List.mem_cons_self | (with_reducible (apply List.mem_append_left; exact List.mem_cons_self)) | with_reducible apply List.mem_cons_of_mem | with_reducible apply List.mem_append_right)) | (repeat (first | exact List.Mem.head _ | apply List.Mem.tail | apply List.mem_append_right))); exact rfl) | (refine new_i (fun bk hbk => ?_)) | (refine when_df (fun hc => ?_) (fun hc => ?_)) | (refine br_d (fun hc => ?_) (fun hc => ?_)))
    all_goals first | (exfalso; omega) | (refine ⟨ret1 (vi ?_), by (repeat (first | exact Ent.refl | exact Ent.left | refine Ent.cons ?_ | refine Ent.app ?_))⟩; simp only [classM, hp.1, h0, and_self, if_true]; repeat' (first | omega | (rw [if_pos (by omega)]) | (rw [if_neg (by omega)])))
  · repeat' ((try (conv => whnf)); first | (apply call_p (sp_rblocks _ _ c)) | (refine when_y ?_) | (refine when_tf ?_) | (refine br_t ?_) | (apply ldN_all; (first | (solve | repeat (first | with_reducible exact List.mem_cons_self | (with_reducible (apply List.mem_append_left; exact List.mem_cons_self)) | with_reducible apply List.mem_cons_of_mem | with_reducible apply List.mem_append_right)) | (repeat (first | exact List.Mem.head _ | apply List.Mem.tail | apply List.mem_append_right))); exact rfl) | (refine new_i (fun bk hbk => ?_)) | (refine when_df (fun hc => ?_) (fun hc => ?_)) | (refine br_d (fun hc => ?_) (fun hc => ?_)))
    all_goals first | (exfalso; omega) | exact ⟨ret1 (vi (class_out h0)), by (repeat (first | exact Ent.refl | exact Ent.left | refine Ent.cons ?_ | refine Ent.app ?_))⟩
theorem sp_rfirst (W0 : World) (own : Own) (c : Cfg) (b : Int) : Pure Tryz.prog W0 39 [c.v, .int .i64 b] own (.int .i64 (firstM c b)) := by
  refine pure_of (spec_of mixed low_ref07_First (by simp [ir_ref07_First]) ?_)
  have hB := blocks_bd c
  by_cases h0 : 0 ≤ b ∧ b < blocksM c
  · have hp := blocks_pos h0.1 h0.2
    have hbd := check_bd hp.1
    repeat' ((try (conv => whnf)); first | (apply call_p (sp_rblocks _ _ c)) | (refine when_y ?_) | (refine when_tf ?_) | (refine br_t ?_) | (apply ld_own; (first | (solve | repeat (first | with_reducible exact List.mem_cons_self | (with_reducible (apply List.mem_append_left; exact List.mem_cons_self)) | with_reducible apply List.mem_cons_of_mem | with_reducible apply List.mem_append_right)) | (repeat (first | exact List.Mem.head _ | apply List.Mem.tail | apply List.mem_append_right))); exact rfl) | (apply ldN_all; (first | (solve | repeat (first | with_reducible exact List.mem_cons_self | (with_reducible (apply List.mem_append_left; exact List.mem_cons_self)) | with_reducible apply List.mem_cons_of_mem | with_reducible apply List.mem_append_right)) | (repeat (first | exact List.Mem.head _ | apply List.Mem.tail | apply List.mem_append_right))); exact rfl) | (refine new_i (fun bk hbk => ?_)) | (refine when_df (fun hc => ?_) (fun hc => ?_)) | (refine br_d (fun hc => ?_) (fun hc => ?_)))
    · omega
    · refine loop_c (σ := Int) (fun i => [(6, .int .i64 i), (5, .int .i64 (posM c i))]) (fun i => 0 ≤ i ∧ i ≤ b) (fun i => (b - i).toNat) 0 ⟨by omega, by omega⟩ ?_ rfl ?_
      · have e : posM c 0 = c.base := by unfold posM; rw [if_pos (by omega)]; omega
        rw [e]
        exact (by repeat' (first | exact True.intro | refine And.intro ?_ ?_ | exact rfl | exact vi (by omega) | (dsimp only; exact rfl) | (dsimp only; exact vi (by omega))))
      · rintro i junk ⟨hi0, hi⟩
        by_cases hlt : i < b
        · have hq := pos_bd hi0 (by omega) hp.1
          rcases pos_succ hi0 (show i < blocksM c by omega) with ⟨hcl, hs⟩ | ⟨hcl, hs⟩ | ⟨hcl, hs⟩ | ⟨hcl, hs⟩
          all_goals
            have hP : ∀ own, Pure Tryz.prog W0 38 [c.v, .int .i64 i] own (.int .i64 (classM c i)) := fun own => sp_rclass W0 own c i
            rw [hcl] at hP
            repeat' ((try (conv => whnf)); first | (apply call_p (hP _)) | (refine ari ?_ ?_; omega) | (apply ldN_all; (first | (solve | repeat (first | with_reducible exact List.mem_cons_self | (with_reducible (apply List.mem_append_left; exact List.mem_cons_self)) | with_reducible apply List.mem_cons_of_mem | with_reducible apply List.mem_append_right)) | (repeat (first | exact List.Mem.head _ | apply List.Mem.tail | apply List.mem_append_right))); exact rfl) | (refine br_d (fun hc => ?_) (fun hc => ?_)) | (refine shl0 ?_ ?_; omega) | (refine shl1 ?_ ?_; omega) | (refine shl2 ?_ ?_; omega) | (refine shl3 ?_ ?_; omega))
            · refine ⟨i + 1, ⟨by omega, by omega⟩, by omega, ?_, Ent.refl⟩
              rw [hs]
              exact (by repeat' (first | exact True.intro | refine And.intro ?_ ?_ | exact rfl | exact vi (by omega) | (dsimp only; exact rfl) | (dsimp only; exact vi (by omega))))
            · omega
        · repeat' ((try (conv => whnf)); first | (apply call_p (sp_rclass _ _ c i)) | (apply ldN_all; (first | (solve | repeat (first | with_reducible exact List.mem_cons_self | (with_reducible (apply List.mem_append_left; exact List.mem_cons_self)) | with_reducible apply List.mem_cons_of_mem | with_reducible apply List.mem_append_right)) | (repeat (first | exact List.Mem.head _ | apply List.Mem.tail | apply List.mem_append_right))); exact rfl) | (refine br_d (fun hc => ?_) (fun hc => ?_)))
          · omega
          · refine ⟨ret1 (vi ?_), by (repeat (first | exact Ent.refl | exact Ent.left | refine Ent.cons ?_ | refine Ent.app ?_))⟩
            have e : i = b := by omega
            rw [e, pos_first h0.1 h0.2]
    · omega
  · repeat' ((try (conv => whnf)); first | (apply call_p (sp_rblocks _ _ c)) | (refine when_y ?_) | (refine when_tf ?_) | (refine br_t ?_) | (apply ld_own; (first | (solve | repeat (first | with_reducible exact List.mem_cons_self | (with_reducible (apply List.mem_append_left; exact List.mem_cons_self)) | with_reducible apply List.mem_cons_of_mem | with_reducible apply List.mem_append_right)) | (repeat (first | exact List.Mem.head _ | apply List.Mem.tail | apply List.mem_append_right))); exact rfl) | (apply ldN_all; (first | (solve | repeat (first | with_reducible exact List.mem_cons_self | (with_reducible (apply List.mem_append_left; exact List.mem_cons_self)) | with_reducible apply List.mem_cons_of_mem | with_reducible apply List.mem_append_right)) | (repeat (first | exact List.Mem.head _ | apply List.Mem.tail | apply List.mem_append_right))); exact rfl) | (refine new_i (fun bk hbk => ?_)) | (refine when_df (fun hc => ?_) (fun hc => ?_)) | (refine br_d (fun hc => ?_) (fun hc => ?_)))
    all_goals first | (exfalso; omega) | exact ⟨ret1 (vi (first_out h0)), by (repeat (first | exact Ent.refl | exact Ent.left | refine Ent.cons ?_ | refine Ent.app ?_))⟩
theorem sp_rfind (W0 : World) (own : Own) (c : Cfg) (a : Int) : Pure Tryz.prog W0 91 [c.v, .int .u64 a] own (.int .i64 (lfindM c a)) := by
  refine pure_of (spec_of mixed low_ref07_Find (by simp [ir_ref07_Find]) ?_)
  have hB := blocks_bd c
  repeat' ((try (conv => whnf)); first | (refine new_i (fun bk hbk => ?_)))
  refine loop_c (σ := Int) (fun k => [(5, .int .i64 k)]) (fun k => 0 ≤ k ∧ k ≤ blocksM c ∧ findG c a (blocksM c - k).toNat k = lfindM c a) (fun k => (blocksM c - k).toNat) 0 ⟨by omega, by omega, by simp [lfindM]⟩ (by repeat' (first | exact True.intro | refine And.intro ?_ ?_ | exact rfl | exact vi (by omega) | (dsimp only; exact rfl) | (dsimp only; exact vi (by omega)))) rfl ?_
  rintro k junk ⟨hk0, hk1, hk⟩
  by_cases hlt : k < blocksM c
  · have hf := first_bd hk0 hlt
    have e : (blocksM c - k).toNat = (blocksM c - (k + 1)).toNat + 1 := by omega
    rw [e, findG] at hk
    repeat' ((try (conv => whnf)); first | (apply call_p (sp_rblocks _ _ c)) | (apply call_p (sp_rfirst _ _ c k)) | (refine ari ?_ ?_; omega) | (refine aru ?_ ?_; omega) | (apply ldN_all; (first | (solve | repeat (first | with_reducible exact List.mem_cons_self | (with_reducible (apply List.mem_append_left; exact List.mem_cons_self)) | with_reducible apply List.mem_cons_of_mem | with_reducible apply List.mem_append_right)) | (repeat (first | exact List.Mem.head _ | apply List.Mem.tail | apply List.mem_append_right))); exact rfl) | (refine br_d (fun hc => ?_) (fun hc => ?_)))
    · rw [if_pos (by assumption)] at hk
      exact ⟨ret1 (vi hk), by (repeat (first | exact Ent.refl | exact Ent.left | refine Ent.cons ?_ | refine Ent.app ?_))⟩
    · rw [if_neg (by assumption)] at hk
      exact ⟨k + 1, ⟨by omega, by omega, hk⟩, by omega, (by repeat' (first | exact True.intro | refine And.intro ?_ ?_ | exact rfl | exact vi (by omega) | (dsimp only; exact rfl) | (dsimp only; exact vi (by omega)))), Ent.refl⟩
    · omega
  · repeat' ((try (conv => whnf)); first | (apply call_p (sp_rblocks _ _ c)) | (apply call_p (sp_rfirst _ _ c k)) | (refine ari ?_ ?_; omega) | (refine aru ?_ ?_; omega) | (apply ldN_all; (first | (solve | repeat (first | with_reducible exact List.mem_cons_self | (with_reducible (apply List.mem_append_left; exact List.mem_cons_self)) | with_reducible apply List.mem_cons_of_mem | with_reducible apply List.mem_append_right)) | (repeat (first | exact List.Mem.head _ | apply List.Mem.tail | apply List.mem_append_right))); exact rfl) | (refine br_d (fun hc => ?_) (fun hc => ?_)))
    · omega
    · omega
    · have e : (blocksM c - k).toNat = 0 := by omega
      rw [e, findG] at hk
      exact ⟨ret1 (vi hk), by (repeat (first | exact Ent.refl | exact Ent.left | refine Ent.cons ?_ | refine Ent.app ?_))⟩
end Go.Proofs.YtfompmhncnkcfaaGreatDoor
namespace Go.Proofs.YtfompmhncnkcfaaGreatDoor
open Go
set_option maxRecDepth 10000
section
variable {W0 : World} {own : Own} {c : Cfg} {la pka : Option Addr} {lc pkc : Nat} {ls : List IH} {pks : List Int}
theorem sp_script2 (n most : Int) (heap plain : Bool) (hc : 0 ≤ c.words ∧ c.words ≤ 1000000) (hn : 1 ≤ n ∧ n ≤ 1000) (hm : 1 ≤ most ∧ most ≤ 64)
    (hL : RdE IH.enc 1 W0 own la ls) (hQ : ∀ h ∈ ls, RdE encI 1 W0 own h.a h.l ∧ h.l.length ≤ 1000000) (hP : RdE encI 1 W0 own pka pks) (hpl : pks.length ≤ 1000000) :
    Spec Tryz.prog W0 29 [c.v, .int .i64 n, .slice la ls.length lc, .int .i64 most, .bool heap, .bool plain, .slice pka pks.length pkc] own fun v own' =>
      ∃ ia il ic Di pa ps pc Dp ka ks kc Dk, v = scrV c ia (List.length il) ic pa (List.length ps) pc ka (List.length ks) kc ∧ BufE encU 63 1 ia ic il Di ∧ BufE PH.enc 67 1 pa pc (ps.map PB.h) Dp ∧ BufE encI 3 1 ka kc ks Dk ∧
        (∀ x ∈ ps, x.ok ∧ checkR x.h.p = (0, 0)) ∧ (il.length : Int) = c.words ∧ (∀ x ∈ il, 0 ≤ x ∧ x ≤ 3) ∧ (ps.length : Int) = n ∧ ks.length = pks.length ∧ (∀ k ∈ ks, 0 ≤ k ∧ k < n) ∧ Ent W0 own' (Dk ++ (Dp ++ (ownL ps ++ (Di ++ own)))) := by
  refine spec_of mixed low_make_Script (by simp [ir_make_Script]) ?_
  repeat' ((try (conv => whnf)); first | (refine stN_and' rfl ?_) | (apply ldN_all; (first | (solve | repeat (first | with_reducible exact List.mem_cons_self | (with_reducible (apply List.mem_append_left; exact List.mem_cons_self)) | with_reducible apply List.mem_cons_of_mem | with_reducible apply List.mem_append_right)) | (repeat (first | exact List.Mem.head _ | apply List.Mem.tail | apply List.mem_append_right))); exact rfl) | (apply stN_own; (first | (solve | repeat (first | with_reducible exact Up.head | with_reducible apply Up.tail | with_reducible apply Up.app)) | (repeat (first | exact Up.head | apply Up.tail | apply Up.app))); (solve | ((try (conv => arg 2; whnf)); repeat' (first | exact Lis.nil | apply Lis.cons | apply SetAt.here | apply SetAt.there | apply PutAt.done | apply PutAt.put | apply PutAt.skip))); exact rfl) | (refine new_i (fun bk hbk => ?_)))
  rename_i b7 h7 b14 h14
  refine loop_i (σ := List Int × Option Addr × Nat × Own) (fun s => [(16, .int .i64 s.1.length)]) (fun s => (bk, fun o => o = Obj.cells (scrC c (.slice s.2.1 s.1.length s.2.2.1) nilS nilS) 32) :: (s.2.2.2 ++ tailO b14 b7 c own))
    (fun s => BufE encU 63 1 s.2.1 s.2.2.1 s.1 s.2.2.2 ∧ (s.1.length : Int) ≤ c.words ∧ ∀ x ∈ s.1, 0 ≤ x ∧ x ≤ 3) (fun s => (c.words - s.1.length).toNat) ([], none, 0, []) ⟨BufE.nil, (by simp; omega), fun _ h => (by cases h)⟩ (by repeat' (first | exact True.intro | refine And.intro ?_ ?_ | exact rfl | exact vi (by omega) | (dsimp only; exact rfl) | (dsimp only; exact vi (by omega)))) Ent.refl rfl ?_
  rintro s junk ⟨hB, hw, hw3⟩
  by_cases hlt : (s.1.length : Int) < c.words
  · repeat' ((try (conv => whnf)); first | (refine br_py (by omega) ?_) | (refine app_1 (enc := encU) ((s.1.length : Int) % 4) hB (by (repeat (first | exact At.head | apply At.tail | apply At.skip))) (by (repeat (first | exact List.Mem.head _ | apply List.Mem.tail | apply List.mem_append_right))) rfl rfl (by omega) rfl rfl (by omega) (fun a1 c1 D1 hb1 => ?_)) | (refine ari ?_ ?_; omega) | (refine aru ?_ ?_; omega) | (apply ld_own; (first | (solve | repeat (first | with_reducible exact List.mem_cons_self | (with_reducible (apply List.mem_append_left; exact List.mem_cons_self)) | with_reducible apply List.mem_cons_of_mem | with_reducible apply List.mem_append_right)) | (repeat (first | exact List.Mem.head _ | apply List.Mem.tail | apply List.mem_append_right))); exact rfl) | (apply st_own; (first | (solve | repeat (first | with_reducible exact Up.head | with_reducible apply Up.tail | with_reducible apply Up.app)) | (repeat (first | exact Up.head | apply Up.tail | apply Up.app))); (solve | ((try (conv => arg 2; whnf)); repeat' (first | exact Lis.nil | apply Lis.cons | apply SetAt.here | apply SetAt.there | apply PutAt.done | apply PutAt.put | apply PutAt.skip))); exact rfl) | (refine new_i (fun bk hbk => ?_)) | (refine rem_i ?_ ?_; omega))
    refine ⟨(s.1 ++ [(s.1.length : Int) % 4], a1, c1, D1), ⟨hb1, (by simp; omega), fun x hx => ?_⟩, by simp; omega, ?_, ?_⟩
    · rcases List.mem_append.1 hx with hx | hx
      · exact hw3 x hx
      · rw [List.mem_singleton.1 hx]; omega
    · simp only [List.length_append, List.length_cons, List.length_nil, Nat.zero_add]; exact (by repeat' (first | exact True.intro | refine And.intro ?_ ?_ | exact rfl | exact vi (by omega) | (dsimp only; exact rfl) | (dsimp only; exact vi (by omega))))
    · simp only [List.length_append, List.length_cons, List.length_nil, Nat.zero_add]; exact by (repeat (first | exact Ent.refl | exact Ent.left | refine Ent.cons ?_ | refine Ent.app ?_))
  · repeat' ((try (conv => whnf)); first | (refine br_pn (by omega) ?_) | (apply ld_own; (first | (solve | repeat (first | with_reducible exact List.mem_cons_self | (with_reducible (apply List.mem_append_left; exact List.mem_cons_self)) | with_reducible apply List.mem_cons_of_mem | with_reducible apply List.mem_append_right)) | (repeat (first | exact List.Mem.head _ | apply List.Mem.tail | apply List.mem_append_right))); exact rfl))
    refine loop_i (σ := List PB × Option Addr × Nat × Own) (fun q => [(17, .int .i64 (q.1.map PB.h).length)]) (fun q => (bk, fun o => o = Obj.cells (scrC c (.slice s.2.1 s.1.length s.2.2.1) (.slice q.2.1 (q.1.map PB.h).length q.2.2.1) nilS) 32) :: (q.2.2.2 ++ (ownL q.1 ++ (s.2.2.2 ++ tailO b14 b7 c own))))
      (fun q => BufE PH.enc 67 1 q.2.1 q.2.2.1 (q.1.map PB.h) q.2.2.2 ∧ (∀ x ∈ q.1, x.ok ∧ checkR x.h.p = (0, 0)) ∧ ((q.1.map PB.h).length : Int) ≤ n) (fun q => (n - (q.1.map PB.h).length).toNat) ([], none, 0, []) ⟨BufE.nil, fun _ h => (by cases h), by simp; omega⟩ (by repeat' (first | exact True.intro | refine And.intro ?_ ?_ | exact rfl | exact vi (by omega) | (dsimp only; exact rfl) | (dsimp only; exact vi (by omega)))) Ent.refl rfl ?_
    rintro q junk2 ⟨hB2, hq2, hqn⟩
    by_cases hlt2 : ((q.1.map PB.h).length : Int) < n
    · have hfin : ∀ a1 c1 D1 p1 a3 c3 D3, BufE Ins.enc 69 5 a1 c1 p1 D1 → checkR p1 = (0, 0) → BufE PH.enc 67 1 a3 c3 (q.1.map PB.h ++ [⟨a1, c1, p1⟩]) D3 →
          BufE PH.enc 67 1 a3 c3 ((q.1 ++ [(⟨⟨a1, c1, p1⟩, D1⟩ : PB)]).map PB.h) D3 ∧ (∀ x ∈ q.1 ++ [(⟨⟨a1, c1, p1⟩, D1⟩ : PB)], x.ok ∧ checkR x.h.p = (0, 0)) ∧ (((q.1 ++ [(⟨⟨a1, c1, p1⟩, D1⟩ : PB)]).map PB.h).length : Int) ≤ n := fun a1 c1 D1 p1 a3 c3 D3 h1 h2 h3 => by
        refine ⟨by rw [List.map_append]; exact h3, fun x hx => ?_, by rw [List.map_append, List.length_append]; simp only [List.map_cons, List.map_nil, List.length_cons, List.length_nil]; omega⟩
        rcases List.mem_append.1 hx with hx | hx
        · exact hq2 x hx
        · rw [List.mem_singleton.1 hx]; exact ⟨h1, h2⟩
      by_cases ht : (q.1.map PB.h).length < ls.length
      · obtain ⟨x, hx⟩ : ∃ x, ls[(q.1.map PB.h).length]? = some x := ⟨_, List.getElem?_eq_getElem ht⟩
        obtain ⟨hx1, hx2⟩ := hQ x (List.mem_of_getElem? hx)
        have ht' : ((q.1.map PB.h).length : Int) < ls.length := by omega
        cases heap
        all_goals
          repeat' ((try (conv => whnf)); first | (refine when_y ?_) | (refine when_ft ?_) | (refine br_py (by omega) ?_) | (apply call_q (fun _ => sp_rblocks _ _ c)) | (refine call_pg (sp_program (l := x.l) (lc := x.cap) most _ plain (hx1.ent (by (repeat (first | exact Ent.refl | exact Ent.left | refine Ent.cons ?_ | refine Ent.app ?_)))) hx2 hm) (fun a1 c1 D1 p1 hb1 hp1 => ?_)) | (refine app_1 (enc := PH.enc) ⟨a1, c1, p1⟩ hB2 (by (repeat (first | exact At.head | apply At.tail | apply At.skip))) (by (repeat (first | exact List.Mem.head _ | apply List.Mem.tail | apply List.mem_append_right))) rfl rfl (by omega) rfl rfl (by omega) (fun a3 c3 D3 hb3 => ?_)) | ((with_reducible show Ld _ _ _ _); first | (refine ldE (k := 0) (RdE.ent hL ?_) hx ?_ rfl ?_; rotate_left; rfl; rotate_left; (solve | (repeat (first | exact Ent.refl | exact Ent.left | refine Ent.cons ?_ | refine Ent.app ?_))))) | ((with_reducible show IxS _ _ _ _ _); first | (refine ixE hL hx ?_ ?_; (first | rfl | omega))) | (refine ari ?_ ?_; omega) | (apply ld_own; (first | (solve | repeat (first | with_reducible exact List.mem_cons_self | (with_reducible (apply List.mem_append_left; exact List.mem_cons_self)) | with_reducible apply List.mem_cons_of_mem | with_reducible apply List.mem_append_right)) | (repeat (first | exact List.Mem.head _ | apply List.Mem.tail | apply List.mem_append_right))); exact rfl) | (apply ldN_all; (first | (solve | repeat (first | with_reducible exact List.mem_cons_self | (with_reducible (apply List.mem_append_left; exact List.mem_cons_self)) | with_reducible apply List.mem_cons_of_mem | with_reducible apply List.mem_append_right)) | (repeat (first | exact List.Mem.head _ | apply List.Mem.tail | apply List.mem_append_right))); exact rfl) | (apply st_own; (first | (solve | repeat (first | with_reducible exact Up.head | with_reducible apply Up.tail | with_reducible apply Up.app)) | (repeat (first | exact Up.head | apply Up.tail | apply Up.app))); (solve | ((try (conv => arg 2; whnf)); repeat' (first | exact Lis.nil | apply Lis.cons | apply SetAt.here | apply SetAt.there | apply PutAt.done | apply PutAt.put | apply PutAt.skip))); exact rfl) | (refine new_i (fun bk hbk => ?_)) | (refine Both.mk ?_ ?_))
        all_goals refine ⟨(q.1 ++ [(⟨⟨a1, c1, p1⟩, D1⟩ : PB)], a3, c3, D3), hfin a1 c1 D1 p1 a3 c3 D3 hb1 hp1.1 hb3, by rw [List.map_append, List.length_append]; simp only [List.map_cons, List.map_nil, List.length_cons, List.length_nil]; omega, ?_, ?_⟩
        all_goals simp only [ownL_snoc, List.map_append, List.length_append, List.map_cons, List.map_nil, List.length_cons, List.length_nil, Nat.zero_add]
        all_goals first | exact ent_push | exact (by repeat' (first | exact True.intro | refine And.intro ?_ ?_ | exact rfl | exact vi (by omega) | (dsimp only; exact rfl) | (dsimp only; exact vi (by omega))))
      · have hx1 : RdE encI 1 W0 own none [] := RdE.nil
        cases heap
        all_goals
          repeat' ((try (conv => whnf)); first | (refine when_y ?_) | (refine when_ft ?_) | (refine br_py (by omega) ?_) | (refine br_pn (by omega) ?_) | (apply call_q (fun _ => sp_rblocks _ _ c)) | (refine call_pg (sp_program (la := none) (l := []) (lc := 0) most _ plain (hx1.ent (by (repeat (first | exact Ent.refl | exact Ent.left | refine Ent.cons ?_ | refine Ent.app ?_)))) (by simp) hm) (fun a1 c1 D1 p1 hb1 hp1 => ?_)) | (refine app_1 (enc := PH.enc) ⟨a1, c1, p1⟩ hB2 (by (repeat (first | exact At.head | apply At.tail | apply At.skip))) (by (repeat (first | exact List.Mem.head _ | apply List.Mem.tail | apply List.mem_append_right))) rfl rfl (by omega) rfl rfl (by omega) (fun a3 c3 D3 hb3 => ?_)) | (refine ari ?_ ?_; omega) | (apply ld_own; (first | (solve | repeat (first | with_reducible exact List.mem_cons_self | (with_reducible (apply List.mem_append_left; exact List.mem_cons_self)) | with_reducible apply List.mem_cons_of_mem | with_reducible apply List.mem_append_right)) | (repeat (first | exact List.Mem.head _ | apply List.Mem.tail | apply List.mem_append_right))); exact rfl) | (apply ldN_all; (first | (solve | repeat (first | with_reducible exact List.mem_cons_self | (with_reducible (apply List.mem_append_left; exact List.mem_cons_self)) | with_reducible apply List.mem_cons_of_mem | with_reducible apply List.mem_append_right)) | (repeat (first | exact List.Mem.head _ | apply List.Mem.tail | apply List.mem_append_right))); exact rfl) | (apply st_own; (first | (solve | repeat (first | with_reducible exact Up.head | with_reducible apply Up.tail | with_reducible apply Up.app)) | (repeat (first | exact Up.head | apply Up.tail | apply Up.app))); (solve | ((try (conv => arg 2; whnf)); repeat' (first | exact Lis.nil | apply Lis.cons | apply SetAt.here | apply SetAt.there | apply PutAt.done | apply PutAt.put | apply PutAt.skip))); exact rfl) | (refine new_i (fun bk hbk => ?_)) | (refine Both.mk ?_ ?_))
        all_goals refine ⟨(q.1 ++ [(⟨⟨a1, c1, p1⟩, D1⟩ : PB)], a3, c3, D3), hfin a1 c1 D1 p1 a3 c3 D3 hb1 hp1.1 hb3, by rw [List.map_append, List.length_append]; simp only [List.map_cons, List.map_nil, List.length_cons, List.length_nil]; omega, ?_, ?_⟩
        all_goals simp only [ownL_snoc, List.map_append, List.length_append, List.map_cons, List.map_nil, List.length_cons, List.length_nil, Nat.zero_add]
        all_goals first | exact ent_push | exact (by repeat' (first | exact True.intro | refine And.intro ?_ ?_ | exact rfl | exact vi (by omega) | (dsimp only; exact rfl) | (dsimp only; exact vi (by omega))))
    · repeat' ((try (conv => whnf)); first | (refine br_pn (by omega) ?_))
      refine loop_i (σ := List Int × Option Addr × Nat × Own) (fun k => [(19, .int .i64 k.1.length)]) (fun k => (bk, fun o => o = Obj.cells (scrC c (.slice s.2.1 s.1.length s.2.2.1) (.slice q.2.1 (q.1.map PB.h).length q.2.2.1) (.slice k.2.1 k.1.length k.2.2.1)) 32) :: (k.2.2.2 ++ (q.2.2.2 ++ (ownL q.1 ++ (s.2.2.2 ++ tailO b14 b7 c own)))))
        (fun k => BufE encI 3 1 k.2.1 k.2.2.1 k.1 k.2.2.2 ∧ (∀ x ∈ k.1, 0 ≤ x ∧ x < n) ∧ k.1.length ≤ pks.length) (fun k => pks.length - k.1.length) ([], none, 0, []) ⟨BufE.nil, fun _ h => (by cases h), by simp⟩ (by repeat' (first | exact True.intro | refine And.intro ?_ ?_ | exact rfl | exact vi (by omega) | (dsimp only; exact rfl) | (dsimp only; exact vi (by omega)))) Ent.refl rfl ?_
      rintro k junk3 ⟨hB3, hk2, hkn⟩
      by_cases hlt3 : k.1.length < pks.length
      · obtain ⟨x, hx⟩ : ∃ x, pks[k.1.length]? = some x := ⟨_, List.getElem?_eq_getElem hlt3⟩
        have hlt3' : (k.1.length : Int) < pks.length := by omega
        repeat' ((try (conv => whnf)); first | (refine br_py (by omega) ?_) | (refine callQ_place ?_ (fun p hp => ?_); omega) | (refine app_1 (enc := encI) p hB3 (by (repeat (first | exact At.head | apply At.tail | apply At.skip))) (by (repeat (first | exact List.Mem.head _ | apply List.Mem.tail | apply List.mem_append_right))) rfl rfl (by omega) rfl rfl (by omega) (fun a1 c1 D1 hb1 => ?_)) | ((with_reducible show Ld _ _ _ _); first | (refine ldE (k := 0) (RdE.ent hP ?_) hx ?_ rfl ?_; rotate_left; rfl; rotate_left; (solve | (repeat (first | exact Ent.refl | exact Ent.left | refine Ent.cons ?_ | refine Ent.app ?_))))) | ((with_reducible show IxS _ _ _ _ _); first | (refine ixE hP hx ?_ ?_; (first | rfl | omega))) | (refine ari ?_ ?_; omega) | (apply ld_own; (first | (solve | repeat (first | with_reducible exact List.mem_cons_self | (with_reducible (apply List.mem_append_left; exact List.mem_cons_self)) | with_reducible apply List.mem_cons_of_mem | with_reducible apply List.mem_append_right)) | (repeat (first | exact List.Mem.head _ | apply List.Mem.tail | apply List.mem_append_right))); exact rfl) | (apply st_own; (first | (solve | repeat (first | with_reducible exact Up.head | with_reducible apply Up.tail | with_reducible apply Up.app)) | (repeat (first | exact Up.head | apply Up.tail | apply Up.app))); (solve | ((try (conv => arg 2; whnf)); repeat' (first | exact Lis.nil | apply Lis.cons | apply SetAt.here | apply SetAt.there | apply PutAt.done | apply PutAt.put | apply PutAt.skip))); exact rfl) | (refine new_i (fun bk hbk => ?_)))
        all_goals refine ⟨(k.1 ++ [p], a1, c1, D1), ⟨hb1, fun y hy => ?_, by simp; omega⟩, by simp; omega, ?_, ?_⟩
        all_goals first | (rcases List.mem_append.1 hy with hy | hy; exact hk2 y hy; rw [List.mem_singleton.1 hy]; exact hp) | skip
        all_goals simp only [List.length_append, List.length_cons, List.length_nil, Nat.zero_add]
        all_goals first | exact Ent.cons Ent.refl | exact (by repeat' (first | exact True.intro | refine And.intro ?_ ?_ | exact rfl | exact vi (by omega) | (dsimp only; exact rfl) | (dsimp only; exact vi (by omega))))
      · repeat' ((try (conv => whnf)); first | (refine br_pn (by omega) ?_) | (refine stN_and' rfl ?_) | (apply ldN_all; (first | (solve | repeat (first | with_reducible exact List.mem_cons_self | (with_reducible (apply List.mem_append_left; exact List.mem_cons_self)) | with_reducible apply List.mem_cons_of_mem | with_reducible apply List.mem_append_right)) | (repeat (first | exact List.Mem.head _ | apply List.Mem.tail | apply List.mem_append_right))); exact rfl) | (apply stN_own; (first | (solve | repeat (first | with_reducible exact Up.head | with_reducible apply Up.tail | with_reducible apply Up.app)) | (repeat (first | exact Up.head | apply Up.tail | apply Up.app))); (solve | ((try (conv => arg 2; whnf)); repeat' (first | exact Lis.nil | apply Lis.cons | apply SetAt.here | apply SetAt.there | apply PutAt.done | apply PutAt.put | apply PutAt.skip))); exact rfl))
        refine ⟨s.2.1, s.1, s.2.2.1, s.2.2.2, q.2.1, q.1, q.2.2.1, q.2.2.2, k.2.1, k.1, k.2.2.1, k.2.2.2, ?_, hB, hB2, hB3, hq2, by omega, hw3, ?_, by omega, hk2, ?_⟩
        · rw [List.length_map]; rfl
        · rw [List.length_map] at hlt2 hqn; omega
        · exact Ent.cons (Ent.of_sub (((((List.Sublist.refl own).cons _).cons _).append_left s.2.2.2).append_left (ownL q.1) |>.append_left q.2.2.2 |>.append_left k.2.2.2))
end
end Go.Proofs.YtfompmhncnkcfaaGreatDoor
namespace Go.Proofs.YtfompmhncnkcfaaGreatDoor
open Go Go.ChangeShapes Go.WideShapes Go.ChangeAt Go.RowKit
theorem list_of {α : Type} {Q : Nat → α → Prop} : ∀ n, (∀ i, i < n → ∃ y, Q i y) → ∃ l : List α, l.length = n ∧ ∀ i y, l[i]? = some y → Q i y
  | 0, _ => ⟨[], rfl, fun i y h => by simp at h⟩
  | n + 1, h => by
    obtain ⟨l, hl, hq⟩ := list_of n (fun i hi => h i (by omega))
    obtain ⟨y, hy⟩ := h n (by omega)
    refine ⟨l ++ [y], by simp [hl], fun i z hz => ?_⟩
    by_cases hi : i < l.length
    · rw [List.getElem?_append_left hi] at hz
      exact hq i z hz
    · rw [List.getElem?_append_right (by omega)] at hz
      have : i - l.length = 0 := by
        by_cases h0 : i - l.length = 0
        · exact h0
        · rw [List.getElem?_eq_none (by simp; omega)] at hz; cases hz
      rw [this] at hz
      simp only [List.getElem?_cons_zero, Option.some.injEq] at hz
      subst hz
      have : i = n := by omega
      subst this
      exact hy
section
variable {H : Type} {enc : TypeId × Value → H} {P : Program} {w : World} {spare : Nat → Bool} {held : Bool}
theorem cell_st {own : Own} {a : Addr} {v : Value} (h : w.cell? a = some v) : Kn w own (fun w' => w'.cell? a = some v) := fun w' hw => by
  have hb : a.block < w.heap.size := by
    unfold World.cell? at h
    split at h
    · rename_i hb; exact (Array.getElem?_eq_some_iff.1 hb).1
    · cases h
  exact (World.cell?_of_block (w := w) (hw.base a.block hb)).trans h
theorem trod_sl {α : Type} {en : α → List Value} {sz : Nat} {Φ : α → Prop} {fuel : Nat} {t e : TypeId} {cs : List Value} {x : DataW H × List MemPlace} (ht : P.underlying t = some (.slice e)) (hsz : P.cellsOf e = sz) (hpos : 0 < sz)
    (hel : ∀ n cs x, DataW.trod enc P w 0 spare held n e cs = some x → ∃ y, cs = en y ∧ Φ y) (h : DataW.trod enc P w 0 spare held fuel t cs = some x) :
    ∃ a l cap, cs = [.slice a l.length cap] ∧ RdE en sz w [] a l ∧ (∀ y ∈ l, Φ y) ∧ l.length ≤ cap := by
  rcases DataW.trod_slice ht h with ⟨rfl, _⟩ | ⟨a, len, cap, elems, rest, n, _, rfl, _, _, hl, _, hlen, hel', _⟩
  · exact ⟨none, [], 0, rfl, RdE.nil, fun _ h => (by cases h), by simp⟩
  · have key : ∀ i, i < len → ∃ y, (w.cells? 0 (a.add (i * sz)) sz = some (en y)) ∧ Φ y := fun i hi => by
      have := hel' i hi
      rw [hsz] at this
      have hi' : i < elems.length := by omega
      rw [List.getElem?_eq_getElem hi', Option.bind_eq_some_iff] at this
      obtain ⟨c, hc, hx⟩ := this
      obtain ⟨y, rfl, hy⟩ := hel _ _ _ hx
      exact ⟨y, hc, hy⟩
    obtain ⟨l, hll, hq⟩ := list_of len key
    have hget : ∀ {j k : Nat} {y : α} {v : Value}, l[j]? = some y → (en y)[k]? = some v → w.cell? ((a.add (j * sz)).add k) = some v ∧ (en y).length = sz := fun {j k y v} hy hv => by
      obtain ⟨hc, _⟩ := hq j y hy
      obtain ⟨_, hlen, hget⟩ := World.cells?_some hc
      have hk := (List.getElem?_eq_some_iff.1 hv).1
      exact ⟨(hget k (by omega)).trans hv, hlen⟩
    have hspot : l ≠ [] → a.spot = none := fun hne => by
      cases l with
      | nil => exact absurd rfl hne
      | cons y r =>
        obtain ⟨hc, _⟩ := hq 0 y rfl
        obtain ⟨_, hlen, hget⟩ := World.cells?_some hc
        have h0 := hget 0 hpos
        rw [List.getElem?_eq_getElem (by omega)] at h0
        rw [Nat.zero_mul] at h0
        have e0 : (a.add 0).add 0 = a := by simp [Addr.add]
        rw [e0] at h0
        unfold World.cell? at h0
        split at h0
        · split at h0
          · cases h0
          · rename_i hs; simpa using hs
        · cases h0
    refine ⟨some a, l, cap, by rw [hll], ⟨fun hne => ?_, fun y hy => ?_, fun {j k y v} hy hv => ?_⟩, fun y hy => ?_, by omega⟩
    · have := hspot hne
      obtain ⟨b, o, s⟩ := a
      simp only at this
      subst this
      rfl
    · obtain ⟨i, hi⟩ := List.getElem?_of_mem hy
      obtain ⟨hc, _⟩ := hq i y hi
      exact (World.cells?_some hc).2.1
    · obtain ⟨hc, _⟩ := hget hy hv
      have hs := hspot (by intro e; subst e; simp at hy)
      have he : (a.add (j * sz)).add k = ⟨ab (some a), ao (some a) + j * sz + k, none⟩ := by
        obtain ⟨b, o, s⟩ := a
        simp only at hs
        subst hs
        rw [addr_add, addr_add]
        rfl
      rw [he] at hc
      exact cell_st hc
    · obtain ⟨i, hi⟩ := List.getElem?_of_mem hy
      exact (hq i y hi).2
theorem trod_i64 {fuel : Nat} {t : TypeId} {cs : List Value} {x : DataW H × List MemPlace} {k : IntKind} (ht : P.underlying t = some (.int k)) (h : DataW.trod enc P w 0 spare held fuel t cs = some x) : ∃ n, cs = [.int k n] ∧ inK k n := by
  obtain ⟨n, rfl, _, hw⟩ := DataW.trod_int ht h
  refine ⟨n, rfl, inK_has ?_⟩
  simp only [Lit.wf, Bool.and_eq_true, decide_eq_true_eq] at hw
  exact hw
theorem trod_ints {fuel : Nat} {t e : TypeId} {k : IntKind} {cs : List Value} {x : DataW H × List MemPlace} (ht : P.underlying t = some (.slice e)) (he : P.underlying e = some (.int k)) (hsz : P.cellsOf e = 1) (h : DataW.trod enc P w 0 spare held fuel t cs = some x) :
    ∃ a l cap, cs = [.slice a l.length cap] ∧ RdE (fun n => [.int k n]) 1 w [] a l ∧ (∀ y ∈ l, inK k y) ∧ l.length ≤ cap :=
  trod_sl ht hsz (by omega) (fun _ _ _ h => trod_i64 he h) h
theorem trod_fld {fuel : Nat} {t : TypeId} {fs : Array Field} {cs : List Value} {x : DataW H × List MemPlace} (ht : P.underlying t = some (.struct fs)) (h : DataW.trod enc P w 0 spare held fuel t cs = some x) (i : Nat) (f : Field) (hf : fs[i]? = some f) :
    cs.length = P.cellsOf t ∧ ∃ m y, DataW.trod enc P w 0 spare held m f.type ((cs.drop f.offset).take (P.cellsOf f.type)) = some y := by
  obtain ⟨xs, n, _, _, hl, hxl, hel⟩ := DataW.trod_struct ht h
  have hi := (Array.getElem?_eq_some_iff.1 hf).1
  have := hel i f hf
  rw [List.getElem?_eq_getElem (by omega)] at this
  exact ⟨hl, n, _, this⟩
def fieldAt (P : Program) (t : TypeId) (i : Nat) : Option (Nat × TypeId) := match P.underlying t with
  | some (.struct fs) => (fs[i]?).map fun f => (f.offset, f.type)
  | _ => none
theorem trod_at {fuel : Nat} {t ft : TypeId} {off n : Nat} {cs : List Value} {x : DataW H × List MemPlace} (i : Nat) (hf : fieldAt P t i = some (off, ft)) (hn : P.cellsOf ft = n) (h : DataW.trod enc P w 0 spare held fuel t cs = some x) :
    cs.length = P.cellsOf t ∧ ∃ m y, DataW.trod enc P w 0 spare held m ft ((cs.drop off).take n) = some y := by
  unfold fieldAt at hf
  split at hf
  · rename_i fs hu
    obtain ⟨f, hf1, hf2⟩ := Option.map_eq_some_iff.1 hf
    simp only [Prod.mk.injEq] at hf2
    obtain ⟨rfl, rfl⟩ := hf2
    subst hn
    exact trod_fld hu h i f hf1
  · cases hf
end
end Go.Proofs.YtfompmhncnkcfaaGreatDoor
namespace Go.Proofs.YtfompmhncnkcfaaGreatDoor
open Go Go.ChangeShapes Go.WideShapes Go.ChangeAt Go.RowKit
set_option maxRecDepth 100000
theorem forms_at {W : World} (h : laidMetH Tryz.prog [("strongtx/isa.forms", Rows.laid_strongtx_isa_forms)] W) : FormsAt W :=
  laid_at (d := Rows.laid_strongtx_isa_forms) (g := 0) (t := 174) (cs := formsV) (by kernel_rfl) h (List.Mem.head _) (by kernel_rfl) (by kernel_rfl) (by kernel_rfl) (by kernel_rfl) (by simp [formsV])
end Go.Proofs.YtfompmhncnkcfaaGreatDoor
namespace Go.Proofs.YtfompmhncnkcfaaGreatDoor
open Go Go.ChangeShapes Go.WideShapes Go.ChangeAt Go.RowKit
set_option maxRecDepth 100000
section
variable {H : Type} {enc : TypeId × Value → H} {P : Program} {w : World} {spare : Nat → Bool} {held : Bool} {q : Nat → Bool}
theorem weight_head {t : TypeId} {ts : List TypeId} {d : DataW H} {ds : List (DataW H)} (h : (DataW.weightsEach P (t :: ts) (d :: ds)).all q = true) : (d.weights P t).all q = true ∧ (DataW.weightsEach P ts ds).all q = true := by
  simpa only [DataW.weightsEach, List.all_append, Bool.and_eq_true] using h
theorem weights_mem {e : TypeId} : ∀ {E : List (DataW H)} {d : DataW H}, (DataW.weightsAll P e E).all q = true → d ∈ E → (d.weights P e).all q = true
  | [], _, _, hd => by cases hd
  | c :: r, d, h, hd => by
    simp only [DataW.weightsAll, List.all_append, Bool.and_eq_true] at h
    rcases List.mem_cons.1 hd with rfl | hd
    · exact h.1
    · exact weights_mem h.2 hd
theorem trod_slW {α : Type} {en : α → List Value} {sz : Nat} {Φ : α → Prop} {fuel : Nat} {t e : TypeId} {cs : List Value} {x : DataW H × List MemPlace} (ht : P.underlying t = some (.slice e)) (hsz : P.cellsOf e = sz) (hpos : 0 < sz)
    (hel : ∀ n cs x, DataW.trod enc P w 0 spare held n e cs = some x → (x.1.weights P e).all q = true → ∃ y, cs = en y ∧ Φ y) (h : DataW.trod enc P w 0 spare held fuel t cs = some x) (hw : (x.1.weights P t).all q = true) :
    ∃ a l cap, cs = [.slice a l.length cap] ∧ RdE en sz w [] a l ∧ (∀ y ∈ l, Φ y) ∧ l.length ≤ cap ∧ (l = [] ∨ ∃ k, q ((l.length + k) * P.bytesOf e) = true) := by
  rcases DataW.trod_slice ht h with ⟨rfl, _⟩ | ⟨a, len, cap, elems, rest, n, _, rfl, rfl, _, hl, _, hlen, hel', _⟩
  · exact ⟨none, [], 0, rfl, RdE.nil, fun _ h => (by cases h), by simp, .inl rfl⟩
  · simp only [DataW.weights, ht, List.all_cons, List.all_append, Bool.and_eq_true, List.length_map] at hw
    obtain ⟨hw1, hw2, _⟩ := hw
    have key : ∀ i, i < len → ∃ y, (w.cells? 0 (a.add (i * sz)) sz = some (en y)) ∧ Φ y := fun i hi => by
      have := hel' i hi
      rw [hsz] at this
      have hi' : i < elems.length := by omega
      rw [List.getElem?_eq_getElem hi', Option.bind_eq_some_iff] at this
      obtain ⟨c, hc, hx⟩ := this
      obtain ⟨y, rfl, hy⟩ := hel _ _ _ hx (weights_mem hw2 (List.mem_map_of_mem (List.getElem_mem hi')))
      exact ⟨y, hc, hy⟩
    obtain ⟨l, hll, hq⟩ := list_of len key
    have hget : ∀ {j k : Nat} {y : α} {v : Value}, l[j]? = some y → (en y)[k]? = some v → w.cell? ((a.add (j * sz)).add k) = some v ∧ (en y).length = sz := fun {j k y v} hy hv => by
      obtain ⟨hc, _⟩ := hq j y hy
      obtain ⟨_, hlen, hget⟩ := World.cells?_some hc
      have hk := (List.getElem?_eq_some_iff.1 hv).1
      exact ⟨(hget k (by omega)).trans hv, hlen⟩
    have hspot : l ≠ [] → a.spot = none := fun hne => by
      cases l with
      | nil => exact absurd rfl hne
      | cons y r =>
        obtain ⟨hc, _⟩ := hq 0 y rfl
        obtain ⟨_, hlen, hget⟩ := World.cells?_some hc
        have h0 := hget 0 hpos
        rw [List.getElem?_eq_getElem (by omega)] at h0
        rw [Nat.zero_mul] at h0
        have e0 : (a.add 0).add 0 = a := by simp [Addr.add]
        rw [e0] at h0
        unfold World.cell? at h0
        split at h0
        · split at h0
          · cases h0
          · rename_i hs; simpa using hs
        · cases h0
    refine ⟨some a, l, cap, by rw [hll], ⟨fun hne => ?_, fun y hy => ?_, fun {j k y v} hy hv => ?_⟩, fun y hy => ?_, by omega, .inr ⟨rest.length, by rw [hll, ← hlen]; exact hw1⟩⟩
    · have := hspot hne
      obtain ⟨b, o, s⟩ := a
      simp only at this
      subst this
      rfl
    · obtain ⟨i, hi⟩ := List.getElem?_of_mem hy
      obtain ⟨hc, _⟩ := hq i y hi
      exact (World.cells?_some hc).2.1
    · obtain ⟨hc, _⟩ := hget hy hv
      have hs := hspot (by intro e; subst e; simp at hy)
      have he : (a.add (j * sz)).add k = ⟨ab (some a), ao (some a) + j * sz + k, none⟩ := by
        obtain ⟨b, o, s⟩ := a
        simp only at hs
        subst hs
        rw [addr_add, addr_add]
        rfl
      rw [he] at hc
      exact cell_st hc
    · obtain ⟨i, hi⟩ := List.getElem?_of_mem hy
      exact (hq i y hi).2
end
theorem arr5_open {w : World} {b0 : Nat} {v : Value} (h : Value.okWide Tryz.prog w .any b0 22 v) :
    ∃ n0 n1 n2 n3 n4 : Int, v = .agg #[.int .i64 n0, .int .i64 n1, .int .i64 n2, .int .i64 n3, .int .i64 n4] ∧ inKs [n0, n1, n2, n3, n4] := by
  obtain ⟨cs, rfl, hl, hc⟩ := val_flat (ts := [3, 3, 3, 3, 3]) (by kernel_rfl) (by kernel_rfl) (by kernel_rfl) h
  match cs, hl with
  | [c0, c1, c2, c3, c4], _ =>
    obtain ⟨n0, rfl, h0⟩ := cell_int Tryz.underlying3 (hc 0 _ 3 rfl rfl)
    obtain ⟨n1, rfl, h1⟩ := cell_int Tryz.underlying3 (hc 1 _ 3 rfl rfl)
    obtain ⟨n2, rfl, h2⟩ := cell_int Tryz.underlying3 (hc 2 _ 3 rfl rfl)
    obtain ⟨n3, rfl, h3⟩ := cell_int Tryz.underlying3 (hc 3 _ 3 rfl rfl)
    obtain ⟨n4, rfl, h4⟩ := cell_int Tryz.underlying3 (hc 4 _ 3 rfl rfl)
    exact ⟨n0, n1, n2, n3, n4, rfl, h0, h1, h2, h3, h4, True.intro⟩
section
variable {H : Type} {enc : TypeId × Value → H} {w : World} {spare : Nat → Bool} {held : Bool} {v : Value} {d : DataW H} {p : List MemPlace}
theorem one_of {cs : Array Value} {v x : Value} (h : v.cells = cs) (hc : cs.toList = [x]) (hx : ∀ a, v ≠ .agg a) : v = x := by
  unfold Value.cells at h
  split at h
  · rename_i a; exact absurd rfl (hx a)
  · subst h; simpa using hc
theorem slice_agg {P : Program} {w : World} {b0 : Nat} {t e : TypeId} {v : Value} (ht : P.underlying t = some (.slice e)) (h : Value.okWide P w .any b0 t v) : ∀ a, v ≠ .agg a := by
  intro a e
  subst e
  simp only [Value.okWide, ht, Cell.okWide, Cell.ok] at h
theorem ints_W {fuel : Nat} {cs : List Value} {x : DataW H × List MemPlace} (h : DataW.trod enc Tryz.prog w 0 spare held fuel 30 cs = some x) (hw : (x.1.weights Tryz.prog 30).all (· ≤ reachBytes) = true) :
    ∃ a l cap, cs = [.slice a (List.length l) cap] ∧ RdE encI 1 w [] a l ∧ l.length ≤ 17592186043904 := by
  obtain ⟨a, l, cap, e, hr, _, _, hk⟩ := trod_slW (q := (· ≤ reachBytes)) (en := encI) (sz := 1) (Φ := fun _ => True) Tryz.underlying30 (by kernel_rfl) (by omega) (fun n cs x h _ => by
    obtain ⟨n, rfl, _⟩ := trod_i64 Tryz.underlying3 h
    exact ⟨n, rfl, trivial⟩) h hw
  refine ⟨a, l, cap, e, hr, ?_⟩
  rcases hk with rfl | ⟨k, hk⟩
  · simp
  · have h8 : Tryz.prog.bytesOf 3 = 8 := by kernel_rfl
    rw [h8] at hk
    have hk := of_decide_eq_true hk
    have h9 : reachBytes = 140737488351232 := rfl
    rw [h9] at hk
    omega
theorem ihs_W {b0 : Nat} (hv : Value.okWide Tryz.prog w .any b0 23 v) (ht : DataW.Trod enc Tryz.prog w 0 spare held 23 v d p) (hw : (d.weights Tryz.prog 23).all (· ≤ reachBytes) = true) :
    ∃ a l cap, v = .slice a (List.length l) cap ∧ RdE IH.enc 1 w [] a l ∧ l.length ≤ 17592186043904 ∧ ∀ h ∈ l, RdE encI 1 w [] h.a h.l ∧ h.l.length ≤ 17592186043904 := by
  obtain ⟨fuel, h⟩ := ht
  obtain ⟨a, l, cap, e, hr, hq, _, hk⟩ := trod_slW (q := (· ≤ reachBytes)) (en := IH.enc) (sz := 1) (Φ := fun y : IH => RdE encI 1 w [] y.a y.l ∧ y.l.length ≤ 17592186043904) Tryz.underlying23 (by kernel_rfl) (by omega) (fun n cs x h hw => by
    obtain ⟨a, l, cap, rfl, hr, hl⟩ := ints_W h hw
    exact ⟨⟨a, cap, l⟩, rfl, hr, hl⟩) h hw
  refine ⟨a, l, cap, one_of rfl e (slice_agg Tryz.underlying23 hv), hr, ?_, hq⟩
  rcases hk with rfl | ⟨k, hk⟩
  · simp
  · have h8 : Tryz.prog.bytesOf 30 = 24 := by kernel_rfl
    rw [h8] at hk
    have hk := of_decide_eq_true hk
    have h9 : reachBytes = 140737488351232 := rfl
    rw [h9] at hk
    omega
end
end Go.Proofs.YtfompmhncnkcfaaGreatDoor
