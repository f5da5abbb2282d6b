/- The made configuration, a configuration of which one field is changed. No condition. -/
import Derived.Test.YtcgdhdbhebcbkaaDoorLeC
namespace Go.Proofs.YtcgdhdbhebcbkaaDoor
open Go
set_option maxRecDepth 10000

theorem callP_config {W0 : World} {own : Own} {a b c d e : Int} {K : Value → Own → Prop} (hh : inKs [a, b, c, d, e]) (h : ∀ c : Cfg, goodC c → K c.v own) :
    CallT Tryd.prog W0 own 19 [.int .i64 a, .int .i64 b, .int .i64 c, .int .i64 d, .int .i64 e] K :=
  call_e (sp_config W0 own a b c d e hh) (fun v ⟨c, hv, hg⟩ => by rw [hv]; exact h c hg)

/-- One field changed. -/
def spoilM (c : Cfg) (w v : Int) : Cfg :=
  if w = 0 then { c with words := v } else if w = 1 then { c with orecs := v } else if w = 2 then { c with base := v } else if w = 3 then { c with c0 := v } else if w = 4 then { c with c1 := v }
  else if w = 5 then { c with c2 := v } else if w = 6 then { c with c3 := v } else if w = 7 then { c with reads := v } else if w = 8 then { c with writes := v } else if w = 9 then { c with allocs := v }
  else if w = 10 then { c with frees := v } else { c with clock := v }

theorem sp_spoil (W0 : World) (own : Own) (c : Cfg) (x v : Int) : Pure Tryd.prog W0 21 [c.v, .int .i64 x, .int .i64 v] own (spoilM c (placeM x 12) v).v := by
  have hp := place_bd x (n := 12) (by omega)
  have hP : ∀ own, Pure Tryd.prog W0 13 [.int .i64 x, .int .i64 12] own (.int .i64 (placeM x 12)) := fun own => sp_place W0 own x 12 (by omega)
  generalize placeM x 12 = w at hp hP ⊢
  refine pure_of (spec_of mixed low_law07_spoil (by simp [ir_law07_spoil]) ?_)
  have hw : w = 0 ∨ w = 1 ∨ w = 2 ∨ w = 3 ∨ w = 4 ∨ w = 5 ∨ w = 6 ∨ w = 7 ∨ w = 8 ∨ w = 9 ∨ w = 10 ∨ w = 11 := by omega
  rcases hw with rfl | rfl | rfl | rfl | rfl | rfl | rfl | rfl | rfl | rfl | rfl | rfl
  all_goals
    repeat' ((try (conv => whnf)); first | (apply call_p (hP _)) | (apply call_q (fun _ => hP _)) | (refine when_y ?_) | (refine when_ft ?_) | (refine when_tf ?_) | (refine br_t ?_) | (refine br_f ?_) | (refine ari ?_ ?_; omega) | (refine aru ?_ ?_; omega) | (apply sel; exact rfl) | (refine ix0 rfl ?_) | (refine ix1 rfl ?_) | (refine ix2 rfl ?_) | (refine ix3 rfl ?_) | (refine ix4 rfl ?_) | (apply ixj; omega) | (refine ixn ?_ ?_; omega) | (refine ixs0 rfl ?_) | (refine ixs1 rfl ?_) | (refine ixs2 rfl ?_) | (refine ixs_j ?_ ?_; omega) | (refine ixs_n ?_ ?_; omega) | (apply ld_own; (repeat (first | exact List.Mem.head _ | apply List.Mem.tail | apply List.mem_append_right)); exact rfl) | (apply ldN_all; (repeat (first | exact List.Mem.head _ | apply List.Mem.tail | apply List.mem_append_right)); exact rfl) | (apply ldN_own; (repeat (first | exact List.Mem.head _ | apply List.Mem.tail | apply List.mem_append_right)); exact rfl; exact rfl) | (apply st_own; (repeat (first | exact Up.head | apply Up.tail | apply Up.app)); (solve | ((try (conv => arg 2; whnf)); repeat' (first | exact Lis.nil | apply Lis.cons | apply SetAt.here | apply SetAt.there | apply PutAt.done | apply PutAt.put | apply PutAt.skip))); exact rfl) | (apply stN_own; (repeat (first | exact Up.head | apply Up.tail | apply Up.app)); (solve | ((try (conv => arg 2; whnf)); repeat' (first | exact Lis.nil | apply Lis.cons | apply SetAt.here | apply SetAt.there | apply PutAt.done | apply PutAt.put | apply PutAt.skip))); exact rfl) | (refine new_i (fun bk hbk => ?_)) | (refine when_dt (fun hc => ?_) (fun hc => ?_)) | (refine when_df (fun hc => ?_) (fun hc => ?_)) | (refine when_ndt (fun hc => ?_) (fun hc => ?_)) | (refine when_ndf (fun hc => ?_) (fun hc => ?_)) | (refine br_d (fun hc => ?_) (fun hc => ?_)) | (refine br_nd (fun hc => ?_) (fun hc => ?_)) | (refine shl0 ?_ ?_; omega) | (refine shl1 ?_ ?_; omega) | (refine shl2 ?_ ?_; omega) | (refine shl3 ?_ ?_; omega) | (refine mm_min ?_) | (refine mm_max ?_) | (refine quo_i ?_ ?_; omega) | (refine rem_i ?_ ?_; omega) | (refine stN_and rfl ?_) | (refine SelN.mk ?_) | (refine cut_n ?_) | (refine Both.mk ?_ ?_) | (exact True.intro) | (exact Ent.refl) | (refine Ent.cons ?_) | (refine And.intro rfl ?_) | (fail))
    all_goals first | (exfalso; omega) | exact ⟨ret1 rfl, by (repeat (first | exact Ent.refl | exact Ent.left | refine Ent.cons ?_ | refine Ent.app ?_))⟩

end Go.Proofs.YtcgdhdbhebcbkaaDoor
