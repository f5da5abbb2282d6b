/- Layout: the statement's own functions, as contracts. No condition. -/
import Derived.Test.YtcgdhdbhebcbkaaDoorLeA
namespace Go.Proofs.YtcgdhdbhebcbkaaDoor
open Go
set_option maxRecDepth 10000

def exC : Cfg := ⟨16, 3, 4, 2, 1, 0, 0, 1, 1, 0, 0, 0, false⟩
def zeC : Cfg := ⟨0, 0, 0, 0, 0, 0, 0, 0, 0, 0, 0, 0, false⟩
theorem sp_example (W0 : World) (own : Own) : Pure Tryd.prog W0 31 [] own exC.v := by
  refine pure_of (spec_of mixed low_law07_example (by simp [ir_law07_example]) ?_)
  repeat' ((try (conv => whnf)); first | (refine when_y ?_) | (refine when_ft ?_) | (refine when_tf ?_) | (refine br_t ?_) | (refine br_f ?_) | (refine ari ?_ ?_; omega) | (refine aru ?_ ?_; omega) | (apply sel; exact rfl) | (refine ix0 rfl ?_) | (refine ix1 rfl ?_) | (refine ix2 rfl ?_) | (refine ix3 rfl ?_) | (refine ix4 rfl ?_) | (apply ixj; omega) | (refine ixn ?_ ?_; omega) | (refine ixs0 rfl ?_) | (refine ixs1 rfl ?_) | (refine ixs2 rfl ?_) | (refine ixs_j ?_ ?_; omega) | (refine ixs_n ?_ ?_; omega) | (apply ld_own; (repeat (first | exact List.Mem.head _ | apply List.Mem.tail | apply List.mem_append_right)); exact rfl) | (apply ldN_all; (repeat (first | exact List.Mem.head _ | apply List.Mem.tail | apply List.mem_append_right)); exact rfl) | (apply ldN_own; (repeat (first | exact List.Mem.head _ | apply List.Mem.tail | apply List.mem_append_right)); exact rfl; exact rfl) | (apply st_own; (repeat (first | exact Up.head | apply Up.tail | apply Up.app)); (solve | ((try (conv => arg 2; whnf)); repeat' (first | exact Lis.nil | apply Lis.cons | apply SetAt.here | apply SetAt.there | apply PutAt.done | apply PutAt.put | apply PutAt.skip))); exact rfl) | (apply stN_own; (repeat (first | exact Up.head | apply Up.tail | apply Up.app)); (solve | ((try (conv => arg 2; whnf)); repeat' (first | exact Lis.nil | apply Lis.cons | apply SetAt.here | apply SetAt.there | apply PutAt.done | apply PutAt.put | apply PutAt.skip))); exact rfl) | (refine new_i (fun bk hbk => ?_)) | (refine when_dt (fun hc => ?_) (fun hc => ?_)) | (refine when_df (fun hc => ?_) (fun hc => ?_)) | (refine when_ndt (fun hc => ?_) (fun hc => ?_)) | (refine when_ndf (fun hc => ?_) (fun hc => ?_)) | (refine br_d (fun hc => ?_) (fun hc => ?_)) | (refine br_nd (fun hc => ?_) (fun hc => ?_)) | (refine shl0 ?_ ?_; omega) | (refine shl1 ?_ ?_; omega) | (refine shl2 ?_ ?_; omega) | (refine shl3 ?_ ?_; omega) | (refine mm_min ?_) | (refine mm_max ?_) | (refine quo_i ?_ ?_; omega) | (refine rem_i ?_ ?_; omega) | (refine stN_and rfl ?_) | (refine SelN.mk ?_) | (refine cut_n ?_) | (refine Both.mk ?_ ?_) | (exact True.intro) | (exact Ent.refl) | (refine Ent.cons ?_) | (refine And.intro rfl ?_) | (fail))
  all_goals exact ⟨rfl, by (repeat (first | exact Ent.refl | exact Ent.left | refine Ent.cons ?_ | refine Ent.app ?_))⟩

theorem ex_check (W0 : World) (own : Own) : Pure Tryd.prog W0 32 [exC.v] own (.int .i64 0) := by
  have h := sp_check W0 own exC
  rwa [show checkM exC = 0 by decide] at h
theorem ze_check (W0 : World) (own : Own) : Pure Tryd.prog W0 32 [zeC.v] own (.int .i64 50) := by
  have h := sp_check W0 own zeC
  rwa [show checkM zeC = 50 by decide] at h
theorem ex_blocks (W0 : World) (own : Own) : Pure Tryd.prog W0 33 [exC.v] own (.int .i64 3) := by
  have h := sp_blocks W0 own exC
  rwa [show blocksM exC = 3 by decide] at h
theorem ex_first (W0 : World) (own : Own) : Pure Tryd.prog W0 34 [exC.v, .int .i64 2] own (.int .i64 6) := by
  have h := sp_first W0 own exC 2 (by decide)
  rwa [show firstM exC 2 = 6 by decide] at h
theorem ex_class (W0 : World) (own : Own) : Pure Tryd.prog W0 35 [exC.v, .int .i64 2] own (.int .i64 1) := by
  have h := sp_class W0 own exC 2 (by decide)
  rwa [show classM exC 2 = 1 by decide] at h
theorem ex_find (W0 : World) (own : Own) : Pure Tryd.prog W0 36 [exC.v, .int .u64 5] own (.int .i64 1) := by
  have h := sp_find W0 own exC 5
  rwa [show findM exC 5 = 1 by decide] at h
theorem ex_orec (W0 : World) (own : Own) : Pure Tryd.prog W0 37 [exC.v, .int .i64 18] own (.int .i64 0) := by
  have h := sp_orec W0 own exC 18
  rwa [show orecM exC 18 = 0 by decide] at h

theorem sp_awake (W0 : World) (own : Own) : Pure Tryd.prog W0 16 [] own (.bool true) := by
  refine pure_of (spec_of mixed low_law07_awake (by simp [ir_law07_awake]) ?_)
  repeat' ((try (conv => whnf)); first | (apply call_p (sp_example _ _)) | (apply call_q (fun _ => sp_example _ _)) | (apply call_p (ex_check _ _)) | (apply call_q (fun _ => ex_check _ _)) | (apply call_p (ze_check _ _)) | (apply call_q (fun _ => ze_check _ _)) | (apply call_p (ex_blocks _ _)) | (apply call_q (fun _ => ex_blocks _ _)) | (apply call_p (ex_first _ _)) | (apply call_q (fun _ => ex_first _ _)) | (apply call_p (ex_class _ _)) | (apply call_q (fun _ => ex_class _ _)) | (apply call_p (ex_find _ _)) | (apply call_q (fun _ => ex_find _ _)) | (apply call_p (ex_orec _ _)) | (apply call_q (fun _ => ex_orec _ _)) | (refine when_y ?_) | (refine when_ft ?_) | (refine when_tf ?_) | (refine br_t ?_) | (refine br_f ?_) | (refine ari ?_ ?_; omega) | (refine aru ?_ ?_; omega) | (apply sel; exact rfl) | (refine ix0 rfl ?_) | (refine ix1 rfl ?_) | (refine ix2 rfl ?_) | (refine ix3 rfl ?_) | (refine ix4 rfl ?_) | (apply ixj; omega) | (refine ixn ?_ ?_; omega) | (refine ixs0 rfl ?_) | (refine ixs1 rfl ?_) | (refine ixs2 rfl ?_) | (refine ixs_j ?_ ?_; omega) | (refine ixs_n ?_ ?_; omega) | (apply ld_own; (repeat (first | exact List.Mem.head _ | apply List.Mem.tail | apply List.mem_append_right)); exact rfl) | (apply ldN_all; (repeat (first | exact List.Mem.head _ | apply List.Mem.tail | apply List.mem_append_right)); exact rfl) | (apply ldN_own; (repeat (first | exact List.Mem.head _ | apply List.Mem.tail | apply List.mem_append_right)); exact rfl; exact rfl) | (apply st_own; (repeat (first | exact Up.head | apply Up.tail | apply Up.app)); (solve | ((try (conv => arg 2; whnf)); repeat' (first | exact Lis.nil | apply Lis.cons | apply SetAt.here | apply SetAt.there | apply PutAt.done | apply PutAt.put | apply PutAt.skip))); exact rfl) | (apply stN_own; (repeat (first | exact Up.head | apply Up.tail | apply Up.app)); (solve | ((try (conv => arg 2; whnf)); repeat' (first | exact Lis.nil | apply Lis.cons | apply SetAt.here | apply SetAt.there | apply PutAt.done | apply PutAt.put | apply PutAt.skip))); exact rfl) | (refine new_i (fun bk hbk => ?_)) | (refine when_dt (fun hc => ?_) (fun hc => ?_)) | (refine when_df (fun hc => ?_) (fun hc => ?_)) | (refine when_ndt (fun hc => ?_) (fun hc => ?_)) | (refine when_ndf (fun hc => ?_) (fun hc => ?_)) | (refine br_d (fun hc => ?_) (fun hc => ?_)) | (refine br_nd (fun hc => ?_) (fun hc => ?_)) | (refine shl0 ?_ ?_; omega) | (refine shl1 ?_ ?_; omega) | (refine shl2 ?_ ?_; omega) | (refine shl3 ?_ ?_; omega) | (refine mm_min ?_) | (refine mm_max ?_) | (refine quo_i ?_ ?_; omega) | (refine rem_i ?_ ?_; omega) | (refine stN_and rfl ?_) | (refine SelN.mk ?_) | (refine cut_n ?_) | (refine Both.mk ?_ ?_) | (exact True.intro) | (exact Ent.refl) | (refine Ent.cons ?_) | (refine And.intro rfl ?_) | (fail))
  all_goals first | (exfalso; omega) | exact ⟨ret1 (vb (decide_eq_true rfl)), by (repeat (first | exact Ent.refl | exact Ent.left | refine Ent.cons ?_ | refine Ent.app ?_))⟩ | exact ⟨rfl, by (repeat (first | exact Ent.refl | exact Ent.left | refine Ent.cons ?_ | refine Ent.app ?_))⟩

end Go.Proofs.YtcgdhdbhebcbkaaDoor
