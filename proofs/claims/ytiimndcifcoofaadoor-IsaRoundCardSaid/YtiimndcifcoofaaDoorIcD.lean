/- isa: the words of a text, both sides. No condition. -/
import Derived.Test.YtiimndcifcoofaaDoorIcA
import Derived.Test.YtiimndcifcoofaaDoorIpC
import Derived.Test.YtiimndcifcoofaaDoorIRref03
namespace Go.Proofs.YtiimndcifcoofaaDoor
open Go Go.RowKit
set_option maxRecDepth 10000
set_option maxHeartbeats 4000000
abbrev exW (s : ByteArray) (l : List (Nat × Nat)) : List ByteArray := l.map fun x => s.extract x.1 x.2
theorem wsp_succ (s : ByteArray) (i : Nat) : wsp s (i + 1) = if i < s.size ∧ spB s i = false then wsp s i else (i + 1, if i > (wsp s i).1 then (wsp s i).2 ++ [((wsp s i).1, i)] else (wsp s i).2) := rfl
theorem wsp_len (s : ByteArray) : ∀ i, (wsp s i).2.length ≤ i
  | 0 => by simp [wsp]
  | i + 1 => by
    have h := wsp_len s i
    rw [wsp_succ]
    split
    · omega
    · dsimp only
      split
      · simp; omega
      · omega
section
variable {W0 : World} {own : Own}
theorem sp_split (s : ByteArray) (hs : s.size ≤ 4294967296) : Spec Tryd.prog W0 22 [.string s] own fun v own' => ∃ b, v = .slice (some ⟨b, 0, none⟩) (wordsM s).length (wordsM s).length ∧ own' = canE encS 9 b (wordsM s) :: own := by
  refine spec_of mixed low_isa_split (by simp [ir_isa_split]) ?_
  repeat' ((try (conv => whnf)); first | (refine when_ye ?_ ?_; exact rfl) | (refine when_ne ?_ ?_; exact rfl) | (refine br_te ?_ ?_; exact rfl) | (refine br_fe ?_ ?_; exact rfl) | (apply br_pyE; (exact rfl); omega) | (apply br_pnE; (exact rfl); omega) | (apply when_pyE; (exact rfl); omega) | (apply when_pnE; (exact rfl); omega) | (apply br_npyE; (exact rfl); omega) | (apply br_npnE; (exact rfl); omega) | (apply when_npyE; (exact rfl); omega) | (apply when_npnE; (exact rfl); omega) | ((with_reducible show CallT _ _ _ _ _ _); first | ((refine call_se (sp_fields s hs) ?_ ?_ (fun v own' hv => ?_); (exact rfl); (exact rfl); (obtain ⟨b, rfl, rfl⟩ := hv)))) | (refine ari ?_ ?_; omega) | (refine aru ?_ ?_; omega) | (apply sel; exact rfl) | (refine ix0 rfl ?_) | (refine ix1 rfl ?_) | (refine ix2 rfl ?_) | (refine ix3 rfl ?_) | (apply ixj; omega) | (refine ixn ?_ ?_; omega) | (refine ixs0 rfl ?_) | (refine ixs1 rfl ?_) | (refine ixs_j ?_ ?_; omega) | (refine ixs_n ?_ ?_; omega) | (apply ld_o; exact rfl) | (apply ldN_a; exact rfl) | (apply ldN_o; (exact rfl); exact rfl) | (apply st_o; (exact rfl); exact rfl) | (apply stN_o; (exact rfl); (exact rfl); exact rfl) | (refine new_i (fun bk hbk => ?_)) | (apply when_dE; (exact rfl); (exact rfl); all_goals intro hc) | (apply when_dF; (exact rfl); (exact rfl); all_goals intro hc) | (apply when_nE; (exact rfl); (exact rfl); all_goals intro hc) | (apply when_nF; (exact rfl); (exact rfl); all_goals intro hc) | (apply br_dE; (exact rfl); all_goals intro hc) | (apply br_nE; (exact rfl); all_goals intro hc) | (refine mm_min ?_) | (refine mm_max ?_) | (refine rem_i ?_ ?_; omega) | (refine SelN.mk ?_) | (refine cut_n ?_) | (refine Both.mk ?_ ?_) | (exact True.intro))
  exact ⟨_, rfl, rfl⟩
end
end Go.Proofs.YtiimndcifcoofaaDoor
