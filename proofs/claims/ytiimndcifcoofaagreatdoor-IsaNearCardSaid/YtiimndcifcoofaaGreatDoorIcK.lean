/- isa: Format of one instruction, awake, and the first law's walk. No condition. -/
import Derived.Test.YtiimndcifcoofaaGreatDoorIcJ
import Derived.Test.YtiimndcifcoofaaGreatDoorIRlaw03
namespace Go.Proofs.YtiimndcifcoofaaGreatDoor
open Go Go.RowKit
set_option maxRecDepth 10000
set_option maxHeartbeats 4000000
section
variable {W0 : World} {own : Own}
theorem next_y {b : Nat} {s : ByteArray} {pos r n : Nat} {K : Value → Own → Prop} {C : (Obj → Prop) → Own} [m : UpC b (fun o => o = Obj.stringIter s pos) own C] (h : pos < s.size) (hd : Utf8.decode s pos = (r, n)) (hk : K (.tuple #[.bool true, .int .i64 pos, .int .i32 r]) (C (fun o => o = Obj.stringIter s (pos + n)))) : NextT W0 own b K :=
  ⟨s, pos, (m.h (fun _ => True)).mem, fun _ => ⟨_, m.h _, by rw [hd]; exact hk⟩, fun hn => absurd h hn⟩
theorem next_n {b : Nat} {s : ByteArray} {pos : Nat} {K : Value → Own → Prop} {C : (Obj → Prop) → Own} [m : UpC b (fun o => o = Obj.stringIter s pos) own C] (h : ¬ pos < s.size) (hk : K (.tuple #[.bool false]) own) : NextT W0 own b K :=
  ⟨s, pos, (m.h (fun _ => True)).mem, fun hp => absurd hp h, fun _ => hk⟩
theorem cell_lt {w : World} {a : Addr} {v : Value} (h : w.cell? a = some v) : a.block < w.heap.size := by
  rcases Nat.lt_or_ge a.block w.heap.size with h' | h'
  · exact h'
  · unfold World.cell? at h
    rw [Array.getElem?_eq_none h'] at h
    simp at h
theorem sp_join {a : Option Addr} {l : List ByteArray} {c : Nat} {sep : ByteArray} {D : Own} (hB : BufE encS 9 1 a c l D) [me : EntC own D] (hne : l ≠ []) (hc : l.length ≤ 140737488355328)
    (hj : (Go.Lib.join (l.map (·.data.toList)) sep.data.toList).length ≤ 140737488355328) : Pure Tryz.prog W0 37 [.slice a l.length c, .string sep] own (.string ⟨(Go.Lib.join (l.map (·.data.toList)) sep.data.toList).toArray⟩) := fun w hw => by
  have hR : RdE encS 1 W0 own a l := hB.rd.ent (me.h W0)
  rcases hB.how with ⟨h, _, _⟩ | ⟨b, rest, rfl, _, _, hle⟩
  · exact absurd h hne
  · have hcell : ∀ (j : Nat) x, l[j]? = some x → w.cell? ⟨b, 0 + j, none⟩ = some (.string x) := fun j x hx => by
      have := hR.cell (k := 0) (v := .string x) hx rfl w hw
      rw [show ao (some (⟨b, 0, none⟩ : Addr)) + j * 1 + 0 = 0 + j by show 0 + j * 1 + 0 = 0 + j; omega] at this
      exact this
    have hlt : b < w.heap.size := by
      cases l with
      | nil => exact absurd rfl hne
      | cons x r => exact cell_lt (hcell 0 x rfl)
    refine (shelf_strings_Join b 0 c l sep w hcell hlt hc hle hj).mono ?_
    rintro e w' ⟨rfl, hb⟩
    exact ⟨rfl, hw.below hb⟩
theorem sp_fmt2 (hL : LibAt W0) (hF : FormsAt W0) : Pure Tryz.prog W0 11 [.agg #[.int .i64 7, .int .i64 0, .int .i64 0, .int .i64 0, .int .i64 2]] own (.tuple #[.string ⟨#[98, 101, 103, 105, 110, 32, 50]⟩, .int .i64 0]) := by
  refine pure_of (spec_of mixed low_isa_Format (by simp [ir_isa_Format]) ?_)
  have hch : ∀ own, Pure Tryz.prog W0 13 [.agg #[.int .i64 7, .int .i64 0, .int .i64 0, .int .i64 0, .int .i64 2]] own (.int .i64 0) := fun own => sp_icheck W0 own hF ⟨7, 0, 0, 0, 2⟩
  have eit : (⟨(Go.Lib.itoa 2).toArray⟩ : ByteArray) = ⟨#[50]⟩ := by decide +kernel
  have hit : ∀ own, Pure Tryz.prog W0 36 [.int .i64 2] own (.string ⟨#[50]⟩) := fun own => by rw [← eit]; exact sp_itoa (own := own) hL (n := 2) (by omega) (by omega)
  have hB0 : ∀ b : Nat, BufE encS 9 1 (some ⟨b, 0, none⟩) 1 [⟨#[98, 101, 103, 105, 110]⟩] [(b, fun o => o = Obj.cells #[.string ⟨#[98, 101, 103, 105, 110]⟩] 9)] := fun b => can_buf (l := [(⟨#[98, 101, 103, 105, 110]⟩ : ByteArray)]) (fun _ _ => rfl)
  repeat' ((try (conv => whnf)); first | (refine when_ye ?_ ?_; exact rfl) | (refine when_ne ?_ ?_; exact rfl) | (refine br_te ?_ ?_; exact rfl) | (refine br_fe ?_ ?_; exact rfl) | (apply br_pyE; (exact rfl); omega) | (apply br_pnE; (exact rfl); omega) | (apply when_pyE; (exact rfl); omega) | (apply when_pnE; (exact rfl); omega) | (apply br_npyE; (exact rfl); omega) | (apply br_npnE; (exact rfl); omega) | (apply when_npyE; (exact rfl); omega) | (apply when_npnE; (exact rfl); omega) | (refine ldN_laid hF _ rfl rfl ?_) | (refine next_y (by decide) (r := 73) (n := 1) (by decide +kernel) ?_) | (refine next_n (by decide) ?_) | (refine loop_r 2 ?_) | (refine app_1 (D := [(_, fun o => o = Obj.cells #[.string ⟨#[98, 101, 103, 105, 110]⟩] 9)]) (l := [⟨#[98, 101, 103, 105, 110]⟩]) (enc := encS) (sz := 1) ⟨#[50]⟩ (hB0 _) (At.tail (At.tail At.head)) (List.Mem.head _) rfl rfl (by omega) rfl rfl (by simp) (fun a1 c1 D1 hb1 => ?_)) | ((with_reducible show CallT _ _ _ _ _ _); first | ((refine call_pe (hch _) ?_ ?_ ?_; (exact rfl); exact rfl)) | ((refine call_pe (hit _) ?_ ?_ ?_; (exact rfl); exact rfl)) | ((refine call_pe (sp_join (sep := ⟨#[32]⟩) hb1 (by simp) (by simp) (by decide)) ?_ ?_ ?_; (exact rfl); exact rfl))) | (refine ari ?_ ?_; omega) | (refine aru ?_ ?_; omega) | (apply sel; exact rfl) | (refine ix0 rfl ?_) | (refine ix1 rfl ?_) | (refine ix2 rfl ?_) | (refine ix3 rfl ?_) | (apply ixj; omega) | (refine ixn ?_ ?_; omega) | (refine ixs0 rfl ?_) | (refine ixs1 rfl ?_) | (refine ixs_j ?_ ?_; omega) | (refine ixs_n ?_ ?_; omega) | (apply ld_o; exact rfl) | (apply ldN_a; exact rfl) | (apply ldN_o; (exact rfl); exact rfl) | (apply st_o; (exact rfl); exact rfl) | (apply stN_o; (exact rfl); (exact rfl); exact rfl) | (refine new_i (fun bk hbk => ?_)) | (apply when_dE; (exact rfl); (exact rfl); all_goals intro hc) | (apply when_dF; (exact rfl); (exact rfl); all_goals intro hc) | (apply when_nE; (exact rfl); (exact rfl); all_goals intro hc) | (apply when_nF; (exact rfl); (exact rfl); all_goals intro hc) | (apply br_dE; (exact rfl); all_goals intro hc) | (apply br_nE; (exact rfl); all_goals intro hc) | (refine mm_min ?_) | (refine mm_max ?_) | (refine rem_i ?_ ?_; omega) | (refine SelN.mk ?_) | (refine cut_n ?_) | (refine Both.mk ?_ ?_) | (exact True.intro))
  exact ⟨rfl, (by first | exact ent_i | (repeat (first | exact Ent.refl | exact Ent.left | refine Ent.cons ?_ | refine Ent.app ?_)))⟩
end
end Go.Proofs.YtiimndcifcoofaaGreatDoor
