/- isa: Uses, both sides. No condition. -/
import Derived.Test.YtiimndcifcoofaaGreatDoorIdA
import Derived.Test.YtiimndcifcoofaaGreatDoorIcL
import Derived.Test.YtiimndcifcoofaaGreatDoorIRkit
namespace Go.Proofs.YtiimndcifcoofaaGreatDoor
open Go
set_option maxRecDepth 10000
set_option maxHeartbeats 4000000
def rawU (i : Ins) : List Int := if i.op = 2 ∨ i.op = 10 ∨ i.op = 12 then [i.b] else if i.op = 3 then [i.b, i.c] else if i.op = 5 ∨ i.op = 6 ∨ i.op = 15 then [i.a] else if i.op = 11 ∨ i.op = 13 then [i.a, i.b] else []
def usesM (i : Ins) : List Int := if icheck i = 0 then cmp (srt (rawU i)) else []
def UsesR (W0 : World) (own : Own) (l : List Int) : Value → Own → Prop := fun v own' => ∃ a cap, v = .slice a l.length cap ∧ RdE encI 1 W0 own' a l ∧ Ent W0 own' own
section
variable {W0 : World} {own : Own} {r : Own}
theorem call_srt {b : Nat} {l : List Int} {cs : Array Value} {k : FuncId} {args : List Value} {K : Value → Own → Prop} (hl : l.length < 10) (hc : cs = (l.map encI).flatten.toArray) (ek : k = 45) (ea : args = [.slice (some ⟨b, 0, none⟩) l.length l.length])
    (hk : ∀ D', BufE encI 3 1 (some ⟨b, 0, none⟩) l.length (srt l) D' → K (.tuple #[]) (D' ++ r)) : CallT Tryz.prog W0 ((b, fun o => o = Obj.cells cs 3 (0, 0)) :: r) k args K := by
  subst hc
  have hB : BufE encI 3 1 (some ⟨b, 0, none⟩) l.length l [canE encI 3 b l] := can_buf (fun _ _ => rfl)
  exact call_x (σ := { D : Own // BufE encI 3 1 (some ⟨b, 0, none⟩) l.length (srt l) D }) (R := fun _ v => v = .tuple #[]) (O := fun D => D.1 ++ r)
    (fun w hw => (sp_sort (W0 := W0) hB (At.head (r := r)) (by omega) w hw).mono fun _ _ ⟨v, o, he, hs, D, ⟨hv, hD⟩, hE⟩ => ⟨v, o, he, hs, ⟨D, hD⟩, hv, hE⟩) ek ea (fun s v hv => by subst hv; exact hk s.1 s.2)
theorem call_cmp {a : Option Addr} {cap : Nat} {l : List Int} {D : Own} {k : FuncId} {args : List Value} {K : Value → Own → Prop} (hB : BufE encI 3 1 a cap (srt l) D) (hl : l.length < 10) (ek : k = 46) (ea : args = [.slice a l.length cap])
    (hk : ∀ D', BufE encI 3 1 a cap (cmp (srt l)) D' → K (.slice a (cmp (srt l)).length cap) (D' ++ r)) : CallT Tryz.prog W0 (D ++ r) k args K := by
  rw [← srt_len l] at ea
  exact call_x (σ := { D : Own // BufE encI 3 1 a cap (cmp (srt l)) D }) (R := fun _ v => v = .slice a (cmp (srt l)).length cap) (O := fun D => D.1 ++ r)
    (fun w hw => (sp_compact (W0 := W0) hB (At.head (r := r)) (by rw [srt_len]; omega) (srt_sorted l) w hw).mono fun _ _ ⟨v, o, he, hs, D, ⟨hv, hD⟩, hE⟩ => ⟨v, o, he, hs, ⟨D, hD⟩, hv, hE⟩) ek ea (fun s v hv => by subst hv; exact hk s.1 s.2)
theorem call_srt0 {k : FuncId} {args : List Value} {K : Value → Own → Prop} (ek : k = 45) (ea : args = [.slice none 0 0]) (hk : K (.tuple #[]) own) : CallT Tryz.prog W0 own k args K :=
  call_x (σ := Unit) (R := fun _ v => v = .tuple #[]) (O := fun _ => own)
    (fun w hw => (shelf_sort_none none 0 w).mono fun _ _ ⟨he, hw'⟩ => ⟨_, own, he, hw' ▸ hw, (), rfl, Ent.refl⟩) ek ea (fun _ v hv => by subst hv; exact hk)
theorem call_cmp0 {k : FuncId} {args : List Value} {K : Value → Own → Prop} (ek : k = 46) (ea : args = [.slice none 0 0]) (hk : K (.slice none 0 0) own) : CallT Tryz.prog W0 own k args K :=
  call_x (σ := Unit) (R := fun _ v => v = .slice none 0 0) (O := fun _ => own)
    (fun w hw => (sp_compact (W0 := W0) (a := none) (cap := 0) (l := []) (BufE.nil) (At.head (D := []) (r := own)) (by simp) (by simp) w hw).mono fun _ _ ⟨v, o, he, hs, D, ⟨hv, hD⟩, hE⟩ => by
      rcases hD.how with ⟨_, _, rfl⟩ | ⟨b, rest, h, _⟩
      · exact ⟨v, o, he, hs, (), hv, hE⟩
      · cases h) ek ea (fun _ v hv => by subst hv; exact hk)
theorem op_rng {i : Ins} (h : icheck i = 0) : 0 ≤ i.op ∧ i.op < 18 := by
  unfold icheck at h
  split at h
  · omega
  · omega
theorem rd_nil : RdE encI 1 W0 own none [] := (BufE.nil (enc := encI) (T := 3) (sz := 1) (a := none)).rd.ent Ent.none
theorem uses_ok {a : Option Addr} {cap : Nat} {l : List Int} {D E : Own} (hB : BufE encI 3 1 a cap l D) : RdE encI 1 W0 (D ++ E) a l := hB.rd.ent Ent.left
theorem sp_iuses (hF : FormsAt W0) (i : Ins) : Spec Tryz.prog W0 16 [i.v] own (UsesR W0 own (usesM i)) := by
  refine spec_of mixed low_isa_Uses (by simp [ir_isa_Uses]) ?_
  have hch := fun own => sp_icheck W0 own hF i
  unfold usesM
  by_cases h0 : icheck i = 0
  · rw [if_pos h0]
    rw [h0] at hch
    have ho := op_rng h0
    obtain ⟨op, a, b, c, m⟩ := i
    dsimp only at ho
    have hw : op = 0 ∨ op = 1 ∨ op = 2 ∨ op = 3 ∨ op = 4 ∨ op = 5 ∨ op = 6 ∨ op = 7 ∨ op = 8 ∨ op = 9 ∨ op = 10 ∨ op = 11 ∨ op = 12 ∨ op = 13 ∨ op = 14 ∨ op = 15 ∨ op = 16 ∨ op = 17 := by omega
    rcases hw with rfl | rfl | rfl | rfl | rfl | rfl | rfl | rfl | rfl | rfl | rfl | rfl | rfl | rfl | rfl | rfl | rfl | rfl
    all_goals
      repeat' ((try (conv => whnf)); first | (refine when_ye ?_ ?_; exact rfl) | (refine when_ne ?_ ?_; exact rfl) | (refine br_te ?_ ?_; exact rfl) | (refine br_fe ?_ ?_; exact rfl) | (apply br_pyE; (exact rfl); omega) | (apply br_pnE; (exact rfl); omega) | (apply when_pyE; (exact rfl); omega) | (apply when_pnE; (exact rfl); omega) | (apply br_npyE; (exact rfl); omega) | (apply br_npnE; (exact rfl); omega) | (apply when_npyE; (exact rfl); omega) | (apply when_npnE; (exact rfl); omega) | ((with_reducible show CallT _ _ _ _ _ _); first | ((refine call_pe (hch _) ?_ ?_ ?_; (exact rfl); exact rfl)) | ((refine call_srt (l := [b]) (by simp) rfl ?_ ?_ (fun D' hD => ?_); (exact rfl); (exact rfl))) | ((refine call_srt (l := [a]) (by simp) rfl ?_ ?_ (fun D' hD => ?_); (exact rfl); (exact rfl))) | ((refine call_srt (l := [b, c]) (by simp) rfl ?_ ?_ (fun D' hD => ?_); (exact rfl); (exact rfl))) | ((refine call_srt (l := [a, b]) (by simp) rfl ?_ ?_ (fun D' hD => ?_); (exact rfl); (exact rfl))) | ((refine call_cmp hD (by simp) ?_ ?_ (fun D2 hD2 => ?_); (exact rfl); (exact rfl))) | ((refine call_srt0 ?_ ?_ ?_; (exact rfl); (exact rfl))) | ((refine call_cmp0 ?_ ?_ ?_; (exact rfl); (exact rfl)))) | (refine ari ?_ ?_; omega) | (refine aru ?_ ?_; omega) | (apply sel; exact rfl) | (refine ix0 rfl ?_) | (refine ix1 rfl ?_) | (refine ix2 rfl ?_) | (refine ix3 rfl ?_) | (apply ixj; omega) | (refine ixn ?_ ?_; omega) | (refine ixs0 rfl ?_) | (refine ixs1 rfl ?_) | (refine ixs_j ?_ ?_; omega) | (refine ixs_n ?_ ?_; omega) | (apply ld_o; exact rfl) | (apply ldN_a; exact rfl) | (apply ldN_o; (exact rfl); exact rfl) | (apply st_o; (exact rfl); exact rfl) | (apply stN_o; (exact rfl); (exact rfl); exact rfl) | (refine new_i (fun bk hbk => ?_)) | (apply when_dE; (exact rfl); (exact rfl); all_goals intro hc) | (apply when_dF; (exact rfl); (exact rfl); all_goals intro hc) | (apply when_nE; (exact rfl); (exact rfl); all_goals intro hc) | (apply when_nF; (exact rfl); (exact rfl); all_goals intro hc) | (apply br_dE; (exact rfl); all_goals intro hc) | (apply br_nE; (exact rfl); all_goals intro hc) | (refine mm_min ?_) | (refine mm_max ?_) | (refine rem_i ?_ ?_; omega) | (refine SelN.mk ?_) | (refine cut_n ?_) | (refine Both.mk ?_ ?_) | (exact True.intro))
      first | exact ⟨_, _, rfl, uses_ok hD2, (by first | exact ent_i | (repeat (first | exact Ent.refl | exact Ent.left | refine Ent.cons ?_ | refine Ent.app ?_)))⟩ | exact ⟨none, 0, by rw [show rawU _ = [] from rfl, cs_nil]; rfl, by rw [show rawU _ = [] from rfl, cs_nil]; exact rd_nil, (by first | exact ent_i | (repeat (first | exact Ent.refl | exact Ent.left | refine Ent.cons ?_ | refine Ent.app ?_)))⟩
  · rw [if_neg h0]
    repeat' ((try (conv => whnf)); first | (refine when_ye ?_ ?_; exact rfl) | (refine when_ne ?_ ?_; exact rfl) | (refine br_te ?_ ?_; exact rfl) | (refine br_fe ?_ ?_; exact rfl) | (apply br_pyE; (exact rfl); omega) | (apply br_pnE; (exact rfl); omega) | (apply when_pyE; (exact rfl); omega) | (apply when_pnE; (exact rfl); omega) | (apply br_npyE; (exact rfl); omega) | (apply br_npnE; (exact rfl); omega) | (apply when_npyE; (exact rfl); omega) | (apply when_npnE; (exact rfl); omega) | ((with_reducible show CallT _ _ _ _ _ _); first | ((refine call_pe (hch _) ?_ ?_ ?_; (exact rfl); exact rfl))) | (refine ari ?_ ?_; omega) | (refine aru ?_ ?_; omega) | (apply sel; exact rfl) | (refine ix0 rfl ?_) | (refine ix1 rfl ?_) | (refine ix2 rfl ?_) | (refine ix3 rfl ?_) | (apply ixj; omega) | (refine ixn ?_ ?_; omega) | (refine ixs0 rfl ?_) | (refine ixs1 rfl ?_) | (refine ixs_j ?_ ?_; omega) | (refine ixs_n ?_ ?_; omega) | (apply ld_o; exact rfl) | (apply ldN_a; exact rfl) | (apply ldN_o; (exact rfl); exact rfl) | (apply st_o; (exact rfl); exact rfl) | (apply stN_o; (exact rfl); (exact rfl); exact rfl) | (refine new_i (fun bk hbk => ?_)) | (apply when_dE; (exact rfl); (exact rfl); all_goals intro hc) | (apply when_dF; (exact rfl); (exact rfl); all_goals intro hc) | (apply when_nE; (exact rfl); (exact rfl); all_goals intro hc) | (apply when_nF; (exact rfl); (exact rfl); all_goals intro hc) | (apply br_dE; (exact rfl); all_goals intro hc) | (apply br_nE; (exact rfl); all_goals intro hc) | (refine mm_min ?_) | (refine mm_max ?_) | (refine rem_i ?_ ?_; omega) | (refine SelN.mk ?_) | (refine cut_n ?_) | (refine Both.mk ?_ ?_) | (exact True.intro))
    exact ⟨none, 0, rfl, rd_nil, (by first | exact ent_i | (repeat (first | exact Ent.refl | exact Ent.left | refine Ent.cons ?_ | refine Ent.app ?_)))⟩
end
end Go.Proofs.YtiimndcifcoofaaGreatDoor
