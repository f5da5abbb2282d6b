/- What the laws share, part 23. No condition. -/
import Derived.Lib.SmallJoins
import Derived.Test.YtiimndcifcoofaaGreatDoorY22
namespace Go.Proofs.YtiimndcifcoofaaGreatDoor
open Go Go.RowKit
set_option maxRecDepth 10000
set_option maxHeartbeats 4000000
theorem St.below {W0 : World} {own : Own} {w w' : World} (s : St W0 own w) (h : Below w.heap.size w w') : St W0 own w' :=
  ⟨h.os.trans s.os, h.tape.trans s.tape, h.output.trans s.output, Nat.le_trans s.size h.size, fun b hb => (h.block b (Nat.lt_of_lt_of_le hb s.size)).trans (s.base b hb), s.fresh, fun e he => by
    obtain ⟨o, ho, hp⟩ := s.owns e he
    exact ⟨o, by rw [h.block e.1 (s.mem_size he)]; exact ho, hp⟩, s.nodup⟩
theorem St.newB {W0 : World} {own : Own} {w w' : World} (s : St W0 own w) (h : Below w.heap.size w w') {A : Nat} {o : Obj} {p : Obj → Prop} (hA : w.heap.size ≤ A) (ho : w'.heap[A]? = some o) (hp : p o) : St W0 ((A, p) :: own) w' := by
  have s' := s.below h
  refine ⟨s'.os, s'.tape, s'.output, s'.size, s'.base, fun e he => ?_, fun e he => ?_, ?_⟩
  · rcases List.mem_cons.1 he with rfl | he
    · exact Nat.le_trans s.size hA
    · exact s'.fresh e he
  · rcases List.mem_cons.1 he with rfl | he
    · exact ⟨o, ho, hp⟩
    · exact s'.owns e he
  · rw [List.map_cons, List.nodup_cons]
    refine ⟨fun hm => ?_, s'.nodup⟩
    obtain ⟨x, hx, he⟩ := List.mem_map.1 hm
    have := s.mem_size hx
    have he' : x.1 = A := he
    omega
theorem St.var {W0 : World} {own : Own} {w : World} {P : Program} {n : String} {cs : Array Value} (s : St W0 own w) (h : W0.var? P n = some cs) : w.var? P n = some cs := by
  unfold World.var? at *
  cases hg : P.globalNamed n with
  | none => rw [hg] at h; cases h
  | some g =>
    rw [hg] at h
    simp only [Option.bind_some] at *
    have hlt : g < W0.heap.size := by
      rcases Nat.lt_or_ge g W0.heap.size with h' | h'
      · exact h'
      · rw [Array.getElem?_eq_none h'] at h; cases h
    rw [s.base g hlt]; exact h
structure LibAt (W0 : World) : Prop where
  pow : Go.Lib.TabIs Tryz.prog W0 "internal/strconv.uint64pow10" .u64 Go.Lib.pow10Tab
  syn : ∃ te pe, W0.var? Tryz.prog "strconv.ErrSyntax" = some #[.iface te pe]
  ran : ∃ te pe, W0.var? Tryz.prog "strconv.ErrRange" = some #[.iface te pe]
theorem split1 (w : World) : Go.Proofs.PredAtRunes Tryz.prog 106 #[] spR w := fun W r _ _ => by
  unfold Go.Proofs.FnGives spR
  by_cases h1 : r = 32
  all_goals
    have z1 : (r : Int) = 32 ↔ r = 32 := by omega
    go_enter Tryz.func106, Tryz.ntmps106
    go_wp2
    all_goals first | (exfalso; omega) | (go_ret; exact ⟨by simp [h1, z1], 0, rfl⟩) | (go_ret; refine ⟨?_, 0, rfl⟩; simp [h1]; omega)
abbrev encS (s : ByteArray) : List Value := [.string s]
theorem flatS : ∀ l : List ByteArray, (l.map encS).flatten = l.map Value.string
  | [] => rfl
  | x :: l => by simp [flatS l]
section
variable {W0 : World} {own : Own}
theorem sp_fields (s : ByteArray) (hs : s.size ≤ 4294967296) : Spec Tryz.prog W0 105 [.string s, .func (.func 106) #[] #[]] own fun v own' => ∃ b, v = .slice (some ⟨b, 0, none⟩) (wordsM s).length (wordsM s).length ∧ own' = canE encS 9 b (wordsM s) :: own := by
  intro w hw
  refine (shelf_strings_FieldsFunc_runes 106 #[] (Go.Proofs.enters_of Tryz.func106 (by kernel_rfl) rfl) spR s w hs (split1 w)).mono ?_
  rintro e w' ⟨A, rfl, hA, hrow, hb⟩
  rw [fields_words] at *
  obtain ⟨_, h | ⟨g, cap, cur, hv, hg, hcell, _, _, hcs, htake⟩⟩ := hrow
  · cases h.1
  · simp only [Value.slice.injEq, Option.some.injEq, Addr.mk.injEq] at hv
    obtain ⟨⟨rfl, _, _⟩, _, rfl⟩ := hv
    refine ⟨_, _, rfl, hw.newB hb hg hcell ?_, A, rfl, rfl⟩
    rw [Nat.mul_one] at *
    rw [flatS]
    have : cur.toList = (wordsM s).map Value.string := by
      rw [← htake, List.take_of_length_le (by simp; omega)]
    rw [← this]
theorem sp_prefix (s p : ByteArray) (b : Bool) (hb : Go.Lib.hasPrefix s.data.toList p.data.toList = b) : Pure Tryz.prog W0 65 [.string s, .string p] own (.bool b) := fun w hw =>
  (shelf_strings_HasPrefix s p w).mono fun _ _ ⟨he, hw'⟩ => ⟨by rw [he, hb], hw' ▸ hw⟩
theorem sp_pint_ok (s : ByteArray) (hs : s.size ≤ 281474976710656) {v : Int} (h : Go.Lib.parseIntB 64 s.data.toList = .ok v) : Pure Tryz.prog W0 141 [.string s, .int .i64 10, .int .i64 64] own (.tuple #[.int .i64 v, .nilIface]) := fun w hw =>
  (shelf_strconv_ParseInt_10_at64_ok s (by omega) v h w).mono fun _ _ ⟨he, hw'⟩ => ⟨he, by
    rcases hw' with rfl | ⟨t, rfl⟩
    · exact hw
    · exact hw.below (Go.Joins.below_bytesWorld _ _ _ _ (Nat.le_refl _))⟩
def pintV (s : ByteArray) : Int := match Go.Lib.parseIntB 64 s.data.toList with
  | .ok v => v
  | .range => Go.Lib.intSat 64 s.data.toList
  | _ => 0
theorem sp_pint_err (hL : LibAt W0) (s : ByteArray) (hs : s.size ≤ 281474976710656) (h : ∀ v, Go.Lib.parseIntB 64 s.data.toList ≠ .ok v) : Spec Tryz.prog W0 141 [.string s, .int .i64 10, .int .i64 64] own fun v own' => ∃ x : TypeId × Value, v = .tuple #[.int .i64 (pintV s), .iface x.1 x.2] ∧ Ent W0 own' own := by
  intro w hw
  have cell : ∀ {n : String} {g : Nat} {te : TypeId} {pe : Value}, (Tryz.prog).globalNamed n = some g → W0.var? Tryz.prog n = some #[.iface te pe] → w.cell? ⟨g, 0, none⟩ = some (.iface te pe) := fun hg h => by
    rw [World.var?_cell hg (hw.var h) 0]; rfl
  cases hp : Go.Lib.parseIntB 64 s.data.toList with
  | ok v => exact absurd hp (h v)
  | range =>
    obtain ⟨te, pe, hv⟩ := hL.ran
    refine (shelf_strconv_ParseInt_10_at64_range s hs hp _ w (cell (by kernel_rfl) hv) (.inr ⟨te, pe, rfl⟩)).mono ?_
    rintro e w' ⟨N, rfl, _, _, hb⟩
    exact ⟨_, own, rfl, hw.below hb, (_, _), by rw [pintV, hp], Ent.refl⟩
  | _ =>
    obtain ⟨te, pe, hv⟩ := hL.syn
    refine (shelf_strconv_ParseInt_10_at64_synt s hs h (by rw [hp]; simp) _ w (cell (by kernel_rfl) hv) (.inr ⟨te, pe, rfl⟩)).mono ?_
    rintro e w' ⟨N, rfl, _, _, hb⟩
    exact ⟨_, own, rfl, hw.below hb, (_, _), by rw [pintV, hp], Ent.refl⟩
theorem sp_itoa (hL : LibAt W0) {n : Int} (h0 : -9223372036854775808 ≤ n) (h1 : n ≤ 9223372036854775807) : Pure Tryz.prog W0 36 [.int .i64 n] own (.string ⟨(Go.Lib.itoa n).toArray⟩) := fun w hw =>
  (shelf_strconv_Itoa n h0 h1 w (hw.var hL.pow)).mono fun _ _ ⟨he, k, os, hw'⟩ => ⟨he, by
    subst hw'
    exact (hw.below ⟨rfl, rfl, rfl, by simp [Go.Sort.grow, World.drewN], fun j hj => by simp only [Go.Sort.grow, World.drewN]; rw [Array.getElem?_append_left hj]⟩)⟩
end
end Go.Proofs.YtiimndcifcoofaaGreatDoor
namespace Go.Proofs.YtiimndcifcoofaaGreatDoor
open Go Go.RowKit
set_option maxRecDepth 10000
set_option maxHeartbeats 4000000
def regM (s : ByteArray) : Int × Bool := match s.data.toList with
  | [c, d] => if (c.toNat : Int) = 114 ∧ 48 ≤ (d.toNat : Int) ∧ (d.toNat : Int) ≤ 55 then ((d.toNat : Int) - 48, true) else (0, false)
  | _ => (0, false)
theorem reg_no {s : ByteArray} (h : s.size ≠ 2) : regM s = (0, false) := by
  have hl : s.data.toList.length = s.size := by simp
  unfold regM
  split
  · rename_i c d e
    rw [e] at hl
    exact absurd hl.symm h
  · rfl
theorem wrap_u8 {e : Int} (h1 : 0 ≤ e) (h2 : e ≤ 255) : IntKind.u8.wrap e = e := by
  unfold IntKind.wrap
  simp [IntKind.signed, IntKind.bits]
  omega
section
variable {W0 : World} {own : Own}
theorem sp_register0 (s : ByteArray) : Pure Tryz.prog W0 108 [.string s] own (.tuple #[.int .i64 (regM s).1, .bool (regM s).2]) := by
  refine pure_of (spec_of mixed low_isa_register (by simp [ir_isa_register]) ?_)
  have hl : s.data.toList.length = s.size := by simp
  by_cases h2 : (s.size : Int) = 2
  · obtain ⟨c, d, e⟩ : ∃ c d, s.data.toList = [c, d] := by
      match s.data.toList, hl with
      | [c, d], _ => exact ⟨c, d, rfl⟩
      | [], h => simp at h; omega
      | [c], h => simp at h; omega
      | _ :: _ :: _ :: _, h => simp at h; omega
    have h0 : s.data.toList[0]? = some c := by rw [e]; rfl
    have h1 : s.data.toList[1]? = some d := by rw [e]; rfl
    have hr : regM s = if (c.toNat : Int) = 114 ∧ 48 ≤ (d.toNat : Int) ∧ (d.toNat : Int) ≤ 55 then ((d.toNat : Int) - 48, true) else (0, false) := by unfold regM; rw [e]
    have hd := d.toNat_lt
    by_cases hc1 : (c.toNat : Int) = 114
    · by_cases hd1 : (d.toNat : Int) < 48
      · rw [hr, if_neg (by omega)]
        repeat' ((try (conv => whnf)); first | (refine when_ye ?_ ?_; exact rfl) | (refine when_ne ?_ ?_; exact rfl) | (refine br_te ?_ ?_; exact rfl) | (refine br_fe ?_ ?_; exact rfl) | (apply br_pyE; (exact rfl); omega) | (apply br_pnE; (exact rfl); omega) | (apply when_pyE; (exact rfl); omega) | (apply when_pnE; (exact rfl); omega) | (apply br_npyE; (exact rfl); omega) | (apply br_npnE; (exact rfl); omega) | (apply when_npyE; (exact rfl); omega) | (apply when_npnE; (exact rfl); omega) | (refine ⟨0, c, rfl, h0, ?_⟩) | (refine ⟨1, d, rfl, h1, ?_⟩) | (refine ari ?_ ?_; omega) | (refine aru ?_ ?_; omega) | (apply sel; exact rfl) | (refine ix0 rfl ?_) | (refine ix1 rfl ?_) | (refine ix2 rfl ?_) | (refine ix3 rfl ?_) | (apply ixj; omega) | (refine ixn ?_ ?_; omega) | (refine ixs0 rfl ?_) | (refine ixs1 rfl ?_) | (refine ixs_j ?_ ?_; omega) | (refine ixs_n ?_ ?_; omega) | (apply ld_o; exact rfl) | (apply ldN_a; exact rfl) | (apply ldN_o; (exact rfl); exact rfl) | (apply st_o; (exact rfl); exact rfl) | (apply stN_o; (exact rfl); (exact rfl); exact rfl) | (refine new_i (fun bk hbk => ?_)) | (apply when_dE; (exact rfl); (exact rfl); all_goals intro hc) | (apply when_dF; (exact rfl); (exact rfl); all_goals intro hc) | (apply when_nE; (exact rfl); (exact rfl); all_goals intro hc) | (apply when_nF; (exact rfl); (exact rfl); all_goals intro hc) | (apply br_dE; (exact rfl); all_goals intro hc) | (apply br_nE; (exact rfl); all_goals intro hc) | (refine mm_min ?_) | (refine mm_max ?_) | (refine rem_i ?_ ?_; omega) | (refine SelN.mk ?_) | (refine cut_n ?_) | (refine Both.mk ?_ ?_) | (exact True.intro))
        exact ⟨rfl, (by first | exact ent_i | (repeat (first | exact Ent.refl | exact Ent.left | refine Ent.cons ?_ | refine Ent.app ?_)))⟩
      · by_cases hd2 : (d.toNat : Int) ≤ 55
        · rw [hr, if_pos (by omega)]
          repeat' ((try (conv => whnf)); first | (refine when_ye ?_ ?_; exact rfl) | (refine when_ne ?_ ?_; exact rfl) | (refine br_te ?_ ?_; exact rfl) | (refine br_fe ?_ ?_; exact rfl) | (apply br_pyE; (exact rfl); omega) | (apply br_pnE; (exact rfl); omega) | (apply when_pyE; (exact rfl); omega) | (apply when_pnE; (exact rfl); omega) | (apply br_npyE; (exact rfl); omega) | (apply br_npnE; (exact rfl); omega) | (apply when_npyE; (exact rfl); omega) | (apply when_npnE; (exact rfl); omega) | (refine ⟨0, c, rfl, h0, ?_⟩) | (refine ⟨1, d, rfl, h1, ?_⟩) | (refine ari ?_ ?_; omega) | (refine aru ?_ ?_; omega) | (apply sel; exact rfl) | (refine ix0 rfl ?_) | (refine ix1 rfl ?_) | (refine ix2 rfl ?_) | (refine ix3 rfl ?_) | (apply ixj; omega) | (refine ixn ?_ ?_; omega) | (refine ixs0 rfl ?_) | (refine ixs1 rfl ?_) | (refine ixs_j ?_ ?_; omega) | (refine ixs_n ?_ ?_; omega) | (apply ld_o; exact rfl) | (apply ldN_a; exact rfl) | (apply ldN_o; (exact rfl); exact rfl) | (apply st_o; (exact rfl); exact rfl) | (apply stN_o; (exact rfl); (exact rfl); exact rfl) | (refine new_i (fun bk hbk => ?_)) | (apply when_dE; (exact rfl); (exact rfl); all_goals intro hc) | (apply when_dF; (exact rfl); (exact rfl); all_goals intro hc) | (apply when_nE; (exact rfl); (exact rfl); all_goals intro hc) | (apply when_nF; (exact rfl); (exact rfl); all_goals intro hc) | (apply br_dE; (exact rfl); all_goals intro hc) | (apply br_nE; (exact rfl); all_goals intro hc) | (refine mm_min ?_) | (refine mm_max ?_) | (refine rem_i ?_ ?_; omega) | (refine SelN.mk ?_) | (refine cut_n ?_) | (refine Both.mk ?_ ?_) | (exact True.intro))
          exact ⟨ret2 (vi (by rw [wrap_u8 (by omega) (by omega), wrap_i64 (by omega) (by omega)])) rfl, (by first | exact ent_i | (repeat (first | exact Ent.refl | exact Ent.left | refine Ent.cons ?_ | refine Ent.app ?_)))⟩
        · rw [hr, if_neg (by omega)]
          repeat' ((try (conv => whnf)); first | (refine when_ye ?_ ?_; exact rfl) | (refine when_ne ?_ ?_; exact rfl) | (refine br_te ?_ ?_; exact rfl) | (refine br_fe ?_ ?_; exact rfl) | (apply br_pyE; (exact rfl); omega) | (apply br_pnE; (exact rfl); omega) | (apply when_pyE; (exact rfl); omega) | (apply when_pnE; (exact rfl); omega) | (apply br_npyE; (exact rfl); omega) | (apply br_npnE; (exact rfl); omega) | (apply when_npyE; (exact rfl); omega) | (apply when_npnE; (exact rfl); omega) | (refine ⟨0, c, rfl, h0, ?_⟩) | (refine ⟨1, d, rfl, h1, ?_⟩) | (refine ari ?_ ?_; omega) | (refine aru ?_ ?_; omega) | (apply sel; exact rfl) | (refine ix0 rfl ?_) | (refine ix1 rfl ?_) | (refine ix2 rfl ?_) | (refine ix3 rfl ?_) | (apply ixj; omega) | (refine ixn ?_ ?_; omega) | (refine ixs0 rfl ?_) | (refine ixs1 rfl ?_) | (refine ixs_j ?_ ?_; omega) | (refine ixs_n ?_ ?_; omega) | (apply ld_o; exact rfl) | (apply ldN_a; exact rfl) | (apply ldN_o; (exact rfl); exact rfl) | (apply st_o; (exact rfl); exact rfl) | (apply stN_o; (exact rfl); (exact rfl); exact rfl) | (refine new_i (fun bk hbk => ?_)) | (apply when_dE; (exact rfl); (exact rfl); all_goals intro hc) | (apply when_dF; (exact rfl); (exact rfl); all_goals intro hc) | (apply when_nE; (exact rfl); (exact rfl); all_goals intro hc) | (apply when_nF; (exact rfl); (exact rfl); all_goals intro hc) | (apply br_dE; (exact rfl); all_goals intro hc) | (apply br_nE; (exact rfl); all_goals intro hc) | (refine mm_min ?_) | (refine mm_max ?_) | (refine rem_i ?_ ?_; omega) | (refine SelN.mk ?_) | (refine cut_n ?_) | (refine Both.mk ?_ ?_) | (exact True.intro))
          exact ⟨rfl, (by first | exact ent_i | (repeat (first | exact Ent.refl | exact Ent.left | refine Ent.cons ?_ | refine Ent.app ?_)))⟩
    · rw [hr, if_neg (by omega)]
      repeat' ((try (conv => whnf)); first | (refine when_ye ?_ ?_; exact rfl) | (refine when_ne ?_ ?_; exact rfl) | (refine br_te ?_ ?_; exact rfl) | (refine br_fe ?_ ?_; exact rfl) | (apply br_pyE; (exact rfl); omega) | (apply br_pnE; (exact rfl); omega) | (apply when_pyE; (exact rfl); omega) | (apply when_pnE; (exact rfl); omega) | (apply br_npyE; (exact rfl); omega) | (apply br_npnE; (exact rfl); omega) | (apply when_npyE; (exact rfl); omega) | (apply when_npnE; (exact rfl); omega) | (refine ⟨0, c, rfl, h0, ?_⟩) | (refine ⟨1, d, rfl, h1, ?_⟩) | (refine ari ?_ ?_; omega) | (refine aru ?_ ?_; omega) | (apply sel; exact rfl) | (refine ix0 rfl ?_) | (refine ix1 rfl ?_) | (refine ix2 rfl ?_) | (refine ix3 rfl ?_) | (apply ixj; omega) | (refine ixn ?_ ?_; omega) | (refine ixs0 rfl ?_) | (refine ixs1 rfl ?_) | (refine ixs_j ?_ ?_; omega) | (refine ixs_n ?_ ?_; omega) | (apply ld_o; exact rfl) | (apply ldN_a; exact rfl) | (apply ldN_o; (exact rfl); exact rfl) | (apply st_o; (exact rfl); exact rfl) | (apply stN_o; (exact rfl); (exact rfl); exact rfl) | (refine new_i (fun bk hbk => ?_)) | (apply when_dE; (exact rfl); (exact rfl); all_goals intro hc) | (apply when_dF; (exact rfl); (exact rfl); all_goals intro hc) | (apply when_nE; (exact rfl); (exact rfl); all_goals intro hc) | (apply when_nF; (exact rfl); (exact rfl); all_goals intro hc) | (apply br_dE; (exact rfl); all_goals intro hc) | (apply br_nE; (exact rfl); all_goals intro hc) | (refine mm_min ?_) | (refine mm_max ?_) | (refine rem_i ?_ ?_; omega) | (refine SelN.mk ?_) | (refine cut_n ?_) | (refine Both.mk ?_ ?_) | (exact True.intro))
      exact ⟨rfl, (by first | exact ent_i | (repeat (first | exact Ent.refl | exact Ent.left | refine Ent.cons ?_ | refine Ent.app ?_)))⟩
  · rw [reg_no (by omega)]
    repeat' ((try (conv => whnf)); first | (refine when_ye ?_ ?_; exact rfl) | (refine when_ne ?_ ?_; exact rfl) | (refine br_te ?_ ?_; exact rfl) | (refine br_fe ?_ ?_; exact rfl) | (apply br_pyE; (exact rfl); omega) | (apply br_pnE; (exact rfl); omega) | (apply when_pyE; (exact rfl); omega) | (apply when_pnE; (exact rfl); omega) | (apply br_npyE; (exact rfl); omega) | (apply br_npnE; (exact rfl); omega) | (apply when_npyE; (exact rfl); omega) | (apply when_npnE; (exact rfl); omega) | (refine ari ?_ ?_; omega) | (refine aru ?_ ?_; omega) | (apply sel; exact rfl) | (refine ix0 rfl ?_) | (refine ix1 rfl ?_) | (refine ix2 rfl ?_) | (refine ix3 rfl ?_) | (apply ixj; omega) | (refine ixn ?_ ?_; omega) | (refine ixs0 rfl ?_) | (refine ixs1 rfl ?_) | (refine ixs_j ?_ ?_; omega) | (refine ixs_n ?_ ?_; omega) | (apply ld_o; exact rfl) | (apply ldN_a; exact rfl) | (apply ldN_o; (exact rfl); exact rfl) | (apply st_o; (exact rfl); exact rfl) | (apply stN_o; (exact rfl); (exact rfl); exact rfl) | (refine new_i (fun bk hbk => ?_)) | (apply when_dE; (exact rfl); (exact rfl); all_goals intro hc) | (apply when_dF; (exact rfl); (exact rfl); all_goals intro hc) | (apply when_nE; (exact rfl); (exact rfl); all_goals intro hc) | (apply when_nF; (exact rfl); (exact rfl); all_goals intro hc) | (apply br_dE; (exact rfl); all_goals intro hc) | (apply br_nE; (exact rfl); all_goals intro hc) | (refine mm_min ?_) | (refine mm_max ?_) | (refine rem_i ?_ ?_; omega) | (refine SelN.mk ?_) | (refine cut_n ?_) | (refine Both.mk ?_ ?_) | (exact True.intro))
    exact ⟨rfl, (by first | exact ent_i | (repeat (first | exact Ent.refl | exact Ent.left | refine Ent.cons ?_ | refine Ent.app ?_)))⟩
end
end Go.Proofs.YtiimndcifcoofaaGreatDoor
namespace Go.Proofs.YtiimndcifcoofaaGreatDoor
open Go Go.RowKit
set_option maxRecDepth 10000
set_option maxHeartbeats 4000000
def pintOk (s : ByteArray) : Bool := match Go.Lib.parseIntB 64 s.data.toList with
  | .ok _ => true
  | _ => false
def decM (s : ByteArray) : Int × Bool := if Go.Lib.hasPrefix s.data.toList [43] = true then (0, false) else (pintV s, pintOk s)
section
variable {W0 : World} {own : Own}
theorem sp_decimal (hL : LibAt W0) (s : ByteArray) (hs : s.size ≤ 281474976710656) : Pure Tryz.prog W0 109 [.string s] own (.tuple #[.int .i64 (decM s).1, .bool (decM s).2]) := by
  refine pure_of (spec_of mixed low_isa_decimal (by simp [ir_isa_decimal]) ?_)
  unfold decM
  by_cases hx : Go.Lib.hasPrefix s.data.toList [43] = true
  · rw [if_pos hx]
    repeat' ((try (conv => whnf)); first | (refine when_ye ?_ ?_; exact rfl) | (refine when_ne ?_ ?_; exact rfl) | (refine br_te ?_ ?_; exact rfl) | (refine br_fe ?_ ?_; exact rfl) | (apply br_pyE; (exact rfl); omega) | (apply br_pnE; (exact rfl); omega) | (apply when_pyE; (exact rfl); omega) | (apply when_pnE; (exact rfl); omega) | (apply br_npyE; (exact rfl); omega) | (apply br_npnE; (exact rfl); omega) | (apply when_npyE; (exact rfl); omega) | (apply when_npnE; (exact rfl); omega) | ((with_reducible show CallT _ _ _ _ _ _); first | ((refine call_pe (sp_prefix s ⟨#[43]⟩ true hx) ?_ ?_ ?_; (exact rfl); exact rfl))) | (refine ari ?_ ?_; omega) | (refine aru ?_ ?_; omega) | (apply sel; exact rfl) | (refine ix0 rfl ?_) | (refine ix1 rfl ?_) | (refine ix2 rfl ?_) | (refine ix3 rfl ?_) | (apply ixj; omega) | (refine ixn ?_ ?_; omega) | (refine ixs0 rfl ?_) | (refine ixs1 rfl ?_) | (refine ixs_j ?_ ?_; omega) | (refine ixs_n ?_ ?_; omega) | (apply ld_o; exact rfl) | (apply ldN_a; exact rfl) | (apply ldN_o; (exact rfl); exact rfl) | (apply st_o; (exact rfl); exact rfl) | (apply stN_o; (exact rfl); (exact rfl); exact rfl) | (refine new_i (fun bk hbk => ?_)) | (apply when_dE; (exact rfl); (exact rfl); all_goals intro hc) | (apply when_dF; (exact rfl); (exact rfl); all_goals intro hc) | (apply when_nE; (exact rfl); (exact rfl); all_goals intro hc) | (apply when_nF; (exact rfl); (exact rfl); all_goals intro hc) | (apply br_dE; (exact rfl); all_goals intro hc) | (apply br_nE; (exact rfl); all_goals intro hc) | (refine mm_min ?_) | (refine mm_max ?_) | (refine rem_i ?_ ?_; omega) | (refine SelN.mk ?_) | (refine cut_n ?_) | (refine Both.mk ?_ ?_) | (exact True.intro))
    exact ⟨rfl, (by first | exact ent_i | (repeat (first | exact Ent.refl | exact Ent.left | refine Ent.cons ?_ | refine Ent.app ?_)))⟩
  · rw [if_neg hx]
    have hx' : Go.Lib.hasPrefix s.data.toList (⟨#[43]⟩ : ByteArray).data.toList = false := by simpa using hx
    by_cases hp : ∃ v, Go.Lib.parseIntB 64 s.data.toList = .ok v
    · obtain ⟨v, hp⟩ := hp
      have e1 : pintV s = v := by unfold pintV; rw [hp]
      have e2 : pintOk s = true := by unfold pintOk; rw [hp]
      rw [e1, e2]
      repeat' ((try (conv => whnf)); first | (refine when_ye ?_ ?_; exact rfl) | (refine when_ne ?_ ?_; exact rfl) | (refine br_te ?_ ?_; exact rfl) | (refine br_fe ?_ ?_; exact rfl) | (apply br_pyE; (exact rfl); omega) | (apply br_pnE; (exact rfl); omega) | (apply when_pyE; (exact rfl); omega) | (apply when_pnE; (exact rfl); omega) | (apply br_npyE; (exact rfl); omega) | (apply br_npnE; (exact rfl); omega) | (apply when_npyE; (exact rfl); omega) | (apply when_npnE; (exact rfl); omega) | ((with_reducible show CallT _ _ _ _ _ _); first | ((refine call_pe (sp_prefix s ⟨#[43]⟩ false hx') ?_ ?_ ?_; (exact rfl); exact rfl)) | ((refine call_pe (sp_pint_ok s hs hp) ?_ ?_ ?_; (exact rfl); exact rfl))) | (refine ari ?_ ?_; omega) | (refine aru ?_ ?_; omega) | (apply sel; exact rfl) | (refine ix0 rfl ?_) | (refine ix1 rfl ?_) | (refine ix2 rfl ?_) | (refine ix3 rfl ?_) | (apply ixj; omega) | (refine ixn ?_ ?_; omega) | (refine ixs0 rfl ?_) | (refine ixs1 rfl ?_) | (refine ixs_j ?_ ?_; omega) | (refine ixs_n ?_ ?_; omega) | (apply ld_o; exact rfl) | (apply ldN_a; exact rfl) | (apply ldN_o; (exact rfl); exact rfl) | (apply st_o; (exact rfl); exact rfl) | (apply stN_o; (exact rfl); (exact rfl); exact rfl) | (refine new_i (fun bk hbk => ?_)) | (apply when_dE; (exact rfl); (exact rfl); all_goals intro hc) | (apply when_dF; (exact rfl); (exact rfl); all_goals intro hc) | (apply when_nE; (exact rfl); (exact rfl); all_goals intro hc) | (apply when_nF; (exact rfl); (exact rfl); all_goals intro hc) | (apply br_dE; (exact rfl); all_goals intro hc) | (apply br_nE; (exact rfl); all_goals intro hc) | (refine mm_min ?_) | (refine mm_max ?_) | (refine rem_i ?_ ?_; omega) | (refine SelN.mk ?_) | (refine cut_n ?_) | (refine Both.mk ?_ ?_) | (exact True.intro))
      exact ⟨rfl, (by first | exact ent_i | (repeat (first | exact Ent.refl | exact Ent.left | refine Ent.cons ?_ | refine Ent.app ?_)))⟩
    · have e2 : pintOk s = false := by
        unfold pintOk
        split
        · rename_i v hv; exact absurd ⟨v, hv⟩ hp
        · rfl
      rw [e2]
      repeat' ((try (conv => whnf)); first | (refine when_ye ?_ ?_; exact rfl) | (refine when_ne ?_ ?_; exact rfl) | (refine br_te ?_ ?_; exact rfl) | (refine br_fe ?_ ?_; exact rfl) | (apply br_pyE; (exact rfl); omega) | (apply br_pnE; (exact rfl); omega) | (apply when_pyE; (exact rfl); omega) | (apply when_pnE; (exact rfl); omega) | (apply br_npyE; (exact rfl); omega) | (apply br_npnE; (exact rfl); omega) | (apply when_npyE; (exact rfl); omega) | (apply when_npnE; (exact rfl); omega) | ((with_reducible show CallT _ _ _ _ _ _); first | ((refine call_pe (sp_prefix s ⟨#[43]⟩ false hx') ?_ ?_ ?_; (exact rfl); exact rfl)) | ((refine call_x (sp_pint_err hL s hs (fun v hv => hp ⟨v, hv⟩)) ?_ ?_ (fun x v hv => ?_); (exact rfl); (exact rfl); subst hv))) | (refine ari ?_ ?_; omega) | (refine aru ?_ ?_; omega) | (apply sel; exact rfl) | (refine ix0 rfl ?_) | (refine ix1 rfl ?_) | (refine ix2 rfl ?_) | (refine ix3 rfl ?_) | (apply ixj; omega) | (refine ixn ?_ ?_; omega) | (refine ixs0 rfl ?_) | (refine ixs1 rfl ?_) | (refine ixs_j ?_ ?_; omega) | (refine ixs_n ?_ ?_; omega) | (apply ld_o; exact rfl) | (apply ldN_a; exact rfl) | (apply ldN_o; (exact rfl); exact rfl) | (apply st_o; (exact rfl); exact rfl) | (apply stN_o; (exact rfl); (exact rfl); exact rfl) | (refine new_i (fun bk hbk => ?_)) | (apply when_dE; (exact rfl); (exact rfl); all_goals intro hc) | (apply when_dF; (exact rfl); (exact rfl); all_goals intro hc) | (apply when_nE; (exact rfl); (exact rfl); all_goals intro hc) | (apply when_nF; (exact rfl); (exact rfl); all_goals intro hc) | (apply br_dE; (exact rfl); all_goals intro hc) | (apply br_nE; (exact rfl); all_goals intro hc) | (refine mm_min ?_) | (refine mm_max ?_) | (refine rem_i ?_ ?_; omega) | (refine SelN.mk ?_) | (refine cut_n ?_) | (refine Both.mk ?_ ?_) | (exact True.intro))
      exact ⟨rfl, (by first | exact ent_i | (repeat (first | exact Ent.refl | exact Ent.left | refine Ent.cons ?_ | refine Ent.app ?_)))⟩
end
end Go.Proofs.YtiimndcifcoofaaGreatDoor
namespace Go.Proofs.YtiimndcifcoofaaGreatDoor
open Go Go.RowKit
set_option maxRecDepth 10000
set_option maxHeartbeats 4000000
def nm18 : List ByteArray := [⟨#[110, 111, 112]⟩, ⟨#[99, 111, 110, 115, 116]⟩, ⟨#[109, 111, 118, 101]⟩, ⟨#[]⟩, ⟨#[106, 117, 109, 112]⟩, ⟨#[122, 101, 114, 111]⟩, ⟨#[110, 111, 110, 122, 101, 114, 111]⟩, ⟨#[98, 101, 103, 105, 110]⟩, ⟨#[99, 111, 109, 109, 105, 116]⟩, ⟨#[97, 98, 111, 114, 116]⟩, ⟨#[116, 114, 101, 97, 100]⟩, ⟨#[116, 119, 114, 105, 116, 101]⟩, ⟨#[112, 114, 101, 97, 100]⟩, ⟨#[112, 119, 114, 105, 116, 101]⟩, ⟨#[97, 108, 108, 111, 99]⟩, ⟨#[102, 114, 101, 101]⟩, ⟨#[102, 101, 110, 99, 101]⟩, ⟨#[111, 117, 116, 99, 111, 109, 101]⟩]
def op18 : List ByteArray := [⟨#[]⟩, ⟨#[65, 73]⟩, ⟨#[65, 66]⟩, ⟨#[65, 66, 67]⟩, ⟨#[73]⟩, ⟨#[65, 73]⟩, ⟨#[65, 73]⟩, ⟨#[73]⟩, ⟨#[]⟩, ⟨#[]⟩, ⟨#[65, 66, 73]⟩, ⟨#[65, 66, 73]⟩, ⟨#[65, 66, 73]⟩, ⟨#[65, 66, 73]⟩, ⟨#[65, 73]⟩, ⟨#[65]⟩, ⟨#[]⟩, ⟨#[65]⟩]
def nmAt (k : Nat) : ByteArray := nm18.getD k ⟨#[]⟩
def opAt (k : Nat) : ByteArray := op18.getD k ⟨#[]⟩
theorem cases18 {k : Nat} (h : k < 18) : k = 0 ∨ k = 1 ∨ k = 2 ∨ k = 3 ∨ k = 4 ∨ k = 5 ∨ k = 6 ∨ k = 7 ∨ k = 8 ∨ k = 9 ∨ k = 10 ∨ k = 11 ∨ k = 12 ∨ k = 13 ∨ k = 14 ∨ k = 15 ∨ k = 16 ∨ k = 17 := by omega
theorem forms_at {k : Nat} (h : k < 18) : (formsV.drop (k * 2)).take 2 = [.string (nmAt k), .string (opAt k)] := by
  rcases cases18 h with rfl | rfl | rfl | rfl | rfl | rfl | rfl | rfl | rfl | rfl | rfl | rfl | rfl | rfl | rfl | rfl | rfl | rfl <;> rfl
theorem forms_op {k : Nat} (h : k < 18) : formsV[k * 2 + 1]? = some (.string (opAt k)) := by
  rcases cases18 h with rfl | rfl | rfl | rfl | rfl | rfl | rfl | rfl | rfl | rfl | rfl | rfl | rfl | rfl | rfl | rfl | rfl | rfl <;> rfl
def opG (s : ByteArray) : Nat → Nat → Int
  | 0, _ => -1
  | n + 1, k => if (nmAt k).toList = s.toList ∧ k ≠ 3 then k else opG s n (k + 1)
def opM (s : ByteArray) : Int := opG s 18 0
def opL (s : ByteArray) : Nat → Int
  | 0 => -1
  | k + 1 => if (nmAt k).toList = s.toList ∧ k ≠ 3 then k else opL s k
theorem nm_inj : ∀ i, i < 18 → ∀ j, j < 18 → (nmAt i).toList = (nmAt j).toList → i = j := by decide +kernel
theorem nm_alu : ∀ i, i < 18 → ∀ j, j < 22 → i ≠ 3 → (nameAt j).toList ≠ (nmAt i).toList := by decide +kernel
theorem opG_none {s : ByteArray} : ∀ n k, (∀ j, k ≤ j → j < k + n → ¬ ((nmAt j).toList = s.toList ∧ j ≠ 3)) → opG s n k = -1
  | 0, _, _ => rfl
  | n + 1, k, h => by
    rw [opG, if_neg (h k (Nat.le_refl _) (by omega))]
    exact opG_none n (k + 1) fun j h1 h2 => h j (by omega) (by omega)
theorem opG_some {s : ByteArray} {i : Nat} (hi : i < 18) (hs : (nmAt i).toList = s.toList) (h3 : i ≠ 3) : ∀ n k, k ≤ i → i < k + n → k + n ≤ 18 → opG s n k = i
  | 0, k, h1, h2, _ => by omega
  | n + 1, k, h1, h2, h18 => by
    rw [opG]
    by_cases hk : (nmAt k).toList = s.toList ∧ k ≠ 3
    · rw [if_pos hk]
      have := nm_inj k (by omega) i hi (hk.1.trans hs.symm)
      rw [this]
    · rw [if_neg hk]
      have : k ≠ i := fun e => hk (by subst e; exact ⟨hs, h3⟩)
      exact opG_some hi hs h3 n (k + 1) (by omega) (by omega) (by omega)
theorem opL_none {s : ByteArray} : ∀ k, (∀ j, j < k → ¬ ((nmAt j).toList = s.toList ∧ j ≠ 3)) → opL s k = -1
  | 0, _ => rfl
  | k + 1, h => by
    rw [opL, if_neg (h k (by omega))]
    exact opL_none k fun j hj => h j (by omega)
theorem opL_some {s : ByteArray} {i : Nat} (hi : i < 18) (hs : (nmAt i).toList = s.toList) (h3 : i ≠ 3) : ∀ k, i < k → k ≤ 18 → opL s k = i
  | k + 1, h1, h2 => by
    rw [opL]
    by_cases hk : (nmAt k).toList = s.toList ∧ k ≠ 3
    · rw [if_pos hk]
      have := nm_inj k (by omega) i hi (hk.1.trans hs.symm)
      rw [this]
    · rw [if_neg hk]
      have : k ≠ i := fun e => hk (by subst e; exact ⟨hs, h3⟩)
      exact opL_some hi hs h3 k (by omega) (by omega)
theorem num_none {s : ByteArray} : ∀ n k, (∀ j, k ≤ j → j < k + n → (nameAt j).toList ≠ s.toList) → numG s n k = (0, false)
  | 0, _, _ => rfl
  | n + 1, k, h => by
    rw [numG, if_neg (h k (Nat.le_refl _) (by omega))]
    exact num_none n (k + 1) fun j h1 h2 => h j (by omega) (by omega)
theorem op_cases (s : ByteArray) : (opM s = -1 ∧ opL s 18 = -1) ∨ (∃ i : Nat, i < 18 ∧ i ≠ 3 ∧ opM s = i ∧ opL s 18 = i ∧ (numM s).2 = false) := by
  by_cases h : ∃ i, i < 18 ∧ (nmAt i).toList = s.toList ∧ i ≠ 3
  · obtain ⟨i, hi, hs, h3⟩ := h
    refine .inr ⟨i, hi, h3, opG_some hi hs h3 18 0 (by omega) (by omega) (by omega), opL_some hi hs h3 18 hi (by omega), ?_⟩
    have : numM s = (0, false) := num_none 22 0 fun j _ hj e => nm_alu i hi j (by omega) h3 (e.trans hs.symm)
    rw [this]
  · exact .inl ⟨opG_none 18 0 fun j _ hj hh => h ⟨j, by omega, hh⟩, opL_none 18 fun j hj hh => h ⟨j, hj, hh⟩⟩
section
variable {W0 : World} {own : Own}
theorem sp_rnm (op : Int) (h : 0 ≤ op ∧ op < 18) : Pure Tryz.prog W0 39 [.int .i64 op] own (.string (nmAt op.toNat)) := by
  refine pure_of (spec_of mixed low_ref03_name (by simp [ir_ref03_name]) ?_)
  have hl : nm18.length = 18 := rfl
  have hk : (nm18.map Value.string)[0 + op.toNat * 1]? = some (.string (nmAt op.toNat)) := by
    have e : 0 + op.toNat * 1 = op.toNat := by omega
    rw [e]
    have : op.toNat < 18 := by omega
    simp [nmAt, hl, this]
  repeat' ((try (conv => whnf)); first | (refine when_y ?_) | (refine when_ft ?_) | (refine when_tf ?_) | (refine br_t ?_) | (refine br_f ?_) | (refine br_py (by omega) ?_) | (refine br_pn (by omega) ?_) | (refine when_py (by omega) ?_) | (refine when_pn (by omega) ?_) | (refine br_npy (by omega) ?_) | (refine br_npn (by omega) ?_) | (refine when_npy (by omega) ?_) | (refine when_npn (by omega) ?_) | (refine ld_own _ (List.Mem.head _) hk ?_) | (refine when_y ?_) | (refine when_ft ?_) | (refine when_tf ?_) | (refine br_t ?_) | (refine br_f ?_) | (refine ari ?_ ?_; omega) | (refine aru ?_ ?_; omega) | (apply sel; exact rfl) | (refine ix0 rfl ?_) | (refine ix1 rfl ?_) | (refine ix2 rfl ?_) | (refine ix3 rfl ?_) | (refine ix4 rfl ?_) | (apply ixj; omega) | (refine ixn ?_ ?_; omega) | (refine ixs0 rfl ?_) | (refine ixs1 rfl ?_) | (refine ixs2 rfl ?_) | (refine ixs_j ?_ ?_; omega) | (refine ixs_n ?_ ?_; omega) | (apply ld_own; (first | (solve | repeat (first | with_reducible exact List.mem_cons_self | (with_reducible (apply List.mem_append_left; exact List.mem_cons_self)) | with_reducible apply List.mem_cons_of_mem | with_reducible apply List.mem_append_right)) | (repeat (first | exact List.Mem.head _ | apply List.Mem.tail | apply List.mem_append_right))); exact rfl) | (apply ldN_all; (first | (solve | repeat (first | with_reducible exact List.mem_cons_self | (with_reducible (apply List.mem_append_left; exact List.mem_cons_self)) | with_reducible apply List.mem_cons_of_mem | with_reducible apply List.mem_append_right)) | (repeat (first | exact List.Mem.head _ | apply List.Mem.tail | apply List.mem_append_right))); exact rfl) | (apply ldN_own; (first | (solve | repeat (first | with_reducible exact List.mem_cons_self | (with_reducible (apply List.mem_append_left; exact List.mem_cons_self)) | with_reducible apply List.mem_cons_of_mem | with_reducible apply List.mem_append_right)) | (repeat (first | exact List.Mem.head _ | apply List.Mem.tail | apply List.mem_append_right))); exact rfl; exact rfl) | (apply st_own; (first | (solve | repeat (first | with_reducible exact Up.head | with_reducible apply Up.tail | with_reducible apply Up.app)) | (repeat (first | exact Up.head | apply Up.tail | apply Up.app))); (solve | ((try (conv => arg 2; whnf)); repeat' (first | exact Lis.nil | apply Lis.cons | apply SetAt.here | apply SetAt.there | apply PutAt.done | apply PutAt.put | apply PutAt.skip))); exact rfl) | (apply stN_own; (first | (solve | repeat (first | with_reducible exact Up.head | with_reducible apply Up.tail | with_reducible apply Up.app)) | (repeat (first | exact Up.head | apply Up.tail | apply Up.app))); (solve | ((try (conv => arg 2; whnf)); repeat' (first | exact Lis.nil | apply Lis.cons | apply SetAt.here | apply SetAt.there | apply PutAt.done | apply PutAt.put | apply PutAt.skip))); exact rfl) | (refine new_i (fun bk hbk => ?_)) | (refine when_dt (fun hc => ?_) (fun hc => ?_)) | (refine when_df (fun hc => ?_) (fun hc => ?_)) | (refine when_ndt (fun hc => ?_) (fun hc => ?_)) | (refine when_ndf (fun hc => ?_) (fun hc => ?_)) | (refine br_d (fun hc => ?_) (fun hc => ?_)) | (refine br_nd (fun hc => ?_) (fun hc => ?_)) | (refine shl0 ?_ ?_; omega) | (refine shl1 ?_ ?_; omega) | (refine shl2 ?_ ?_; omega) | (refine shl3 ?_ ?_; omega) | (refine mm_min ?_) | (refine mm_max ?_) | (refine quo_i ?_ ?_; omega) | (refine rem_i ?_ ?_; omega) | (refine stN_and rfl ?_) | (refine SelN.mk ?_) | (refine cut_n ?_) | (refine Both.mk ?_ ?_) | (exact True.intro) | (exact Ent.refl) | (refine Ent.cons ?_) | (fail))
  all_goals exact ⟨rfl, by (repeat (first | exact Ent.refl | exact Ent.left | refine Ent.cons ?_ | refine Ent.app ?_))⟩
end
end Go.Proofs.YtiimndcifcoofaaGreatDoor
namespace Go.Proofs.YtiimndcifcoofaaGreatDoor
open Go Go.RowKit
set_option maxRecDepth 10000
set_option maxHeartbeats 4000000
def stI (s : ByteArray) : Ins := if 0 ≤ opM s then ⟨opM s, 0, 0, 0, 0⟩ else ⟨3, 0, 0, 0, (numM s).1⟩
def stB (s : ByteArray) : Bool := if 0 ≤ opM s then true else (numM s).2
theorem sel_f {k : Nat} {K : Value → Prop} (hk : k < 18) (h : K (.agg #[.string (nmAt k), .string (opAt k)])) : SelN formsV (k * 2) 2 K := ⟨by rw [forms_at hk]; exact h⟩
section
variable {W0 : World} {own : Own}
theorem sp_operation (hF : FormsAt W0) (hN : NamesAt W0) (s : ByteArray) : Pure Tryz.prog W0 74 [.string s] own (.tuple #[(stI s).v, .bool (stB s)]) := by
  refine pure_of (spec_of mixed low_isa_operation (by simp [ir_isa_operation]) ?_)
  repeat' ((try (conv => whnf)); first | (refine when_ye ?_ ?_; exact rfl) | (refine when_ne ?_ ?_; exact rfl) | (refine br_te ?_ ?_; exact rfl) | (refine br_fe ?_ ?_; exact rfl) | (apply br_pyE; (exact rfl); omega) | (apply br_pnE; (exact rfl); omega) | (apply when_pyE; (exact rfl); omega) | (apply when_pnE; (exact rfl); omega) | (apply br_npyE; (exact rfl); omega) | (apply br_npnE; (exact rfl); omega) | (apply when_npyE; (exact rfl); omega) | (apply when_npnE; (exact rfl); omega) | (refine ldN_laid hF formsV rfl rfl ?_) | (refine ari ?_ ?_; omega) | (refine aru ?_ ?_; omega) | (apply sel; exact rfl) | (refine ix0 rfl ?_) | (refine ix1 rfl ?_) | (refine ix2 rfl ?_) | (refine ix3 rfl ?_) | (apply ixj; omega) | (refine ixn ?_ ?_; omega) | (refine ixs0 rfl ?_) | (refine ixs1 rfl ?_) | (refine ixs_j ?_ ?_; omega) | (refine ixs_n ?_ ?_; omega) | (apply ld_o; exact rfl) | (apply ldN_a; exact rfl) | (apply ldN_o; (exact rfl); exact rfl) | (apply st_o; (exact rfl); exact rfl) | (apply stN_o; (exact rfl); (exact rfl); exact rfl) | (refine new_i (fun bk hbk => ?_)) | (apply when_dE; (exact rfl); (exact rfl); all_goals intro hc) | (apply when_dF; (exact rfl); (exact rfl); all_goals intro hc) | (apply when_nE; (exact rfl); (exact rfl); all_goals intro hc) | (apply when_nF; (exact rfl); (exact rfl); all_goals intro hc) | (apply br_dE; (exact rfl); all_goals intro hc) | (apply br_nE; (exact rfl); all_goals intro hc) | (refine mm_min ?_) | (refine mm_max ?_) | (refine rem_i ?_ ?_; omega) | (refine SelN.mk ?_) | (refine cut_n ?_) | (refine Both.mk ?_ ?_) | (exact True.intro))
  refine loop_c (σ := Nat) (fun k => [(9, .int .i64 k)]) (fun k => k ≤ 18 ∧ opG s (18 - k) k = opM s) (fun k => 18 - k) 0 ⟨by omega, rfl⟩ (by repeat' (first | exact True.intro | refine And.intro ?_ ?_ | exact rfl | exact vi (by omega) | (dsimp only; exact rfl) | (dsimp only; exact vi (by omega)))) rfl ?_
  rintro k junk ⟨hk, hI⟩
  by_cases hlt : k < 18
  · have hlt' : (k : Int) < 18 := by omega
    obtain ⟨m, hm⟩ : ∃ m, 18 - k = m + 1 := ⟨17 - k, by omega⟩
    have hm' : m = 18 - (k + 1) := by omega
    rw [hm, opG] at hI
    by_cases hq : (nmAt k).toList = s.toList
    · by_cases h3 : (k : Int) = 3
      · rw [if_neg (fun h => h.2 (by omega)), hm'] at hI
        repeat' ((try (conv => whnf)); first | (refine when_ye ?_ ?_; exact rfl) | (refine when_ne ?_ ?_; exact rfl) | (refine br_te ?_ ?_; exact rfl) | (refine br_fe ?_ ?_; exact rfl) | (apply br_pyE; (exact rfl); omega) | (apply br_pnE; (exact rfl); omega) | (apply when_pyE; (exact rfl); omega) | (apply when_pnE; (exact rfl); omega) | (apply br_npyE; (exact rfl); omega) | (apply br_npnE; (exact rfl); omega) | (apply when_npyE; (exact rfl); omega) | (apply when_npnE; (exact rfl); omega) | (refine br_pyE ?_ hq ?_; exact rfl) | (refine br_pnE ?_ hq ?_; exact rfl) | (refine when_pyE ?_ hq ?_; exact rfl) | (refine when_pnE ?_ hq ?_; exact rfl) | (refine br_npyE ?_ hq ?_; exact rfl) | (refine br_npnE ?_ hq ?_; exact rfl) | (refine when_npyE ?_ hq ?_; exact rfl) | (refine when_npnE ?_ hq ?_; exact rfl) | (refine sel_f hlt ?_) | (refine ari ?_ ?_; omega) | (refine aru ?_ ?_; omega) | (apply sel; exact rfl) | (refine ix0 rfl ?_) | (refine ix1 rfl ?_) | (refine ix2 rfl ?_) | (refine ix3 rfl ?_) | (apply ixj; omega) | (refine ixn ?_ ?_; omega) | (refine ixs0 rfl ?_) | (refine ixs1 rfl ?_) | (refine ixs_j ?_ ?_; omega) | (refine ixs_n ?_ ?_; omega) | (apply ld_o; exact rfl) | (apply ldN_a; exact rfl) | (apply ldN_o; (exact rfl); exact rfl) | (apply st_o; (exact rfl); exact rfl) | (apply stN_o; (exact rfl); (exact rfl); exact rfl) | (refine new_i (fun bk hbk => ?_)) | (apply when_dE; (exact rfl); (exact rfl); all_goals intro hc) | (apply when_dF; (exact rfl); (exact rfl); all_goals intro hc) | (apply when_nE; (exact rfl); (exact rfl); all_goals intro hc) | (apply when_nF; (exact rfl); (exact rfl); all_goals intro hc) | (apply br_dE; (exact rfl); all_goals intro hc) | (apply br_nE; (exact rfl); all_goals intro hc) | (refine mm_min ?_) | (refine mm_max ?_) | (refine rem_i ?_ ?_; omega) | (refine SelN.mk ?_) | (refine cut_n ?_) | (refine Both.mk ?_ ?_) | (exact True.intro))
        exact ⟨k + 1, ⟨by omega, hI⟩, by omega, (by repeat' (first | exact True.intro | refine And.intro ?_ ?_ | exact rfl | exact vi (by omega) | (dsimp only; exact rfl) | (dsimp only; exact vi (by omega)))), (by first | exact ent_i | (repeat (first | exact Ent.refl | exact Ent.left | refine Ent.cons ?_ | refine Ent.app ?_)))⟩
      · rw [if_pos ⟨hq, by omega⟩] at hI
        have e1 : stI s = ⟨k, 0, 0, 0, 0⟩ := by unfold stI; rw [← hI, if_pos (by omega)]
        have e2 : stB s = true := by unfold stB; rw [← hI, if_pos (by omega)]
        rw [e1, e2]
        repeat' ((try (conv => whnf)); first | (refine when_ye ?_ ?_; exact rfl) | (refine when_ne ?_ ?_; exact rfl) | (refine br_te ?_ ?_; exact rfl) | (refine br_fe ?_ ?_; exact rfl) | (apply br_pyE; (exact rfl); omega) | (apply br_pnE; (exact rfl); omega) | (apply when_pyE; (exact rfl); omega) | (apply when_pnE; (exact rfl); omega) | (apply br_npyE; (exact rfl); omega) | (apply br_npnE; (exact rfl); omega) | (apply when_npyE; (exact rfl); omega) | (apply when_npnE; (exact rfl); omega) | (refine br_pyE ?_ hq ?_; exact rfl) | (refine br_pnE ?_ hq ?_; exact rfl) | (refine when_pyE ?_ hq ?_; exact rfl) | (refine when_pnE ?_ hq ?_; exact rfl) | (refine br_npyE ?_ hq ?_; exact rfl) | (refine br_npnE ?_ hq ?_; exact rfl) | (refine when_npyE ?_ hq ?_; exact rfl) | (refine when_npnE ?_ hq ?_; exact rfl) | (refine sel_f hlt ?_) | (refine ari ?_ ?_; omega) | (refine aru ?_ ?_; omega) | (apply sel; exact rfl) | (refine ix0 rfl ?_) | (refine ix1 rfl ?_) | (refine ix2 rfl ?_) | (refine ix3 rfl ?_) | (apply ixj; omega) | (refine ixn ?_ ?_; omega) | (refine ixs0 rfl ?_) | (refine ixs1 rfl ?_) | (refine ixs_j ?_ ?_; omega) | (refine ixs_n ?_ ?_; omega) | (apply ld_o; exact rfl) | (apply ldN_a; exact rfl) | (apply ldN_o; (exact rfl); exact rfl) | (apply st_o; (exact rfl); exact rfl) | (apply stN_o; (exact rfl); (exact rfl); exact rfl) | (refine new_i (fun bk hbk => ?_)) | (apply when_dE; (exact rfl); (exact rfl); all_goals intro hc) | (apply when_dF; (exact rfl); (exact rfl); all_goals intro hc) | (apply when_nE; (exact rfl); (exact rfl); all_goals intro hc) | (apply when_nF; (exact rfl); (exact rfl); all_goals intro hc) | (apply br_dE; (exact rfl); all_goals intro hc) | (apply br_nE; (exact rfl); all_goals intro hc) | (refine mm_min ?_) | (refine mm_max ?_) | (refine rem_i ?_ ?_; omega) | (refine SelN.mk ?_) | (refine cut_n ?_) | (refine Both.mk ?_ ?_) | (exact True.intro))
        exact ⟨rfl, (by first | exact ent_i | (repeat (first | exact Ent.refl | exact Ent.left | refine Ent.cons ?_ | refine Ent.app ?_)))⟩
    · rw [if_neg (fun h => hq h.1), hm'] at hI
      repeat' ((try (conv => whnf)); first | (refine when_ye ?_ ?_; exact rfl) | (refine when_ne ?_ ?_; exact rfl) | (refine br_te ?_ ?_; exact rfl) | (refine br_fe ?_ ?_; exact rfl) | (apply br_pyE; (exact rfl); omega) | (apply br_pnE; (exact rfl); omega) | (apply when_pyE; (exact rfl); omega) | (apply when_pnE; (exact rfl); omega) | (apply br_npyE; (exact rfl); omega) | (apply br_npnE; (exact rfl); omega) | (apply when_npyE; (exact rfl); omega) | (apply when_npnE; (exact rfl); omega) | (refine br_pyE ?_ hq ?_; exact rfl) | (refine br_pnE ?_ hq ?_; exact rfl) | (refine when_pyE ?_ hq ?_; exact rfl) | (refine when_pnE ?_ hq ?_; exact rfl) | (refine br_npyE ?_ hq ?_; exact rfl) | (refine br_npnE ?_ hq ?_; exact rfl) | (refine when_npyE ?_ hq ?_; exact rfl) | (refine when_npnE ?_ hq ?_; exact rfl) | (refine sel_f hlt ?_) | (refine ari ?_ ?_; omega) | (refine aru ?_ ?_; omega) | (apply sel; exact rfl) | (refine ix0 rfl ?_) | (refine ix1 rfl ?_) | (refine ix2 rfl ?_) | (refine ix3 rfl ?_) | (apply ixj; omega) | (refine ixn ?_ ?_; omega) | (refine ixs0 rfl ?_) | (refine ixs1 rfl ?_) | (refine ixs_j ?_ ?_; omega) | (refine ixs_n ?_ ?_; omega) | (apply ld_o; exact rfl) | (apply ldN_a; exact rfl) | (apply ldN_o; (exact rfl); exact rfl) | (apply st_o; (exact rfl); exact rfl) | (apply stN_o; (exact rfl); (exact rfl); exact rfl) | (refine new_i (fun bk hbk => ?_)) | (apply when_dE; (exact rfl); (exact rfl); all_goals intro hc) | (apply when_dF; (exact rfl); (exact rfl); all_goals intro hc) | (apply when_nE; (exact rfl); (exact rfl); all_goals intro hc) | (apply when_nF; (exact rfl); (exact rfl); all_goals intro hc) | (apply br_dE; (exact rfl); all_goals intro hc) | (apply br_nE; (exact rfl); all_goals intro hc) | (refine mm_min ?_) | (refine mm_max ?_) | (refine rem_i ?_ ?_; omega) | (refine SelN.mk ?_) | (refine cut_n ?_) | (refine Both.mk ?_ ?_) | (exact True.intro))
      exact ⟨k + 1, ⟨by omega, hI⟩, by omega, (by repeat' (first | exact True.intro | refine And.intro ?_ ?_ | exact rfl | exact vi (by omega) | (dsimp only; exact rfl) | (dsimp only; exact vi (by omega)))), (by first | exact ent_i | (repeat (first | exact Ent.refl | exact Ent.left | refine Ent.cons ?_ | refine Ent.app ?_)))⟩
  · have hk18 : k = 18 := by omega
    subst hk18
    have hI' : opM s = -1 := hI.symm
    have e1 : stI s = ⟨3, 0, 0, 0, (numM s).1⟩ := by unfold stI; rw [hI', if_neg (by omega)]
    have e2 : stB s = (numM s).2 := by unfold stB; rw [hI', if_neg (by omega)]
    rw [e1, e2]
    repeat' ((try (conv => whnf)); first | (refine when_ye ?_ ?_; exact rfl) | (refine when_ne ?_ ?_; exact rfl) | (refine br_te ?_ ?_; exact rfl) | (refine br_fe ?_ ?_; exact rfl) | (apply br_pyE; (exact rfl); omega) | (apply br_pnE; (exact rfl); omega) | (apply when_pyE; (exact rfl); omega) | (apply when_pnE; (exact rfl); omega) | (apply br_npyE; (exact rfl); omega) | (apply br_npnE; (exact rfl); omega) | (apply when_npyE; (exact rfl); omega) | (apply when_npnE; (exact rfl); omega) | ((with_reducible show CallT _ _ _ _ _ _); first | ((refine call_pe (sp_number0 _ _ hN s) ?_ ?_ ?_; (exact rfl); exact rfl))) | (refine ari ?_ ?_; omega) | (refine aru ?_ ?_; omega) | (apply sel; exact rfl) | (refine ix0 rfl ?_) | (refine ix1 rfl ?_) | (refine ix2 rfl ?_) | (refine ix3 rfl ?_) | (apply ixj; omega) | (refine ixn ?_ ?_; omega) | (refine ixs0 rfl ?_) | (refine ixs1 rfl ?_) | (refine ixs_j ?_ ?_; omega) | (refine ixs_n ?_ ?_; omega) | (apply ld_o; exact rfl) | (apply ldN_a; exact rfl) | (apply ldN_o; (exact rfl); exact rfl) | (apply st_o; (exact rfl); exact rfl) | (apply stN_o; (exact rfl); (exact rfl); exact rfl) | (refine new_i (fun bk hbk => ?_)) | (apply when_dE; (exact rfl); (exact rfl); all_goals intro hc) | (apply when_dF; (exact rfl); (exact rfl); all_goals intro hc) | (apply when_nE; (exact rfl); (exact rfl); all_goals intro hc) | (apply when_nF; (exact rfl); (exact rfl); all_goals intro hc) | (apply br_dE; (exact rfl); all_goals intro hc) | (apply br_nE; (exact rfl); all_goals intro hc) | (refine mm_min ?_) | (refine mm_max ?_) | (refine rem_i ?_ ?_; omega) | (refine SelN.mk ?_) | (refine cut_n ?_) | (refine Both.mk ?_ ?_) | (exact True.intro))
    exact ⟨rfl, (by first | exact ent_i | (repeat (first | exact Ent.refl | exact Ent.left | refine Ent.cons ?_ | refine Ent.app ?_)))⟩
end
end Go.Proofs.YtiimndcifcoofaaGreatDoor
