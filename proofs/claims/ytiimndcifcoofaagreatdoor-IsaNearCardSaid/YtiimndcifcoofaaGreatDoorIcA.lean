/- isa: the library's functions as contracts of the verifier. No condition. -/
import Derived.Test.YtiimndcifcoofaaGreatDoorIsF
import Derived.Test.YtiimndcifcoofaaGreatDoorIsT
import Derived.Test.YtiimndcifcoofaaGreatDoorIsS
import Derived.Test.YtiimndcifcoofaaGreatDoorIpA
import Derived.Test.YtiimndcifcoofaaGreatDoorIpB
import Derived.Test.YtiimndcifcoofaaGreatDoorIRisa
import Derived.Test.YtiimndcifcoofaaGreatDoorVl
import Derived.Test.YtiimndcifcoofaaGreatDoorVg
import Derived.Lib.SmallJoins
namespace Go.Proofs.YtiimndcifcoofaaGreatDoor
open Go Go.RowKit
set_option maxRecDepth 10000
set_option maxHeartbeats 4000000
theorem St.below {W0 : World} {own : Own} {w w' : World} (s : St W0 own w) (h : Below w.heap.size w w') : St W0 own w' :=
  ⟨h.os.trans s.os, h.tape.trans s.tape, h.output.trans s.output, Nat.le_trans s.size h.size, fun b hb => (h.block b (Nat.lt_of_lt_of_le hb s.size)).trans (s.base b hb), s.fresh, fun e he => by
    obtain ⟨o, ho, hp⟩ := s.owns e he
    exact ⟨o, by rw [h.block e.1 (s.mem_size he)]; exact ho, hp⟩, s.nodup⟩
theorem St.newB {W0 : World} {own : Own} {w w' : World} (s : St W0 own w) (h : Below w.heap.size w w') {A : Nat} {o : Obj} {p : Obj → Prop} (hA : w.heap.size ≤ A) (ho : w'.heap[A]? = some o) (hp : p o) : St W0 ((A, p) :: own) w' := by
  have s' := s.below h
  refine ⟨s'.os, s'.tape, s'.output, s'.size, s'.base, fun e he => ?_, fun e he => ?_, ?_⟩
  · rcases List.mem_cons.1 he with rfl | he
    · exact Nat.le_trans s.size hA
    · exact s'.fresh e he
  · rcases List.mem_cons.1 he with rfl | he
    · exact ⟨o, ho, hp⟩
    · exact s'.owns e he
  · rw [List.map_cons, List.nodup_cons]
    refine ⟨fun hm => ?_, s'.nodup⟩
    obtain ⟨x, hx, he⟩ := List.mem_map.1 hm
    have := s.mem_size hx
    have he' : x.1 = A := he
    omega
theorem St.var {W0 : World} {own : Own} {w : World} {P : Program} {n : String} {cs : Array Value} (s : St W0 own w) (h : W0.var? P n = some cs) : w.var? P n = some cs := by
  unfold World.var? at *
  cases hg : P.globalNamed n with
  | none => rw [hg] at h; cases h
  | some g =>
    rw [hg] at h
    simp only [Option.bind_some] at *
    have hlt : g < W0.heap.size := by
      rcases Nat.lt_or_ge g W0.heap.size with h' | h'
      · exact h'
      · rw [Array.getElem?_eq_none h'] at h; cases h
    rw [s.base g hlt]; exact h
/-- What the laws are given of the library's variables. -/
structure LibAt (W0 : World) : Prop where
  pow : Go.Lib.TabIs Tryz.prog W0 "internal/strconv.uint64pow10" .u64 Go.Lib.pow10Tab
  syn : ∃ te pe, W0.var? Tryz.prog "strconv.ErrSyntax" = some #[.iface te pe]
  ran : ∃ te pe, W0.var? Tryz.prog "strconv.ErrRange" = some #[.iface te pe]
theorem split1 (w : World) : Go.Proofs.PredAtRunes Tryz.prog 106 #[] spR w := fun W r _ _ => by
  unfold Go.Proofs.FnGives spR
  by_cases h1 : r = 32
  all_goals
    have z1 : (r : Int) = 32 ↔ r = 32 := by omega
    go_enter Tryz.func106, Tryz.ntmps106
    go_wp2
    all_goals first | (exfalso; omega) | (go_ret; exact ⟨by simp [h1, z1], 0, rfl⟩) | (go_ret; refine ⟨?_, 0, rfl⟩; simp [h1]; omega)
abbrev encS (s : ByteArray) : List Value := [.string s]
theorem flatS : ∀ l : List ByteArray, (l.map encS).flatten = l.map Value.string
  | [] => rfl
  | x :: l => by simp [flatS l]
section
variable {W0 : World} {own : Own}
theorem sp_fields (s : ByteArray) (hs : s.size ≤ 4294967296) : Spec Tryz.prog W0 105 [.string s, .func (.func 106) #[] #[]] own fun v own' => ∃ b, v = .slice (some ⟨b, 0, none⟩) (wordsM s).length (wordsM s).length ∧ own' = canE encS 9 b (wordsM s) :: own := by
  intro w hw
  refine (shelf_strings_FieldsFunc_runes 106 #[] (Go.Proofs.enters_of Tryz.func106 (by kernel_rfl) rfl) spR s w hs (split1 w)).mono ?_
  rintro e w' ⟨A, rfl, hA, hrow, hb⟩
  rw [fields_words] at *
  obtain ⟨_, h | ⟨g, cap, cur, hv, hg, hcell, _, _, hcs, htake⟩⟩ := hrow
  · cases h.1
  · simp only [Value.slice.injEq, Option.some.injEq, Addr.mk.injEq] at hv
    obtain ⟨⟨rfl, _, _⟩, _, rfl⟩ := hv
    refine ⟨_, _, rfl, hw.newB hb hg hcell ?_, A, rfl, rfl⟩
    rw [Nat.mul_one] at *
    rw [flatS]
    have : cur.toList = (wordsM s).map Value.string := by
      rw [← htake, List.take_of_length_le (by simp; omega)]
    rw [← this]
theorem sp_prefix (s p : ByteArray) (b : Bool) (hb : Go.Lib.hasPrefix s.data.toList p.data.toList = b) : Pure Tryz.prog W0 65 [.string s, .string p] own (.bool b) := fun w hw =>
  (shelf_strings_HasPrefix s p w).mono fun _ _ ⟨he, hw'⟩ => ⟨by rw [he, hb], hw' ▸ hw⟩
theorem sp_pint_ok (s : ByteArray) (hs : s.size ≤ 281474976710656) {v : Int} (h : Go.Lib.parseIntB 64 s.data.toList = .ok v) : Pure Tryz.prog W0 141 [.string s, .int .i64 10, .int .i64 64] own (.tuple #[.int .i64 v, .nilIface]) := fun w hw =>
  (shelf_strconv_ParseInt_10_at64_ok s (by omega) v h w).mono fun _ _ ⟨he, hw'⟩ => ⟨he, by
    rcases hw' with rfl | ⟨t, rfl⟩
    · exact hw
    · exact hw.below (Go.Joins.below_bytesWorld _ _ _ _ (Nat.le_refl _))⟩
/-- What ParseInt hands back beside its error. -/
def pintV (s : ByteArray) : Int := match Go.Lib.parseIntB 64 s.data.toList with
  | .ok v => v
  | .range => Go.Lib.intSat 64 s.data.toList
  | _ => 0
theorem sp_pint_err (hL : LibAt W0) (s : ByteArray) (hs : s.size ≤ 281474976710656) (h : ∀ v, Go.Lib.parseIntB 64 s.data.toList ≠ .ok v) : Spec Tryz.prog W0 141 [.string s, .int .i64 10, .int .i64 64] own fun v own' => ∃ x : TypeId × Value, v = .tuple #[.int .i64 (pintV s), .iface x.1 x.2] ∧ Ent W0 own' own := by
  intro w hw
  have cell : ∀ {n : String} {g : Nat} {te : TypeId} {pe : Value}, (Tryz.prog).globalNamed n = some g → W0.var? Tryz.prog n = some #[.iface te pe] → w.cell? ⟨g, 0, none⟩ = some (.iface te pe) := fun hg h => by
    rw [World.var?_cell hg (hw.var h) 0]; rfl
  cases hp : Go.Lib.parseIntB 64 s.data.toList with
  | ok v => exact absurd hp (h v)
  | range =>
    obtain ⟨te, pe, hv⟩ := hL.ran
    refine (shelf_strconv_ParseInt_10_at64_range s hs hp _ w (cell (by kernel_rfl) hv) (.inr ⟨te, pe, rfl⟩)).mono ?_
    rintro e w' ⟨N, rfl, _, _, hb⟩
    exact ⟨_, own, rfl, hw.below hb, (_, _), by rw [pintV, hp], Ent.refl⟩
  | _ =>
    obtain ⟨te, pe, hv⟩ := hL.syn
    refine (shelf_strconv_ParseInt_10_at64_synt s hs h (by rw [hp]; simp) _ w (cell (by kernel_rfl) hv) (.inr ⟨te, pe, rfl⟩)).mono ?_
    rintro e w' ⟨N, rfl, _, _, hb⟩
    exact ⟨_, own, rfl, hw.below hb, (_, _), by rw [pintV, hp], Ent.refl⟩
theorem sp_itoa (hL : LibAt W0) {n : Int} (h0 : -9223372036854775808 ≤ n) (h1 : n ≤ 9223372036854775807) : Pure Tryz.prog W0 36 [.int .i64 n] own (.string ⟨(Go.Lib.itoa n).toArray⟩) := fun w hw =>
  (shelf_strconv_Itoa n h0 h1 w (hw.var hL.pow)).mono fun _ _ ⟨he, k, os, hw'⟩ => ⟨he, by
    subst hw'
    exact (hw.below ⟨rfl, rfl, rfl, by simp [Go.Sort.grow, World.drewN], fun j hj => by simp only [Go.Sort.grow, World.drewN]; rw [Array.getElem?_append_left hj]⟩)⟩
end
end Go.Proofs.YtiimndcifcoofaaGreatDoor
