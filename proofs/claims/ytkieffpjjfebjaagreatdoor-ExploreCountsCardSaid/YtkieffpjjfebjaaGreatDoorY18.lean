/- What the laws share, part 18. No condition. -/
import Derived.Test.YtkieffpjjfebjaaGreatDoorChecked
import Derived.Shelf.SlMaps.Clone
import Derived.Test.YtkieffpjjfebjaaGreatDoorY17
namespace Go.Proofs.YtkieffpjjfebjaaGreatDoor
open Go
set_option maxRecDepth 10000
set_option maxHeartbeats 2000000 in
theorem clone_calls (b : Nat) (es : Array MapEntry) (clock : Nat) (w : World) (hb : w.heap[b]? = some (.map es clock)) :
    Calls Tryz.prog 88 #[.map (some b)] w fun e w' => e = .returned (.map (some w.heap.size)) ∧ w' = w.alloc (.map es clock) := by
  have hq := fun w => run_eql_map_nil_sl (P := Tryz.prog) w 118 _ _ (some b) Tryz.underlying118
  go_enter Tryz.func88, Tryz.ntmps88
  go_wp2
  rw [run_callFunc_extern Tryz.func120 (by kernel_rfl) (by kernel_rfl) (by kernel_rfl) (e := Extern.MapsClone.clone) (by kernel_rfl), run_maps_clone_sl w 118 hb]
  simp only [Result.andThen]
  rw [Oper.upon_value]
  go_wp2
  rw [run_typeAssert_map_sl _ 118 20 _ _ _ Tryz.underlying118]
  simp only [Result.andThen]
  rw [Oper.upon_value]
  go_wp2
  go_ret
  exact ⟨rfl, rfl⟩
section
variable {W0 : World} {own : Own}
theorem sp_mclone {b : Nat} {l : List (Value × Value)} [m : MemC b (mapO l) own] :
    Spec Tryz.prog W0 88 [.map (some b)] own fun v own' => ∃ b' : Nat, v = .map (some b') ∧ Ent W0 own' ((b', mapO l) :: own) := by
  intro w hw
  obtain ⟨o, ho, es, clock, rfl, hl⟩ := hw.owns _ m.h
  refine (clone_calls b es clock w ho).mono fun e w' ⟨he, hw'⟩ => ?_
  subst hw'
  exact ⟨_, (w.heap.size, mapO l) :: own, he, hw.push (.map es clock) ⟨es, clock, rfl, hl⟩, w.heap.size, rfl, Ent.refl⟩
end
end Go.Proofs.YtkieffpjjfebjaaGreatDoor
namespace Go.Proofs.YtkieffpjjfebjaaGreatDoor
open Go
set_option maxRecDepth 10000
set_option maxHeartbeats 4000000
section
variable {P : Program} {W0 : World} {own D : Own} {C : Own → Own} {k k0 : FuncId} {args args0 : List Value}
theorem spec_un {R : Value → Prop} {O : Own} (h : Spec P W0 k args own fun v own' => R v ∧ Ent W0 own' O) : Spec P W0 k args own fun v own' => ∃ _ : Unit, R v ∧ Ent W0 own' O := fun w hw =>
  (h w hw).mono fun _ _ ⟨v, o, a, b, c, d⟩ => ⟨v, o, a, b, (), c, d⟩
end
section
variable {W0 : World} {own : Own}
theorem sp_clone_uint64 {a : Option Addr} {l : List Int} {cap : Nat} (hR : RdE encU 1 W0 own a l) (hl : l.length ≤ 1000000000) :
    Spec Tryz.prog W0 58 [.slice a l.length cap] own fun v own' => ∃ s : Option Addr × Nat × Own, (v = .slice s.1 l.length s.2.1 ∧ BufE encU 58 1 s.1 s.2.1 l s.2.2) ∧ Ent W0 own' (s.2.2 ++ own) := by
  refine spec_of mixed low_slices_Clone_uint64 (by simp [ir_slices_Clone_uint64]) ?_
  cases a with
  | none =>
    have hn : l = [] := by
      by_cases h : l = []
      · exact h
      · have := hR.isS h; cases this
    subst hn
    repeat' ((try (conv => whnf)); first | (refine br_te ?_ ?_; exact rfl))
    exact ⟨(none, 0, []), ⟨rfl, BufE.nil⟩, (by first | exact ent_i | (repeat (first | exact Ent.refl | exact Ent.left | refine Ent.cons ?_ | refine Ent.app ?_)))⟩
  | some a =>
    repeat' ((try (conv => whnf)); first | (refine br_fe ?_ ?_; exact rfl) | (refine app_c (enc := encU) (l := []) (l2 := l) BufE.nil (At.head (D := []) (r := _)) hR.up rfl rfl (by omega) (fun _ _ => rfl) (fun _ => by simp; omega) (fun a1 c1 D1 hB1 => ?_); (rw [List.length_nil, Nat.zero_add l.length]); (apply Stop.h)) | (refine new_i (fun bk hbk => ?_)))
    refine Stop.mk ?_
    rw [List.nil_append] at hB1
    skip
    exact ⟨(a1, c1, D1), ⟨rfl, hB1⟩, Ent.of_sub ((List.sublist_cons_self _ own).append_left D1)⟩
theorem sp_clone_int {a : Option Addr} {l : List Int} {cap : Nat} (hR : RdE encI 1 W0 own a l) (hl : l.length ≤ 1000000000) :
    Spec Tryz.prog W0 60 [.slice a l.length cap] own fun v own' => ∃ s : Option Addr × Nat × Own, (v = .slice s.1 l.length s.2.1 ∧ BufE encI 3 1 s.1 s.2.1 l s.2.2) ∧ Ent W0 own' (s.2.2 ++ own) := by
  refine spec_of mixed low_slices_Clone_int (by simp [ir_slices_Clone_int]) ?_
  cases a with
  | none =>
    have hn : l = [] := by
      by_cases h : l = []
      · exact h
      · have := hR.isS h; cases this
    subst hn
    repeat' ((try (conv => whnf)); first | (refine br_te ?_ ?_; exact rfl))
    exact ⟨(none, 0, []), ⟨rfl, BufE.nil⟩, (by first | exact ent_i | (repeat (first | exact Ent.refl | exact Ent.left | refine Ent.cons ?_ | refine Ent.app ?_)))⟩
  | some a =>
    repeat' ((try (conv => whnf)); first | (refine br_fe ?_ ?_; exact rfl) | (refine app_c (enc := encI) (l := []) (l2 := l) BufE.nil (At.head (D := []) (r := _)) hR.up rfl rfl (by omega) (fun _ _ => rfl) (fun _ => by simp; omega) (fun a1 c1 D1 hB1 => ?_); (rw [List.length_nil, Nat.zero_add l.length]); (apply Stop.h)) | (refine new_i (fun bk hbk => ?_)))
    refine Stop.mk ?_
    rw [List.nil_append] at hB1
    skip
    exact ⟨(a1, c1, D1), ⟨rfl, hB1⟩, Ent.of_sub ((List.sublist_cons_self _ own).append_left D1)⟩
theorem sp_clone_Thread {a : Option Addr} {l : List Thr} {cap : Nat} (hR : RdE Thr.enc 11 W0 own a l) (hl : l.length ≤ 1000000000) :
    Spec Tryz.prog W0 59 [.slice a l.length cap] own fun v own' => ∃ s : Option Addr × Nat × Own, (v = .slice s.1 l.length s.2.1 ∧ BufE Thr.enc 61 11 s.1 s.2.1 l s.2.2) ∧ Ent W0 own' (s.2.2 ++ own) := by
  refine spec_of mixed low_slices_Clone_Thread (by simp [ir_slices_Clone_Thread]) ?_
  cases a with
  | none =>
    have hn : l = [] := by
      by_cases h : l = []
      · exact h
      · have := hR.isS h; cases this
    subst hn
    repeat' ((try (conv => whnf)); first | (refine br_te ?_ ?_; exact rfl))
    exact ⟨(none, 0, []), ⟨rfl, BufE.nil⟩, (by first | exact ent_i | (repeat (first | exact Ent.refl | exact Ent.left | refine Ent.cons ?_ | refine Ent.app ?_)))⟩
  | some a =>
    repeat' ((try (conv => whnf)); first | (refine br_fe ?_ ?_; exact rfl) | (refine app_c (enc := Thr.enc) (l := []) (l2 := l) BufE.nil (At.head (D := []) (r := _)) hR.up rfl rfl (by omega) (fun _ _ => rfl) (fun _ => by simp; omega) (fun a1 c1 D1 hB1 => ?_); (rw [List.length_nil, Nat.zero_add l.length]); (apply Stop.h)) | (refine new_i (fun bk hbk => ?_)))
    refine Stop.mk ?_
    rw [List.nil_append] at hB1
    skip
    exact ⟨(a1, c1, D1), ⟨rfl, hB1⟩, Ent.of_sub ((List.sublist_cons_self _ own).append_left D1)⟩
theorem sp_clone_Obs {a : Option Addr} {l : List ObM} {cap : Nat} (hR : RdE ObM.enc 3 W0 own a l) (hl : l.length ≤ 1000000000) :
    Spec Tryz.prog W0 61 [.slice a l.length cap] own fun v own' => ∃ s : Option Addr × Nat × Own, (v = .slice s.1 l.length s.2.1 ∧ BufE ObM.enc 127 3 s.1 s.2.1 l s.2.2) ∧ Ent W0 own' (s.2.2 ++ own) := by
  refine spec_of mixed low_slices_Clone_Obs (by simp [ir_slices_Clone_Obs]) ?_
  cases a with
  | none =>
    have hn : l = [] := by
      by_cases h : l = []
      · exact h
      · have := hR.isS h; cases this
    subst hn
    repeat' ((try (conv => whnf)); first | (refine br_te ?_ ?_; exact rfl))
    exact ⟨(none, 0, []), ⟨rfl, BufE.nil⟩, (by first | exact ent_i | (repeat (first | exact Ent.refl | exact Ent.left | refine Ent.cons ?_ | refine Ent.app ?_)))⟩
  | some a =>
    repeat' ((try (conv => whnf)); first | (refine br_fe ?_ ?_; exact rfl) | (refine app_c (enc := ObM.enc) (l := []) (l2 := l) BufE.nil (At.head (D := []) (r := _)) hR.up rfl rfl (by omega) (fun _ _ => rfl) (fun _ => by simp; omega) (fun a1 c1 D1 hB1 => ?_); (rw [List.length_nil, Nat.zero_add l.length]); (apply Stop.h)) | (refine new_i (fun bk hbk => ?_)))
    refine Stop.mk ?_
    rw [List.nil_append] at hB1
    skip
    exact ⟨(a1, c1, D1), ⟨rfl, hB1⟩, Ent.of_sub ((List.sublist_cons_self _ own).append_left D1)⟩
theorem sp_clone_Instr {a : Option Addr} {l : List Ins} {cap : Nat} (hR : RdE Ins.enc 5 W0 own a l) (hl : l.length ≤ 1000000000) :
    Spec Tryz.prog W0 68 [.slice a l.length cap] own fun v own' => ∃ s : Option Addr × Nat × Own, (v = .slice s.1 l.length s.2.1 ∧ BufE Ins.enc 69 5 s.1 s.2.1 l s.2.2) ∧ Ent W0 own' (s.2.2 ++ own) := by
  refine spec_of mixed low_slices_Clone_Instr (by simp [ir_slices_Clone_Instr]) ?_
  cases a with
  | none =>
    have hn : l = [] := by
      by_cases h : l = []
      · exact h
      · have := hR.isS h; cases this
    subst hn
    repeat' ((try (conv => whnf)); first | (refine br_te ?_ ?_; exact rfl))
    exact ⟨(none, 0, []), ⟨rfl, BufE.nil⟩, (by first | exact ent_i | (repeat (first | exact Ent.refl | exact Ent.left | refine Ent.cons ?_ | refine Ent.app ?_)))⟩
  | some a =>
    repeat' ((try (conv => whnf)); first | (refine br_fe ?_ ?_; exact rfl) | (refine app_c (enc := Ins.enc) (l := []) (l2 := l) BufE.nil (At.head (D := []) (r := _)) hR.up rfl rfl (by omega) (fun _ _ => rfl) (fun _ => by simp; omega) (fun a1 c1 D1 hB1 => ?_); (rw [List.length_nil, Nat.zero_add l.length]); (apply Stop.h)) | (refine new_i (fun bk hbk => ?_)))
    refine Stop.mk ?_
    rw [List.nil_append] at hB1
    skip
    exact ⟨(a1, c1, D1), ⟨rfl, hB1⟩, Ent.of_sub ((List.sublist_cons_self _ own).append_left D1)⟩
variable {a : Option Addr} {l : List Int} {cap : Nat}
def idxG (x : Int) : List Int → Nat → Int
  | [], _ => -1
  | y :: l, k => if x = y then k else idxG x l (k + 1)
theorem idxG_mem (x : Int) : ∀ (l : List Int) (k : Nat), 0 ≤ idxG x l k ↔ x ∈ l
  | [], k => by simp [idxG]
  | y :: l, k => by
    unfold idxG
    split
    · rename_i h; subst h; simp
    · rename_i h
      rw [idxG_mem x l (k + 1)]
      simp [h]
theorem sp_index_int (hR : RdE encI 1 W0 own a l) (hl : l.length ≤ 1000000000) (x : Int) : Pure Tryz.prog W0 145 [.slice a l.length cap, .int .i64 x] own (.int .i64 (idxG x l 0)) := by
  refine pure_of (spec_of mixed low_slices_Index_int (by simp [ir_slices_Index_int]) ?_)
  generalize hres : idxG x l 0 = res
  skip
  refine loop_c (σ := Nat) (fun k => [(8, .int .i64 k)]) (fun k => k ≤ l.length ∧ idxG x (l.drop k) k = res) (fun k => l.length - k) 0 ⟨by omega, hres⟩ (by repeat' (first | exact True.intro | refine And.intro ?_ ?_ | exact rfl | exact vi (by omega) | (dsimp only; exact rfl) | (dsimp only; exact vi (by omega)))) rfl ?_
  rintro k junk ⟨hk, hI⟩
  by_cases hlt : k < l.length
  · obtain ⟨y, hy⟩ : ∃ y, l[k]? = some y := ⟨_, List.getElem?_eq_getElem hlt⟩
    have hlt' : (k : Int) < l.length := by omega
    rw [drop_of hy, idxG] at hI
    by_cases he : x = y
    · rw [if_pos he] at hI
      repeat' ((try (conv => whnf)); first | (apply br_pyE; (exact rfl); omega) | ((with_reducible show Ld _ _ _ _); first | (refine ldE0 hR hy rfl ?_)) | ((with_reducible show IxS _ _ _ _ _); first | ((refine ixE hR hy ?_ ?_; (first | rfl | omega)))))
      exact ⟨ret1 (vi hI), (by first | exact ent_i | (repeat (first | exact Ent.refl | exact Ent.left | refine Ent.cons ?_ | refine Ent.app ?_)))⟩
    · rw [if_neg he] at hI
      repeat' ((try (conv => whnf)); first | (apply br_pyE; (exact rfl); omega) | (apply br_pnE; (exact rfl); omega) | ((with_reducible show Ld _ _ _ _); first | (refine ldE0 hR hy rfl ?_)) | ((with_reducible show IxS _ _ _ _ _); first | ((refine ixE hR hy ?_ ?_; (first | rfl | omega)))) | (refine ari ?_ ?_; omega))
      exact ⟨k + 1, ⟨by omega, hI⟩, by omega, (by repeat' (first | exact True.intro | refine And.intro ?_ ?_ | exact rfl | exact vi (by omega) | (dsimp only; exact rfl) | (dsimp only; exact vi (by omega)))), Ent.refl⟩
  · have hlt' : ¬ (k : Int) < l.length := by omega
    obtain rfl : k = l.length := by omega
    rw [List.drop_length, idxG] at hI
    repeat' ((try (conv => whnf)); first | (apply br_pnE; (exact rfl); omega))
    exact ⟨ret1 (vi hI), (by first | exact ent_i | (repeat (first | exact Ent.refl | exact Ent.left | refine Ent.cons ?_ | refine Ent.app ?_)))⟩
theorem sp_contains_int (hR : RdE encI 1 W0 own a l) (hl : l.length ≤ 1000000000) (x : Int) : Pure Tryz.prog W0 119 [.slice a l.length cap, .int .i64 x] own (.bool (decide (x ∈ l))) := by
  refine pure_of (spec_of mixed low_slices_Contains_int (by simp [ir_slices_Contains_int]) ?_)
  have h := sp_index_int (cap := cap) hR hl x
  have hm := idxG_mem x l 0
  generalize idxG x l 0 = z at *
  repeat' ((try (conv => whnf)); first | ((with_reducible show CallT _ _ _ _ _ _); first | ((refine call_pe (h) ?_ ?_ ?_; (exact rfl); exact rfl))))
  exact ⟨ret1 (vb (dd hm)), (by first | exact ent_i | (repeat (first | exact Ent.refl | exact Ent.left | refine Ent.cons ?_ | refine Ent.app ?_)))⟩
end
end Go.Proofs.YtkieffpjjfebjaaGreatDoor
namespace Go.Proofs.YtkieffpjjfebjaaGreatDoor
open Go
set_option maxRecDepth 10000
set_option maxHeartbeats 4000000
abbrev thB (b : Nat) (T : TypeId) (pre post : List Value) (t : Thr) : Nat × (Obj → Prop) := (b, fun o => o = Obj.cells (pre ++ (t.enc ++ post)).toArray T (0, 0))
theorem th_get {pre post : List Value} {t : Thr} {k : Nat} {v : Value} (h : t.enc[k]? = some v) : (pre ++ (t.enc ++ post))[pre.length + k]? = some v := by
  have hk : k < t.enc.length := (List.getElem?_eq_some_iff.1 h).1
  rw [List.getElem?_append_right (by omega), Nat.add_sub_cancel_left, List.getElem?_append_left hk, h]
theorem th_set {pre post : List Value} {t : Thr} {k : Nat} {v : Value} (h : k < 11) : (pre ++ (t.enc ++ post)).set (pre.length + k) v = pre ++ (t.enc.set k v ++ post) := by
  have hk : k < t.enc.length := h
  rw [List.set_append_right _ _ (by omega), Nat.add_sub_cancel_left, List.set_append_left _ _ hk]
theorem ic_regs {x : Ins} (h : icheck x = 0) : (0 ≤ x.op ∧ x.op < 18) ∧ (useA x.op = true → 0 ≤ x.a ∧ x.a < 8) ∧ (useB x.op = true → 0 ≤ x.b ∧ x.b < 8) ∧ (useC x.op = true → 0 ≤ x.c ∧ x.c < 8) ∧ (x.op = 4 ∨ x.op = 5 ∨ x.op = 6 → 0 ≤ x.imm ∧ x.imm ≤ 64) ∧ (x.op = 14 → 0 ≤ x.imm ∧ x.imm < 4) := by
  unfold icheck at h
  split at h
  · cases h
  · rename_i h0
    split at h
    · rename_i hr
      split at h
      · rename_i hi
        obtain ⟨h1, h2, h3⟩ := hr
        refine ⟨by omega, fun e => by simpa [regOk, e] using h1, fun e => by simpa [regOk, e] using h2, fun e => by simpa [regOk, e] using h3, fun e => ?_, fun e => ?_⟩
        · unfold immOk at hi
          rw [if_neg (by omega), if_neg (by omega), if_pos e] at hi
          exact hi
        · unfold immOk at hi
          rw [if_neg (by omega), if_neg (by omega), if_neg (by omega), if_neg (by omega), if_pos e] at hi
          exact hi
      · cases h
    · cases h
section
variable {W0 : World} {own : Own} {b o : Nat} {T : TypeId} {pre post : List Value} {t : Thr}
theorem ld_th {off k : Nat} {v : Value} {K : Value → Prop} [m : MemC b (fun o => o = Obj.cells (pre ++ (t.enc ++ post)).toArray T (0, 0)) own] (h : t.enc[k]? = some v) (ho : off = pre.length + k) (hk : K v) : Ld W0 own ⟨b, off, none⟩ K := by
  subst ho
  exact ld_own v m.h (by rw [List.toList_toArray]; exact th_get h) hk
theorem ld_reg {off i : Nat} {K : Value → Prop} [m : MemC b (fun o => o = Obj.cells (pre ++ (t.enc ++ post)).toArray T (0, 0)) own] (hi : i < 8) (ho : off = pre.length + (1 + i)) (hk : K (.int .u64 (t.rg.get i))) : Ld W0 own ⟨b, off, none⟩ K :=
  ld_th (Thr.enc_get hi) ho hk
theorem st_th {off k : Nat} {v : Value} {K : Own → Prop} {C : (Obj → Prop) → Own} [m : UpC b (fun o => o = Obj.cells (pre ++ (t.enc ++ post)).toArray T (0, 0)) own C] (t' : Thr) (hk : k < 11) (he : t.enc.set k v = t'.enc) (h1 : oneC v = true) (ho : off = pre.length + k)
    (h : K (C fun o => o = Obj.cells (pre ++ (t'.enc ++ post)).toArray T (0, 0))) : StT W0 own ⟨b, off, none⟩ v K := by
  subst ho
  refine st_o (by simp; omega) h1 ?_
  rw [List.toList_toArray, th_set hk, he]
  exact h
theorem st_reg {off i : Nat} {v : Int} {K : Own → Prop} {C : (Obj → Prop) → Own} [m : UpC b (fun o => o = Obj.cells (pre ++ (t.enc ++ post)).toArray T (0, 0)) own C] (hi : i < 8) (ho : off = pre.length + (1 + i))
    (h : K (C fun o => o = Obj.cells (pre ++ (({ t with rg := t.rg.set i v } : Thr).enc ++ post)).toArray T (0, 0))) : StT W0 own ⟨b, off, none⟩ (.int .u64 v) K :=
  st_th { t with rg := t.rg.set i v } (by omega) (Thr.enc_set hi) rfl ho h
theorem sp_local {x : Ins} (hx : icheck x = 0) (ht : t.rg.ok) (hp : t.pc ≤ 64) (ho : o = pre.length) (r : Own) :
    Spec Tryz.prog W0 95 [.pointer (some ⟨b, o, none⟩), x.v] ([thB b T pre post t] ++ r) fun v own' => ∃ _ : Unit, v = .int .i64 (locP t x) ∧ Ent W0 own' ([thB b T pre post { t with rg := locR t x }] ++ r) := by
  refine spec_un (spec_of mixed low_sgl_local (by simp [ir_sgl_local]) ?_)
  subst ho
  obtain ⟨h0, hA, hB, hC, hI, _⟩ := ic_regs hx
  clear hx
  obtain ⟨op, a, b', c, imm⟩ := x
  dsimp only [Ins.v] at *
  have hu := fun k => ht k
  by_cases h1 : op = 1
  · subst h1
    have ha := hA rfl
    have ha' : a.toNat < 8 := by omega
    clear hA hB hC hI
    repeat' ((try (conv => whnf)); first | (refine br_te ?_ ?_; exact rfl) | (refine arw (k := .u64) ?_) | (refine ld_th (t := t) (k := 0) rfl ?_ ?_; omega) | (refine st_reg (t := t) ha' ?_ ?_; omega) | (refine ari ?_ ?_; omega) | (refine ixn ?_ ?_; omega) | (apply ld_o; exact rfl) | (refine new_i (fun bk hbk => ?_)))
    exact ⟨rfl, (by first | exact ent_i | (repeat (first | exact Ent.refl | exact Ent.left | refine Ent.cons ?_ | refine Ent.app ?_)))⟩
  by_cases h2 : op = 2
  · subst h2
    have ha := hA rfl
    have ha' : a.toNat < 8 := by omega
    have hb := hB rfl
    have hb' : b'.toNat < 8 := by omega
    clear hA hB hC hI
    repeat' ((try (conv => whnf)); first | (refine br_te ?_ ?_; exact rfl) | (refine br_fe ?_ ?_; exact rfl) | (refine ld_th (t := t) (k := 0) rfl ?_ ?_; omega) | (refine ld_reg (t := t) hb' ?_ ?_; omega) | (refine st_reg (t := t) ha' ?_ ?_; omega) | (refine ari ?_ ?_; omega) | (refine ixn ?_ ?_; omega) | (apply ld_o; exact rfl) | (refine new_i (fun bk hbk => ?_)))
    exact ⟨rfl, (by first | exact ent_i | (repeat (first | exact Ent.refl | exact Ent.left | refine Ent.cons ?_ | refine Ent.app ?_)))⟩
  by_cases h3 : op = 3
  · subst h3
    have ha := hA rfl
    have ha' : a.toNat < 8 := by omega
    have hb := hB rfl
    have hb' : b'.toNat < 8 := by omega
    have hc := hC rfl
    have hc' : c.toNat < 8 := by omega
    clear hA hB hC hI
    have hap := fun own => Alu.sp_apply W0 own imm (t.rg.get b'.toNat) (t.rg.get c.toNat) (ht _)
    repeat' ((try (conv => whnf)); first | (refine br_te ?_ ?_; exact rfl) | (refine br_fe ?_ ?_; exact rfl) | (refine ld_th (t := t) (k := 0) rfl ?_ ?_; omega) | (refine ld_reg (t := t) hb' ?_ ?_; omega) | (refine ld_reg (t := t) hc' ?_ ?_; omega) | (refine st_reg (t := t) ha' ?_ ?_; omega) | ((with_reducible show CallQ _ _ _ _ _ _); first | ((refine call_qq (fun _ => hap _) ?_ ?_ ?_; (exact rfl); exact rfl))) | (refine ari ?_ ?_; omega) | (apply sel; exact rfl) | (refine ixn ?_ ?_; omega) | (apply ld_o; exact rfl) | (refine new_i (fun bk hbk => ?_)))
    exact ⟨rfl, (by first | exact ent_i | (repeat (first | exact Ent.refl | exact Ent.left | refine Ent.cons ?_ | refine Ent.app ?_)))⟩
  by_cases h17 : op = 17
  · subst h17
    have ha := hA rfl
    have ha' : a.toNat < 8 := by omega
    clear hA hB hC hI
    repeat' ((try (conv => whnf)); first | (refine br_te ?_ ?_; exact rfl) | (refine br_fe ?_ ?_; exact rfl) | (refine arw (k := .u64) ?_) | (refine ld_th (t := t) (k := 9) rfl ?_ ?_; omega) | (refine ld_th (t := t) (k := 0) rfl ?_ ?_; omega) | (refine st_reg (t := t) ha' ?_ ?_; omega) | (refine ari ?_ ?_; omega) | (refine ixn ?_ ?_; omega) | (apply ld_o; exact rfl) | (refine new_i (fun bk hbk => ?_)))
    exact ⟨rfl, (by first | exact ent_i | (repeat (first | exact Ent.refl | exact Ent.left | refine Ent.cons ?_ | refine Ent.app ?_)))⟩
  have hR : locR t ⟨op, a, b', c, imm⟩ = t.rg := by unfold locR; rw [if_neg h1, if_neg h2, if_neg h3, if_neg h17]
  rw [hR]
  by_cases h4 : op = 4
  · subst h4
    have hi := hI (.inl rfl)
    clear hA hB hC hI
    repeat' ((try (conv => whnf)); first | (refine br_te ?_ ?_; exact rfl) | (refine br_fe ?_ ?_; exact rfl) | (refine ld_th (t := t) (k := 0) rfl ?_ ?_; omega) | (refine ari ?_ ?_; omega) | (apply ld_o; exact rfl) | (refine new_i (fun bk hbk => ?_)))
    exact ⟨ret1 (vi (by simp only [locP]; simp; omega)), (by first | exact ent_i | (repeat (first | exact Ent.refl | exact Ent.left | refine Ent.cons ?_ | refine Ent.app ?_)))⟩
  by_cases h56 : op = 5 ∨ op = 6
  · have hi := hI (.inr h56)
    have ha : 0 ≤ a ∧ a < 8 := hA (by rcases h56 with rfl | rfl <;> rfl)
    have ha' : a.toNat < 8 := by omega
    clear hA hB hC hI
    have hP : locP t ⟨op, a, b', c, imm⟩ = if (op = 5 ∧ t.rg.get a.toNat = 0) ∨ (op = 6 ∧ t.rg.get a.toNat ≠ 0) then t.pc + 1 + imm.toNat else t.pc + 1 := by unfold locP; simp [h4]
    rw [hP]
    by_cases hz : t.rg.get a.toNat = 0
    all_goals
      rcases h56 with rfl | rfl
      all_goals
        repeat' ((try (conv => whnf)); first | (refine br_te ?_ ?_; exact rfl) | (refine br_fe ?_ ?_; exact rfl) | (apply br_pyE; (exact rfl); omega) | (apply br_pnE; (exact rfl); omega) | (refine ld_th (t := t) (k := 0) rfl ?_ ?_; omega) | (refine ld_reg (t := t) ha' ?_ ?_; omega) | (refine ari ?_ ?_; omega) | (refine ixn ?_ ?_; omega) | (apply ld_o; exact rfl) | (refine new_i (fun bk hbk => ?_)))
        exact ⟨ret1 (vi (by simp [hz]; try omega)), (by first | exact ent_i | (repeat (first | exact Ent.refl | exact Ent.left | refine Ent.cons ?_ | refine Ent.app ?_)))⟩
  · clear hA hB hC hI
    have hP : locP t ⟨op, a, b', c, imm⟩ = t.pc + 1 := by unfold locP; rw [if_neg (by simp only; omega)]
    rw [hP]
    repeat' ((try (conv => whnf)); first | (apply br_pnE; (exact rfl); omega) | (refine ld_th (t := t) (k := 0) rfl ?_ ?_; omega) | (refine ari ?_ ?_; omega) | (apply ld_o; exact rfl) | (refine new_i (fun bk hbk => ?_)))
    exact ⟨ret1 (vi (by omega)), (by first | exact ent_i | (repeat (first | exact Ent.refl | exact Ent.left | refine Ent.cons ?_ | refine Ent.app ?_)))⟩
end
end Go.Proofs.YtkieffpjjfebjaaGreatDoor
namespace Go.Proofs.YtkieffpjjfebjaaGreatDoor
open Go
set_option maxRecDepth 10000
set_option maxHeartbeats 4000000
class FrameC (D own : Own) (r : outParam Own) : Prop where
  h : own.Perm (D ++ r)
section
variable {D A r r' : Own} {e : Nat × (Obj → Prop)}
instance FrameC.self : FrameC D D [] := ⟨by simp⟩
instance FrameC.left [m : FrameC D A r'] : FrameC D (A ++ r) (r' ++ r) := ⟨(m.h.append_right r).trans (by rw [List.append_assoc])⟩
instance FrameC.skip [m : FrameC D r r'] : FrameC D (A ++ r) (A ++ r') := ⟨(m.h.append_left A).trans (by rw [← List.append_assoc, ← List.append_assoc]; exact List.perm_append_comm.append_right r')⟩
instance FrameC.tail [m : FrameC D r r'] : FrameC D (e :: r) (e :: r') := ⟨(m.h.cons e).trans List.perm_middle.symm⟩
instance FrameC.one : FrameC [e] (e :: r) r := ⟨List.Perm.refl _⟩
instance FrameC.head : FrameC D (D ++ r) r := ⟨List.Perm.refl _⟩
end
instance AtC.self {D : Own} : AtC D D (fun X => X) := ⟨by have := At.head (D := D) (r := []); simpa using this⟩
section
variable {P : Program} {W0 : World} {own D r : Own} {k k0 : FuncId} {args args0 : List Value}
theorem call_fr {σ : Type} {R : σ → Value → Prop} {O : σ → Own} {K : Value → Own → Prop} [m : FrameC D own r] (h : Spec P W0 k0 args0 (D ++ r) fun v own' => ∃ s, R s v ∧ Ent W0 own' (O s ++ r)) (ek : k = k0) (ea : args = args0) (hk : ∀ s v, R s v → K v (O s ++ r)) : CallT P W0 own k args K := by
  subst ek; subst ea
  exact ⟨fun w hw => (h w (Ent.of_perm m.h w hw)).mono fun _ _ ⟨_, _, he, hs, s, hR, hE⟩ => ⟨_, O s ++ r, he, hE _ hs, hk s _ hR⟩⟩
theorem call_to {σ : Type} {R : σ → Value → Prop} {O : σ → Own} {own2 : Own} {K : Value → Own → Prop} (h : Spec P W0 k0 args0 own2 fun v own' => ∃ s, R s v ∧ Ent W0 own' (O s)) (he : Ent W0 own own2) (ek : k = k0) (ea : args = args0) (hk : ∀ s v, R s v → K v (O s)) : CallT P W0 own k args K := by
  subst ek; subst ea
  exact ⟨fun w hw => (h w (he w hw)).mono fun _ _ ⟨_, _, he, hs, s, hR, hE⟩ => ⟨_, O s, he, hE _ hs, hk s _ hR⟩⟩
theorem call_or {σ : Type} {Rn : Value → Prop} {On : Own} {R : σ → Value → Prop} {O : σ → Own} {own2 : Own} {K : Value → Own → Prop} (h : Spec P W0 k0 args0 own2 fun v own' => (Rn v ∧ Ent W0 own' On) ∨ ∃ s, R s v ∧ Ent W0 own' (O s)) (he : Ent W0 own own2) (ek : k = k0) (ea : args = args0) (hn : ∀ v, Rn v → K v On) (hk : ∀ s v, R s v → K v (O s)) : CallT P W0 own k args K := by
  subst ek; subst ea
  refine ⟨fun w hw => (h w (he w hw)).mono fun _ _ ⟨_, _, he, hs, h⟩ => ?_⟩
  rcases h with ⟨hR, hE⟩ | ⟨s, hR, hE⟩
  · exact ⟨_, On, he, hE _ hs, hn _ hR⟩
  · exact ⟨_, O s, he, hE _ hs, hk s _ hR⟩
theorem pure_fr {v : Value} [m : FrameC D own r] (h : Pure P W0 k args (D ++ r) v) : Pure P W0 k args own v :=
  fun w hw => (h w (Ent.of_perm m.h w hw)).mono fun _ _ ⟨he, hs⟩ => ⟨he, Ent.of_perm m.h.symm _ hs⟩
end
abbrev Mp := List (Int × Bool)
abbrev mpV (l : Mp) : List (Value × Value) := l.map fun e => (.int .i64 e.1, .bool e.2)
def mpF : Mp → Int → Option Bool
  | [], _ => none
  | e :: l, k => if k = e.1 then some e.2 else mpF l k
def mpU : Mp → Int → Bool → Mp
  | [], k, v => [(k, v)]
  | e :: l, k, v => if k = e.1 then (k, v) :: l else e :: mpU l k v
theorem mp_find (k : Int) : ∀ l : Mp, findM 0 (.int .i64 k) (mpV l) = some ((mpF l k).map Value.bool)
  | [] => rfl
  | e :: l => by
    have ih := mp_find k l
    simp only [mpV, List.map_cons, findM, mpF] at ih ⊢
    by_cases h : k = e.1
    · simp [eqOne, kn, h]
    · simp [eqOne, kn, h]; exact ih
theorem mp_upd (k : Int) (v : Bool) : ∀ l : Mp, updM 0 (.int .i64 k) (.bool v) (mpV l) = mpV (mpU l k v)
  | [] => rfl
  | e :: l => by
    have ih := mp_upd k v l
    simp only [mpV, List.map_cons, updM, mpU] at ih ⊢
    by_cases h : k = e.1
    · simp [eqOne, kn, h]
    · simp [eqOne, kn, h]; exact ih
theorem mp_get (k j : Int) (v : Bool) : ∀ l : Mp, mpF (mpU l k v) j = if j = k then some v else mpF l j
  | [] => by simp [mpU, mpF]
  | e :: l => by
    have ih := mp_get k j v l
    unfold mpU
    by_cases h : k = e.1
    · rw [if_pos h]
      simp only [mpF]
      by_cases hj : j = k
      · rw [if_pos hj, if_pos hj]
      · rw [if_neg hj, if_neg hj, if_neg (by omega)]
    · rw [if_neg h]
      simp only [mpF]
      by_cases hj : j = e.1
      · rw [if_pos hj, if_pos hj, if_neg (by omega)]
      · rw [if_neg hj, if_neg hj]; exact ih
def mpR (l : Mp) (tk : List Bool) : Prop := ∀ k : Nat, (mpF l k).getD false = tk.getD k false
theorem mpR.set {l : Mp} {tk : List Bool} {k : Nat} {v : Bool} (h : mpR l tk) (hk : k < tk.length) : mpR (mpU l k v) (tk.set k v) := fun j => by
  rw [mp_get]
  by_cases hj : j = k
  · subst hj; rw [if_pos rfl]; simp [hk]
  · rw [if_neg (by omega), h j]
    simp [List.getD, Ne.symm hj]
section
variable {W0 : World} {own : Own}
theorem mlk_b {b : Nat} {k : Int} {l : Mp} {v : Bool} {K : Option Value → Prop} [m : MemC b (mapO (mpV l)) own] (hv : (mpF l k).getD false = v) (hy : K (some (.bool v))) (hn : v = false → K none) : MlkT own 0 b (.int .i64 k) K := by
  refine ⟨_, _, m.h, mp_find k l, ?_⟩
  cases h : mpF l k with
  | none => rw [h] at hv; exact hn hv.symm
  | some u => rw [h] at hv; obtain rfl : u = v := hv; exact hy
theorem mup_b {b : Nat} {k : Int} {l : Mp} {v : Bool} {K : Own → Prop} {C : (Obj → Prop) → Own} [m : UpC b (mapO (mpV l)) own C] (h : K (C (mapO (mpV (mpU l k v))))) : MupT own 0 b (.int .i64 k) (.bool v) K := by
  refine ⟨mpV l, _, m.h _, by rw [mp_find]; rfl, ?_⟩
  rw [mp_upd]; exact h
end
abbrev cfL (c : Cfg) (r : List Value) : List Value := .int .i64 c.words :: .int .i64 c.orecs :: .int .i64 c.base :: .int .i64 c.c0 :: .int .i64 c.c1 :: .int .i64 c.c2 :: .int .i64 c.c3 :: .int .i64 c.reads :: .int .i64 c.writes :: .int .i64 c.allocs :: .int .i64 c.frees :: .int .i64 c.clock :: .bool c.strong :: r
structure TxG where
  xb : Nat
  mb : Nat
  ml : Mp
  da : Option Addr
  dc : Nat
  dD : Own
  aa : Option Addr
  ac : Nat
  ra : Option Addr
  rc : Nat
  rD : Own
  wa : Option Addr
  wc : Nat
  wD : Own
  oa : Option Addr
  oc : Nat
  oD : Own
abbrev TxG.pre (g : TxG) (c : Cfg) (b : BM) : List Value := .slice g.da b.d.length g.dc :: .map (some g.mb) :: cfL c []
abbrev TxG.post (g : TxG) (b : BM) (out : Int) : List Value := [.slice g.aa b.ad.length g.ac, .slice g.ra b.r.length g.rc, .slice g.wa b.w.length g.wc, .slice g.oa b.o.length g.oc, .int .i64 out]
abbrev TxG.O (g : TxG) (c : Cfg) (b : BM) (out : Int) : Own := thB g.xb 158 (g.pre c b) (g.post b out) b.t :: (g.dD ++ ((g.mb, mapO (mpV g.ml)) :: (g.rD ++ (g.wD ++ g.oD))))
structure TxG.ok (g : TxG) (W0 : World) (K : Own) (b : BM) : Prop where
  d : BufE encU 58 1 g.da g.dc b.d g.dD
  m : mpR g.ml b.tk
  a : RdE encI 1 W0 K g.aa b.ad
  al : b.ad.length ≤ g.ac
  r : BufE encI 3 1 g.ra g.rc b.r g.rD
  w : BufE encI 3 1 g.wa g.wc b.w g.wD
  o : BufE ObM.enc 127 3 g.oa g.oc b.o g.oD
section
variable {W0 : World} {K : Own} {g : TxG} {c : Cfg} {b : BM} {out : Int}
theorem sp_got (h : g.ok W0 K b) (hl : b.o.length ≤ 1000000) {r : Int} (hr : 0 ≤ r ∧ r < 8) (k v : Int) (q : Own) :
    Spec Tryz.prog W0 176 [.pointer (some ⟨g.xb, 0, none⟩), .int .i64 r, .int .i64 k, .int .u64 v] (g.O c b out ++ q) fun _ own' => ∃ g' : TxG,
      (g'.ok W0 K { b with t := { b.t with rg := b.t.rg.set r.toNat v }, o := b.o ++ [⟨b.t.pc, k, v⟩] } ∧ g'.xb = g.xb) ∧ Ent W0 own' (g'.O c { b with t := { b.t with rg := b.t.rg.set r.toNat v }, o := b.o ++ [⟨b.t.pc, k, v⟩] } out ++ q) := by
  refine spec_of mixed low_sgl_transaction_got (by simp [ir_sgl_transaction_got]) ?_
  have hO := h.o
  have hr' : r.toNat < 8 := by omega
  repeat' ((try (conv => whnf)); first | (refine st_reg (t := b.t) (pre := g.pre c b) (post := g.post b out) hr' ?_ ?_; (simp; omega)) | (apply app_i (enc := ObM.enc) (T := 127) ⟨b.t.pc, k, v⟩ hO; (exact rfl); (exact rfl); (omega); (exact rfl); (exact rfl); (omega); intro a1 c1 D1 hb1) | (refine ixn ?_ ?_; omega) | (apply ld_o; exact rfl) | (apply st_o; (exact rfl); exact rfl) | (refine new_i (fun bk hbk => ?_)))
  refine ⟨{ g with oa := a1, oc := c1, oD := D1 }, ⟨⟨h.d, h.m, h.a, h.al, h.r, h.w, hb1⟩, rfl⟩, ?_⟩
  dsimp only [TxG.O, TxG.pre, TxG.post]
  simp only [List.length_append, List.length_cons, List.length_nil, Nat.zero_add]
  exact (by first | exact ent_i | (repeat (first | exact Ent.refl | exact Ent.left | refine Ent.cons ?_ | refine Ent.app ?_)))
theorem sp_write (h : g.ok W0 K b) {a : Nat} (ha : a < b.d.length) (hl : b.w.length ≤ 1000000) (v : Int) (q : Own) :
    Spec Tryz.prog W0 175 [.pointer (some ⟨g.xb, 0, none⟩), .int .i64 a, .int .u64 v] (g.O c b out ++ q) fun _ own' => ∃ g' : TxG,
      (g'.ok W0 K (wrM b a v) ∧ g'.xb = g.xb) ∧ Ent W0 own' (g'.O c (wrM b a v) out ++ q) := by
  refine spec_of mixed low_sgl_transaction_write (by simp [ir_sgl_transaction_write]) ?_
  have hD := h.d
  have hDR := hD.rd (W0 := W0)
  have hW := h.w
  obtain ⟨x, hx⟩ : ∃ x, b.d[a]? = some x := ⟨_, List.getElem?_eq_getElem ha⟩
  have hc := fun (own' : Own) [EntC own' g.wD] => sp_contains_int (own := own') (cap := g.wc) ((hW.rd (W0 := W0)).up) (by omega) a
  by_cases hm : (a : Int) ∈ b.w
  · repeat' ((try (conv => whnf)); first | (apply br_npyE; (exact rfl); omega) | (apply stE_i (enc := encU) (T := 58) (j := a) (k := 0) v hD hx; (exact rfl); (omega); (exact rfl); (exact rfl); intro D1 hb1) | ((with_reducible show IxS _ _ _ _ _); first | ((refine ixE hDR hx ?_ ?_; (first | rfl | omega)))) | ((with_reducible show CallT _ _ _ _ _ _); first | ((refine call_pe (hc _) ?_ ?_ ?_; (exact rfl); exact rfl))) | (apply ld_o; exact rfl))
    refine ⟨{ g with dD := D1 }, ⟨⟨hb1, h.m, h.a, h.al, h.r, ?_, h.o⟩, rfl⟩, ?_⟩
    · show BufE _ _ _ _ _ (addI b.w a) _
      rw [addI, if_pos hm]; exact hW
    · dsimp only [TxG.O, TxG.pre, TxG.post, wrM]
      rw [addI, if_pos hm, List.length_set]
      exact (by first | exact ent_i | (repeat (first | exact Ent.refl | exact Ent.left | refine Ent.cons ?_ | refine Ent.app ?_)))
  · repeat' ((try (conv => whnf)); first | (apply br_npnE; (exact rfl); omega) | (apply stE_i (enc := encU) (T := 58) (j := a) (k := 0) v hD hx; (exact rfl); (omega); (exact rfl); (exact rfl); intro D1 hb1) | (apply app_i (enc := encI) (T := 3) (a : Int) hW; (exact rfl); (exact rfl); (omega); (exact rfl); (exact rfl); (omega); intro a2 c2 D2 hb2) | ((with_reducible show IxS _ _ _ _ _); first | ((refine ixE hDR hx ?_ ?_; (first | rfl | omega)))) | ((with_reducible show CallT _ _ _ _ _ _); first | ((refine call_pe (hc _) ?_ ?_ ?_; (exact rfl); exact rfl))) | (apply ld_o; exact rfl) | (apply st_o; (exact rfl); exact rfl) | (refine new_i (fun bk hbk => ?_)))
    refine ⟨{ g with dD := D1, wa := a2, wc := c2, wD := D2 }, ⟨⟨hb1, h.m, h.a, h.al, h.r, ?_, h.o⟩, rfl⟩, ?_⟩
    · show BufE _ _ _ _ _ (addI b.w a) _
      rw [addI, if_neg hm]; exact hb2
    · dsimp only [TxG.O, TxG.pre, TxG.post, wrM]
      rw [addI, if_neg hm, List.length_set]
      simp only [List.length_append, List.length_cons, List.length_nil, Nat.zero_add]
      exact (by first | exact ent_i | (repeat (first | exact Ent.refl | exact Ent.left | refine Ent.cons ?_ | refine Ent.app ?_)))
end
end Go.Proofs.YtkieffpjjfebjaaGreatDoor
namespace Go.Proofs.YtkieffpjjfebjaaGreatDoor
open Go
set_option maxRecDepth 10000
set_option maxHeartbeats 4000000
theorem findG_ok {c : Cfg} {a : Int} : ∀ (n : Nat) (k : Int), 0 ≤ k → k + n ≤ blocksM c → findG c a n k = -1 ∨ (k ≤ findG c a n k ∧ findG c a n k < k + n ∧ firstM c (findG c a n k) = a)
  | 0, _, _, _ => .inl rfl
  | n + 1, k, h0, h1 => by
    unfold findG
    split
    · exact .inr ⟨Int.le_refl _, by omega, by assumption⟩
    · rcases findG_ok (c := c) (a := a) n (k + 1) (by omega) (by omega) with h | ⟨h2, h3, h4⟩
      · exact .inl h
      · exact .inr ⟨by omega, by omega, h4⟩
theorem lfind_ok (c : Cfg) (a : Int) : lfindM c a = -1 ∨ (0 ≤ lfindM c a ∧ lfindM c a < blocksM c ∧ firstM c (lfindM c a) = a) := by
  have hb := blocks_bd c
  rcases findG_ok (c := c) (a := a) (blocksM c).toNat 0 (by omega) (by omega) with h | ⟨h1, h2, h3⟩
  · exact .inl h
  · exact .inr ⟨h1, by unfold lfindM; omega, h3⟩
theorem block_room {c : Cfg} {k : Int} (h0 : 0 ≤ k) (h : k < blocksM c) : 0 ≤ firstM c k ∧ firstM c k + 2 ^ (classM c k).toNat ≤ c.words := by
  have hp := blocks_pos h0 h
  have hb := check_bd hp.1
  have hk := check_ok hp.1
  obtain ⟨-, hH, -, -⟩ := hk
  unfold okH okC nB nW at hH
  simp only [firstM, classM, hp.1, h0, and_self, if_true]
  by_cases h1 : k < c.c0
  · simp only [h1, if_true]
    refine ⟨by omega, ?_⟩
    have : ((2 : Int) ^ (0 : Int).toNat) = 1 := rfl
    omega
  · by_cases h2 : k < c.c0 + c.c1
    · simp only [h1, h2, if_true, if_false]
      refine ⟨by omega, ?_⟩
      have : ((2 : Int) ^ (1 : Int).toNat) = 2 := rfl
      omega
    · by_cases h3 : k < c.c0 + c.c1 + c.c2
      · simp only [h1, h2, h3, if_true, if_false]
        refine ⟨by omega, ?_⟩
        have : ((2 : Int) ^ (2 : Int).toNat) = 4 := rfl
        omega
      · have h4 : k < c.c0 + c.c1 + c.c2 + c.c3 := by omega
        simp only [h1, h2, h3, h4, if_true, if_false]
        refine ⟨by omega, ?_⟩
        have : ((2 : Int) ^ (3 : Int).toNat) = 8 := rfl
        omega
theorem adr_ok {r : Rg} {b imm : Int} : okU (adr r b imm) := wrapu_ok _
section
variable {W0 : World} {b o : Nat} {T : TypeId} {pre post : List Value} {t : Thr}
theorem sp_address {x : Ins} (hx : icheck x = 0) (hop : x.op = 10 ∨ x.op = 11 ∨ x.op = 12 ∨ x.op = 13) (ho : o = pre.length) (r : Own) :
    Pure Tryz.prog W0 125 [.pointer (some ⟨b, o, none⟩), x.v] ([thB b T pre post t] ++ r) (.int .u64 (adr t.rg (if x.op = 12 ∨ x.op = 10 then x.b else x.a) x.imm)) := by
  refine pure_of (spec_of mixed low_sgl_address (by simp [ir_sgl_address]) ?_)
  subst ho
  obtain ⟨h0, hA, hB, -⟩ := ic_regs hx
  clear hx
  obtain ⟨op, a, b', c, imm⟩ := x
  dsimp only [Ins.v] at *
  have ha := hA (by rcases hop with rfl | rfl | rfl | rfl <;> rfl)
  have hb := hB (by rcases hop with rfl | rfl | rfl | rfl <;> rfl)
  have ha' : a.toNat < 8 := by omega
  have hb' : b'.toNat < 8 := by omega
  clear hA hB
  rcases hop with rfl | rfl | rfl | rfl
  all_goals
    repeat' ((try (conv => whnf)); first | (refine when_ye ?_ ?_; exact rfl) | (refine when_ne ?_ ?_; exact rfl) | (refine br_te ?_ ?_; exact rfl) | (refine br_fe ?_ ?_; exact rfl) | (refine ld_reg (t := t) ha' ?_ ?_; omega) | (refine ld_reg (t := t) hb' ?_ ?_; omega) | (refine arw (k := .u64) ?_) | (refine ixn ?_ ?_; omega) | (apply ld_o; exact rfl) | (refine new_i (fun bk hbk => ?_)))
    exact ⟨rfl, (by first | exact ent_i | (repeat (first | exact Ent.refl | exact Ent.left | refine Ent.cons ?_ | refine Ent.app ?_)))⟩
end
section
variable {W0 : World} {K : Own} {g : TxG} {c : Cfg} {b : BM}
theorem sp_free (h : g.ok W0 K b) {x : Ins} (hx : icheck x = 0) (hop : x.op = 15) (htk : b.tk.length = (blocksM c).toNat) (q : Own) :
    Spec Tryz.prog W0 148 [.pointer (some ⟨g.xb, 0, none⟩), x.v] (g.O c b 0 ++ q) fun _ own' => ∃ g' : TxG,
      (g'.ok W0 K { (stpM c b x).1 with t := b.t } ∧ g'.xb = g.xb) ∧ Ent W0 own' (g'.O c { (stpM c b x).1 with t := b.t } (stpM c b x).2 ++ q) := by
  refine spec_of mixed low_sgl_transaction_free (by simp [ir_sgl_transaction_free]) ?_
  obtain ⟨h0, hA, -⟩ := ic_regs hx
  clear hx
  obtain ⟨op, a, b', c', imm⟩ := x
  dsimp only [Ins.v] at *
  subst hop
  have ha := hA rfl
  have ha' : a.toNat < 8 := by omega
  clear hA
  have hfd := fun own => sp_find W0 own c (b.t.rg.get a.toNat)
  have hlf := lfind_ok c (b.t.rg.get a.toNat)
  have hst : stpM c b ⟨15, a, b', c', imm⟩ = if lfindM c (b.t.rg.get a.toNat) < 0 ∨ b.tk.getD (lfindM c (b.t.rg.get a.toNat)).toNat false = false then (b.go, 8) else ({ b with tk := b.tk.set (lfindM c (b.t.rg.get a.toNat)).toNat false }.go, 0) := rfl
  rw [hst]
  clear hst
  generalize lfindM c (b.t.rg.get a.toNat) = k at *
  by_cases hk : k < 0
  · rw [if_pos (.inl hk)]
    repeat' ((try (conv => whnf)); first | (refine when_ne ?_ ?_; exact rfl) | (refine br_te ?_ ?_; exact rfl) | (apply when_pyE; (exact rfl); omega) | (refine ld_reg (t := b.t) (pre := g.pre c b) (post := g.post b 0) ha' ?_ ?_; (simp; omega)) | ((with_reducible show CallQ _ _ _ _ _ _); first | ((refine call_qq (fun _ => hfd _) ?_ ?_ ?_; (exact rfl); exact rfl))) | (refine ixn ?_ ?_; omega) | (apply ld_o; exact rfl) | (apply ldN_o; (exact rfl); exact rfl) | (apply st_o; (exact rfl); exact rfl) | (refine new_i (fun bk hbk => ?_)))
    exact ⟨g, ⟨⟨h.d, h.m, h.a, h.al, h.r, h.w, h.o⟩, rfl⟩, (by first | exact ent_i | (repeat (first | exact Ent.refl | exact Ent.left | refine Ent.cons ?_ | refine Ent.app ?_)))⟩
  · obtain ⟨j, rfl⟩ := Int.eq_ofNat_of_zero_le (by omega : 0 ≤ k)
    have hj : j < b.tk.length := by omega
    have hm := h.m j
    rw [Int.toNat_natCast]
    cases hv : b.tk.getD j false with
    | false =>
      rw [hv] at hm
      rw [if_pos (.inr rfl)]
      repeat' ((try (conv => whnf)); first | (refine when_ye ?_ ?_; exact rfl) | (refine br_te ?_ ?_; exact rfl) | (refine ld_reg (t := b.t) (pre := g.pre c b) (post := g.post b 0) ha' ?_ ?_; (simp; omega)) | (refine mlk_b hm ?_ ?_) | (intro _) | ((with_reducible show CallQ _ _ _ _ _ _); first | ((refine call_qq (fun _ => hfd _) ?_ ?_ ?_; (exact rfl); exact rfl))) | (refine ixn ?_ ?_; omega) | (apply ld_o; exact rfl) | (apply ldN_o; (exact rfl); exact rfl) | (apply st_o; (exact rfl); exact rfl) | (refine new_i (fun bk hbk => ?_)))
      all_goals exact ⟨g, ⟨⟨h.d, h.m, h.a, h.al, h.r, h.w, h.o⟩, rfl⟩, (by first | exact ent_i | (repeat (first | exact Ent.refl | exact Ent.left | refine Ent.cons ?_ | refine Ent.app ?_)))⟩
    | true =>
      rw [hv] at hm
      rw [if_neg (by simp)]
      repeat' ((try (conv => whnf)); first | (refine when_ye ?_ ?_; exact rfl) | (refine br_fe ?_ ?_; exact rfl) | (refine ld_reg (t := b.t) (pre := g.pre c b) (post := g.post b 0) ha' ?_ ?_; (simp; omega)) | (refine mlk_b hm ?_ (fun e => by cases e)) | (refine mup_b ?_) | ((with_reducible show CallQ _ _ _ _ _ _); first | ((refine call_qq (fun _ => hfd _) ?_ ?_ ?_; (exact rfl); exact rfl))) | (refine ixn ?_ ?_; omega) | (apply ld_o; exact rfl) | (apply ldN_o; (exact rfl); exact rfl) | (refine new_i (fun bk hbk => ?_)))
      exact ⟨{ g with ml := mpU g.ml j false }, ⟨⟨h.d, h.m.set hj, h.a, h.al, h.r, h.w, h.o⟩, rfl⟩, (by first | exact ent_i | (repeat (first | exact Ent.refl | exact Ent.left | refine Ent.cons ?_ | refine Ent.app ?_)))⟩
theorem sp_xaccess (h : g.ok W0 K b) (hc : checkM c = 0) {x : Ins} (hx : icheck x = 0) (hop : x.op = 10 ∨ x.op = 11) (hd : (b.d.length : Int) = c.words) (hr : b.r.length ≤ 1000000) (hw : b.w.length ≤ 1000000) (ho : b.o.length ≤ 1000000) (q : Own) :
    Spec Tryz.prog W0 146 [.pointer (some ⟨g.xb, 0, none⟩), x.v] (g.O c b 0 ++ q) fun _ own' => ∃ g' : TxG,
      (g'.ok W0 K { (stpM c b x).1 with t := { (stpM c b x).1.t with pc := b.t.pc } } ∧ g'.xb = g.xb) ∧ Ent W0 own' (g'.O c { (stpM c b x).1 with t := { (stpM c b x).1.t with pc := b.t.pc } } (stpM c b x).2 ++ q) := by
  refine spec_of mixed low_sgl_transaction_access (by simp [ir_sgl_transaction_access]) ?_
  have had := fun q => sp_address (W0 := W0) (b := g.xb) (T := 158) (pre := g.pre c b) (post := g.post b 0) (t := b.t) (o := 15) hx (by omega) rfl q
  have hwd := (check_ok hc).1
  unfold okW at hwd
  obtain ⟨h0, hA, hB, -⟩ := ic_regs hx
  clear hx
  have hao := adr_ok (r := b.t.rg) (b := if x.op = 12 ∨ x.op = 10 then x.b else x.a) (imm := x.imm)
  obtain ⟨op, a, b', c', imm⟩ := x
  dsimp only [Ins.v] at *
  have ha := hA (by rcases hop with rfl | rfl <;> rfl)
  have hb := hB (by rcases hop with rfl | rfl <;> rfl)
  have ha' : a.toNat < 8 := by omega
  have hb' : b'.toNat < 8 := by omega
  clear hA hB
  have hDR := h.d.rd (W0 := W0)
  rcases hop with rfl | rfl
  · rw [if_pos (.inr rfl)] at had hao
    have hst : stpM c b ⟨10, a, b', c', imm⟩ = if c.words ≤ adr b.t.rg b' imm then (b.go, 7) else ((rdM b (adr b.t.rg b' imm).toNat).put a 1 (b.d.getD (adr b.t.rg b' imm).toNat 0), 0) := rfl
    rw [hst]
    clear hst
    generalize adr b.t.rg b' imm = z at *
    by_cases hz : c.words ≤ z
    · rw [if_pos hz]
      repeat' ((try (conv => whnf)); first | (apply br_pyE; (exact rfl); omega) | ((with_reducible show CallQ _ _ _ _ _ _); first | ((refine call_qi (fun ex => pure_fr (had _)) ?_ ?_ ?_; (exact rfl); (exact rfl)))) | (refine aru ?_ ?_; omega) | (apply ld_o; exact rfl) | (apply ldN_a; exact rfl) | (apply st_o; (exact rfl); exact rfl) | (refine new_i (fun bk hbk => ?_)))
      exact ⟨g, ⟨⟨h.d, h.m, h.a, h.al, h.r, h.w, h.o⟩, rfl⟩, (by first | exact ent_i | (repeat (first | exact Ent.refl | exact Ent.left | refine Ent.cons ?_ | refine Ent.app ?_)))⟩
    · rw [if_neg hz]
      obtain ⟨j, rfl⟩ := Int.eq_ofNat_of_zero_le hao.1
      have hj : j < b.d.length := by omega
      obtain ⟨y, hy⟩ : ∃ y, b.d[j]? = some y := ⟨_, List.getElem?_eq_getElem hj⟩
      have hcw := fun (own' : Own) [EntC own' g.wD] => sp_contains_int (own := own') (cap := g.wc) ((h.w.rd (W0 := W0)).up) (by omega) j
      have hcr := fun (own' : Own) [EntC own' g.rD] => sp_contains_int (own := own') (cap := g.rc) ((h.r.rd (W0 := W0)).up) (by omega) j
      have hR := h.r
      have hgd : b.d.getD j 0 = y := by simp [List.getD, hy]
      rw [Int.toNat_natCast, hgd]
      by_cases hm : (j : Int) ∈ b.w
      · have hr1 : rdM b j = b := by unfold rdM; rw [if_pos (.inl hm)]
        rw [hr1]
        have hgot := sp_got (out := 0) (c := c) h ho ha 1 y q
        repeat' ((try (conv => whnf)); first | (refine when_ne ?_ ?_; exact rfl) | (refine br_fe ?_ ?_; exact rfl) | (apply br_pnE; (exact rfl); omega) | (apply when_npyE; (exact rfl); omega) | (refine ari ?_ ?_; omega) | ((with_reducible show Ld _ _ _ _); first | (refine ldE0 hDR hy rfl ?_)) | ((with_reducible show IxS _ _ _ _ _); first | ((refine ixE hDR hy ?_ ?_; (first | rfl | omega)))) | ((with_reducible show CallT _ _ _ _ _ _); first | ((refine call_pe (hcw _) ?_ ?_ ?_; (exact rfl); exact rfl)) | ((refine call_to hgot ?_ ?_ ?_ (fun s v hv => ?_); (exact (by first | exact ent_i | (repeat (first | exact Ent.refl | exact Ent.left | refine Ent.cons ?_ | refine Ent.app ?_)))); (exact rfl); (exact rfl)))) | ((with_reducible show CallQ _ _ _ _ _ _); first | ((refine call_qi (fun ex => pure_fr (had _)) ?_ ?_ ?_; (exact rfl); (exact rfl)))) | (refine aru ?_ ?_; omega) | (apply ld_o; exact rfl) | (apply ldN_a; exact rfl) | (refine new_i (fun bk hbk => ?_)))
        exact ⟨s, hv, Ent.refl⟩
      · by_cases hm2 : (j : Int) ∈ b.r
        · have hr1 : rdM b j = b := by unfold rdM; rw [if_pos (.inr hm2)]
          rw [hr1]
          have hgot := sp_got (out := 0) (c := c) h ho ha 1 y q
          repeat' ((try (conv => whnf)); first | (refine when_ye ?_ ?_; exact rfl) | (refine br_fe ?_ ?_; exact rfl) | (apply br_pnE; (exact rfl); omega) | (apply br_npyE; (exact rfl); omega) | (apply when_npnE; (exact rfl); omega) | (refine ari ?_ ?_; omega) | ((with_reducible show Ld _ _ _ _); first | (refine ldE0 hDR hy rfl ?_)) | ((with_reducible show IxS _ _ _ _ _); first | ((refine ixE hDR hy ?_ ?_; (first | rfl | omega)))) | ((with_reducible show CallT _ _ _ _ _ _); first | ((refine call_pe (hcw _) ?_ ?_ ?_; (exact rfl); exact rfl)) | ((refine call_pe (hcr _) ?_ ?_ ?_; (exact rfl); exact rfl)) | ((refine call_to hgot ?_ ?_ ?_ (fun s v hv => ?_); (exact (by first | exact ent_i | (repeat (first | exact Ent.refl | exact Ent.left | refine Ent.cons ?_ | refine Ent.app ?_)))); (exact rfl); (exact rfl)))) | ((with_reducible show CallQ _ _ _ _ _ _); first | ((refine call_qi (fun ex => pure_fr (had _)) ?_ ?_ ?_; (exact rfl); (exact rfl)))) | (refine aru ?_ ?_; omega) | (apply ld_o; exact rfl) | (apply ldN_a; exact rfl) | (refine new_i (fun bk hbk => ?_)))
          exact ⟨s, hv, Ent.refl⟩
        · have hr1 : rdM b j = { b with r := b.r ++ [(j : Int)] } := by unfold rdM; rw [if_neg (fun h => h.elim hm hm2)]
          rw [hr1]
          repeat' ((try (conv => whnf)); first | (refine when_ye ?_ ?_; exact rfl) | (refine br_fe ?_ ?_; exact rfl) | (apply br_pnE; (exact rfl); omega) | (apply br_npnE; (exact rfl); omega) | (apply when_npnE; (exact rfl); omega) | (refine ari ?_ ?_; omega) | (apply app_i (enc := encI) (T := 3) (j : Int) hR; (exact rfl); (exact rfl); (omega); (exact rfl); (exact rfl); (omega); intro a2 c2 D2 hb2) | ((with_reducible show Ld _ _ _ _); first | (refine ldE0 hDR hy rfl ?_)) | ((with_reducible show IxS _ _ _ _ _); first | ((refine ixE hDR hy ?_ ?_; (first | rfl | omega)))) | ((with_reducible show CallT _ _ _ _ _ _); first | ((refine call_pe (hcw _) ?_ ?_ ?_; (exact rfl); exact rfl)) | ((refine call_pe (hcr _) ?_ ?_ ?_; (exact rfl); exact rfl)) | ((refine call_to (sp_got (out := 0) (c := c) (g := { g with ra := a2, rc := c2, rD := D2 }) (b := { b with r := b.r ++ [(j : Int)] }) ⟨h.d, h.m, h.a, h.al, hb2, h.w, h.o⟩ ho ha 1 y q) ?_ ?_ ?_ (fun s v hv => ?_); (dsimp only [TxG.O, TxG.pre, TxG.post]; simp only [List.length_append, List.length_cons, List.length_nil, Nat.zero_add]; exact (by first | exact ent_i | (repeat (first | exact Ent.refl | exact Ent.left | refine Ent.cons ?_ | refine Ent.app ?_)))); (exact rfl); (exact rfl)))) | ((with_reducible show CallQ _ _ _ _ _ _); first | ((refine call_qi (fun ex => pure_fr (had _)) ?_ ?_ ?_; (exact rfl); (exact rfl)))) | (refine aru ?_ ?_; omega) | (apply ld_o; exact rfl) | (apply ldN_a; exact rfl) | (apply st_o; (exact rfl); exact rfl) | (refine new_i (fun bk hbk => ?_)))
          exact ⟨s, hv, Ent.refl⟩
  · rw [if_neg (by omega)] at had hao
    have hst : stpM c b ⟨11, a, b', c', imm⟩ = if c.words ≤ adr b.t.rg a imm then (b.go, 7) else ((wrM b (adr b.t.rg a imm).toNat (b.t.rg.get b'.toNat)).go, 0) := rfl
    rw [hst]
    clear hst
    generalize adr b.t.rg a imm = z at *
    by_cases hz : c.words ≤ z
    · rw [if_pos hz]
      repeat' ((try (conv => whnf)); first | (apply br_pyE; (exact rfl); omega) | ((with_reducible show CallQ _ _ _ _ _ _); first | ((refine call_qi (fun ex => pure_fr (had _)) ?_ ?_ ?_; (exact rfl); (exact rfl)))) | (refine aru ?_ ?_; omega) | (apply ld_o; exact rfl) | (apply ldN_a; exact rfl) | (apply st_o; (exact rfl); exact rfl) | (refine new_i (fun bk hbk => ?_)))
      exact ⟨g, ⟨⟨h.d, h.m, h.a, h.al, h.r, h.w, h.o⟩, rfl⟩, (by first | exact ent_i | (repeat (first | exact Ent.refl | exact Ent.left | refine Ent.cons ?_ | refine Ent.app ?_)))⟩
    · rw [if_neg hz]
      obtain ⟨j, rfl⟩ := Int.eq_ofNat_of_zero_le hao.1
      have hj : j < b.d.length := by omega
      have hwr := sp_write (out := 0) (c := c) h hj hw (b.t.rg.get b'.toNat) q
      rw [Int.toNat_natCast]
      repeat' ((try (conv => whnf)); first | (refine br_te ?_ ?_; exact rfl) | (apply br_pnE; (exact rfl); omega) | (refine ari ?_ ?_; omega) | (refine ld_reg (t := b.t) (pre := g.pre c b) (post := g.post b 0) hb' ?_ ?_; (simp; omega)) | ((with_reducible show CallT _ _ _ _ _ _); first | ((refine call_to hwr ?_ ?_ ?_ (fun s v hv => ?_); (exact (by first | exact ent_i | (repeat (first | exact Ent.refl | exact Ent.left | refine Ent.cons ?_ | refine Ent.app ?_)))); (exact rfl); (exact rfl)))) | ((with_reducible show CallQ _ _ _ _ _ _); first | ((refine call_qi (fun ex => pure_fr (had _)) ?_ ?_ ?_; (exact rfl); (exact rfl)))) | (refine aru ?_ ?_; omega) | (refine ixn ?_ ?_; omega) | (apply ld_o; exact rfl) | (apply ldN_a; exact rfl) | (refine new_i (fun bk hbk => ?_)))
      exact ⟨s, hv, Ent.refl⟩
end
end Go.Proofs.YtkieffpjjfebjaaGreatDoor
