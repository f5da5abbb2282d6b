/- What the laws share, part 19. No condition. -/
import Derived.Laws.FloatBits
import Derived.Test.YtllddgdmmfmpkaaGreatDoorY18
namespace Go.Proofs.YtllddgdmmfmpkaaGreatDoor
open Go
set_option maxRecDepth 10000
theorem wrapu_ok (e : Int) : okU (wrapu e) := by
  unfold wrapu IntKind.wrap
  have h3 : ((2 : Int) ^ IntKind.u64.bits) = 18446744073709551616 := rfl
  simp only [h3, IntKind.signed, Bool.false_and, Bool.false_eq_true, if_false, okU]
  omega
theorem wrapu_id {e : Int} (h : okU e) : wrapu e = e := wrap_u64 h.1 h.2
def Rg.ok (r : Rg) : Prop := ∀ k, okU (r.get k)
end Go.Proofs.YtllddgdmmfmpkaaGreatDoor
namespace Go.Proofs.YtllddgdmmfmpkaaGreatDoor
open Go
abbrev encU (n : Int) : List Value := [.int .u64 n]
set_option maxRecDepth 10000
set_option maxHeartbeats 4000000
section
variable {P : Program} {W0 : World} {own D : Own} {C : Own → Own} {k k0 : FuncId} {args args0 : List Value}
theorem spec_un {R : Value → Prop} {O : Own} (h : Spec P W0 k args own fun v own' => R v ∧ Ent W0 own' O) : Spec P W0 k args own fun v own' => ∃ _ : Unit, R v ∧ Ent W0 own' O := fun w hw =>
  (h w hw).mono fun _ _ ⟨v, o, a, b, c, d⟩ => ⟨v, o, a, b, (), c, d⟩
end
section
variable {W0 : World} {own : Own}
theorem sp_clone_uint64 {a : Option Addr} {l : List Int} {cap : Nat} (hR : RdE encU 1 W0 own a l) (hl : l.length ≤ 1000000000) :
    Spec Tryz.prog W0 24 [.slice a l.length cap] own fun v own' => ∃ s : Option Addr × Nat × Own, (v = .slice s.1 l.length s.2.1 ∧ BufE encU 33 1 s.1 s.2.1 l s.2.2) ∧ Ent W0 own' (s.2.2 ++ own) := by
  refine spec_of mixed low_slices_Clone_uint64 (by simp [ir_slices_Clone_uint64]) ?_
  cases a with
  | none =>
    have hn : l = [] := by
      by_cases h : l = []
      · exact h
      · have := hR.isS h; cases this
    subst hn
    repeat' ((try (conv => whnf)); first | (refine br_te ?_ ?_; exact rfl))
    exact ⟨(none, 0, []), ⟨rfl, BufE.nil⟩, (by first | exact ent_i | (repeat (first | exact Ent.refl | exact Ent.left | refine Ent.cons ?_ | refine Ent.app ?_)))⟩
  | some a =>
    repeat' ((try (conv => whnf)); first | (refine br_fe ?_ ?_; exact rfl) | (refine app_c (enc := encU) (l := []) (l2 := l) BufE.nil (At.head (D := []) (r := _)) hR.up rfl rfl (by omega) (fun _ _ => rfl) (fun _ => by simp; omega) (fun a1 c1 D1 hB1 => ?_); (rw [List.length_nil, Nat.zero_add l.length]); (apply Stop.h)) | (refine new_i (fun bk hbk => ?_)))
    refine Stop.mk ?_
    rw [List.nil_append] at hB1
    skip
    exact ⟨(a1, c1, D1), ⟨rfl, hB1⟩, Ent.of_sub ((List.sublist_cons_self _ own).append_left D1)⟩
theorem sp_clone_int {a : Option Addr} {l : List Int} {cap : Nat} (hR : RdE encI 1 W0 own a l) (hl : l.length ≤ 1000000000) :
    Spec Tryz.prog W0 19 [.slice a l.length cap] own fun v own' => ∃ s : Option Addr × Nat × Own, (v = .slice s.1 l.length s.2.1 ∧ BufE encI 3 1 s.1 s.2.1 l s.2.2) ∧ Ent W0 own' (s.2.2 ++ own) := by
  refine spec_of mixed low_slices_Clone_int (by simp [ir_slices_Clone_int]) ?_
  cases a with
  | none =>
    have hn : l = [] := by
      by_cases h : l = []
      · exact h
      · have := hR.isS h; cases this
    subst hn
    repeat' ((try (conv => whnf)); first | (refine br_te ?_ ?_; exact rfl))
    exact ⟨(none, 0, []), ⟨rfl, BufE.nil⟩, (by first | exact ent_i | (repeat (first | exact Ent.refl | exact Ent.left | refine Ent.cons ?_ | refine Ent.app ?_)))⟩
  | some a =>
    repeat' ((try (conv => whnf)); first | (refine br_fe ?_ ?_; exact rfl) | (refine app_c (enc := encI) (l := []) (l2 := l) BufE.nil (At.head (D := []) (r := _)) hR.up rfl rfl (by omega) (fun _ _ => rfl) (fun _ => by simp; omega) (fun a1 c1 D1 hB1 => ?_); (rw [List.length_nil, Nat.zero_add l.length]); (apply Stop.h)) | (refine new_i (fun bk hbk => ?_)))
    refine Stop.mk ?_
    rw [List.nil_append] at hB1
    skip
    exact ⟨(a1, c1, D1), ⟨rfl, hB1⟩, Ent.of_sub ((List.sublist_cons_self _ own).append_left D1)⟩
theorem sp_clone_Obs {a : Option Addr} {l : List ObM} {cap : Nat} (hR : RdE ObM.enc 3 W0 own a l) (hl : l.length ≤ 1000000000) :
    Spec Tryz.prog W0 33 [.slice a l.length cap] own fun v own' => ∃ s : Option Addr × Nat × Own, (v = .slice s.1 l.length s.2.1 ∧ BufE ObM.enc 54 3 s.1 s.2.1 l s.2.2) ∧ Ent W0 own' (s.2.2 ++ own) := by
  refine spec_of mixed low_slices_Clone_Obs (by simp [ir_slices_Clone_Obs]) ?_
  cases a with
  | none =>
    have hn : l = [] := by
      by_cases h : l = []
      · exact h
      · have := hR.isS h; cases this
    subst hn
    repeat' ((try (conv => whnf)); first | (refine br_te ?_ ?_; exact rfl))
    exact ⟨(none, 0, []), ⟨rfl, BufE.nil⟩, (by first | exact ent_i | (repeat (first | exact Ent.refl | exact Ent.left | refine Ent.cons ?_ | refine Ent.app ?_)))⟩
  | some a =>
    repeat' ((try (conv => whnf)); first | (refine br_fe ?_ ?_; exact rfl) | (refine app_c (enc := ObM.enc) (l := []) (l2 := l) BufE.nil (At.head (D := []) (r := _)) hR.up rfl rfl (by omega) (fun _ _ => rfl) (fun _ => by simp; omega) (fun a1 c1 D1 hB1 => ?_); (rw [List.length_nil, Nat.zero_add l.length]); (apply Stop.h)) | (refine new_i (fun bk hbk => ?_)))
    refine Stop.mk ?_
    rw [List.nil_append] at hB1
    skip
    exact ⟨(a1, c1, D1), ⟨rfl, hB1⟩, Ent.of_sub ((List.sublist_cons_self _ own).append_left D1)⟩
theorem sp_clone_Instr {a : Option Addr} {l : List Ins} {cap : Nat} (hR : RdE Ins.enc 5 W0 own a l) (hl : l.length ≤ 1000000000) :
    Spec Tryz.prog W0 25 [.slice a l.length cap] own fun v own' => ∃ s : Option Addr × Nat × Own, (v = .slice s.1 l.length s.2.1 ∧ BufE Ins.enc 26 5 s.1 s.2.1 l s.2.2) ∧ Ent W0 own' (s.2.2 ++ own) := by
  refine spec_of mixed low_slices_Clone_Instr (by simp [ir_slices_Clone_Instr]) ?_
  cases a with
  | none =>
    have hn : l = [] := by
      by_cases h : l = []
      · exact h
      · have := hR.isS h; cases this
    subst hn
    repeat' ((try (conv => whnf)); first | (refine br_te ?_ ?_; exact rfl))
    exact ⟨(none, 0, []), ⟨rfl, BufE.nil⟩, (by first | exact ent_i | (repeat (first | exact Ent.refl | exact Ent.left | refine Ent.cons ?_ | refine Ent.app ?_)))⟩
  | some a =>
    repeat' ((try (conv => whnf)); first | (refine br_fe ?_ ?_; exact rfl) | (refine app_c (enc := Ins.enc) (l := []) (l2 := l) BufE.nil (At.head (D := []) (r := _)) hR.up rfl rfl (by omega) (fun _ _ => rfl) (fun _ => by simp; omega) (fun a1 c1 D1 hB1 => ?_); (rw [List.length_nil, Nat.zero_add l.length]); (apply Stop.h)) | (refine new_i (fun bk hbk => ?_)))
    refine Stop.mk ?_
    rw [List.nil_append] at hB1
    skip
    exact ⟨(a1, c1, D1), ⟨rfl, hB1⟩, Ent.of_sub ((List.sublist_cons_self _ own).append_left D1)⟩
variable {a : Option Addr} {l : List Int} {cap : Nat}
def idxG (x : Int) : List Int → Nat → Int
  | [], _ => -1
  | y :: l, k => if x = y then k else idxG x l (k + 1)
theorem idxG_mem (x : Int) : ∀ (l : List Int) (k : Nat), 0 ≤ idxG x l k ↔ x ∈ l
  | [], k => by simp [idxG]
  | y :: l, k => by
    unfold idxG
    split
    · rename_i h; subst h; simp
    · rename_i h
      rw [idxG_mem x l (k + 1)]
      simp [h]
theorem sp_index_int (hR : RdE encI 1 W0 own a l) (hl : l.length ≤ 1000000000) (x : Int) : Pure Tryz.prog W0 190 [.slice a l.length cap, .int .i64 x] own (.int .i64 (idxG x l 0)) := by
  refine pure_of (spec_of mixed low_slices_Index_int (by simp [ir_slices_Index_int]) ?_)
  generalize hres : idxG x l 0 = res
  skip
  refine loop_c (σ := Nat) (fun k => [(8, .int .i64 k)]) (fun k => k ≤ l.length ∧ idxG x (l.drop k) k = res) (fun k => l.length - k) 0 ⟨by omega, hres⟩ (by repeat' (first | exact True.intro | refine And.intro ?_ ?_ | exact rfl | exact vi (by omega) | (dsimp only; exact rfl) | (dsimp only; exact vi (by omega)))) rfl ?_
  rintro k junk ⟨hk, hI⟩
  by_cases hlt : k < l.length
  · obtain ⟨y, hy⟩ : ∃ y, l[k]? = some y := ⟨_, List.getElem?_eq_getElem hlt⟩
    have hlt' : (k : Int) < l.length := by omega
    rw [drop_of hy, idxG] at hI
    by_cases he : x = y
    · rw [if_pos he] at hI
      repeat' ((try (conv => whnf)); first | (apply br_pyE; (exact rfl); omega) | ((with_reducible show Ld _ _ _ _); first | (refine ldE0 hR hy rfl ?_)) | ((with_reducible show IxS _ _ _ _ _); first | ((refine ixE hR hy ?_ ?_; (first | rfl | omega)))))
      exact ⟨ret1 (vi hI), (by first | exact ent_i | (repeat (first | exact Ent.refl | exact Ent.left | refine Ent.cons ?_ | refine Ent.app ?_)))⟩
    · rw [if_neg he] at hI
      repeat' ((try (conv => whnf)); first | (apply br_pyE; (exact rfl); omega) | (apply br_pnE; (exact rfl); omega) | ((with_reducible show Ld _ _ _ _); first | (refine ldE0 hR hy rfl ?_)) | ((with_reducible show IxS _ _ _ _ _); first | ((refine ixE hR hy ?_ ?_; (first | rfl | omega)))) | (refine ari ?_ ?_; omega))
      exact ⟨k + 1, ⟨by omega, hI⟩, by omega, (by repeat' (first | exact True.intro | refine And.intro ?_ ?_ | exact rfl | exact vi (by omega) | (dsimp only; exact rfl) | (dsimp only; exact vi (by omega)))), Ent.refl⟩
  · have hlt' : ¬ (k : Int) < l.length := by omega
    obtain rfl : k = l.length := by omega
    rw [List.drop_length, idxG] at hI
    repeat' ((try (conv => whnf)); first | (apply br_pnE; (exact rfl); omega))
    exact ⟨ret1 (vi hI), (by first | exact ent_i | (repeat (first | exact Ent.refl | exact Ent.left | refine Ent.cons ?_ | refine Ent.app ?_)))⟩
theorem sp_contains_int (hR : RdE encI 1 W0 own a l) (hl : l.length ≤ 1000000000) (x : Int) : Pure Tryz.prog W0 129 [.slice a l.length cap, .int .i64 x] own (.bool (decide (x ∈ l))) := by
  refine pure_of (spec_of mixed low_slices_Contains_int (by simp [ir_slices_Contains_int]) ?_)
  have h := sp_index_int (cap := cap) hR hl x
  have hm := idxG_mem x l 0
  generalize idxG x l 0 = z at *
  repeat' ((try (conv => whnf)); first | ((with_reducible show CallT _ _ _ _ _ _); first | ((refine call_pe (h) ?_ ?_ ?_; (exact rfl); exact rfl))))
  exact ⟨ret1 (vb (dd hm)), (by first | exact ent_i | (repeat (first | exact Ent.refl | exact Ent.left | refine Ent.cons ?_ | refine Ent.app ?_)))⟩
end
end Go.Proofs.YtllddgdmmfmpkaaGreatDoor
namespace Go.Proofs.YtllddgdmmfmpkaaGreatDoor
open Go
set_option maxRecDepth 10000
set_option maxHeartbeats 4000000
class FrameC (D own : Own) (r : outParam Own) : Prop where
  h : own.Perm (D ++ r)
section
variable {D A r r' : Own} {e : Nat × (Obj → Prop)}
instance FrameC.self : FrameC D D [] := ⟨by simp⟩
instance FrameC.left [m : FrameC D A r'] : FrameC D (A ++ r) (r' ++ r) := ⟨(m.h.append_right r).trans (by rw [List.append_assoc])⟩
instance FrameC.skip [m : FrameC D r r'] : FrameC D (A ++ r) (A ++ r') := ⟨(m.h.append_left A).trans (by rw [← List.append_assoc, ← List.append_assoc]; exact List.perm_append_comm.append_right r')⟩
instance FrameC.tail [m : FrameC D r r'] : FrameC D (e :: r) (e :: r') := ⟨(m.h.cons e).trans List.perm_middle.symm⟩
instance FrameC.one : FrameC [e] (e :: r) r := ⟨List.Perm.refl _⟩
instance FrameC.head : FrameC D (D ++ r) r := ⟨List.Perm.refl _⟩
end
instance AtC.self {D : Own} : AtC D D (fun X => X) := ⟨by have := At.head (D := D) (r := []); simpa using this⟩
section
variable {P : Program} {W0 : World} {own D r : Own} {k k0 : FuncId} {args args0 : List Value}
theorem call_fr {σ : Type} {R : σ → Value → Prop} {O : σ → Own} {K : Value → Own → Prop} [m : FrameC D own r] (h : Spec P W0 k0 args0 (D ++ r) fun v own' => ∃ s, R s v ∧ Ent W0 own' (O s ++ r)) (ek : k = k0) (ea : args = args0) (hk : ∀ s v, R s v → K v (O s ++ r)) : CallT P W0 own k args K := by
  subst ek; subst ea
  exact ⟨fun w hw => (h w (Ent.of_perm m.h w hw)).mono fun _ _ ⟨_, _, he, hs, s, hR, hE⟩ => ⟨_, O s ++ r, he, hE _ hs, hk s _ hR⟩⟩
theorem call_to {σ : Type} {R : σ → Value → Prop} {O : σ → Own} {own2 : Own} {K : Value → Own → Prop} (h : Spec P W0 k0 args0 own2 fun v own' => ∃ s, R s v ∧ Ent W0 own' (O s)) (he : Ent W0 own own2) (ek : k = k0) (ea : args = args0) (hk : ∀ s v, R s v → K v (O s)) : CallT P W0 own k args K := by
  subst ek; subst ea
  exact ⟨fun w hw => (h w (he w hw)).mono fun _ _ ⟨_, _, he, hs, s, hR, hE⟩ => ⟨_, O s, he, hE _ hs, hk s _ hR⟩⟩
end
end Go.Proofs.YtllddgdmmfmpkaaGreatDoor
namespace Go.Proofs.YtllddgdmmfmpkaaGreatDoor
open Go
set_option maxRecDepth 10000
set_option maxHeartbeats 8000000
abbrev uv (x : Int) : Value := .int .u64 x
structure MH where
  mb : Nat
  mp : Nat
  b : Nat → Nat
  r : Nat → List Value
  n : Nat → Nat
  ml : List (Value × Value)
def MH.e (h : MH) (L : List (List Int)) (j : Nat) : Nat × (Obj → Prop) := (h.b j, fun o => o = Obj.cells ((L.getD j []).map uv ++ h.r j).toArray 33)
abbrev MH.D (h : MH) (L : List (List Int)) : Own := (List.range 8).map (h.e L)
def MH.OL (h : MH) (L : List (List Int)) : Own := (h.mb, fun o => o = Obj.cells #[.map (some h.mp)] 94) :: ((h.mp, mapO h.ml) :: h.D L)
structure MH.ok (h : MH) (L : List (List Int)) : Prop where
  fd : ∀ k : Nat, k < 8 → findM 0 (.int .i64 ((k : Int) + 1)) h.ml = some (some (.slice (some ⟨h.b k, 0, none⟩) (h.n k) (h.n k + (h.r k).length)))
  ln : ∀ k : Nat, k < 8 → (L.getD k []).length = h.n k
  l8 : L.length = 8
  bd : ∀ k : Nat, k < 8 → h.n k ≤ 1000000
theorem Lis.refl : ∀ l : List Value, Lis l l
  | [] => .nil
  | _ :: l => .cons (Lis.refl l)
theorem setAt_set : ∀ (l : List Value) (j : Nat) (v : Value), j < l.length → SetAt l j v (l.set j v)
  | [], j, v, h => by simp at h
  | a :: l, 0, v, _ => .here (Lis.refl l)
  | a :: l, j + 1, v, h => .there (setAt_set l j v (by simpa using h))
theorem At.upd {b : Nat} {p q : Obj → Prop} {D D' own : Own} {C : Own → Own} (h : At D own C) (hu : Up b p q D D') : Up b p q own (C D') := by
  induction h with
  | head => exact hu.appl
  | tail _ ih => exact Up.tail ih
  | @skip A _ _ _ ih => exact ih.app A
theorem up_map {α : Type} (f g : α → Nat × (Obj → Prop)) {x : α} {b : Nat} {p q : Obj → Prop} : ∀ (l : List α), x ∈ l → l.Nodup → f x = (b, p) → g x = (b, q) → (∀ y, y ≠ x → g y = f y) → Up b p q (l.map f) (l.map g)
  | [], h, _, _, _, _ => by cases h
  | y :: l, h, hn, h1, h2, h3 => by
    rw [List.nodup_cons] at hn
    by_cases hy : y = x
    · subst hy
      rw [List.map_cons, List.map_cons, h1, h2, show l.map g = l.map f from List.map_congr_left fun z hz => h3 z fun e => hn.1 (e ▸ hz)]
      exact Up.head
    · rw [List.map_cons, List.map_cons, h3 y hy]
      exact Up.tail (up_map f g l ((List.mem_cons.1 h).resolve_left fun e => hy e.symm) hn.2 h1 h2 h3)
theorem mlk_k {own : Own} {kk b : Nat} {key : Value} {l : List (Value × Value)} {r : Option Value} {K : Option Value → Prop} [m : MemC b (mapO l) own] (hf : findM kk key l = some r) (hk : K r) : MlkT own kk b key K := ⟨l, r, m.h, hf, hk⟩
section
variable {W0 : World} {own : Own} {h : MH} {L : List (List Int)} {k j : Nat}
theorem set_getD {L : List (List Int)} {l : List Int} {k i : Nat} (hk : k < L.length) : (L.set k l).getD i [] = if i = k then l else L.getD i [] := by
  rw [List.getD_eq_getElem?_getD, List.getD_eq_getElem?_getD, List.getElem?_set]
  by_cases e : k = i
  · subst e; simp [hk]
  · rw [if_neg e, if_neg (fun e2 => e e2.symm)]
theorem ld_me {x : Int} {K : Value → Prop} [m : EntC own (h.D L)] (hk : k < 8) (hj : (L.getD k [])[j]? = some x) (hK : K (uv x)) : Ld W0 own ⟨h.b k, 0 + j * 1, none⟩ K := by
  refine ld_kn ((kn_cell (v := uv x) (List.mem_map.2 ⟨k, List.mem_range.2 hk, rfl⟩) ?_).ent (m.h W0)) hK
  have hlt := (List.getElem?_eq_some_iff.1 hj).1
  rw [List.toList_toArray, Nat.zero_add, Nat.mul_one, List.getElem?_append_left (by simpa using hlt), List.getElem?_map, hj]
  rfl
theorem st_me {x : Int} {K : Own → Prop} {C : Own → Own} [m : AtC (h.D L) own C] (hk : k < 8) (hl : L.length = 8) (hj : j < (L.getD k []).length) (hK : K (C (h.D (L.set k ((L.getD k []).set j x))))) : StT W0 own ⟨h.b k, 0 + j * 1, none⟩ (uv x) K := by
  have hu : Up (h.b k) (fun o => o = Obj.cells ((L.getD k []).map uv ++ h.r k).toArray 33) (fun o => o = Obj.cells (((L.getD k []).map uv ++ h.r k).set j (uv x)).toArray 33) (h.D L) (h.D (L.set k ((L.getD k []).set j x))) := by
    refine up_map _ _ _ (List.mem_range.2 hk) List.nodup_range rfl ?_ fun y hy => ?_
    · unfold MH.e
      rw [set_getD (by omega), if_pos rfl, List.set_append_left _ _ (by simpa using hj), List.map_set]
    · unfold MH.e
      rw [set_getD (by omega), if_neg hy]
  rw [Nat.zero_add, Nat.mul_one]
  exact st_own (m.h.upd hu) (by rw [List.toList_toArray]; exact setAt_set _ _ _ (by rw [List.length_append, List.length_map]; omega)) rfl hK
theorem MH.ok.set {x : Int} (hM : h.ok L) : h.ok (L.set k ((L.getD k []).set j x)) := by
  refine ⟨hM.fd, fun i hi => ?_, by rw [List.length_set]; exact hM.l8, hM.bd⟩
  by_cases hk : k < L.length
  · rw [set_getD hk]
    split
    · rename_i e; subst e; rw [List.length_set]; exact hM.ln i hi
    · exact hM.ln i hi
  · rw [List.set_eq_of_length_le (by omega)]; exact hM.ln i hi
theorem sp_operate {x v kd : Int} {dn : Bool} {g : FuncId} {caps : List Value} (hM : h.ok L) (hk : k < 8) (hj : (L.getD k [])[j]? = some x) (hok : okF Tryz.prog g = true) (Q : Own) (hf : ∀ (own' : Own) [EntC own' Q], Pure Tryz.prog W0 g (uv x :: caps) own' (.tuple #[uv v, .bool dn])) :
    Spec Tryz.prog W0 115 [.pointer (some ⟨h.mb, 0, none⟩), .int .i64 kd, .int .i64 ((k : Int) + 1), .int .i64 j, .func (.func g) #[] caps.toArray] (h.OL L ++ Q) fun r own' =>
      ∃ _ : Unit, r = .tuple #[(⟨kd, (k : Int) + 1, j, x, if dn then v else x, dn⟩ : AcM).v, .int .i64 0] ∧ Ent W0 own' (h.OL (if dn then L.set k ((L.getD k []).set j v) else L) ++ Q) := by
  refine spec_un (spec_of mixed low_cells_Mem_operate (by simp [ir_cells_Mem_operate]) ?_)
  have hlt := (List.getElem?_eq_some_iff.1 hj).1
  have hn := hM.ln k hk
  have hb := hM.bd k hk
  have hjn : (j : Int) < h.n k := by omega
  have hj0 : ¬ (j : Int) < 0 := by omega
  have hfd := hM.fd k hk
  unfold MH.OL
  rw [List.cons_append, List.cons_append]
  cases dn with
  | true =>
    have hj' : ((L.set k ((L.getD k []).set j v)).getD k [])[j]? = some v := by rw [set_getD (by rw [hM.l8]; exact hk), if_pos rfl, List.getElem?_set, if_pos rfl, if_pos hlt]
    rw [if_pos rfl]
    repeat' ((try (conv => whnf)); first | (refine when_ye ?_ ?_; exact rfl) | (refine br_te ?_ ?_; exact rfl) | (refine br_fe ?_ ?_; exact rfl) | (apply br_pnE; (exact rfl); omega) | (refine mlk_k hfd ?_) | (refine ixs_j ?_ ?_; omega) | (refine ld_me hk hj' ?_) | (refine ld_me hk hj ?_) | (refine st_me hk hM.l8 hlt ?_) | (refine CallV.mk ⟨hok, ?_⟩) | ((with_reducible show CallT _ _ _ _ _ _); first | ((refine call_pe (hf _) ?_ ?_ ?_; (exact rfl); exact rfl))) | (apply sel; exact rfl) | (apply ld_o; exact rfl) | (apply ldN_a; exact rfl) | (apply stN_o; (exact rfl); (exact rfl); exact rfl) | (refine new_i (fun bk hbk => ?_)))
    all_goals exact ⟨rfl, (by first | exact ent_i | (repeat (first | exact Ent.refl | exact Ent.left | refine Ent.cons ?_ | refine Ent.app ?_)))⟩
  | false =>
    repeat' ((try (conv => whnf)); first | (refine when_ye ?_ ?_; exact rfl) | (refine br_fe ?_ ?_; exact rfl) | (apply br_pnE; (exact rfl); omega) | (refine mlk_k hfd ?_) | (refine ixs_j ?_ ?_; omega) | (refine ld_me hk hj ?_) | (refine CallV.mk ⟨hok, ?_⟩) | ((with_reducible show CallT _ _ _ _ _ _); first | ((refine call_pe (hf _) ?_ ?_ ?_; (exact rfl); exact rfl))) | (apply sel; exact rfl) | (apply ld_o; exact rfl) | (apply ldN_a; exact rfl) | (apply stN_o; (exact rfl); (exact rfl); exact rfl) | (refine new_i (fun bk hbk => ?_)))
    all_goals exact ⟨rfl, (by first | exact ent_i | (repeat (first | exact Ent.refl | exact Ent.left | refine Ent.cons ?_ | refine Ent.app ?_)))⟩
end
structure Sb (own own' : Own) : Prop where
  h : ∃ d, own.Perm (own' ++ d)
section
variable {W0 : World} {own r r' A D : Own} {b : Nat} {p q : Obj → Prop} {e : Nat × (Obj → Prop)}
theorem sb_ent (h : Sb own r) : Ent W0 own r := by obtain ⟨d, hd⟩ := h.h; exact (Ent.of_perm hd).trans Ent.left
theorem sb_refl : Sb own own := ⟨[], by rw [List.append_nil]⟩
theorem sb_nil : Sb own [] := ⟨own, List.Perm.refl _⟩
theorem sb_cons (h : Sb own r) : Sb (e :: own) r := by obtain ⟨d, hd⟩ := h.h; exact ⟨e :: d, (hd.cons e).trans List.perm_middle.symm⟩
theorem sb_app (h : Sb own r) : Sb (A ++ own) r := by
  obtain ⟨d, hd⟩ := h.h
  refine ⟨A ++ d, (hd.append_left A).trans ?_⟩
  rw [← List.append_assoc, ← List.append_assoc]
  exact List.perm_append_comm.append_right d
theorem sb_fr [m : FrameC D own r] (h : Sb r r') : Sb own (D ++ r') := by
  obtain ⟨d, hd⟩ := h.h
  exact ⟨d, by rw [List.append_assoc]; exact m.h.trans (hd.append_left D)⟩
theorem sb_pu [m : PullC b p own r] (e : p = q) (h : Sb r r') : Sb own ((b, q) :: r') := by
  subst e
  obtain ⟨d, hd⟩ := h.h
  exact ⟨d, m.h.trans (hd.cons _)⟩
end
section
variable {W0 : World} {h : MH} {L : List (List Int)} {k j : Nat} {x : Int}
theorem sp_load1 (own : Own) (v : Int) : Pure Tryz.prog W0 116 [uv v] own (.tuple #[uv v, .bool true]) := by
  refine pure_of (spec_of mixed low_cells_Mem_Load_1 (by simp [ir_cells_Mem_Load_1]) ?_)
  skip
  all_goals exact ⟨rfl, (by first | exact ent_i | (repeat (first | exact Ent.refl | exact Ent.left | refine Ent.cons ?_ | refine Ent.app ?_)))⟩
theorem cl_of {own : Own} {b off : Nat} {cs : Array Value} {T : TypeId} {fz : Nat × Nat} {v : Value} (m : MemC b (fun o => o = Obj.cells cs T fz) own) (hv : cs.toList[off]? = some v) : Cl W0 own b off v := kn_cell m.h hv
theorem sp_store1 {own : Own} {b : Nat} {v : Int} (o : Int) (hc : Cl W0 own b 0 (uv v)) : Pure Tryz.prog W0 158 [uv o, .pointer (some ⟨b, 0, none⟩)] own (.tuple #[uv v, .bool true]) := by
  refine pure_of (spec_of mixed low_cells_Mem_Store_1 (by simp [ir_cells_Mem_Store_1]) ?_)
  repeat' ((try (conv => whnf)); first | ((with_reducible show Ld _ _ _ _); first | (refine ldK hc ?_)))
  all_goals exact ⟨rfl, (by first | exact ent_i | (repeat (first | exact Ent.refl | exact Ent.left | refine Ent.cons ?_ | refine Ent.app ?_)))⟩
theorem sp_add1 {own : Own} {b : Nat} {v : Int} (o : Int) (hc : Cl W0 own b 0 (uv v)) : Pure Tryz.prog W0 208 [uv o, .pointer (some ⟨b, 0, none⟩)] own (.tuple #[uv (wrapu (o + v)), .bool true]) := by
  refine pure_of (spec_of mixed low_cells_Mem_Add_1 (by simp [ir_cells_Mem_Add_1]) ?_)
  repeat' ((try (conv => whnf)); first | (refine arw (k := .u64) ?_) | ((with_reducible show Ld _ _ _ _); first | (refine ldK hc ?_)))
  all_goals exact ⟨rfl, (by first | exact ent_i | (repeat (first | exact Ent.refl | exact Ent.left | refine Ent.cons ?_ | refine Ent.app ?_)))⟩
theorem sp_swap1 {own : Own} {b b2 : Nat} {v z : Int} (o : Int) (hc : Cl W0 own b 0 (uv v)) (hc2 : Cl W0 own b2 0 (uv z)) : Pure Tryz.prog W0 187 [uv o, .pointer (some ⟨b, 0, none⟩), .pointer (some ⟨b2, 0, none⟩)] own (.tuple #[uv v, .bool (decide (o = z))]) := by
  refine pure_of (spec_of mixed low_cells_Mem_Swap_1 (by simp [ir_cells_Mem_Swap_1]) ?_)
  repeat' ((try (conv => whnf)); first | ((with_reducible show Ld _ _ _ _); first | (refine ldK hc ?_) | (refine ldK hc2 ?_)))
  all_goals exact ⟨rfl, (by first | exact ent_i | (repeat (first | exact Ent.refl | exact Ent.left | refine Ent.cons ?_ | refine Ent.app ?_)))⟩
theorem ok_c1 : okF Tryz.prog 116 = true := by kernel_rfl
theorem ok_c2 : okF Tryz.prog 158 = true := by kernel_rfl
theorem ok_c3 : okF Tryz.prog 187 = true := by kernel_rfl
theorem ok_c4 : okF Tryz.prog 208 = true := by kernel_rfl
theorem set_same (hM : h.ok L) (hk : k < 8) (hj : (L.getD k [])[j]? = some x) : L.set k ((L.getD k []).set j x) = L := by
  obtain ⟨h2, h3⟩ := List.getElem?_eq_some_iff.1 hj
  have h4 : k < L.length := by rw [hM.l8]; exact hk
  rw [show (L.getD k []).set j x = L.getD k [] by rw [← h3]; exact List.set_getElem_self h2, List.getD_eq_getElem?_getD, List.getElem?_eq_getElem h4, Option.getD_some]
  exact List.set_getElem_self h4
section
variable {own r : Own} {f : FuncId} {args : List Value} {K : Value → Own → Prop} {v kd : Int} {dn : Bool} {g : FuncId}
theorem call_op {caps : List Value} {q : Int} {L' : List (List Int)} [m : FrameC (h.OL L) own r] (hM : h.ok L) (hk : k < 8) (hj : (L.getD k [])[j]? = some x) (hok : okF Tryz.prog g = true) (hq : q = if dn then v else x) (hL : L' = if dn then L.set k ((L.getD k []).set j v) else L) (ek : f = 115)
    (ea : args = [.pointer (some ⟨h.mb, 0, none⟩), .int .i64 kd, .int .i64 ((k : Int) + 1), .int .i64 j, .func (.func g) #[] caps.toArray]) (hf : ∀ own' : Own, EntC own' r → Pure Tryz.prog W0 g (uv x :: caps) own' (.tuple #[uv v, .bool dn]))
    (hK : K (.tuple #[(⟨kd, (k : Int) + 1, j, x, q, dn⟩ : AcM).v, .int .i64 0]) (h.OL L' ++ r)) : CallT Tryz.prog W0 own f args K :=
  call_fr (sp_operate (kd := kd) hM hk hj hok r fun own' e => hf own' e) ek ea fun _ _ hv => by subst hv; subst hq; subst hL; exact hK
theorem call_op1 {b : Nat} {z q : Int} {L' : List (List Int)} [m : FrameC (h.OL L) own r] (hM : h.ok L) (hk : k < 8) (hj : (L.getD k [])[j]? = some x) (hok : okF Tryz.prog g = true) (hq : q = if dn then v else x) (hL : L' = if dn then L.set k ((L.getD k []).set j v) else L) (hf : ∀ (b : Nat) (own' : Own), Cl W0 own' b 0 (uv z) → Pure Tryz.prog W0 g [uv x, .pointer (some ⟨b, 0, none⟩)] own' (.tuple #[uv v, .bool dn])) (ek : f = 115)
    (ea : args = [.pointer (some ⟨h.mb, 0, none⟩), .int .i64 kd, .int .i64 ((k : Int) + 1), .int .i64 j, .func (.func g) #[] #[.pointer (some ⟨b, 0, none⟩)]]) (mm : MemC b (fun o => o = Obj.cells #[uv z] 33) r)
    (hK : K (.tuple #[(⟨kd, (k : Int) + 1, j, x, q, dn⟩ : AcM).v, .int .i64 0]) (h.OL L' ++ r)) : CallT Tryz.prog W0 own f args K :=
  call_op (caps := [_]) hM hk hj hok hq hL ek ea (fun own' e => hf _ own' ((cl_of mm rfl).ent (e.h W0))) hK
theorem call_op2 {b b2 : Nat} {z z2 q : Int} {L' : List (List Int)} [m : FrameC (h.OL L) own r] (hM : h.ok L) (hk : k < 8) (hj : (L.getD k [])[j]? = some x) (hok : okF Tryz.prog g = true) (hq : q = if dn then v else x) (hL : L' = if dn then L.set k ((L.getD k []).set j v) else L) (hf : ∀ (b b2 : Nat) (own' : Own), Cl W0 own' b 0 (uv z) → Cl W0 own' b2 0 (uv z2) → Pure Tryz.prog W0 g [uv x, .pointer (some ⟨b, 0, none⟩), .pointer (some ⟨b2, 0, none⟩)] own' (.tuple #[uv v, .bool dn])) (ek : f = 115)
    (ea : args = [.pointer (some ⟨h.mb, 0, none⟩), .int .i64 kd, .int .i64 ((k : Int) + 1), .int .i64 j, .func (.func g) #[] #[.pointer (some ⟨b, 0, none⟩), .pointer (some ⟨b2, 0, none⟩)]]) (mm : MemC b (fun o => o = Obj.cells #[uv z] 33) r) (mm2 : MemC b2 (fun o => o = Obj.cells #[uv z2] 33) r)
    (hK : K (.tuple #[(⟨kd, (k : Int) + 1, j, x, q, dn⟩ : AcM).v, .int .i64 0]) (h.OL L' ++ r)) : CallT Tryz.prog W0 own f args K :=
  call_op (caps := [_, _]) hM hk hj hok hq hL ek ea (fun own' e => hf _ _ own' ((cl_of mm rfl).ent (e.h W0)) ((cl_of mm2 rfl).ent (e.h W0))) hK
end
theorem sp_load (hM : h.ok L) (hk : k < 8) (hj : (L.getD k [])[j]? = some x) (Q : Own) :
    Spec Tryz.prog W0 64 [.pointer (some ⟨h.mb, 0, none⟩), .int .i64 ((k : Int) + 1), .int .i64 j] (h.OL L ++ Q) fun r own' =>
      ∃ _ : Unit, r = .tuple #[(acL ((k : Int) + 1) j x).v, .int .i64 0] ∧ Ent W0 own' (h.OL L ++ Q) := by
  refine spec_un (spec_of mixed low_cells_Mem_Load (by simp [ir_cells_Mem_Load]) ?_)
  have hL := (set_same hM hk hj).symm
  repeat' ((try (conv => whnf)); first | ((with_reducible show CallT _ _ _ _ _ _); first | ((refine call_op (kd := 1) (dn := true) (v := x) (caps := []) hM hk hj ok_c1 rfl hL ?_ ?_ (fun own' _ => sp_load1 own' x) ?_; (exact rfl); (exact rfl)))) | (apply sel; exact rfl) | (apply ldN_a; exact rfl) | (apply stN_o; (exact rfl); (exact rfl); exact rfl) | (refine new_i (fun bk hbk => ?_)))
  exact ⟨rfl, (by refine sb_ent ?_; (repeat (first | exact sb_refl | exact sb_nil | refine sb_fr ?_ | refine sb_pu rfl ?_ | refine sb_cons ?_ | refine sb_app ?_)))⟩
theorem sp_store (hM : h.ok L) (hk : k < 8) (hj : (L.getD k [])[j]? = some x) (v : Int) (Q : Own) :
    Spec Tryz.prog W0 80 [.pointer (some ⟨h.mb, 0, none⟩), .int .i64 ((k : Int) + 1), .int .i64 j, uv v] (h.OL L ++ Q) fun r own' =>
      ∃ _ : Unit, r = .tuple #[(acS ((k : Int) + 1) j x v).v, .int .i64 0] ∧ Ent W0 own' (h.OL (L.set k ((L.getD k []).set j v)) ++ Q) := by
  refine spec_un (spec_of mixed low_cells_Mem_Store (by simp [ir_cells_Mem_Store]) ?_)
  repeat' ((try (conv => whnf)); first | ((with_reducible show CallT _ _ _ _ _ _); first | ((refine call_op1 (b := ?_) (kd := 2) (dn := true) (v := v) hM hk hj ok_c2 (if_pos rfl).symm (if_pos rfl).symm (fun _ _ hc => sp_store1 x hc) ?_ ?_ ?_ ?_; rotate_left; (exact rfl); (exact rfl); (exact inferInstance)))) | (apply sel; exact rfl) | (apply ldN_a; exact rfl) | (apply stN_o; (exact rfl); (exact rfl); exact rfl) | (refine new_i (fun bk hbk => ?_)))
  all_goals exact ⟨rfl, (by refine sb_ent ?_; (repeat (first | exact sb_refl | exact sb_nil | refine sb_fr ?_ | refine sb_pu rfl ?_ | refine sb_cons ?_ | refine sb_app ?_)))⟩
theorem sp_add (hM : h.ok L) (hk : k < 8) (hj : (L.getD k [])[j]? = some x) (v : Int) (Q : Own) :
    Spec Tryz.prog W0 192 [.pointer (some ⟨h.mb, 0, none⟩), .int .i64 ((k : Int) + 1), .int .i64 j, uv v] (h.OL L ++ Q) fun r own' =>
      ∃ _ : Unit, r = .tuple #[(acA ((k : Int) + 1) j x v).v, .int .i64 0] ∧ Ent W0 own' (h.OL (L.set k ((L.getD k []).set j (wrapu (x + v)))) ++ Q) := by
  refine spec_un (spec_of mixed low_cells_Mem_Add (by simp [ir_cells_Mem_Add]) ?_)
  repeat' ((try (conv => whnf)); first | ((with_reducible show CallT _ _ _ _ _ _); first | ((refine call_op1 (b := ?_) (kd := 4) (dn := true) (v := wrapu (x + v)) hM hk hj ok_c4 (if_pos rfl).symm (if_pos rfl).symm (fun _ _ hc => sp_add1 x hc) ?_ ?_ ?_ ?_; rotate_left; (exact rfl); (exact rfl); (exact inferInstance)))) | (apply sel; exact rfl) | (apply ldN_a; exact rfl) | (apply stN_o; (exact rfl); (exact rfl); exact rfl) | (refine new_i (fun bk hbk => ?_)))
  all_goals exact ⟨rfl, (by refine sb_ent ?_; (repeat (first | exact sb_refl | exact sb_nil | refine sb_fr ?_ | refine sb_pu rfl ?_ | refine sb_cons ?_ | refine sb_app ?_)))⟩
theorem sp_swap (hM : h.ok L) (hk : k < 8) (hj : (L.getD k [])[j]? = some x) (z v : Int) (Q : Own) :
    Spec Tryz.prog W0 121 [.pointer (some ⟨h.mb, 0, none⟩), .int .i64 ((k : Int) + 1), .int .i64 j, uv z, uv v] (h.OL L ++ Q) fun r own' =>
      ∃ _ : Unit, r = .tuple #[(acW ((k : Int) + 1) j x v (decide (x = z))).v, .int .i64 0] ∧ Ent W0 own' (h.OL (if x = z then L.set k ((L.getD k []).set j v) else L) ++ Q) := by
  refine spec_un (spec_of mixed low_cells_Mem_Swap (by simp [ir_cells_Mem_Swap]) ?_)
  repeat' ((try (conv => whnf)); first | ((with_reducible show CallT _ _ _ _ _ _); first | ((refine call_op2 (b := ?_) (b2 := ?_) (kd := 3) (dn := decide (x = z)) (v := v) (q := if decide (x = z) then v else x) (L' := if x = z then L.set k ((L.getD k []).set j v) else L) hM hk hj ok_c3 rfl (by simp only [decide_eq_true_eq]) (fun _ _ _ hc hc2 => sp_swap1 x hc hc2) ?_ ?_ ?_ ?_ ?_; rotate_left; rotate_left; (exact rfl); (exact rfl); (exact inferInstance); (exact inferInstance)))) | (apply sel; exact rfl) | (apply ldN_a; exact rfl) | (apply stN_o; (exact rfl); (exact rfl); exact rfl) | (refine new_i (fun bk hbk => ?_)))
  all_goals exact ⟨rfl, (by refine sb_ent ?_; (repeat (first | exact sb_refl | exact sb_nil | refine sb_fr ?_ | refine sb_pu rfl ?_ | refine sb_cons ?_ | refine sb_app ?_)))⟩
end
end Go.Proofs.YtllddgdmmfmpkaaGreatDoor
namespace Go.Proofs.YtllddgdmmfmpkaaGreatDoor
open Go
set_option maxRecDepth 10000
set_option maxHeartbeats 8000000
def MH.O (h : MH) (m : MS) : Own := h.OL m.L
section
variable {P : Program} {W0 : World} {own D r r1 : Own} {f f0 : FuncId} {args args0 : List Value} {b : Nat} {p p' : Obj → Prop}
theorem call_sb {σ : Type} {R : σ → Value → Prop} {O : σ → Own} {K : Value → Own → Prop} [m1 : PullC b p own r1] [m2 : FrameC D r1 r] (h : Spec P W0 f0 args0 ((b, p') :: (D ++ r)) fun v own' => ∃ s, R s v ∧ Ent W0 own' (O s)) (ep : p = p') (ek : f = f0) (ea : args = args0) (hk : ∀ s v, R s v → K v (O s)) : CallT P W0 own f args K := by
  subst ek; subst ea; subst ep
  exact ⟨fun w hw => (h w (Ent.of_perm (m1.h.trans (m2.h.cons _)) w hw)).mono fun _ _ ⟨_, _, he, hs, s, hR, hE⟩ => ⟨_, O s, he, hE _ hs, hk s _ hR⟩⟩
end
section
variable {W0 : World} {own r : Own} {f : FuncId} {args : List Value} {K : Value → Own → Prop} {h : MH} {m m' : MS} {k j : Nat} {x v : Int}
theorem call_ld [FrameC (h.O m) own r] (k j : Nat) (hM : h.ok m.L) (hk : k < 8) (hj : (m.L.getD k [])[j]? = some x) (ek : f = 64) (ea : args = [.pointer (some ⟨h.mb, 0, none⟩), .int .i64 ((k : Int) + 1), .int .i64 j])
    (hK : K (.tuple #[(acL ((k : Int) + 1) j x).v, .int .i64 0]) (h.O m ++ r)) : CallT Tryz.prog W0 own f args K :=
  call_fr (D := h.O m) (sp_load hM hk hj r) ek ea fun _ _ hv => by subst hv; exact hK
theorem call_st [FrameC (h.O m) own r] (k j : Nat) (v : Int) (m' : MS) (hM : h.ok m.L) (hk : k < 8) (hj : (m.L.getD k [])[j]? = some x) (hm : m'.L = m.L.set k ((m.L.getD k []).set j v)) (ek : f = 80) (ea : args = [.pointer (some ⟨h.mb, 0, none⟩), .int .i64 ((k : Int) + 1), .int .i64 j, uv v])
    (hK : K (.tuple #[(acS ((k : Int) + 1) j x v).v, .int .i64 0]) (h.O m' ++ r)) : CallT Tryz.prog W0 own f args K :=
  call_fr (D := h.O m) (by have := sp_store (W0 := W0) hM hk hj v r; rw [← hm] at this; exact this) ek ea fun _ _ hv => by subst hv; exact hK
theorem call_ad [FrameC (h.O m) own r] (k j : Nat) (v : Int) (m' : MS) (hM : h.ok m.L) (hk : k < 8) (hj : (m.L.getD k [])[j]? = some x) (hm : m'.L = m.L.set k ((m.L.getD k []).set j (wrapu (x + v)))) (ek : f = 192) (ea : args = [.pointer (some ⟨h.mb, 0, none⟩), .int .i64 ((k : Int) + 1), .int .i64 j, uv v])
    (hK : K (.tuple #[(acA ((k : Int) + 1) j x v).v, .int .i64 0]) (h.O m' ++ r)) : CallT Tryz.prog W0 own f args K :=
  call_fr (D := h.O m) (by have := sp_add (W0 := W0) hM hk hj v r; rw [← hm] at this; exact this) ek ea fun _ _ hv => by subst hv; exact hK
theorem call_sw [FrameC (h.O m) own r] (k j : Nat) (z v : Int) (m' : MS) (hM : h.ok m.L) (hk : k < 8) (hj : (m.L.getD k [])[j]? = some x) (hm : m'.L = if x = z then m.L.set k ((m.L.getD k []).set j v) else m.L) (ek : f = 121) (ea : args = [.pointer (some ⟨h.mb, 0, none⟩), .int .i64 ((k : Int) + 1), .int .i64 j, uv z, uv v])
    (hK : K (.tuple #[(acW ((k : Int) + 1) j x v (decide (x = z))).v, .int .i64 0]) (h.O m' ++ r)) : CallT Tryz.prog W0 own f args K :=
  call_fr (D := h.O m) (by have := sp_swap (W0 := W0) hM hk hj z v r; rw [← hm] at this; exact this) ek ea fun _ _ hv => by subst hv; exact hK
end
section
variable {W0 : World} {own : Own}
theorem sp_version (o : Int) (h : okU o) : Pure Tryz.prog W0 189 [uv o] own (.int .i64 (verO o)) := by
  refine pure_of (spec_of mixed low_word_Version (by simp [ir_word_Version]) ?_)
  unfold okU at h
  repeat' ((try (conv => whnf)); first | (refine quo_u ?_ ?_; omega) | (refine ari ?_ ?_; omega))
  all_goals exact ⟨rfl, (by first | exact ent_i | (repeat (first | exact Ent.refl | exact Ent.left | refine Ent.cons ?_ | refine Ent.app ?_)))⟩
theorem sp_holder (o : Int) (h : okU o) : Pure Tryz.prog W0 188 [uv o] own (.int .i64 (hldO o)) := by
  refine pure_of (spec_of mixed low_word_Holder (by simp [ir_word_Holder]) ?_)
  unfold okU at h
  repeat' ((try (conv => whnf)); first | (refine ari ?_ ?_; omega) | (refine rem_i ?_ ?_; omega))
  all_goals exact ⟨rfl, (by first | exact ent_i | (repeat (first | exact Ent.refl | exact Ent.left | refine Ent.cons ?_ | refine Ent.app ?_)))⟩
theorem sp_wfree (v : Int) (h : 0 ≤ v ∧ v ≤ 1099511627776) : Pure Tryz.prog W0 153 [.int .i64 v] own (.tuple #[uv (v * 64), .int .i64 0]) := by
  have hv : Pure Tryz.prog W0 195 [.int .i64 v] own (.bool true) := by
    refine pure_of (spec_of mixed low_word_version (by simp [ir_word_version]) ?_)
    repeat' ((try (conv => whnf)); first | (refine when_ye ?_ ?_; exact rfl) | (apply when_pyE; (exact rfl); omega))
    all_goals exact ⟨ret1 (vb (decide_eq_true (by omega))), (by first | exact ent_i | (repeat (first | exact Ent.refl | exact Ent.left | refine Ent.cons ?_ | refine Ent.app ?_)))⟩
  refine pure_of (spec_of mixed low_word_Free (by simp [ir_word_Free]) ?_)
  repeat' ((try (conv => whnf)); first | (refine br_fe ?_ ?_; exact rfl) | ((with_reducible show CallT _ _ _ _ _ _); first | ((refine call_pe (hv) ?_ ?_ ?_; (exact rfl); exact rfl))) | (refine aru ?_ ?_; omega))
  all_goals exact ⟨rfl, (by first | exact ent_i | (repeat (first | exact Ent.refl | exact Ent.left | refine Ent.cons ?_ | refine Ent.app ?_)))⟩
end
section
variable {W0 : World} {own : Own} {h : MH} {m : MS} {b t : Nat} {c x : Int}
abbrev enP (t n : Nat) (c : Int) : Obj → Prop := fun o => o = Obj.cells #[.int .i64 t, .int .i64 n, uv c] 232 (0, 0)
theorem sp_newEnter (t : Nat) (Q : Own) : Spec Tryz.prog W0 170 [.int .i64 t] Q fun v own' => ∃ b : Nat, v = .pointer (some ⟨b, 0, none⟩) ∧ Ent W0 own' ((b, enP t 0 0) :: Q) := by
  refine spec_of mixed low_epoch_NewEnter (by simp [ir_epoch_NewEnter]) ?_
  repeat' ((try (conv => whnf)); first | (refine new_i (fun bk hbk => ?_)))
  all_goals exact ⟨_, rfl, Ent.refl⟩
theorem sp_enter0 (hM : h.ok m.L) (hj : m.sl[t]? = some x) (Q : Own) : Spec Tryz.prog W0 123 [.pointer (some ⟨b, 0, none⟩), .pointer (some ⟨h.mb, 0, none⟩)] ((b, enP t 0 c) :: (h.O m ++ Q)) fun v own' =>
    ∃ _ : Unit, v = (acS 6 t x 1).v ∧ Ent W0 own' ((b, enP t 1 c) :: (h.O { m with sl := m.sl.set t 1 } ++ Q)) := by
  refine spec_un (spec_of mixed low_epoch_Enter_Step (by simp [ir_epoch_Enter_Step]) ?_)
  repeat' ((try (conv => whnf)); first | (refine br_te ?_ ?_; exact rfl) | ((with_reducible show CallT _ _ _ _ _ _); first | ((refine call_st 5 t 1 { m with sl := m.sl.set t 1 } hM (by decide) hj rfl ?_ ?_ ?_; (exact rfl); (exact rfl)))) | (refine ari ?_ ?_; omega) | (apply sel; exact rfl) | (apply ld_o; exact rfl) | (apply ldN_a; exact rfl) | (apply st_o; (exact rfl); exact rfl) | (apply stN_o; (exact rfl); (exact rfl); exact rfl) | (refine new_i (fun bk hbk => ?_)))
  all_goals exact ⟨rfl, (by refine sb_ent ?_; (repeat (first | exact sb_refl | exact sb_nil | refine sb_fr ?_ | refine sb_pu rfl ?_ | refine sb_cons ?_ | refine sb_app ?_)))⟩
theorem sp_enter1 (hM : h.ok m.L) (Q : Own) : Spec Tryz.prog W0 123 [.pointer (some ⟨b, 0, none⟩), .pointer (some ⟨h.mb, 0, none⟩)] ((b, enP t 1 c) :: (h.O m ++ Q)) fun v own' =>
    ∃ _ : Unit, v = (acL 3 0 m.ck).v ∧ Ent W0 own' ((b, enP t 2 m.ck) :: (h.O m ++ Q)) := by
  refine spec_un (spec_of mixed low_epoch_Enter_Step (by simp [ir_epoch_Enter_Step]) ?_)
  repeat' ((try (conv => whnf)); first | (refine br_te ?_ ?_; exact rfl) | (refine br_fe ?_ ?_; exact rfl) | ((with_reducible show CallT _ _ _ _ _ _); first | ((refine call_ld 2 0 hM (by decide) rfl ?_ ?_ ?_; (exact rfl); (exact rfl)))) | (refine ari ?_ ?_; omega) | (apply sel; exact rfl) | (apply ld_o; exact rfl) | (apply ldN_a; exact rfl) | (apply st_o; (exact rfl); exact rfl) | (apply stN_o; (exact rfl); (exact rfl); exact rfl) | (refine new_i (fun bk hbk => ?_)))
  all_goals exact ⟨rfl, (by refine sb_ent ?_; (repeat (first | exact sb_refl | exact sb_nil | refine sb_fr ?_ | refine sb_pu rfl ?_ | refine sb_cons ?_ | refine sb_app ?_)))⟩
theorem sp_enter2 (hM : h.ok m.L) (hj : m.sl[t]? = some x) (Q : Own) : Spec Tryz.prog W0 123 [.pointer (some ⟨b, 0, none⟩), .pointer (some ⟨h.mb, 0, none⟩)] ((b, enP t 2 c) :: (h.O m ++ Q)) fun v own' =>
    ∃ _ : Unit, v = (acS 6 t x (wrapu (c + 2))).v ∧ Ent W0 own' ((b, enP t 3 c) :: (h.O { m with sl := m.sl.set t (wrapu (c + 2)) } ++ Q)) := by
  refine spec_un (spec_of mixed low_epoch_Enter_Step (by simp [ir_epoch_Enter_Step]) ?_)
  repeat' ((try (conv => whnf)); first | (refine br_te ?_ ?_; exact rfl) | (refine br_fe ?_ ?_; exact rfl) | (refine arw (k := .u64) ?_) | ((with_reducible show CallT _ _ _ _ _ _); first | ((refine call_st 5 t (wrapu (c + 2)) { m with sl := m.sl.set t (wrapu (c + 2)) } hM (by decide) hj rfl ?_ ?_ ?_; (exact rfl); (exact rfl)))) | (refine ari ?_ ?_; omega) | (apply sel; exact rfl) | (apply ld_o; exact rfl) | (apply ldN_a; exact rfl) | (apply st_o; (exact rfl); exact rfl) | (apply stN_o; (exact rfl); (exact rfl); exact rfl) | (refine new_i (fun bk hbk => ?_)))
  all_goals exact ⟨rfl, (by refine sb_ent ?_; (repeat (first | exact sb_refl | exact sb_nil | refine sb_fr ?_ | refine sb_pu rfl ?_ | refine sb_cons ?_ | refine sb_app ?_)))⟩
theorem sp_enDone {n : Int} (h1 : Cl W0 own b 1 (.int .i64 n)) : Pure Tryz.prog W0 124 [.pointer (some ⟨b, 0, none⟩)] own (.bool (decide (n = 3))) := by
  refine pure_of (spec_of mixed low_epoch_Enter_Done (by simp [ir_epoch_Enter_Done]) ?_)
  repeat' ((try (conv => whnf)); first | (refine ldK1 h1 ?_))
  all_goals exact ⟨rfl, (by first | exact ent_i | (repeat (first | exact Ent.refl | exact Ent.left | refine Ent.cons ?_ | refine Ent.app ?_)))⟩
theorem sp_snap {n : Int} (h1 : Cl W0 own b 1 (.int .i64 n)) (h2 : Cl W0 own b 2 (uv c)) (hb : 0 ≤ c ∧ c ≤ 1099511627776) : Pure Tryz.prog W0 122 [.pointer (some ⟨b, 0, none⟩)] own (.int .i64 (if n ≤ 1 then -1 else c)) := by
  refine pure_of (spec_of mixed low_epoch_Enter_Snapshot (by simp [ir_epoch_Enter_Snapshot]) ?_)
  repeat' ((try (conv => whnf)); first | (refine ldK1 h1 ?_) | (refine ldK1 h2 ?_) | (refine ari ?_ ?_; omega) | (apply br_dE; (exact rfl); all_goals intro hc))
  · exact ⟨ret1 (vi (if_pos hc).symm), (by first | exact ent_i | (repeat (first | exact Ent.refl | exact Ent.left | refine Ent.cons ?_ | refine Ent.app ?_)))⟩
  · exact ⟨ret1 (vi (if_neg hc).symm), (by first | exact ent_i | (repeat (first | exact Ent.refl | exact Ent.left | refine Ent.cons ?_ | refine Ent.app ?_)))⟩
theorem sp_leave (hM : h.ok m.L) (hj : m.sl[t]? = some x) (Q : Own) : Spec Tryz.prog W0 85 [.pointer (some ⟨h.mb, 0, none⟩), .int .i64 t] (h.O m ++ Q) fun v own' =>
    ∃ _ : Unit, v = (acS 6 t x 0).v ∧ Ent W0 own' (h.O { m with sl := m.sl.set t 0 } ++ Q) := by
  refine spec_un (spec_of mixed low_epoch_Leave (by simp [ir_epoch_Leave]) ?_)
  repeat' ((try (conv => whnf)); first | ((with_reducible show CallT _ _ _ _ _ _); first | ((refine call_st 5 t 0 { m with sl := m.sl.set t 0 } hM (by decide) hj rfl ?_ ?_ ?_; (exact rfl); (exact rfl)))) | (apply sel; exact rfl) | (apply ldN_a; exact rfl) | (apply stN_o; (exact rfl); (exact rfl); exact rfl) | (refine new_i (fun bk hbk => ?_)))
  all_goals exact ⟨rfl, (by refine sb_ent ?_; (repeat (first | exact sb_refl | exact sb_nil | refine sb_fr ?_ | refine sb_pu rfl ?_ | refine sb_cons ?_ | refine sb_app ?_)))⟩
abbrev tnP (tk : Bool) (c : Int) (dn : Bool) : Obj → Prop := fun o => o = Obj.cells #[.bool tk, uv c, .bool dn] 212 (0, 0)
theorem sp_newTurn (Q : Own) : Spec Tryz.prog W0 138 [] Q fun v own' => ∃ b : Nat, v = .pointer (some ⟨b, 0, none⟩) ∧ Ent W0 own' ((b, tnP false 0 false) :: Q) := by
  refine spec_of mixed low_turn_New (by simp [ir_turn_New]) ?_
  repeat' ((try (conv => whnf)); first | (refine new_i (fun bk hbk => ?_)))
  all_goals exact ⟨_, rfl, Ent.refl⟩
theorem sp_turn0 (hM : h.ok m.L) (Q : Own) : Spec Tryz.prog W0 139 [.pointer (some ⟨b, 0, none⟩), .pointer (some ⟨h.mb, 0, none⟩)] ((b, tnP false 0 false) :: (h.O m ++ Q)) fun v own' =>
    ∃ _ : Unit, v = (acA 4 0 m.tk 1).v ∧ Ent W0 own' ((b, tnP true m.tk false) :: (h.O { m with tk := wrapu (m.tk + 1) } ++ Q)) := by
  refine spec_un (spec_of mixed low_turn_Turn_Step (by simp [ir_turn_Turn_Step]) ?_)
  repeat' ((try (conv => whnf)); first | (refine br_te ?_ ?_; exact rfl) | (refine br_fe ?_ ?_; exact rfl) | ((with_reducible show CallT _ _ _ _ _ _); first | ((refine call_ad 3 0 1 { m with tk := wrapu (m.tk + 1) } hM (by decide) rfl rfl ?_ ?_ ?_; (exact rfl); (exact rfl)))) | (apply sel; exact rfl) | (apply ld_o; exact rfl) | (apply ldN_a; exact rfl) | (apply st_o; (exact rfl); exact rfl) | (apply stN_o; (exact rfl); (exact rfl); exact rfl) | (refine new_i (fun bk hbk => ?_)) | (refine Both.mk ?_ ?_))
  all_goals exact ⟨rfl, (by refine sb_ent ?_; (repeat (first | exact sb_refl | exact sb_nil | refine sb_fr ?_ | refine sb_pu rfl ?_ | refine sb_cons ?_ | refine sb_app ?_)))⟩
theorem sp_turn1 (hM : h.ok m.L) (Q : Own) : Spec Tryz.prog W0 139 [.pointer (some ⟨b, 0, none⟩), .pointer (some ⟨h.mb, 0, none⟩)] ((b, tnP true c false) :: (h.O m ++ Q)) fun v own' =>
    ∃ _ : Unit, v = (acL 5 0 m.sv).v ∧ Ent W0 own' ((b, tnP true c (decide (m.sv = c))) :: (h.O m ++ Q)) := by
  refine spec_un (spec_of mixed low_turn_Turn_Step (by simp [ir_turn_Turn_Step]) ?_)
  repeat' ((try (conv => whnf)); first | (refine br_fe ?_ ?_; exact rfl) | ((with_reducible show CallT _ _ _ _ _ _); first | ((refine call_ld 4 0 hM (by decide) rfl ?_ ?_ ?_; (exact rfl); (exact rfl)))) | (apply sel; exact rfl) | (apply ld_o; exact rfl) | (apply ldN_a; exact rfl) | (apply st_o; (exact rfl); exact rfl) | (apply stN_o; (exact rfl); (exact rfl); exact rfl) | (refine new_i (fun bk hbk => ?_)))
  all_goals exact ⟨rfl, (by refine sb_ent ?_; (repeat (first | exact sb_refl | exact sb_nil | refine sb_fr ?_ | refine sb_pu rfl ?_ | refine sb_cons ?_ | refine sb_app ?_)))⟩
theorem sp_tnDone {d : Bool} (h2 : Cl W0 own b 2 (.bool d)) : Pure Tryz.prog W0 140 [.pointer (some ⟨b, 0, none⟩)] own (.bool d) := by
  refine pure_of (spec_of mixed low_turn_Turn_Done (by simp [ir_turn_Turn_Done]) ?_)
  repeat' ((try (conv => whnf)); first | (refine ldK1 h2 ?_))
  all_goals exact ⟨rfl, (by first | exact ent_i | (repeat (first | exact Ent.refl | exact Ent.left | refine Ent.cons ?_ | refine Ent.app ?_)))⟩
theorem sp_ticket (h0 : Cl W0 own b 0 (.bool true)) (h1 : Cl W0 own b 1 (uv c)) (hc : 0 ≤ c ∧ c ≤ 1099511627776) : Pure Tryz.prog W0 82 [.pointer (some ⟨b, 0, none⟩)] own (.int .i64 c) := by
  refine pure_of (spec_of mixed low_turn_Turn_Ticket (by simp [ir_turn_Turn_Ticket]) ?_)
  repeat' ((try (conv => whnf)); first | (refine ldK1 h1 ?_) | ((with_reducible show Ld _ _ _ _); first | (refine ldK h0 ?_)) | (refine br_fe ?_ ?_; exact rfl) | (refine ari ?_ ?_; omega))
  all_goals exact ⟨rfl, (by first | exact ent_i | (repeat (first | exact Ent.refl | exact Ent.left | refine Ent.cons ?_ | refine Ent.app ?_)))⟩
theorem sp_pass (hM : h.ok m.L) (hc : 0 ≤ c ∧ c ≤ 1099511627776) (Q : Own) : Spec Tryz.prog W0 81 [.pointer (some ⟨h.mb, 0, none⟩), .int .i64 c] (h.O m ++ Q) fun v own' =>
    ∃ _ : Unit, v = (acS 5 0 m.sv (wrapu (c + 1))).v ∧ Ent W0 own' (h.O { m with sv := wrapu (c + 1) } ++ Q) := by
  refine spec_un (spec_of mixed low_turn_Pass (by simp [ir_turn_Pass]) ?_)
  repeat' ((try (conv => whnf)); first | ((with_reducible show CallT _ _ _ _ _ _); first | ((refine call_st 4 0 (c + 1) { m with sv := c + 1 } hM (by decide) rfl rfl ?_ ?_ ?_; (exact rfl); (exact rfl)))) | (refine aru ?_ ?_; omega) | (apply sel; exact rfl) | (apply ldN_a; exact rfl) | (apply stN_o; (exact rfl); (exact rfl); exact rfl) | (refine new_i (fun bk hbk => ?_)))
  all_goals (rw [wrapu_id (by unfold okU; omega)]; exact ⟨rfl, (by refine sb_ent ?_; (repeat (first | exact sb_refl | exact sb_nil | refine sb_fr ?_ | refine sb_pu rfl ?_ | refine sb_cons ?_ | refine sb_app ?_)))⟩)
abbrev rdP (a o rv : Int) (n : Nat) (bf vl : Int) (cf : Bool) : Obj → Prop := fun z => z = Obj.cells #[.int .i64 a, .int .i64 o, .int .i64 rv, .int .i64 n, uv bf, uv vl, .bool cf] 234 (0, 0)
variable {a : Int} {o : Nat} {rv bf vl w : Int}
theorem sp_newRead (a o rv : Int) (Q : Own) : Spec Tryz.prog W0 166 [.int .i64 a, .int .i64 o, .int .i64 rv] Q fun v own' => ∃ b : Nat, v = .pointer (some ⟨b, 0, none⟩) ∧ Ent W0 own' ((b, rdP a o rv 0 0 0 false) :: Q) := by
  refine spec_of mixed low_reader_New (by simp [ir_reader_New]) ?_
  repeat' ((try (conv => whnf)); first | (refine new_i (fun bk hbk => ?_)))
  all_goals exact ⟨_, rfl, Ent.refl⟩
theorem sp_read0 (hM : h.ok m.L) (hj : m.o[o]? = some w) (hw : okU w) (Q : Own) : Spec Tryz.prog W0 125 [.pointer (some ⟨b, 0, none⟩), .pointer (some ⟨h.mb, 0, none⟩)] ((b, rdP a o rv 0 0 0 false) :: (h.O m ++ Q)) fun v own' =>
    ∃ _ : Unit, v = (acL 2 o w).v ∧ Ent W0 own' ((b, if hldO w ≥ 0 ∨ verO w > rv then rdP a o rv 3 w 0 true else rdP a o rv 1 w 0 false) :: (h.O m ++ Q)) := by
  refine spec_un (spec_of mixed low_reader_Read_Step (by simp [ir_reader_Read_Step]) ?_)
  have hho := fun own' => sp_holder (W0 := W0) (own := own') w hw
  have hve := fun own' => sp_version (W0 := W0) (own := own') w hw
  repeat' ((try (conv => whnf)); first | (refine when_ye ?_ ?_; exact rfl) | (refine when_ne ?_ ?_; exact rfl) | (refine br_te ?_ ?_; exact rfl) | ((with_reducible show CallT _ _ _ _ _ _); first | ((refine call_ld 1 o hM (by decide) hj ?_ ?_ ?_; (exact rfl); (exact rfl)))) | ((with_reducible show CallQ _ _ _ _ _ _); first | ((refine call_qq hho ?_ ?_ ?_; (exact rfl); (exact rfl))) | ((refine call_qq hve ?_ ?_ ?_; (exact rfl); (exact rfl)))) | (apply sel; exact rfl) | (apply ld_o; exact rfl) | (apply ldN_a; exact rfl) | (apply st_o; (exact rfl); exact rfl) | (apply stN_o; (exact rfl); (exact rfl); exact rfl) | (refine new_i (fun bk hbk => ?_)) | (apply when_dF; (exact rfl); (exact rfl); all_goals intro hc) | (apply br_dE; (exact rfl); all_goals intro hc))
  all_goals
    first
    | (rw [if_pos (.inl (by omega))]; exact ⟨rfl, (by refine sb_ent ?_; (repeat (first | exact sb_refl | exact sb_nil | refine sb_fr ?_ | refine sb_pu rfl ?_ | refine sb_cons ?_ | refine sb_app ?_)))⟩)
    | (rw [if_pos (.inr (by omega))]; exact ⟨rfl, (by refine sb_ent ?_; (repeat (first | exact sb_refl | exact sb_nil | refine sb_fr ?_ | refine sb_pu rfl ?_ | refine sb_cons ?_ | refine sb_app ?_)))⟩)
    | (rw [if_neg (by omega)]; exact ⟨rfl, (by refine sb_ent ?_; (repeat (first | exact sb_refl | exact sb_nil | refine sb_fr ?_ | refine sb_pu rfl ?_ | refine sb_cons ?_ | refine sb_app ?_)))⟩)
theorem sp_read1 {j : Nat} (hM : h.ok m.L) (hj : m.d[j]? = some w) (Q : Own) : Spec Tryz.prog W0 125 [.pointer (some ⟨b, 0, none⟩), .pointer (some ⟨h.mb, 0, none⟩)] ((b, rdP j o rv 1 bf 0 false) :: (h.O m ++ Q)) fun v own' =>
    ∃ _ : Unit, v = (acL 1 j w).v ∧ Ent W0 own' ((b, rdP j o rv 2 bf w false) :: (h.O m ++ Q)) := by
  refine spec_un (spec_of mixed low_reader_Read_Step (by simp [ir_reader_Read_Step]) ?_)
  repeat' ((try (conv => whnf)); first | (refine br_te ?_ ?_; exact rfl) | (refine br_fe ?_ ?_; exact rfl) | ((with_reducible show CallT _ _ _ _ _ _); first | ((refine call_ld 0 j hM (by decide) hj ?_ ?_ ?_; (exact rfl); (exact rfl)))) | (apply sel; exact rfl) | (apply ld_o; exact rfl) | (apply ldN_a; exact rfl) | (apply st_o; (exact rfl); exact rfl) | (apply stN_o; (exact rfl); (exact rfl); exact rfl) | (refine new_i (fun bk hbk => ?_)))
  all_goals exact ⟨rfl, (by refine sb_ent ?_; (repeat (first | exact sb_refl | exact sb_nil | refine sb_fr ?_ | refine sb_pu rfl ?_ | refine sb_cons ?_ | refine sb_app ?_)))⟩
theorem sp_read2 (hM : h.ok m.L) (hj : m.o[o]? = some w) (Q : Own) : Spec Tryz.prog W0 125 [.pointer (some ⟨b, 0, none⟩), .pointer (some ⟨h.mb, 0, none⟩)] ((b, rdP a o rv 2 bf vl false) :: (h.O m ++ Q)) fun v own' =>
    ∃ _ : Unit, v = (acL 2 o w).v ∧ Ent W0 own' ((b, rdP a o rv 3 bf vl (decide (w ≠ bf))) :: (h.O m ++ Q)) := by
  refine spec_un (spec_of mixed low_reader_Read_Step (by simp [ir_reader_Read_Step]) ?_)
  repeat' ((try (conv => whnf)); first | (refine br_te ?_ ?_; exact rfl) | (refine br_fe ?_ ?_; exact rfl) | ((with_reducible show CallT _ _ _ _ _ _); first | ((refine call_ld 1 o hM (by decide) hj ?_ ?_ ?_; (exact rfl); (exact rfl)))) | (apply sel; exact rfl) | (apply ld_o; exact rfl) | (apply ldN_a; exact rfl) | (apply st_o; (exact rfl); exact rfl) | (apply stN_o; (exact rfl); (exact rfl); exact rfl) | (refine new_i (fun bk hbk => ?_)))
  all_goals exact ⟨rfl, (by refine sb_ent ?_; (repeat (first | exact sb_refl | exact sb_nil | refine sb_fr ?_ | refine sb_pu rfl ?_ | refine sb_cons ?_ | refine sb_app ?_)))⟩
theorem sp_rdDone {n : Int} (h3 : Cl W0 own b 3 (.int .i64 n)) : Pure Tryz.prog W0 126 [.pointer (some ⟨b, 0, none⟩)] own (.bool (decide (n = 3))) := by
  refine pure_of (spec_of mixed low_reader_Read_Done (by simp [ir_reader_Read_Done]) ?_)
  repeat' ((try (conv => whnf)); first | (refine ldK1 h3 ?_))
  all_goals exact ⟨rfl, (by first | exact ent_i | (repeat (first | exact Ent.refl | exact Ent.left | refine Ent.cons ?_ | refine Ent.app ?_)))⟩
theorem sp_rdConf {d : Bool} (h6 : Cl W0 own b 6 (.bool d)) : Pure Tryz.prog W0 127 [.pointer (some ⟨b, 0, none⟩)] own (.bool d) := by
  refine pure_of (spec_of mixed low_reader_Read_Conflict (by simp [ir_reader_Read_Conflict]) ?_)
  repeat' ((try (conv => whnf)); first | (refine ldK1 h6 ?_))
  all_goals exact ⟨rfl, (by first | exact ent_i | (repeat (first | exact Ent.refl | exact Ent.left | refine Ent.cons ?_ | refine Ent.app ?_)))⟩
theorem sp_rdVal (h3 : Cl W0 own b 3 (.int .i64 3)) (h5 : Cl W0 own b 5 (uv vl)) (h6 : Cl W0 own b 6 (.bool false)) : Pure Tryz.prog W0 132 [.pointer (some ⟨b, 0, none⟩)] own (uv vl) := by
  refine pure_of (spec_of mixed low_reader_Read_Value (by simp [ir_reader_Read_Value]) ?_)
  repeat' ((try (conv => whnf)); first | (refine when_ye ?_ ?_; exact rfl) | (refine br_fe ?_ ?_; exact rfl) | (refine ldK1 h6 ?_) | (refine ldK1 h5 ?_) | ((with_reducible show CallT _ _ _ _ _ _); first | ((refine call_pe (sp_rdDone h3) ?_ ?_ ?_; (exact rfl); exact rfl))))
  all_goals exact ⟨rfl, (by first | exact ent_i | (repeat (first | exact Ent.refl | exact Ent.left | refine Ent.cons ?_ | refine Ent.app ?_)))⟩
end
end Go.Proofs.YtllddgdmmfmpkaaGreatDoor
