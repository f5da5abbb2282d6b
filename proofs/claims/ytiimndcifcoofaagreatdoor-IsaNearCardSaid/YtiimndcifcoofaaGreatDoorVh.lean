/- Part h: slices that are read, and slices that are made: lists in memory. No condition. -/
import Derived.Test.YtiimndcifcoofaaGreatDoorVe
namespace Go.Proofs.YtiimndcifcoofaaGreatDoor
open Go

def ab : Option Addr → Nat
  | some a => a.block
  | none => 0
def ao : Option Addr → Nat
  | some a => a.off
  | none => 0

section ent
variable {W0 : World} {own : Own}
theorem Ent.left {D r : Own} : Ent W0 (D ++ r) D := Ent.of_sub (List.sublist_append_left D r)
theorem Ent.right {D r : Own} : Ent W0 (D ++ r) r := Ent.of_sub (List.sublist_append_right D r)
theorem Ent.app {A own' : Own} (h : Ent W0 own own') : Ent W0 (A ++ own) own' := Ent.right.trans h
theorem Ent.none : Ent W0 own [] := Ent.of_sub (List.nil_sublist own)

/-- A part of a list of owned blocks, and the list around it. -/
inductive At (D : Own) : Own → (Own → Own) → Prop
  | head {r : Own} : At D (D ++ r) (fun X => X ++ r)
  | tail {e : Nat × (Obj → Prop)} {r : Own} {C : Own → Own} (h : At D r C) : At D (e :: r) (fun X => e :: C X)
  | skip {A r : Own} {C : Own → Own} (h : At D r C) : At D (A ++ r) (fun X => A ++ C X)
theorem At.perm {D own : Own} {C : Own → Own} (h : At D own C) : ∃ r, own.Perm (D ++ r) ∧ ∀ X, (C X).Perm (X ++ r) := by
  induction h with
  | head => exact ⟨_, List.Perm.refl _, fun _ => List.Perm.refl _⟩
  | @tail e r C h ih =>
    obtain ⟨r', h1, h2⟩ := ih
    exact ⟨e :: r', (h1.cons e).trans List.perm_middle.symm, fun X => ((h2 X).cons e).trans List.perm_middle.symm⟩
  | @skip A r C h ih =>
    obtain ⟨r', h1, h2⟩ := ih
    have sw : ∀ X : Own, (A ++ (X ++ r')).Perm (X ++ (A ++ r')) := fun X => by
      rw [← List.append_assoc, ← List.append_assoc]
      exact List.perm_append_comm.append_right r'
    exact ⟨A ++ r', (h1.append_left A).trans (sw D), fun X => ((h2 X).append_left A).trans (sw X)⟩
theorem At.ent {D own : Own} {C : Own → Own} (h : At D own C) {e : Nat × (Obj → Prop)} : Ent W0 (e :: own) (C [e]) := by
  obtain ⟨r, h1, h2⟩ := h.perm
  refine (Ent.of_perm (h1.cons e)).trans ((Ent.of_sub (List.Sublist.cons_cons e (List.sublist_append_right D r))).trans (Ent.of_perm (h2 [e]).symm))
theorem At.self {D own : Own} {C : Own → Own} (h : At D own C) : Ent W0 own D := by
  obtain ⟨r, h1, _⟩ := h.perm
  exact (Ent.of_perm h1).trans Ent.left
theorem At.same {D own : Own} {C : Own → Own} (h : At D own C) : C D = own := by
  induction h with
  | head => rfl
  | tail _ ih => exact congrArg _ ih
  | skip _ ih => exact congrArg _ ih
theorem Up.app {b : Nat} {p q : Obj → Prop} {r r' : Own} (h : Up b p q r r') : ∀ A : Own, Up b p q (A ++ r) (A ++ r')
  | [] => h
  | _ :: A => Up.tail (Up.app h A)
theorem At.up {b : Nat} {p : Obj → Prop} {own : Own} {C : Own → Own} (h : At [(b, p)] own C) (q : Obj → Prop) : Up b p q own (C [(b, q)]) := by
  generalize hD : [(b, p)] = D at h
  induction h with
  | head => subst hD; exact Up.head
  | tail _ ih => exact Up.tail ih
  | @skip A _ _ _ ih => exact Up.app ih A
end ent

section flat
variable {α : Type} {enc : α → List Value} {sz : Nat}
theorem flat_len : ∀ (l : List α), (∀ x ∈ l, (enc x).length = sz) → (l.map enc).flatten.length = l.length * sz
  | [], _ => by simp
  | x :: l, h => by
    simp only [List.map_cons, List.flatten_cons, List.length_append, List.length_cons, flat_len l (fun y hy => h y (List.mem_cons_of_mem _ hy)), h x List.mem_cons_self, Nat.succ_mul]
    omega
theorem flat_get : ∀ (l : List α), (∀ x ∈ l, (enc x).length = sz) → ∀ {j k : Nat} {x : α} {v : Value}, l[j]? = some x → (enc x)[k]? = some v → (l.map enc).flatten[j * sz + k]? = some v
  | [], _, j, k, x, v, h, _ => by simp at h
  | y :: l, h, 0, k, x, v, hx, hv => by
    simp only [List.getElem?_cons_zero, Option.some.injEq] at hx
    subst hx
    have hk := (List.getElem?_eq_some_iff.1 hv).1
    simp only [List.map_cons, List.flatten_cons, Nat.zero_mul, Nat.zero_add]
    rw [List.getElem?_append_left hk, hv]
  | y :: l, h, j + 1, k, x, v, hx, hv => by
    have hy := h y List.mem_cons_self
    simp only [List.map_cons, List.flatten_cons]
    rw [List.getElem?_append_right (by rw [hy, Nat.succ_mul]; omega), hy]
    have e : (j + 1) * sz + k - sz = j * sz + k := by rw [Nat.succ_mul]; omega
    rw [e]
    exact flat_get l (fun z hz => h z (List.mem_cons_of_mem _ hz)) (by simpa using hx) hv
theorem flat_take : ∀ (l : List α), (∀ x ∈ l, (enc x).length = sz) → ∀ j, (l.map enc).flatten.take (j * sz) = ((l.take j).map enc).flatten
  | [], _, j => by simp
  | y :: l, h, 0 => by simp
  | y :: l, h, j + 1 => by
    have hy := h y List.mem_cons_self
    simp only [List.map_cons, List.flatten_cons, List.take_succ_cons]
    rw [List.take_append, hy, List.take_of_length_le (by rw [hy, Nat.succ_mul]; omega)]
    have e : (j + 1) * sz - sz = j * sz := by rw [Nat.succ_mul]; omega
    rw [e, flat_take l (fun z hz => h z (List.mem_cons_of_mem _ hz)) j]
theorem flat_drop : ∀ (l : List α), (∀ x ∈ l, (enc x).length = sz) → ∀ j, (l.map enc).flatten.drop (j * sz) = ((l.drop j).map enc).flatten
  | [], _, j => by simp
  | y :: l, h, 0 => by simp
  | y :: l, h, j + 1 => by
    have hy := h y List.mem_cons_self
    simp only [List.map_cons, List.flatten_cons, List.drop_succ_cons]
    rw [List.drop_append, hy, List.drop_of_length_le (by rw [hy, Nat.succ_mul]; omega), List.nil_append]
    have e : (j + 1) * sz - sz = j * sz := by rw [Nat.succ_mul]; omega
    rw [e, flat_drop l (fun z hz => h z (List.mem_cons_of_mem _ hz)) j]
end flat

/-- A slice that is read: the cells of its elements, in every world of the class. -/
structure RdE {α : Type} (enc : α → List Value) (sz : Nat) (W0 : World) (own : Own) (a : Option Addr) (l : List α) : Prop where
  isS : l ≠ [] → a = some ⟨ab a, ao a, none⟩
  wid : ∀ x ∈ l, (enc x).length = sz
  cell : ∀ {j k : Nat} {x : α} {v : Value}, l[j]? = some x → (enc x)[k]? = some v → Kn W0 own (fun w => w.cell? ⟨ab a, ao a + j * sz + k, none⟩ = some v)

/-- A slice that is owned. -/
structure BufE {α : Type} (enc : α → List Value) (T : TypeId) (sz : Nat) (a : Option Addr) (cap : Nat) (l : List α) (D : Own) : Prop where
  wid : ∀ x ∈ l, (enc x).length = sz
  how : (l = [] ∧ cap = 0 ∧ D = []) ∨ ∃ b rest, a = some ⟨b, 0, none⟩ ∧ D = [(b, fun o => o = Obj.cells ((l.map enc).flatten ++ rest).toArray T)] ∧ l.length * sz + rest.length = cap * sz ∧ l.length ≤ cap

section
variable {α : Type} {enc : α → List Value} {sz : Nat} {W0 : World} {own : Own} {a : Option Addr} {l : List α}

theorem RdE.ent {own' : Own} (h : RdE enc sz W0 own a l) (e : Ent W0 own' own) : RdE enc sz W0 own' a l := ⟨h.isS, h.wid, fun hx hv => (h.cell hx hv).ent e⟩
theorem RdE.nil : RdE enc sz W0 own a [] := ⟨fun h => absurd rfl h, fun _ h => (by cases h), fun h => (by simp at h)⟩
theorem ixE {i : Int} {K : Addr → Prop} {j : Nat} {x : α} (h : RdE enc sz W0 own a l) (hx : l[j]? = some x) (hi : i = j) (hk : K ⟨ab a, ao a + j * sz, none⟩) : IxS a sz i l.length K :=
  ⟨j, ab a, ao a, hi, (List.getElem?_eq_some_iff.1 hx).1, h.isS (fun e => by subst e; simp at hx), hk⟩
theorem ldE {j k o : Nat} {x : α} {v : Value} {K : Value → Prop} (h : RdE enc sz W0 own a l) (hx : l[j]? = some x) (ho : o = ao a + j * sz + k) (hv : (enc x)[k]? = some v) (hk : K v) : Ld W0 own ⟨ab a, o, none⟩ K := by
  subst ho; exact ⟨v, h.cell hx hv, hk⟩
theorem ldNE {j o n : Nat} {x : α} {K : Array Value → Prop} (h : RdE enc sz W0 own a l) (hx : l[j]? = some x) (ho : o = ao a + j * sz) (hn : n = sz) (hk : K (enc x).toArray) : LdN W0 own ⟨ab a, o, none⟩ n K := by
  subst ho; subst hn
  have hw := h.wid x (List.mem_of_getElem? hx)
  refine ⟨(enc x).toArray, by simpa using hw, fun w hs i hi => ?_, hk⟩
  rw [addr_add]
  have hi' : i < (enc x).length := by omega
  exact (h.cell (v := (enc x)[i]) hx (List.getElem?_eq_getElem hi') w hs).trans (by simp [hi'])

theorem BufE.rd {T : TypeId} {cap : Nat} {D : Own} (h : BufE enc T sz a cap l D) : RdE enc sz W0 D a l := by
  rcases h.how with ⟨rfl, _, _⟩ | ⟨b, rest, rfl, rfl, hl, _⟩
  · exact RdE.nil
  · refine ⟨fun _ => rfl, h.wid, fun {j k x v} hx hv => ?_⟩
    have hf := flat_get l h.wid hx hv
    have hlt := (List.getElem?_eq_some_iff.1 hf).1
    show Kn W0 _ (fun w => w.cell? ⟨b, 0 + j * sz + k, none⟩ = some v)
    refine kn_cell (List.Mem.head _) ?_
    rw [Nat.zero_add, List.getElem?_append_left hlt, hf]
theorem BufE.le {T : TypeId} {cap : Nat} {D : Own} (h : BufE enc T sz a cap l D) : l.length ≤ cap := by
  rcases h.how with ⟨rfl, rfl, _⟩ | ⟨_, _, _, _, _, hl⟩
  · simp
  · exact hl
theorem BufE.nil {T : TypeId} : BufE enc T sz a 0 [] [] := ⟨fun _ h => (by cases h), .inl ⟨rfl, rfl, rfl⟩⟩
theorem rd_blk {b : Nat} {cs : Array Value} {T : TypeId} {fz : Nat × Nat} (hm : (b, fun o => o = Obj.cells cs T fz) ∈ own) (hw : ∀ x ∈ l, (enc x).length = sz) (hc : cs.toList = (l.map enc).flatten) : RdE enc sz W0 own (some ⟨b, 0, none⟩) l := by
  refine ⟨fun _ => rfl, hw, fun {j k x v} hx hv => ?_⟩
  have hf := flat_get l hw hx hv
  show Kn W0 own (fun w => w.cell? ⟨b, 0 + j * sz + k, none⟩ = some v)
  exact kn_cell hm (by rw [hc, Nat.zero_add]; exact hf)
/-- A part of a slice. -/
theorem RdE.sl {c r m : Nat} (h : RdE enc sz W0 own a l) (hr : r ≤ l.length) (hm : r ≤ m) : RdE enc sz W0 own (slA a m c sz) ((l.drop c).take (r - c)) := by
  by_cases hcr : c < r
  · have hne : l ≠ [] := by intro e; subst e; simp at hr; omega
    have hS := h.isS hne
    have e1 : slA a m c sz = some ⟨ab a, ao a + c * sz, none⟩ := by
      unfold slA
      rw [if_neg (by omega), hS]
      simp [addr_add, ab, ao]
    rw [e1]
    refine ⟨fun _ => rfl, fun x hx => h.wid x (List.mem_of_mem_drop (List.mem_of_mem_take hx)), fun {j k x v} hx hv => ?_⟩
    have hx' : l[c + j]? = some x := by
      rw [List.getElem?_take] at hx
      split at hx
      · rwa [List.getElem?_drop] at hx
      · cases hx
    have := h.cell hx' hv
    have e2 : ao a + (c + j) * sz + k = ao a + c * sz + j * sz + k := by rw [Nat.add_mul]; omega
    rw [e2] at this
    exact this
  · have e : r - c = 0 := by omega
    rw [e, List.take_zero]
    exact RdE.nil

/-- A new slice. -/
theorem mkE {T : TypeId} {bytes : Nat} {zs : List Value} {n c : Int} {K : Value → Own → Prop} (x0 : α) (hz : enc x0 = zs) (hs : zs.length = sz) (h0 : 0 ≤ n ∧ n ≤ c ∧ c * bytes ≤ 281474976710656)
    (hk : ∀ a cap D, BufE enc T sz a cap (List.replicate n.toNat x0) D → K (.slice a n.toNat cap) (D ++ own)) : MkT W0 own T bytes zs n c K := by
  refine ⟨n.toNat, c.toNat, by omega, by omega, by omega, ?_, fun b hb => ?_⟩
  · have h1 := h0.2.2
    have h2 : c = (c.toNat : Int) := by omega
    rw [h2, ← Int.natCast_mul] at h1
    omega
  · refine hk (some ⟨b, 0, none⟩) c.toNat [(b, fun o => o = Obj.cells (List.replicate c.toNat zs).flatten.toArray T)] ⟨fun x hx => by rw [List.eq_of_mem_replicate hx, hz, hs], .inr ⟨b, (List.replicate (c.toNat - n.toNat) zs).flatten, rfl, ?_, ?_, by simp; omega⟩⟩
    · have e : c.toNat = n.toNat + (c.toNat - n.toNat) := by omega
      congr
      funext o
      rw [List.map_replicate, hz, ← List.flatten_append, List.replicate_append_replicate, ← e]
    · have e : c.toNat = n.toNat + (c.toNat - n.toNat) := by omega
      simp only [List.length_replicate, List.length_flatten, List.map_replicate, List.sum_replicate_nat, hs]
      rw [← Nat.add_mul, ← e]

theorem setN_up {b : Nat} {T : TypeId} {w : World} {own' : Own} {cs vs : List Value} {off : Nat} (hw : St W0 own w) (hu : Up b (fun o => o = Obj.cells cs.toArray T) (fun o => o = Obj.cells (cs.take off ++ vs ++ cs.drop (off + vs.length)).toArray T) own own') (hl : off + vs.length ≤ cs.length) :
    (∀ j, j < vs.length → (w.cell? ⟨b, off + j, none⟩).isSome = true ∧ w.frozen? ⟨b, off + j, none⟩ = false) ∧ St W0 own' (setN w ⟨b, off, none⟩ 0 vs) := by
  obtain ⟨o, ho, rfl⟩ := hw.owns _ hu.mem
  have hs := setN_eq (T := T) vs 0 w off cs ho (by simpa using hl)
  refine ⟨fun j hj => ?_, hw.up hu hs.2.2.2.1 hs.2.2.2.2.1 hs.2.2.2.2.2 (by rw [hs.2.2.1]; exact Nat.le_refl _) (fun k _ hne => hs.2.1 k hne) ⟨_, by simpa using hs.1, rfl⟩⟩
  have hlt : off + j < cs.length := by omega
  exact ⟨by simp [World.cell?, ho, hlt], by simp [World.frozen?, ho]⟩

/-- An append of elements that are read. -/
theorem app_c {T : TypeId} {bytes cap m : Nat} {zs : List Value} {D : Own} {C : Own → Own} {a2 : Option Addr} {l2 : List α} {K : Value → Own → Prop} (hB : BufE enc T sz a cap l D) (hat : At D own C) (hx : RdE enc sz W0 own a2 l2) (hm : m = l2.length)
    (hz : zs.length = sz) (hs : 0 < sz) (h1 : ∀ x ∈ l2, (enc x).all oneC = true) (hb : cap < l.length + l2.length → (l.length + l2.length) * bytes ≤ 140737488355328)
    (hk : ∀ a' cap' D', BufE enc T sz a' cap' (l ++ l2) D' → K (.slice a' (l.length + l2.length) cap') (C D')) : AppT W0 own T sz bytes zs a l.length cap a2 m K := by
  subst hm
  have hrd : RdE enc sz W0 own a l := (hB.rd (W0 := W0)).ent hat.self
  have holds : ∀ {a : Option Addr} {l : List α}, RdE enc sz W0 own a l → Kn W0 own (Holds a (l.map enc).flatten) := fun {a l} h w hw ad had j v hj => by
    have hlt := (List.getElem?_eq_some_iff.1 hj).1
    rw [flat_len l h.wid] at hlt
    have hj1 : j / sz < l.length := Nat.div_lt_of_lt_mul (by rwa [Nat.mul_comm])
    have hj2 : j % sz < sz := Nat.mod_lt _ hs
    have hx' : l[j / sz]? = some l[j / sz] := List.getElem?_eq_getElem hj1
    have hwd := h.wid _ (List.mem_of_getElem? hx')
    have hv' : (enc l[j / sz])[j % sz]? = some (enc l[j / sz])[j % sz] := List.getElem?_eq_getElem (by omega)
    have he : j / sz * sz + j % sz = j := Nat.div_add_mod' j sz
    have hf := flat_get l h.wid hx' hv'
    rw [he, hj] at hf
    have hS := h.isS (fun e => by subst e; simp at hj1)
    rw [hS] at had
    have had := Option.some.inj had
    rw [← had, addr_add]
    have hc := h.cell hx' hv' w hw
    have e2 : ao a + j / sz * sz + j % sz = ao a + j := by omega
    rw [e2] at hc
    rw [hc, hf]
  have wid2 : ∀ x ∈ l ++ l2, (enc x).length = sz := fun x h => (List.mem_append.1 h).elim (hB.wid x) (hx.wid x)
  refine ⟨(l.map enc).flatten, (l2.map enc).flatten, flat_len l hB.wid, flat_len l2 hx.wid, fun e => ?_, fun e => ?_, fun v hv => ?_, holds hrd, holds hx, fun hfit => ?_, fun hgr => ⟨hb hgr, fun b c' hb' hc' => ?_⟩⟩
  · cases l with
    | nil => rfl
    | cons x r => have := hrd.isS (by simp); rw [e] at this; cases this
  · cases l2 with
    | nil => rfl
    | cons x r => have := hx.isS (by simp); rw [e] at this; cases this
  · obtain ⟨cs, hcs, hv⟩ := List.mem_flatten.1 hv
    obtain ⟨x, hx', rfl⟩ := List.mem_map.1 hcs
    exact List.all_eq_true.1 (h1 x hx') v hv
  · rcases hB.how with ⟨rfl, rfl, rfl⟩ | ⟨b, rest, rfl, rfl, hl, hle⟩
    · have h2 : l2 = [] := by cases l2 with | nil => rfl | cons x r => simp at hfit
      subst h2
      have hC := hat.same
      refine ⟨own, fun w hw => ⟨fun ad _ => ⟨fun j hj => by simp at hj, by simpa [setN] using hw⟩, fun _ => hw⟩, ?_⟩
      have := hk a 0 [] BufE.nil
      rw [hC] at this
      exact this
    · have hfl := flat_len l hB.wid
      have hfl2 := flat_len l2 hx.wid
      have hsz : (l.length + l2.length) * sz ≤ cap * sz := Nat.mul_le_mul_right _ hfit
      rw [Nat.add_mul] at hsz
      refine ⟨C [(b, fun o => o = Obj.cells (((l ++ l2).map enc).flatten ++ rest.drop (l2.length * sz)).toArray T)], fun w hw => ⟨fun ad had => ?_, fun e => by cases e⟩, hk (some ⟨b, 0, none⟩) cap _ ⟨wid2, .inr ⟨b, rest.drop (l2.length * sz), rfl, rfl, ?_, by simpa using hfit⟩⟩⟩
      · have had := Option.some.inj had
        subst had
        have hnew : ((l.map enc).flatten ++ rest).take (l.length * sz) ++ (l2.map enc).flatten ++ ((l.map enc).flatten ++ rest).drop (l.length * sz + (l2.map enc).flatten.length) = ((l ++ l2).map enc).flatten ++ rest.drop (l2.length * sz) := by
          rw [hfl2, List.take_append_of_le_length (by omega), List.take_of_length_le (by omega), List.drop_append, List.drop_of_length_le (by omega), List.nil_append, hfl, Nat.add_sub_cancel_left, List.map_append, List.flatten_append]
        have hu := hat.up (q := fun o => o = Obj.cells (((l.map enc).flatten ++ rest).take (l.length * sz) ++ (l2.map enc).flatten ++ ((l.map enc).flatten ++ rest).drop (l.length * sz + (l2.map enc).flatten.length)).toArray T)
        have hr := setN_up (vs := (l2.map enc).flatten) (off := l.length * sz) hw hu (by rw [List.length_append, hfl, hfl2]; omega)
        rw [hnew] at hr
        rw [addr_add, Nat.zero_add]
        refine ⟨fun j hj => ?_, hr.2⟩
        rw [addr_add]
        exact hr.1 j hj
      · simp only [List.length_append, List.length_drop, Nat.add_mul]; omega
  · refine ⟨C [(b, fun o => o = Obj.cells ((l.map enc).flatten ++ (l2.map enc).flatten ++ (List.replicate (c' - (l.length + l2.length)) zs).flatten).toArray T)], hat.ent, ?_⟩
    refine hk (some ⟨b, 0, none⟩) c' _ ⟨wid2, .inr ⟨b, (List.replicate (c' - (l.length + l2.length)) zs).flatten, rfl, ?_, ?_, by simpa using hc'⟩⟩
    · rw [List.map_append, List.flatten_append]
    · simp only [List.length_append, List.length_flatten, List.map_replicate, List.sum_replicate_nat, hz]
      rw [← Nat.add_mul]
      congr 1
      omega
theorem app_b {T : TypeId} {bytes cap m : Nat} {zs : List Value} {D : Own} {C : Own → Own} {a2 : Option Addr} {l2 : List α} {K : Value → Own → Prop} (hB : BufE enc T sz a cap l D) (hat : At D own C) (hx : RdE enc sz W0 own a2 l2) (hm : m = l2.length)
    (hz : zs.length = sz) (hs : 0 < sz) (h1 : ∀ x ∈ l2, (enc x).all oneC = true) (hb : (l.length + l2.length) * bytes ≤ 140737488355328)
    (hk : ∀ a' cap' D', BufE enc T sz a' cap' (l ++ l2) D' → K (.slice a' (l.length + l2.length) cap') (C D')) : AppT W0 own T sz bytes zs a l.length cap a2 m K :=
  app_c hB hat hx hm hz hs h1 (fun _ => hb) hk
/-- An append of one element that lies in a block of its own. -/
theorem app_1 {T T2 : TypeId} {bytes cap bt : Nat} {zs : List Value} {D : Own} {C : Own → Own} {ys : Array Value} {fz : Nat × Nat} {K : Value → Own → Prop} (x : α) (hB : BufE enc T sz a cap l D) (hat : At D own C) (hm : (bt, fun o => o = Obj.cells ys T2 fz) ∈ own) (hy : ys.toList = enc x)
    (hz : zs.length = sz) (hs : 0 < sz) (hw : (enc x).length = sz) (h1 : (enc x).all oneC = true) (hb : (l.length + 1) * bytes ≤ 140737488355328)
    (hk : ∀ a' cap' D', BufE enc T sz a' cap' (l ++ [x]) D' → K (.slice a' (l.length + 1) cap') (C D')) : AppT W0 own T sz bytes zs a l.length cap (some ⟨bt, 0, none⟩) 1 K :=
  app_b (l2 := [x]) hB hat (rd_blk hm (fun y hy => by rw [List.mem_singleton.1 hy]; exact hw) (by simpa using hy)) rfl hz hs (fun y hy => by rw [List.mem_singleton.1 hy]; exact h1) hb hk

/-- A whole element is written. -/
theorem stNE {T : TypeId} {cap j o : Nat} {D : Own} {C : Own → Own} {x : α} {vs : List Value} {K : Own → Prop} (x' : α) (hB : BufE enc T sz a cap l D) (hat : At D own C) (hx : l[j]? = some x) (ho : o = ao a + j * sz) (hv : enc x' = vs) (hw : vs.length = sz) (h1 : vs.all oneC = true)
    (hk : ∀ D', BufE enc T sz a cap (l.set j x') D' → K (C D')) : StN W0 own ⟨ab a, o, none⟩ vs K := by
  subst ho
  have hj := (List.getElem?_eq_some_iff.1 hx).1
  rcases hB.how with ⟨rfl, _, _⟩ | ⟨b, rest, rfl, rfl, hl, hle⟩
  · simp at hx
  · have hfl := flat_len l hB.wid
    have hsz : (j + 1) * sz ≤ l.length * sz := Nat.mul_le_mul_right _ hj
    rw [Nat.succ_mul] at hsz
    have wid' : ∀ y ∈ l.set j x', (enc y).length = sz := fun y hy => (List.mem_or_eq_of_mem_set hy).elim (hB.wid y) (fun e => by rw [e, hv, hw])
    have hnew : ((l.map enc).flatten ++ rest).take (j * sz) ++ vs ++ ((l.map enc).flatten ++ rest).drop (j * sz + vs.length) = ((l.set j x').map enc).flatten ++ rest := by
      rw [hw, List.take_append_of_le_length (by omega), List.drop_append_of_le_length (by omega), flat_take l hB.wid, ← Nat.succ_mul, flat_drop l hB.wid]
      rw [List.set_eq_take_append_cons_drop, if_pos hj, List.map_append, List.flatten_append, List.map_cons, List.flatten_cons, hv]
      simp
    refine ⟨fun v hv' => List.all_eq_true.1 h1 v hv', C [(b, fun o => o = Obj.cells (((l.set j x').map enc).flatten ++ rest).toArray T)], fun w hs => ?_, hk _ ⟨wid', .inr ⟨b, rest, rfl, rfl, by simpa using hl, by simpa using hle⟩⟩⟩
    have hu := hat.up (q := fun o => o = Obj.cells (((l.map enc).flatten ++ rest).take (j * sz) ++ vs ++ ((l.map enc).flatten ++ rest).drop (j * sz + vs.length)).toArray T)
    have hr := setN_up (vs := vs) (off := j * sz) hs hu (by rw [List.length_append, hfl]; omega)
    rw [hnew] at hr
    show (∀ i, i < vs.length → (w.cell? ((Addr.mk b (0 + j * sz) none).add i)).isSome = true ∧ w.frozen? ((Addr.mk b (0 + j * sz) none).add i) = false) ∧ St W0 _ (setN w ⟨b, 0 + j * sz, none⟩ 0 vs)
    rw [Nat.zero_add]
    refine ⟨fun i hi => ?_, hr.2⟩
    rw [addr_add]
    exact hr.1 i hi
theorem stN_and {W0 : World} {own : Own} {a : Addr} {vs : List Value} {n : Nat} {K : Own → Prop} (h : vs.length = n) (h2 : StN W0 own a vs K) : vs.length = n ∧ StN W0 own a vs K := ⟨h, h2⟩
theorem setN_one {w : World} {b o : Nat} {v : Value} : setN w ⟨b, o, none⟩ 0 [v] = w.setCell ⟨b, o, none⟩ v := by
  simp only [setN, addr_add, Nat.add_zero]
/-- One cell of an element is written. -/
theorem stE {T : TypeId} {cap j k o : Nat} {D : Own} {C : Own → Own} {x : α} {v : Value} {K : Own → Prop} (x' : α) (hB : BufE enc T sz a cap l D) (hat : At D own C) (hx : l[j]? = some x) (ho : o = ao a + j * sz + k) (hk0 : k < sz) (hv : enc x' = (enc x).set k v) (h1 : oneC v = true)
    (hk : ∀ D', BufE enc T sz a cap (l.set j x') D' → K (C D')) : StT W0 own ⟨ab a, o, none⟩ v K := by
  subst ho
  have hj := (List.getElem?_eq_some_iff.1 hx).1
  have hwx := hB.wid x (List.mem_of_getElem? hx)
  rcases hB.how with ⟨rfl, _, _⟩ | ⟨b, rest, rfl, rfl, hl, hle⟩
  · simp at hx
  · have hfl := flat_len l hB.wid
    have hsz : (j + 1) * sz ≤ l.length * sz := Nat.mul_le_mul_right _ hj
    rw [Nat.succ_mul] at hsz
    have wid' : ∀ y ∈ l.set j x', (enc y).length = sz := fun y hy => (List.mem_or_eq_of_mem_set hy).elim (hB.wid y) (fun e => by rw [e, hv, List.length_set, hwx])
    have hspl : (l.map enc).flatten = ((l.take j).map enc).flatten ++ (enc x ++ ((l.drop (j + 1)).map enc).flatten) := by
      have e : l = l.take j ++ x :: l.drop (j + 1) := by
        rw [← (List.getElem?_eq_some_iff.1 hx).2, List.getElem_cons_drop, List.take_append_drop]
      conv => lhs; rw [e]
      simp
    have htl : ((l.take j).map enc).flatten.length = j * sz := by
      rw [flat_len _ (fun y hy => hB.wid y (List.mem_of_mem_take hy)), List.length_take]
      congr 1; omega
    have hnew : ((l.map enc).flatten ++ rest).take (j * sz + k) ++ [v] ++ ((l.map enc).flatten ++ rest).drop (j * sz + k + [v].length) = ((l.set j x').map enc).flatten ++ rest := by
      have h2 : ((l.set j x').map enc).flatten ++ rest = ((l.map enc).flatten ++ rest).set (j * sz + k) v := by
        have e1 : ((l.set j x').map enc).flatten = ((l.take j).map enc).flatten ++ ((enc x).set k v ++ ((l.drop (j + 1)).map enc).flatten) := by
          rw [List.set_eq_take_append_cons_drop, if_pos hj, List.map_append, List.flatten_append, List.map_cons, List.flatten_cons, hv]
        have e2 : ∀ A X B : List Value, A ++ (X ++ B) ++ rest = A ++ (X ++ (B ++ rest)) := fun A X B => by simp
        rw [e1, hspl, e2, e2, List.set_append_right _ _ (by omega), htl, Nat.add_sub_cancel_left, List.set_append_left _ _ (by omega)]
      rw [h2, set_split _ _ _ (by rw [List.length_append, hfl]; omega)]
      rfl
    refine ⟨h1, C [(b, fun o => o = Obj.cells (((l.set j x').map enc).flatten ++ rest).toArray T)], fun w hs => ?_, hk _ ⟨wid', .inr ⟨b, rest, rfl, rfl, by simpa using hl, by simpa using hle⟩⟩⟩
    have hu := hat.up (q := fun o => o = Obj.cells (((l.map enc).flatten ++ rest).take (j * sz + k) ++ [v] ++ ((l.map enc).flatten ++ rest).drop (j * sz + k + [v].length)).toArray T)
    have hr := setN_up (vs := [v]) (off := j * sz + k) hs hu (by rw [List.length_append, hfl]; simp; omega)
    rw [hnew, setN_one] at hr
    show (w.cell? ⟨b, 0 + j * sz + k, none⟩).isSome = true ∧ w.frozen? ⟨b, 0 + j * sz + k, none⟩ = false ∧ St W0 _ (w.setCell ⟨b, 0 + j * sz + k, none⟩ v)
    rw [Nat.zero_add]
    have h0 := hr.1 0 (by simp)
    exact ⟨h0.1, h0.2, hr.2⟩

/-- A call that hands back a new slice. -/
theorem call_b {P : Program} {k : FuncId} {args : List Value} {T : TypeId} {K : Value → Own → Prop} (h : Spec P W0 k args own fun v own' => ∃ a cap D, v = .slice a l.length cap ∧ BufE enc T sz a cap l D ∧ Ent W0 own' (D ++ own))
    (hk : ∀ a cap D, BufE enc T sz a cap l D → K (.slice a l.length cap) (D ++ own)) : CallT P W0 own k args K :=
  ⟨fun w hw => (h w hw).mono fun _ _ ⟨_, _, he, hs, a, cap, D, hv, hB, hE⟩ => ⟨_, _, by rw [he, hv], hE _ hs, hk a cap D hB⟩⟩
end
end Go.Proofs.YtiimndcifcoofaaGreatDoor
