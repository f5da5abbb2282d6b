/- What the laws share, part 8. No condition. -/
import Derived.RangeFuncFrom
import Derived.RangeFuncLeaves
import Derived.Test.YtllddgdmmfmpkaaGreatDoorY7
namespace Go.Proofs.YtllddgdmmfmpkaaGreatDoor
open Go Go.RowKit
theorem St.put {W0 : World} {own own' : Own} {w : World} {b : Nat} {p q : Obj → Prop} (s : St W0 own w) (hu : Up b p q own own') (o : Obj) (hq : q o) : St W0 own' (w.putObj b o) := by
  have hb := s.mem_size hu.mem
  exact s.up hu rfl rfl rfl (by simp [World.putObj]) (fun k _ hne => World.putObj_heap_other (fun e => hne e)) ⟨o, World.putObj_heap_same hb, hq⟩
theorem St.new {W0 : World} {own : Own} {w : World} (s : St W0 own w) (o : Obj) {p : Obj → Prop} (hp : p o) : St W0 ((w.heap.size, p) :: own) (w.alloc o) := s.push o hp
inductive IT
  | code (c : IC)
  | seq (a : IC) (r : IT)
  | rng (g : Operand) (ps : List Nat) (as bd rest : IC)
  | cut (a : IC) (r : IT)
theorem At.drop {W0 : World} {D own : Own} {C : Own → Own} (h : At D own C) {e : Nat × (Obj → Prop)} : Ent W0 (C [e]) (C []) := by
  obtain ⟨r, _, h2⟩ := h.perm
  exact (Ent.of_perm (h2 [e])).trans ((Ent.cons Ent.refl).trans (Ent.of_perm (h2 []).symm))
end Go.Proofs.YtllddgdmmfmpkaaGreatDoor
namespace Go.Proofs.YtllddgdmmfmpkaaGreatDoor
open Go
class MemC (b : Nat) (p : outParam (Obj → Prop)) (own : Own) : Prop where
  h : (b, p) ∈ own
section
variable {b : Nat} {p : Obj → Prop} {e : Nat × (Obj → Prop)} {A r : Own}
instance MemC.left [m : MemC b p A] : MemC b p (A ++ r) := ⟨List.mem_append_left _ m.h⟩
instance MemC.right [m : MemC b p r] : MemC b p (A ++ r) := ⟨List.mem_append_right _ m.h⟩
instance MemC.tail [m : MemC b p r] : MemC b p (e :: r) := ⟨List.mem_cons_of_mem _ m.h⟩
instance MemC.head : MemC b p ((b, p) :: r) := ⟨List.mem_cons_self⟩
end
theorem Up.appl {b : Nat} {p q : Obj → Prop} {A A' r : Own} (h : Up b p q A A') : Up b p q (A ++ r) (A' ++ r) := by
  induction h with
  | head => exact Up.head
  | tail _ ih => exact Up.tail ih
class UpC (b : Nat) (p : outParam (Obj → Prop)) (own : Own) (C : outParam ((Obj → Prop) → Own)) : Prop where
  h : ∀ q, Up b p q own (C q)
section
variable {b : Nat} {p : Obj → Prop} {e : Nat × (Obj → Prop)} {A r : Own} {C : (Obj → Prop) → Own}
instance UpC.left [m : UpC b p A C] : UpC b p (A ++ r) (fun q => C q ++ r) := ⟨fun q => (m.h q).appl⟩
instance UpC.right [m : UpC b p r C] : UpC b p (A ++ r) (fun q => A ++ C q) := ⟨fun q => (m.h q).app A⟩
instance UpC.tail [m : UpC b p r C] : UpC b p (e :: r) (fun q => e :: C q) := ⟨fun q => Up.tail (m.h q)⟩
instance UpC.head : UpC b p ((b, p) :: r) (fun q => (b, q) :: r) := ⟨fun _ => Up.head⟩
end
theorem At.left {D A r : Own} {C : Own → Own} (h : At D A C) : At D (A ++ r) (fun X => C X ++ r) := by
  induction h with
  | @head r0 =>
    have := At.head (D := D) (r := r0 ++ r)
    simpa only [List.append_assoc] using this
  | tail _ ih => exact At.tail ih
  | @skip A r0 C _ ih =>
    have := At.skip (A := A) ih
    simpa only [List.append_assoc] using this
class AtC (D own : Own) (C : outParam (Own → Own)) : Prop where
  h : At D own C
section
variable {D A r : Own} {e : Nat × (Obj → Prop)} {C : Own → Own}
instance AtC.left [m : AtC D A C] : AtC D (A ++ r) (fun X => C X ++ r) := ⟨m.h.left⟩
instance AtC.skip [m : AtC D r C] : AtC D (A ++ r) (fun X => A ++ C X) := ⟨At.skip m.h⟩
instance AtC.tail [m : AtC D r C] : AtC D (e :: r) (fun X => e :: C X) := ⟨At.tail m.h⟩
instance AtC.one : AtC [e] (e :: r) (fun X => X ++ r) := ⟨At.head (D := [e])⟩
instance AtC.head : AtC D (D ++ r) (fun X => X ++ r) := ⟨At.head⟩
end
class EntC (own own' : Own) : Prop where
  h : ∀ W0, Ent W0 own own'
section
variable {A D r own own' : Own} {e : Nat × (Obj → Prop)}
instance EntC.nil : EntC own [] := ⟨fun _ => Ent.none⟩
instance EntC.appl [m : EntC A own'] : EntC (A ++ r) own' := ⟨fun W => Ent.left.trans (m.h W)⟩
instance EntC.app [m : EntC r own'] : EntC (A ++ r) own' := ⟨fun W => Ent.app (m.h W)⟩
instance EntC.cons [m : EntC own own'] : EntC (e :: own) own' := ⟨fun W => Ent.cons (m.h W)⟩
instance EntC.left : EntC (D ++ r) D := ⟨fun _ => Ent.left⟩
instance EntC.refl : EntC own own := ⟨fun _ => Ent.refl⟩
end
section
variable {W0 : World} {own own' : Own}
theorem ent_i [m : EntC own own'] : Ent W0 own own' := m.h W0
theorem ld_o {b off : Nat} {cs : Array Value} {T : TypeId} {fz : Nat × Nat} {v : Value} {K : Value → Prop} [m : MemC b (fun o => o = Obj.cells cs T fz) own] (hv : cs.toList[off]? = some v) (h : K v) : Ld W0 own ⟨b, off, none⟩ K := ld_own v m.h hv h
theorem ldN_a {b n : Nat} {cs : Array Value} {T : TypeId} {fz : Nat × Nat} {K : Array Value → Prop} [m : MemC b (fun o => o = Obj.cells cs T fz) own] (hl : cs.toList.length = n) (h : K cs) : LdN W0 own ⟨b, 0, none⟩ n K := ldN_all m.h hl h
theorem ldN_o {b off n : Nat} {cs : Array Value} {T : TypeId} {fz : Nat × Nat} {K : Array Value → Prop} {vs : List Value} [m : MemC b (fun o => o = Obj.cells cs T fz) own] (hv : (cs.toList.drop off).take n = vs) (hl : vs.length = n) (h : K vs.toArray) : LdN W0 own ⟨b, off, none⟩ n K := ldN_own vs m.h hv hl h
theorem st_o {b off : Nat} {cs : Array Value} {T : TypeId} {v : Value} {K : Own → Prop} {C : (Obj → Prop) → Own} [m : UpC b (fun o => o = Obj.cells cs T (0, 0)) own C] (hoff : Nat.ble (off + 1) cs.toList.length = true) (h1 : oneC v = true)
    (h : K (C fun o => o = Obj.cells (cs.toList.set off v).toArray T (0, 0))) : StT W0 own ⟨b, off, none⟩ v K := by
  have hu := m.h (fun o => o = Obj.cells (cs.toList.set off v).toArray T (0, 0))
  have hoff' : off < cs.toList.length := Nat.le_of_ble_eq_true hoff
  refine ⟨h1, _, fun w hw => ?_, h⟩
  obtain ⟨o, ho, rfl⟩ := hw.owns _ hu.mem
  have hoff2 : off < cs.size := by simpa using hoff'
  refine ⟨by simp [World.cell?, ho, hoff2], by simp [World.frozen?, ho], hw.up hu rfl rfl rfl (by simp [World.setCell]) (fun k _ hne => ?_) ⟨_, ?_, rfl⟩⟩
  · rw [setCell_heap, if_neg (fun e => hne e.symm)]
  · rw [setCell_heap, if_pos rfl, ho]
    simp only [Option.map_some, Option.isSome_none, Bool.false_eq_true, if_false]
    congr 2
    rw [← Array.toList_inj]
    simp
theorem stN_o {b off n : Nat} {cs : Array Value} {T : TypeId} {vs : List Value} {K : Own → Prop} {C : (Obj → Prop) → Own} [m : UpC b (fun o => o = Obj.cells cs T (0, 0)) own C] (hn : vs.length = n) (hoff : Nat.ble (off + n) cs.toList.length = true) (h1 : vs.all oneC = true)
    (h : K (C fun o => o = Obj.cells (cs.toList.take off ++ vs ++ cs.toList.drop (off + n)).toArray T (0, 0))) : vs.length = n ∧ StN W0 own ⟨b, off, none⟩ vs K := by
  subst hn
  have hu := m.h (fun o => o = Obj.cells (cs.toList.take off ++ vs ++ cs.toList.drop (off + vs.length)).toArray T (0, 0))
  have hoff' : off + vs.length ≤ cs.toList.length := Nat.le_of_ble_eq_true hoff
  refine ⟨rfl, by simpa using h1, _, fun w hw => ?_, h⟩
  have := setN_up (cs := cs.toList) (vs := vs) hw hu hoff'
  refine ⟨fun j hj => ?_, this.2⟩
  rw [addr_add]
  exact this.1 j hj
end
section
variable {α : Type} {enc : α → List Value} {sz : Nat} {W0 : World} {own own' : Own} {l : List α} {a : Option Addr}
abbrev canE (enc : α → List Value) (T : TypeId) (b : Nat) (l : List α) : Nat × (Obj → Prop) := (b, fun o => o = Obj.cells (l.map enc).flatten.toArray T)
theorem can_buf {T : TypeId} {b : Nat} (hw : ∀ x ∈ l, (enc x).length = sz) : BufE enc T sz (some ⟨b, 0, none⟩) l.length l [canE enc T b l] :=
  ⟨hw, .inr ⟨b, [], rfl, by simp [canE], by simp, Nat.le_refl _⟩⟩
theorem can_eq {T : TypeId} {b : Nat} {D : Own} (hne : l ≠ []) (h : BufE enc T sz (some ⟨b, 0, none⟩) l.length l D) : D = [canE enc T b l] := by
  rcases h.how with ⟨rfl, _, _⟩ | ⟨b', rest, hb, rfl, hl, _⟩
  · exact absurd rfl hne
  · simp only [Option.some.injEq, Addr.mk.injEq] at hb
    obtain ⟨rfl, _⟩ := hb
    have : rest = [] := List.eq_nil_of_length_eq_zero (by omega)
    subst this
    simp [canE]
theorem mkC {T : TypeId} {bytes : Nat} {zs : List Value} {n c : Int} {K : Value → Own → Prop} (m : Nat) (x0 : α) (hn : n = m) (hc : c = m) (hz : enc x0 = zs) (h0 : m * bytes ≤ 281474976710656)
    (hk : ∀ b, K (.slice (some ⟨b, 0, none⟩) m m) (canE enc T b (List.replicate m x0) :: own)) : MkT W0 own T bytes zs n c K := by
  subst hn; subst hc
  refine ⟨m, m, rfl, rfl, Nat.le_refl _, h0, fun b _ => ?_⟩
  have := hk b
  simp only [canE, List.map_replicate, hz] at this
  exact this
theorem stC {T : TypeId} {b j k o : Nat} {C : Own → Own} {x : α} {v : Value} {K : Own → Prop} (x' : α) (hw : ∀ x ∈ l, (enc x).length = sz) (hx : l[j]? = some x) [m : AtC [canE enc T b l] own C] (ho : o = j * sz + k) (hk0 : k < sz) (hv : enc x' = (enc x).set k v) (h1 : oneC v = true)
    (hk : K (C [canE enc T b (l.set j x')])) : StT W0 own ⟨b, o, none⟩ v K :=
  stE (a := some ⟨b, 0, none⟩) x' (can_buf hw) m.h hx (by simp [ao, ho]) hk0 hv h1 (fun D' hb => by
    have hne : l.set j x' ≠ [] := fun e => by
      have := congrArg List.length e
      rw [List.length_set] at this
      have := List.eq_nil_of_length_eq_zero this
      subst this
      simp at hx
    have := can_eq hne (by rw [List.length_set]; exact hb)
    subst this
    exact hk)
theorem ixC {b n j : Nat} {i : Int} {x : α} {K : Addr → Prop} (hx : l[j]? = some x) (hn : n = l.length) (hi : i = j) (hk : K ⟨b, j * sz, none⟩) : IxS (some ⟨b, 0, none⟩) sz i n K := by
  subst hn; subst hi
  exact ixs_j (List.getElem?_eq_some_iff.1 hx).1 (by rw [Nat.zero_add]; exact hk)
theorem ldC {T : TypeId} {b j k : Nat} {x : α} {v : Value} {K : Value → Prop} (hw : ∀ x ∈ l, (enc x).length = sz) (hx : l[j]? = some x) [m : MemC b (fun o => o = Obj.cells (l.map enc).flatten.toArray T) own] (hv : (enc x)[k]? = some v) (hk : K v) : Ld W0 own ⟨b, j * sz + k, none⟩ K :=
  ld_own v m.h (by rw [List.toList_toArray]; exact flat_get l hw hx hv) hk
theorem ldC0 {T : TypeId} {b j : Nat} {x : α} {v : Value} {K : Value → Prop} (hw : ∀ x ∈ l, (enc x).length = sz) (hx : l[j]? = some x) [m : MemC b (fun o => o = Obj.cells (l.map enc).flatten.toArray T) own] (hv : (enc x)[0]? = some v) (hk : K v) : Ld W0 own ⟨b, j * sz, none⟩ K := ldC (T := T) (k := 0) hw hx hv hk
theorem ldE0 {j : Nat} {x : α} {v : Value} {K : Value → Prop} (h : RdE enc sz W0 own' a l) (hx : l[j]? = some x) [m : EntC own own'] (hv : (enc x)[0]? = some v) (hk : K v) : Ld W0 own ⟨ab a, ao a + j * sz, none⟩ K := ldE (k := 0) (h.ent (m.h W0)) hx rfl hv hk
theorem ldEk {j k : Nat} {x : α} {v : Value} {K : Value → Prop} (h : RdE enc sz W0 own' a l) (hx : l[j]? = some x) [m : EntC own own'] (hv : (enc x)[k]? = some v) (hk : K v) : Ld W0 own ⟨ab a, ao a + j * sz + k, none⟩ K := ldE (k := k) (h.ent (m.h W0)) hx rfl hv hk
theorem ldNEi {j n : Nat} {x : α} {K : Array Value → Prop} (h : RdE enc sz W0 own' a l) (hx : l[j]? = some x) [m : EntC own own'] (hn : n = sz) (hk : K (enc x).toArray) : LdN W0 own ⟨ab a, ao a + j * sz, none⟩ n K := ldNE (h.ent (m.h W0)) hx rfl hn hk
theorem RdE.up (h : RdE enc sz W0 own' a l) [m : EntC own own'] : RdE enc sz W0 own a l := h.ent (m.h W0)
theorem app_i {T T2 : TypeId} {bytes cap bt : Nat} {zs : List Value} {D : Own} {C : Own → Own} {ys : Array Value} {fz : Nat × Nat} {K : Value → Own → Prop} (x : α) (hB : BufE enc T sz a cap l D) [m : AtC D own C] [m2 : MemC bt (fun o => o = Obj.cells ys T2 fz) own] (hy : ys.toList = enc x)
    (hz : zs.length = sz) (hs : 0 < sz) (hw : (enc x).length = sz) (h1 : (enc x).all oneC = true) (hb : (l.length + 1) * bytes ≤ 140737488355328)
    (hk : ∀ a' cap' D', BufE enc T sz a' cap' (l ++ [x]) D' → K (.slice a' (l.length + 1) cap') (C D')) : AppT W0 own T sz bytes zs a l.length cap (some ⟨bt, 0, none⟩) 1 K := app_1 x hB m.h m2.h hy hz hs hw h1 hb hk
theorem app_l {T : TypeId} {bytes cap m : Nat} {zs : List Value} {D : Own} {C : Own → Own} {a2 : Option Addr} {l2 : List α} {K : Value → Own → Prop} (hB : BufE enc T sz a cap l D) (hx : RdE enc sz W0 own' a2 l2) [mm : AtC D own C] [me : EntC own own'] (hm : m = l2.length)
    (hz : zs.length = sz) (hs : 0 < sz) (h1 : ∀ x ∈ l2, (enc x).all oneC = true) (hb : cap < l.length + l2.length → (l.length + l2.length) * bytes ≤ 140737488355328)
    (hk : ∀ a' cap' D', BufE enc T sz a' cap' (l ++ l2) D' → K (.slice a' (l.length + l2.length) cap') (C D')) : AppT W0 own T sz bytes zs a l.length cap a2 m K := app_c hB mm.h (hx.ent (me.h W0)) hm hz hs h1 hb hk
theorem stE_i {T : TypeId} {cap j k o : Nat} {D : Own} {C : Own → Own} {x : α} {v : Value} {K : Own → Prop} (x' : α) (hB : BufE enc T sz a cap l D) (hx : l[j]? = some x) [m : AtC D own C] (ho : o = ao a + j * sz + k) (hk0 : k < sz) (hv : enc x' = (enc x).set k v) (h1 : oneC v = true)
    (hk : ∀ D', BufE enc T sz a cap (l.set j x') D' → K (C D')) : StT W0 own ⟨ab a, o, none⟩ v K := stE x' hB m.h hx ho hk0 hv h1 hk
theorem RdE.same {l' : List α} (h : RdE enc sz W0 own a l) (e : l'.map enc = l.map enc) : RdE enc sz W0 own a l' := by
  have hg : ∀ (j : Nat) x, l'[j]? = some x → ∃ y, l[j]? = some y ∧ enc y = enc x := fun j x hx => by
    have := congrArg (fun l => l[j]?) e
    simp only [List.getElem?_map, hx, Option.map_some] at this
    obtain ⟨y, hy, h⟩ := Option.map_eq_some_iff.1 this.symm
    exact ⟨y, hy, h⟩
  refine ⟨fun hne => h.isS (fun e2 => hne ?_), fun x hx => ?_, fun {j k x v} hx hv => ?_⟩
  · have := congrArg List.length e
    rw [e2, List.length_map, List.length_map, List.length_nil] at this
    exact List.eq_nil_of_length_eq_zero this
  · obtain ⟨j, hj⟩ := List.getElem?_of_mem hx
    obtain ⟨y, hy, he⟩ := hg j x hj
    rw [← he]
    exact h.wid y (List.mem_of_getElem? hy)
  · obtain ⟨y, hy, he⟩ := hg j x hx
    rw [← he] at hv
    exact h.cell hy hv
end
theorem YieldT.mono {P : Program} {W0 : World} {own : Own} {l : Nat} {args : List Value} {R K : Value → Own → Prop} (h : YieldT P W0 own l args R) (hk : ∀ v own', R v own' → K v own') : YieldT P W0 own l args K :=
  ⟨fun w hw => by
    obtain ⟨k, t, a, b, h1, h2⟩ := h.h w hw
    exact ⟨k, t, a, b, h1, h2.mono fun _ _ ⟨v, own', he, hs, hr⟩ => ⟨v, own', he, hs, hk _ _ hr⟩⟩⟩
end Go.Proofs.YtllddgdmmfmpkaaGreatDoor
namespace Go.Proofs.YtllddgdmmfmpkaaGreatDoor
open Go
section
variable {c b : Bool} {Ky Kn : Prop} {p : Prop} {i : Decidable p}
theorem when_ye (e : c = b) (h : Ky) : When c b Ky Kn := by subst e; exact when_y h
theorem when_ne (e : c = !b) (h : Kn) : When c b Ky Kn := ⟨fun h2 => (by rw [h2] at e; cases b <;> cases e), fun _ => h⟩
theorem br_te (e : c = true) (h : Ky) : Br c Ky Kn := by subst e; exact br_t h
theorem br_fe (e : c = false) (h : Kn) : Br c Ky Kn := by subst e; exact br_f h
theorem when_dE (e : c = @decide p i) (hb : b = true) (hy : p → Ky) (hn : ¬p → Kn) : When c b Ky Kn := by subst e; subst hb; exact when_dt hy hn
theorem when_dF (e : c = @decide p i) (hb : b = false) (hn : ¬p → Ky) (hy : p → Kn) : When c b Ky Kn := by subst e; subst hb; exact when_df hn hy
theorem br_dE (e : c = @decide p i) (hy : p → Ky) (hn : ¬p → Kn) : Br c Ky Kn := by subst e; exact br_d hy hn
theorem br_pyE (e : c = @decide p i) (hp : p) (h : Ky) : Br c Ky Kn := by subst e; exact br_py hp h
theorem br_pnE (e : c = @decide p i) (hp : ¬p) (h : Kn) : Br c Ky Kn := by subst e; exact br_pn hp h
theorem when_pyE (e : c = @decide p i) (hp : p) (h : When true b Ky Kn) : When c b Ky Kn := by subst e; exact when_py hp h
theorem when_pnE (e : c = @decide p i) (hp : ¬p) (h : When false b Ky Kn) : When c b Ky Kn := by subst e; exact when_pn hp h
end
structure Stop (p : Prop) : Prop where
  h : p
section
variable {P : Program} {W0 : World} {own : Own} {k k0 : FuncId} {args args0 : List Value} {v : Value}
theorem call_pe {K : Value → Own → Prop} (h : Pure P W0 k0 args0 own v) (ek : k = k0) (ea : args = args0) (hk : K v own) : CallT P W0 own k args K := by
  subst ek; subst ea; exact call_p h hk
theorem call_qq {K : Value → Prop} (h : ∀ own', Pure P W0 k0 args0 own' v) (ek : k = k0) (ea : args = args0) (hk : K v) : CallQ P W0 own k args K := by
  subst ek; subst ea; exact call_q h hk
theorem call_qi {K : Value → Prop} (h : ∀ ex : Own, Pure P W0 k0 args0 (ex ++ own) v) (ek : k = k0) (ea : args = args0) (hk : K v) : CallQ P W0 own k args K := by
  subst ek; subst ea; exact call_qe h hk
theorem call_x {σ : Type} {R : σ → Value → Prop} {O : σ → Own} {K : Value → Own → Prop} (h : Spec P W0 k0 args0 own fun v own' => ∃ s, R s v ∧ Ent W0 own' (O s)) (ek : k = k0) (ea : args = args0) (hk : ∀ s v, R s v → K v (O s)) : CallT P W0 own k args K := by
  subst ek; subst ea
  exact ⟨fun w hw => (h w hw).mono fun _ _ ⟨_, _, he, hs, s, hR, hE⟩ => ⟨_, O s, he, hE _ hs, hk s _ hR⟩⟩
end
end Go.Proofs.YtllddgdmmfmpkaaGreatDoor
namespace Go.Proofs.YtllddgdmmfmpkaaGreatDoor
open Go
class PullC (b : Nat) (p : outParam (Obj → Prop)) (own : Own) (r : outParam Own) : Prop where
  h : own.Perm ((b, p) :: r)
section
variable {b : Nat} {p : Obj → Prop} {e : Nat × (Obj → Prop)} {A r r' : Own}
instance PullC.left [m : PullC b p A r'] : PullC b p (A ++ r) (r' ++ r) := ⟨m.h.append_right r⟩
instance PullC.right [m : PullC b p r r'] : PullC b p (A ++ r) (A ++ r') := ⟨(m.h.append_left A).trans List.perm_middle⟩
instance PullC.tail [m : PullC b p r r'] : PullC b p (e :: r) (e :: r') := ⟨(m.h.cons e).trans (List.Perm.swap _ _ _)⟩
instance PullC.head : PullC b p ((b, p) :: r) r := ⟨List.Perm.refl _⟩
end
class PermK (ks : List Nat) (own : Own) (r : outParam Own) : Prop where
  h : own.Perm r
instance PermK.nil {own : Own} : PermK [] own own := ⟨List.Perm.refl _⟩
instance PermK.cons {b : Nat} {ks : List Nat} {p : Obj → Prop} {own r r' : Own} [m : PullC b p own r] [k : PermK ks r r'] : PermK (b :: ks) own ((b, p) :: r') := ⟨m.h.trans (k.h.cons _)⟩
section
variable {W0 : World} {own own' : Own}
abbrev Cl (W0 : World) (own : Own) (b o : Nat) (v : Value) : Prop := Kn W0 own fun w => w.cell? ⟨b, o, none⟩ = some v
theorem ldK {b o : Nat} {v : Value} {K : Value → Prop} (h : Cl W0 own' b o v) [m : EntC own own'] (hk : K v) : Ld W0 own ⟨b, o, none⟩ K := ld_kn (h.ent (m.h W0)) hk
theorem ldK1 {b o : Nat} {v : Value} {K : Value → Prop} (h : Cl W0 own' b o v) [m : EntC own own'] (hk : K v) : Ld W0 own ⟨b, 0 + o, none⟩ K := by rw [Nat.zero_add]; exact ldK h hk
end
end Go.Proofs.YtllddgdmmfmpkaaGreatDoor
namespace Go.Proofs.YtllddgdmmfmpkaaGreatDoor
open Go
set_option maxRecDepth 10000
structure EH where
  ev : Int
  t : Int
  k : Int
  w : Int
  ra : Option Addr
  rl : List Int
  rc : Nat
  wa : Option Addr
  wl : List Int
  wc : Nat
abbrev EH.enc (e : EH) : List Value := [.int .i64 e.ev, .int .i64 e.t, .int .i64 e.k, .int .i64 e.w, .slice e.ra e.rl.length e.rc, .slice e.wa e.wl.length e.wc]
abbrev EH.v (e : EH) : Value := .agg #[.int .i64 e.ev, .int .i64 e.t, .int .i64 e.k, .int .i64 e.w, .slice e.ra e.rl.length e.rc, .slice e.wa e.wl.length e.wc]
def inW (x : Int) : Bool := decide (0 ≤ x ∧ x < 64)
def eh0 : EH := ⟨0, 0, 0, 0, none, [], 0, none, [], 0⟩
abbrev at' (l : List EH) (i : Nat) : EH := l.getD i eh0
abbrev thr (l : List EH) (i : Nat) : Int := (at' l i).t
abbrev knd (l : List EH) (i : Nat) : Int := (at' l i).k
def prevT (l : List EH) (i p : Nat) : Prop := p < i ∧ thr l p = thr l i ∧ ∀ q, p < q → q < i → thr l q ≠ thr l i
structure Wf (l : List EH) (n : Nat) : Prop where
  kd : ∀ i, i < l.length → 1 ≤ knd l i ∧ knd l i ≤ 4 ∧ 0 ≤ thr l i ∧ thr l i < n ∧ inW (at' l i).w = true ∧ (at' l i).rl.all inW = true ∧ (at' l i).wl.all inW = true
  en : ∀ i, i < l.length → knd l i = 4 → ∃ p, prevT l i p ∧ knd l p = 3
  pl : ∀ i, i < l.length → knd l i ≠ 4 → (at' l i).rl = [] ∧ (at' l i).wl = []
def cntP (l : List EH) (i : Nat) : Prop := i < l.length ∧ (knd l i ≠ 3 ∨ ∃ e, e < l.length ∧ prevT l e i ∧ knd l e = 4)
def plainP (l : List EH) (i : Nat) : Prop := knd l i = 1 ∨ knd l i = 2
def HB (l : List EH) (i j : Nat) : Prop := i < j ∧ cntP l i ∧ cntP l j ∧
  (thr l i = thr l j ∨ (plainP l j ∧ ∃ e f, i ≤ e ∧ e < f ∧ f < j ∧ knd l e = 4 ∧ knd l f = 4 ∧ thr l e = thr l i ∧ thr l f = thr l j) ∨ (¬plainP l j ∧ ∃ e, i ≤ e ∧ e < j ∧ knd l e = 4 ∧ thr l e = thr l i))
def DI (l : List EH) (i j : Nat) : Prop := i < j ∧ cntP l i ∧ cntP l j ∧ (thr l i = thr l j ∨ (knd l i = 4 ∧ (knd l j = 4 ∨ knd l j = 3)))
theorem kinds {l : List EH} {n : Nat} (h : Wf l n) {i : Nat} (hi : i < l.length) : knd l i = 1 ∨ knd l i = 2 ∨ knd l i = 3 ∨ knd l i = 4 := by
  have := h.kd i hi
  omega
theorem DI.hb {l : List EH} {i j : Nat} (d : DI l i j) : HB l i j := by
  obtain ⟨h1, h2, h3, h4⟩ := d
  refine ⟨h1, h2, h3, ?_⟩
  rcases h4 with h4 | ⟨h4, h5⟩
  · exact .inl h4
  · refine .inr (.inr ⟨?_, i, Nat.le_refl i, h1, h4, rfl⟩)
    unfold plainP
    omega
theorem end_of {l : List EH} {i j : Nat} (hc : cntP l i) (h3 : knd l i = 3) (hij : i < j) (ht : thr l i = thr l j) : ∃ f, i < f ∧ f ≤ j ∧ knd l f = 4 ∧ thr l f = thr l j := by
  obtain ⟨_, h | ⟨e, he, ⟨hp1, hp2, hp3⟩, hk⟩⟩ := hc
  · exact absurd h3 h
  · refine ⟨e, hp1, ?_, hk, by rw [← hp2, ht]⟩
    by_cases hle : e ≤ j
    · exact hle
    · exact absurd (by rw [← hp2, ht]) (hp3 j hij (by omega))
theorem HB.trans {l : List EH} {n : Nat} (h : Wf l n) {i j k : Nat} (a : HB l i j) (b : HB l j k) : HB l i k := by
  obtain ⟨h1, h2, h3, h4⟩ := a
  obtain ⟨g1, g2, g3, g4⟩ := b
  refine ⟨by omega, h2, g3, ?_⟩
  by_cases hik : thr l i = thr l k
  · exact .inl hik
  · right
    -- an end of i's thread, from i on, ahead of k; and, if k is plain, an end of k's thread behind it
    have key : (∃ e, i ≤ e ∧ e < k ∧ knd l e = 4 ∧ thr l e = thr l i ∧ (plainP l k → ∃ f, e < f ∧ f < k ∧ knd l f = 4 ∧ thr l f = thr l k)) := by
      rcases g4 with g4 | ⟨gp, e, f, he1, he2, he3, he4, he5, he6, he7⟩ | ⟨gp, e, he1, he2, he3, he4⟩
      · -- j and k of one thread
        rcases h4 with h4 | ⟨hp, e, f, he1, he2, he3, he4, he5, he6, he7⟩ | ⟨hp, e, he1, he2, he3, he4⟩
        · exact absurd (h4.trans g4) hik
        · exact ⟨e, he1, by omega, he4, he6, fun _ => ⟨f, he2, by omega, he5, he7.trans g4⟩⟩
        · refine ⟨e, he1, by omega, he3, he4, fun hpk => ?_⟩
          have hj3 := kinds h h3.1
          unfold plainP at hp
          by_cases hj4 : knd l j = 4
          · exact ⟨j, he2, g1, hj4, g4⟩
          · obtain ⟨f, hf1, hf2, hf3, hf4⟩ := end_of h3 (by omega) g1 g4
            refine ⟨f, by omega, ?_, hf3, hf4⟩
            by_cases hfk : f = k
            · subst hfk; unfold plainP at hpk; omega
            · omega
      · -- k plain, another thread than j
        rcases h4 with h4 | ⟨hp, e', f', he1', he2', he3', he4', he5', he6', he7'⟩ | ⟨hp, e', he1', he2', he3', he4'⟩
        · exact ⟨e, by omega, by omega, he4, he6.trans h4.symm, fun _ => ⟨f, he2, he3, he5, he7⟩⟩
        · exact ⟨e', he1', by omega, he4', he6', fun _ => ⟨f, by omega, he3, he5, he7⟩⟩
        · exact ⟨e', he1', by omega, he3', he4', fun _ => ⟨f, by omega, he3, he5, he7⟩⟩
      · rcases h4 with h4 | ⟨hp, e', f', he1', he2', he3', he4', he5', he6', he7'⟩ | ⟨hp, e', he1', he2', he3', he4'⟩
        · exact ⟨e, by omega, by omega, he3, he4.trans h4.symm, fun h => absurd h gp⟩
        · exact ⟨e', he1', by omega, he4', he6', fun h => absurd h gp⟩
        · exact ⟨e', he1', by omega, he3', he4', fun h => absurd h gp⟩
    obtain ⟨e, he1, he2, he3, he4, he5⟩ := key
    by_cases hp : plainP l k
    · obtain ⟨f, hf1, hf2, hf3, hf4⟩ := he5 hp
      exact .inl ⟨hp, e, f, he1, hf1, hf2, he3, hf3, he4, hf4⟩
    · exact .inr ⟨hp, e, he1, he2, he3, he4⟩
theorem cnt_end {l : List EH} {e : Nat} (he : e < l.length) (h4 : knd l e = 4) : cntP l e := ⟨he, .inl (by omega)⟩
theorem HB.of {l : List EH} {n : Nat} (h : Wf l n) {R : Nat → Nat → Prop} (hd : ∀ i j, DI l i j → R i j) (hs : ∀ i e j, knd l e = 4 → i < e → e < j → R i e → R e j → R i j) {i j : Nat} (b : HB l i j) : R i j := by
  obtain ⟨h1, h2, h3, h4⟩ := b
  have hjl := h3.1
  rcases h4 with h4 | ⟨hp, e, f, he1, he2, he3, he4, he5, he6, he7⟩ | ⟨hp, e, he1, he2, he3, he4⟩
  · exact hd i j ⟨h1, h2, h3, .inl h4⟩
  · have ce := cnt_end (by omega : e < l.length) he4
    have cf := cnt_end (by omega : f < l.length) he5
    have r1 : R e f := hd e f ⟨he2, ce, cf, .inr ⟨he4, .inl he5⟩⟩
    have r2 : R f j := hd f j ⟨he3, cf, h3, .inl he7⟩
    have r3 : R e j := hs e f j he5 he2 he3 r1 r2
    by_cases hie : i = e
    · subst hie; exact r3
    · exact hs i e j he4 (by omega) (by omega) (hd i e ⟨by omega, h2, ce, .inl he6.symm⟩) r3
  · have ce := cnt_end (by omega : e < l.length) he3
    have hj := kinds h hjl
    unfold plainP at hp
    have r1 : R e j := hd e j ⟨he2, ce, h3, .inr ⟨he3, by omega⟩⟩
    by_cases hie : i = e
    · subst hie; exact r1
    · exact hs i e j he3 (by omega) he2 (hd i e ⟨by omega, h2, ce, .inl he4.symm⟩) r1
end Go.Proofs.YtllddgdmmfmpkaaGreatDoor
