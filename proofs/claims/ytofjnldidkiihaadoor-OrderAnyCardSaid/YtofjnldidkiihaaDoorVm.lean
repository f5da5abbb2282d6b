/- Part m: lists of owned blocks brought into an order, by instances; reads of cells that are known. No condition. -/
import Derived.Test.YtofjnldidkiihaaDoorVl
namespace Go.Proofs.YtofjnldidkiihaaDoor
open Go
/-- A block taken to the front of the list. -/
class PullC (b : Nat) (p : outParam (Obj → Prop)) (own : Own) (r : outParam Own) : Prop where
  h : own.Perm ((b, p) :: r)
section
variable {b : Nat} {p : Obj → Prop} {e : Nat × (Obj → Prop)} {A r r' : Own}
instance PullC.left [m : PullC b p A r'] : PullC b p (A ++ r) (r' ++ r) := ⟨m.h.append_right r⟩
instance PullC.right [m : PullC b p r r'] : PullC b p (A ++ r) (A ++ r') := ⟨(m.h.append_left A).trans List.perm_middle⟩
instance PullC.tail [m : PullC b p r r'] : PullC b p (e :: r) (e :: r') := ⟨(m.h.cons e).trans (List.Perm.swap _ _ _)⟩
instance PullC.head : PullC b p ((b, p) :: r) r := ⟨List.Perm.refl _⟩
end
/-- So many blocks taken to the front, in this order. -/
class PermK (ks : List Nat) (own : Own) (r : outParam Own) : Prop where
  h : own.Perm r
instance PermK.nil {own : Own} : PermK [] own own := ⟨List.Perm.refl _⟩
instance PermK.cons {b : Nat} {ks : List Nat} {p : Obj → Prop} {own r r' : Own} [m : PullC b p own r] [k : PermK ks r r'] : PermK (b :: ks) own ((b, p) :: r') := ⟨m.h.trans (k.h.cons _)⟩
theorem ent_k {W0 : World} {own r : Own} (ks : List Nat) [m : PermK ks own r] : Ent W0 own r := Ent.of_perm m.h
theorem ent_k2 {W0 : World} {own r T : Own} {b0 b1 : Nat} {p0 p1 : Obj → Prop} [m : PermK [b0, b1] own r] (h : r = (b0, p0) :: (b1, p1) :: T) : Ent W0 own ((b0, p0) :: (b1, p1) :: T) := h ▸ Ent.of_perm m.h
theorem ent_k3 {W0 : World} {own r T : Own} {b0 b1 b2 : Nat} {p0 p1 p2 : Obj → Prop} [m : PermK [b0, b1, b2] own r] (h : r = (b0, p0) :: (b1, p1) :: (b2, p2) :: T) : Ent W0 own ((b0, p0) :: (b1, p1) :: (b2, p2) :: T) := h ▸ Ent.of_perm m.h
theorem ent_k4 {W0 : World} {own r T : Own} {b0 b1 b2 b3 : Nat} {p0 p1 p2 p3 : Obj → Prop} [m : PermK [b0, b1, b2, b3] own r] (h : r = (b0, p0) :: (b1, p1) :: (b2, p2) :: (b3, p3) :: T) : Ent W0 own ((b0, p0) :: (b1, p1) :: (b2, p2) :: (b3, p3) :: T) := h ▸ Ent.of_perm m.h
theorem ent_k5 {W0 : World} {own r T : Own} {b0 b1 b2 b3 b4 : Nat} {p0 p1 p2 p3 p4 : Obj → Prop} [m : PermK [b0, b1, b2, b3, b4] own r] (h : r = (b0, p0) :: (b1, p1) :: (b2, p2) :: (b3, p3) :: (b4, p4) :: T) : Ent W0 own ((b0, p0) :: (b1, p1) :: (b2, p2) :: (b3, p3) :: (b4, p4) :: T) := h ▸ Ent.of_perm m.h
theorem ent_k6 {W0 : World} {own r T : Own} {b0 b1 b2 b3 b4 b5 : Nat} {p0 p1 p2 p3 p4 p5 : Obj → Prop} [m : PermK [b0, b1, b2, b3, b4, b5] own r] (h : r = (b0, p0) :: (b1, p1) :: (b2, p2) :: (b3, p3) :: (b4, p4) :: (b5, p5) :: T) : Ent W0 own ((b0, p0) :: (b1, p1) :: (b2, p2) :: (b3, p3) :: (b4, p4) :: (b5, p5) :: T) := h ▸ Ent.of_perm m.h
theorem ent_k7 {W0 : World} {own r T : Own} {b0 b1 b2 b3 b4 b5 b6 : Nat} {p0 p1 p2 p3 p4 p5 p6 : Obj → Prop} [m : PermK [b0, b1, b2, b3, b4, b5, b6] own r] (h : r = (b0, p0) :: (b1, p1) :: (b2, p2) :: (b3, p3) :: (b4, p4) :: (b5, p5) :: (b6, p6) :: T) : Ent W0 own ((b0, p0) :: (b1, p1) :: (b2, p2) :: (b3, p3) :: (b4, p4) :: (b5, p5) :: (b6, p6) :: T) := h ▸ Ent.of_perm m.h
theorem ent_k8 {W0 : World} {own r T : Own} {b0 b1 b2 b3 b4 b5 b6 b7 : Nat} {p0 p1 p2 p3 p4 p5 p6 p7 : Obj → Prop} [m : PermK [b0, b1, b2, b3, b4, b5, b6, b7] own r] (h : r = (b0, p0) :: (b1, p1) :: (b2, p2) :: (b3, p3) :: (b4, p4) :: (b5, p5) :: (b6, p6) :: (b7, p7) :: T) : Ent W0 own ((b0, p0) :: (b1, p1) :: (b2, p2) :: (b3, p3) :: (b4, p4) :: (b5, p5) :: (b6, p6) :: (b7, p7) :: T) := h ▸ Ent.of_perm m.h
section
variable {α : Type} {enc : α → List Value} {sz : Nat} {W0 : World} {own : Own} {a : Option Addr} {l : List α}
/-- An append for which there is room. -/
theorem app_f {T : TypeId} {bytes cap m : Nat} {zs : List Value} {D : Own} {C : Own → Own} {a2 : Option Addr} {l2 : List α} {K : Value → Own → Prop} (hB : BufE enc T sz a cap l D) (hat : At D own C) (hx : RdE enc sz W0 own a2 l2) (hm : m = l2.length)
    (hs : 0 < sz) (h1 : ∀ x ∈ l2, (enc x).all oneC = true) (hroom : l.length + l2.length ≤ cap)
    (hk : ∀ D', BufE enc T sz a cap (l ++ l2) D' → K (.slice a (l.length + l2.length) cap) (C D')) : AppT W0 own T sz bytes zs a l.length cap a2 m K := by
  subst hm
  have hrd : RdE enc sz W0 own a l := (hB.rd (W0 := W0)).ent hat.self
  have holds : ∀ {a : Option Addr} {l : List α}, RdE enc sz W0 own a l → Kn W0 own (Holds a (l.map enc).flatten) := fun {a l} h w hw ad had j v hj => by
    have hlt := (List.getElem?_eq_some_iff.1 hj).1
    rw [flat_len l h.wid] at hlt
    have hj1 : j / sz < l.length := Nat.div_lt_of_lt_mul (by rwa [Nat.mul_comm])
    have hj2 : j % sz < sz := Nat.mod_lt _ hs
    have hx' : l[j / sz]? = some l[j / sz] := List.getElem?_eq_getElem hj1
    have hwd := h.wid _ (List.mem_of_getElem? hx')
    have hv' : (enc l[j / sz])[j % sz]? = some (enc l[j / sz])[j % sz] := List.getElem?_eq_getElem (by omega)
    have he : j / sz * sz + j % sz = j := Nat.div_add_mod' j sz
    have hf := flat_get l h.wid hx' hv'
    rw [he, hj] at hf
    have hS := h.isS (fun e => by subst e; simp at hj1)
    rw [hS] at had
    have had := Option.some.inj had
    rw [← had, addr_add]
    have hc := h.cell hx' hv' w hw
    have e2 : ao a + j / sz * sz + j % sz = ao a + j := by omega
    rw [e2] at hc
    rw [hc, hf]
  have wid2 : ∀ x ∈ l ++ l2, (enc x).length = sz := fun x h => (List.mem_append.1 h).elim (hB.wid x) (hx.wid x)
  refine ⟨(l.map enc).flatten, (l2.map enc).flatten, flat_len l hB.wid, flat_len l2 hx.wid, fun e => ?_, fun e => ?_, fun v hv => ?_, holds hrd, holds hx, fun hfit => ?_, fun hgr => absurd hgr (by omega)⟩
  · cases l with
    | nil => rfl
    | cons x r => have := hrd.isS (by simp); rw [e] at this; cases this
  · cases l2 with
    | nil => rfl
    | cons x r => have := hx.isS (by simp); rw [e] at this; cases this
  · obtain ⟨cs, hcs, hv⟩ := List.mem_flatten.1 hv
    obtain ⟨x, hx', rfl⟩ := List.mem_map.1 hcs
    exact List.all_eq_true.1 (h1 x hx') v hv
  · rcases hB.how with ⟨rfl, rfl, rfl⟩ | ⟨b, rest, rfl, rfl, hl, hle⟩
    · have h2 : l2 = [] := by cases l2 with | nil => rfl | cons x r => simp at hfit
      subst h2
      have hC := hat.same
      refine ⟨own, fun w hw => ⟨fun ad _ => ⟨fun j hj => by simp at hj, by simpa [setN] using hw⟩, fun _ => hw⟩, ?_⟩
      have := hk [] BufE.nil
      rw [hC] at this
      exact this
    · have hfl := flat_len l hB.wid
      have hfl2 := flat_len l2 hx.wid
      have hsz : (l.length + l2.length) * sz ≤ cap * sz := Nat.mul_le_mul_right _ hfit
      rw [Nat.add_mul] at hsz
      refine ⟨C [(b, fun o => o = Obj.cells (((l ++ l2).map enc).flatten ++ rest.drop (l2.length * sz)).toArray T)], fun w hw => ⟨fun ad had => ?_, fun e => by cases e⟩, hk _ ⟨wid2, .inr ⟨b, rest.drop (l2.length * sz), rfl, rfl, ?_, by simpa using hfit⟩⟩⟩
      · have had := Option.some.inj had
        subst had
        have hnew : ((l.map enc).flatten ++ rest).take (l.length * sz) ++ (l2.map enc).flatten ++ ((l.map enc).flatten ++ rest).drop (l.length * sz + (l2.map enc).flatten.length) = ((l ++ l2).map enc).flatten ++ rest.drop (l2.length * sz) := by
          rw [hfl2, List.take_append_of_le_length (by omega), List.take_of_length_le (by omega), List.drop_append, List.drop_of_length_le (by omega), List.nil_append, hfl, Nat.add_sub_cancel_left, List.map_append, List.flatten_append]
        have hu := hat.up (q := fun o => o = Obj.cells (((l.map enc).flatten ++ rest).take (l.length * sz) ++ (l2.map enc).flatten ++ ((l.map enc).flatten ++ rest).drop (l.length * sz + (l2.map enc).flatten.length)).toArray T)
        have hr := setN_up (vs := (l2.map enc).flatten) (off := l.length * sz) hw hu (by rw [List.length_append, hfl, hfl2]; omega)
        rw [hnew] at hr
        rw [addr_add, Nat.zero_add]
        refine ⟨fun j hj => ?_, hr.2⟩
        rw [addr_add]
        exact hr.1 j hj
      · simp only [List.length_append, List.length_drop, Nat.add_mul]; omega
theorem app_r {own' : Own} {T : TypeId} {bytes cap m : Nat} {zs : List Value} {D : Own} {C : Own → Own} {a2 : Option Addr} {l2 : List α} {K : Value → Own → Prop} (hB : BufE enc T sz a cap l D) (hx : RdE enc sz W0 own' a2 l2) [mm : AtC D own C] [me : EntC own own'] (hm : m = l2.length)
    (hs : 0 < sz) (h1 : ∀ x ∈ l2, (enc x).all oneC = true) (hroom : l.length + l2.length ≤ cap)
    (hk : ∀ D', BufE enc T sz a cap (l ++ l2) D' → K (.slice a (l.length + l2.length) cap) (C D')) : AppT W0 own T sz bytes zs a l.length cap a2 m K := app_f hB mm.h (hx.ent (me.h W0)) hm hs h1 hroom hk
end
section
variable {W0 : World} {own own' : Own}
/-- A cell that is known. -/
abbrev Cl (W0 : World) (own : Own) (b o : Nat) (v : Value) : Prop := Kn W0 own fun w => w.cell? ⟨b, o, none⟩ = some v
theorem ldK {b o : Nat} {v : Value} {K : Value → Prop} (h : Cl W0 own' b o v) [m : EntC own own'] (hk : K v) : Ld W0 own ⟨b, o, none⟩ K := ld_kn (h.ent (m.h W0)) hk
theorem ldK1 {b o : Nat} {v : Value} {K : Value → Prop} (h : Cl W0 own' b o v) [m : EntC own own'] (hk : K v) : Ld W0 own ⟨b, 0 + o, none⟩ K := by rw [Nat.zero_add]; exact ldK h hk
end
end Go.Proofs.YtofjnldidkiihaaDoor
