/- An append to a slice that is full. No condition. -/
import Derived.Test.YtofjnldidkiihaaDoorOfA
namespace Go.Proofs.YtofjnldidkiihaaDoor
open Go
section
variable {α : Type} {enc : α → List Value} {sz : Nat} {W0 : World} {own own' : Own} {a : Option Addr} {l : List α}
theorem app_g {T : TypeId} {bytes cap m : Nat} {zs : List Value} {a2 : Option Addr} {l2 : List α} {K : Value → Own → Prop} (hR : RdE enc sz W0 own a l) (hcap : cap < l.length + l2.length) (hx : RdE enc sz W0 own a2 l2) (hm : m = l2.length)
    (hz : zs.length = sz) (hs : 0 < sz) (h1 : ∀ x ∈ l2, (enc x).all oneC = true) (hb : (l.length + l2.length) * bytes ≤ 140737488355328)
    (hk : ∀ a' cap' D', BufE enc T sz a' cap' (l ++ l2) D' → K (.slice a' (l.length + l2.length) cap') (D' ++ own)) : AppT W0 own T sz bytes zs a l.length cap a2 m K := by
  subst hm
  have holds : ∀ {a : Option Addr} {l : List α}, RdE enc sz W0 own a l → Kn W0 own (Holds a (l.map enc).flatten) := fun {a l} h w hw ad had j v hj => by
    have hlt := (List.getElem?_eq_some_iff.1 hj).1
    rw [flat_len l h.wid] at hlt
    have hj1 : j / sz < l.length := Nat.div_lt_of_lt_mul (by rwa [Nat.mul_comm])
    have hj2 : j % sz < sz := Nat.mod_lt _ hs
    have hx' : l[j / sz]? = some l[j / sz] := List.getElem?_eq_getElem hj1
    have hwd := h.wid _ (List.mem_of_getElem? hx')
    have hv' : (enc l[j / sz])[j % sz]? = some (enc l[j / sz])[j % sz] := List.getElem?_eq_getElem (by omega)
    have he : j / sz * sz + j % sz = j := Nat.div_add_mod' j sz
    have hf := flat_get l h.wid hx' hv'
    rw [he, hj] at hf
    have hS := h.isS (fun e => by subst e; simp at hj1)
    rw [hS] at had
    have had := Option.some.inj had
    rw [← had, addr_add]
    have hc := h.cell hx' hv' w hw
    have e2 : ao a + j / sz * sz + j % sz = ao a + j := by omega
    rw [e2] at hc
    rw [hc, hf]
  have wid2 : ∀ x ∈ l ++ l2, (enc x).length = sz := fun x h => (List.mem_append.1 h).elim (hR.wid x) (hx.wid x)
  refine ⟨(l.map enc).flatten, (l2.map enc).flatten, flat_len l hR.wid, flat_len l2 hx.wid, fun e => ?_, fun e => ?_, fun v hv => ?_, holds hR, holds hx, fun hfit => ?_, fun hgr => ⟨hb, fun b c' hb' hc' => ?_⟩⟩
  · cases l with
    | nil => rfl
    | cons x r => have := hR.isS (by simp); rw [e] at this; cases this
  · cases l2 with
    | nil => rfl
    | cons x r => have := hx.isS (by simp); rw [e] at this; cases this
  · obtain ⟨cs, hcs, hv⟩ := List.mem_flatten.1 hv
    obtain ⟨x, hx', rfl⟩ := List.mem_map.1 hcs
    exact List.all_eq_true.1 (h1 x hx') v hv
  · omega
  · refine ⟨_, Ent.refl, ?_⟩
    refine hk (some ⟨b, 0, none⟩) c' [_] ⟨wid2, .inr ⟨b, (List.replicate (c' - (l.length + l2.length)) zs).flatten, rfl, ?_, ?_, by simpa using hc'⟩⟩
    · rw [List.map_append, List.flatten_append]
    · simp only [List.length_append, List.length_flatten, List.map_replicate, List.sum_replicate_nat, hz]
      rw [← Nat.add_mul]
      congr 1
      omega
/-- One element more, behind a full slice. -/
theorem app_g1 {T T2 : TypeId} {bytes cap bt : Nat} {zs : List Value} {ys : Array Value} {K : Value → Own → Prop} (x : α) (hR : RdE enc sz W0 own' a l) (hcap : cap = l.length) [me : EntC own own'] [m2 : MemC bt (fun o => o = Obj.cells ys T2) own] (hy : ys.toList = enc x)
    (hz : zs.length = sz) (hs : 0 < sz) (hw : (enc x).length = sz) (h1 : (enc x).all oneC = true) (hb : (l.length + 1) * bytes ≤ 140737488355328)
    (hk : ∀ a' cap' D', BufE enc T sz a' cap' (l ++ [x]) D' → K (.slice a' (l.length + 1) cap') (D' ++ own)) : AppT W0 own T sz bytes zs a l.length cap (some ⟨bt, 0, none⟩) 1 K :=
  app_g (l2 := [x]) (hR.ent (me.h W0)) (by rw [hcap]; simp) (rd_blk m2.h (fun y hy => by rw [List.mem_singleton.1 hy]; exact hw) (by simpa using hy)) rfl hz hs (fun y hy => by rw [List.mem_singleton.1 hy]; exact h1) hb hk
end
end Go.Proofs.YtofjnldidkiihaaDoor
