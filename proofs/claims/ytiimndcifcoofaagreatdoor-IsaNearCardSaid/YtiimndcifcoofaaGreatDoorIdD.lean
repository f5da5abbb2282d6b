/- isa: the walk of IsaChecks. No condition. -/
import Derived.Test.YtiimndcifcoofaaGreatDoorIdC
namespace Go.Proofs.YtiimndcifcoofaaGreatDoor
open Go
set_option maxRecDepth 10000
set_option maxHeartbeats 4000000
section
variable {W0 : World} {own : Own}
theorem ldN_up {own' : Own} {a : Addr} {n : Nat} {K : Array Value → Prop} (hE : Ent W0 own' own) (h : LdN W0 own a n K) : LdN W0 own' a n K := by
  obtain ⟨vs, h1, h2, h3⟩ := h
  exact ⟨vs, h1, h2.ent hE, h3⟩
theorem uses_len (i : Ins) : (usesM i).length ≤ 9223372036854775807 := by
  unfold usesM
  split
  · have := (cmp_spec (srt_sorted (rawU i))).2.2
    rw [srt_len] at this
    have h2 : (rawU i).length ≤ 2 := by unfold rawU; (repeat' split) <;> simp
    omega
  · simp
end
end Go.Proofs.YtiimndcifcoofaaGreatDoor
