/- isa: the document's Parse. No condition. -/
import Derived.Test.YtiimndcifcoofaaDoorIcH
import Derived.Test.YtiimndcifcoofaaDoorIcI
namespace Go.Proofs.YtiimndcifcoofaaDoor
open Go Go.RowKit
set_option maxRecDepth 10000
set_option maxHeartbeats 4000000
theorem call_be {α : Type} {enc : α → List Value} {sz : Nat} {l : List α} {W0 : World} {own : Own} {P : Program} {k k0 : FuncId} {args args0 : List Value} {T : TypeId} {K : Value → Own → Prop} (h : Spec P W0 k0 args0 own fun v own' => ∃ a cap D, v = .slice a l.length cap ∧ BufE enc T sz a cap l D ∧ Ent W0 own' (D ++ own))
    (ek : k = k0) (ea : args = args0) (hk : ∀ a cap D, BufE enc T sz a cap l D → K (.slice a l.length cap) (D ++ own)) : CallT P W0 own k args K := by
  subst ek; subst ea; exact call_b h hk
theorem rform_len {n : Nat} (h : n < 18) : (rform n).size ≤ 10 := by
  rcases cases18 h with rfl | rfl | rfl | rfl | rfl | rfl | rfl | rfl | rfl | rfl | rfl | rfl | rfl | rfl | rfl | rfl | rfl | rfl <;> decide +kernel
section
variable {W0 : World} {own : Own}
end
end Go.Proofs.YtiimndcifcoofaaDoor
