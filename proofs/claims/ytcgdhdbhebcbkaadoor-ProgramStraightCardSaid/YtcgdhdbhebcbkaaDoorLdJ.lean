/- Programs under construction, in plain lists. No condition. -/
import Derived.Test.YtcgdhdbhebcbkaaDoorLdI
namespace Go.Proofs.YtcgdhdbhebcbkaaDoor
open Go
set_option maxRecDepth 10000

/-- A program's instructions gone through, without the targets. -/
def runG : List Ins → Nat → Int → Option Int
  | [], _, b => some b
  | x :: l, k, b => if oneX 0 b x = 0 then runG l (k + 1) (nextB x k b) else none
theorem runG_snoc (x : Ins) : ∀ (l : List Ins) (k : Nat) (b : Int), runG (l ++ [x]) k b = (runG l k b).bind fun b' => if oneX 0 b' x = 0 then some (nextB x (k + l.length) b') else none
  | [], k, b => by simp [runG]
  | y :: l, k, b => by
    simp only [List.cons_append, runG, List.length_cons]
    split
    · rw [runG_snoc x l, Nat.add_assoc, Nat.add_comm 1]
    · rfl
theorem check_run (p : List Ins) (hz : ∀ x ∈ p, iskips x = true → x.imm = 0) {b' : Int} (hb' : b' < 0) : ∀ (n k : Nat) (b : Int), n + k = p.length → Inv p k b → runG (p.drop k) k b = some b' → checkG (targetM p) (p.drop k) k b = (0, 0)
  | 0, k, b, hn, _, hr => by
    have : p.drop k = [] := List.drop_eq_nil_iff.2 (by omega)
    rw [this, runG, Option.some.injEq] at hr
    rw [this, checkG, if_neg (by omega)]
  | n + 1, k, b, hn, h, hr => by
    obtain ⟨x, hx⟩ : ∃ x, p[k]? = some x := ⟨_, List.getElem?_eq_getElem (by omega)⟩
    rw [drop_at hx, runG] at hr
    split at hr
    · rename_i h0
      have ho := oneX_ok h0
      have ht : targetM p k b x = 0 := by
        unfold targetM
        split
        · rename_i hs
          have hi := hz x (List.mem_of_getElem? hx) hs
          have h8 := skips_op hs
          rw [hi, if_neg (by omega)]
          split
          · rename_i hb
            rcases h.bb with hb1 | ⟨_, _, he⟩
            · omega
            · have := endL_ge (p.drop (k + 1)) (k + 1)
              rw [he, drop_at hx, endL]
              (repeat' split) <;> omega
          · rw [intoL_le _ _ _ _ (by simp)]
            rfl
        · rfl
      rw [drop_at hx, checkG, ht, if_neg (by simpa using h0)]
      exact check_run p hz hb' n (k + 1) _ (by omega) (h.step hx ho.1 ho.2.1) hr
    · cases hr
/-- What holds of a program under construction. -/
structure Mk (p : List Ins) (b : Int) : Prop where
  run : runG p 0 (-1) = some b
  zer : ∀ x ∈ p, iskips x = true → x.imm = 0
theorem Mk.nil : Mk [] (-1) := ⟨rfl, fun _ h => by cases h⟩
theorem Mk.snoc {p : List Ins} {b : Int} {x : Ins} (h : Mk p b) (ho : oneX 0 b x = 0) (hi : iskips x = true → x.imm = 0) : Mk (p ++ [x]) (nextB x p.length b) := by
  refine ⟨by rw [runG_snoc, h.run]; simp [ho], fun y hy hs => ?_⟩
  rcases List.mem_append.1 hy with hy | hy
  · exact h.zer y hy hs
  · obtain rfl := List.mem_singleton.1 hy
    exact hi hs
theorem Mk.ok {p : List Ins} {b : Int} (h : Mk p b) (hb : b < 0) (hl : p.length ≤ 64) : checkR p = (0, 0) := by
  rw [← checkP_R]
  unfold checkP
  rw [if_neg (by omega)]
  exact check_run p h.zer hb p.length 0 (-1) (by omega) (Inv.start p) h.run
/-- The operation fits whether a transaction is open. -/
def fits (o : Bool) (op : Int) : Prop :=
  (1 ≤ op ∧ op ≤ 6) ∨ (o = false ∧ (op = 7 ∨ op = 12 ∨ op = 13 ∨ op = 16 ∨ op = 17)) ∨ (o = true ∧ (op = 8 ∨ op = 9 ∨ op = 10 ∨ op = 11 ∨ op = 14 ∨ op = 15))
theorem fits_one {o : Bool} {b : Int} {x : Ins} (hf : fits o x.op) (hc : icheck x = 0) (hb : o = decide (0 ≤ b)) : oneX 0 b x = 0 := by
  unfold oneX
  have hp : iplace x = if x.op = 8 ∨ x.op = 9 ∨ x.op = 10 ∨ x.op = 11 ∨ x.op = 14 ∨ x.op = 15 then 1 else if x.op = 7 ∨ x.op = 12 ∨ x.op = 13 ∨ x.op = 16 ∨ x.op = 17 then 2 else 0 := by unfold iplace; rw [if_pos hc]
  rw [if_neg (by omega), hp]
  rcases hf with h | ⟨h0, h⟩ | ⟨h0, h⟩
  · (repeat' split) <;> omega
  · subst h0
    have hb' : ¬ 0 ≤ b := of_decide_eq_false hb.symm
    (repeat' split) <;> omega
  · subst h0
    have hb' : 0 ≤ b := of_decide_eq_true hb.symm
    (repeat' split) <;> omega
end Go.Proofs.YtcgdhdbhebcbkaaDoor
