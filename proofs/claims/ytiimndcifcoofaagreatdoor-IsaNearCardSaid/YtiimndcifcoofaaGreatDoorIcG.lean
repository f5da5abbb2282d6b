/- isa: operand and Parse. No condition. -/
import Derived.Test.YtiimndcifcoofaaGreatDoorIcF
import Derived.Test.YtiimndcifcoofaaGreatDoorIcC
import Derived.Test.YtiimndcifcoofaaGreatDoorIcD
namespace Go.Proofs.YtiimndcifcoofaaGreatDoor
open Go Go.RowKit
set_option maxRecDepth 10000
set_option maxHeartbeats 4000000
abbrev insP (i : Ins) : Obj → Prop := fun o => o = Obj.cells #[.int .i64 i.op, .int .i64 i.a, .int .i64 i.b, .int .i64 i.c, .int .i64 i.imm] 23
def isReg (k : UInt8) : Prop := (k.toNat : Int) = 65 ∨ (k.toNat : Int) = 66 ∨ (k.toNat : Int) = 67
instance (k : UInt8) : Decidable (isReg k) := by unfold isReg; infer_instance
def rdB (k : UInt8) (w : ByteArray) : Bool := if isReg k then (regM w).2 else (decM w).2
def rdV (k : UInt8) (w : ByteArray) : Int := if isReg k then (regM w).1 else (decM w).1
def setI (i : Ins) (k : UInt8) (v : Int) : Ins := if (k.toNat : Int) = 65 then ⟨i.op, v, i.b, i.c, i.imm⟩ else if (k.toNat : Int) = 66 then ⟨i.op, i.a, v, i.c, i.imm⟩ else if (k.toNat : Int) = 67 then ⟨i.op, i.a, i.b, v, i.imm⟩ else ⟨i.op, i.a, i.b, i.c, v⟩
theorem setI_op (i : Ins) (k : UInt8) (v : Int) : (setI i k v).op = i.op := by unfold setI; (repeat' split) <;> rfl
def opsP : List UInt8 → List ByteArray → Ins → Option Ins
  | [], [], i => some i
  | k :: ks, w :: ws, i => if rdB k w = true then opsP ks ws (setI i k (rdV k w)) else none
  | _, _, _ => none
def insZ : Ins := ⟨0, 0, 0, 0, 0⟩
/-- What Parse returns behind the operands. -/
def finP (o : Option Ins) : Ins × Int := match o with
  | none => (insZ, 4)
  | some i => if icheck i = 0 then (i, 0) else (insZ, icheck i)
/-- What Parse returns. -/
def parseM (s : ByteArray) : Ins × Int :=
  if 200 < s.size then (insZ, 3) else match wordsM s with
  | [] => (insZ, 4)
  | w :: ws => if stB w = true ∧ ws.length = (opAt (stI w).op.toNat).size then finP (opsP (opAt (stI w).op.toNat).data.toList ws (stI w)) else (insZ, 4)
theorem stI_form (w : ByteArray) : ∃ (n : Nat) (m : Int), n < 18 ∧ stI w = ⟨n, 0, 0, 0, m⟩ := by
  unfold stI
  rcases op_cases w with ⟨h, _⟩ | ⟨i, hi, _, h, _, _⟩
  · rw [h, if_neg (by omega)]
    exact ⟨3, _, by omega, rfl⟩
  · rw [h, if_pos (by omega)]
    exact ⟨i, 0, hi, rfl⟩
theorem word_size {s w : ByteArray} (h : w ∈ wordsM s) : w.size ≤ s.size := by
  unfold wordsM at h
  obtain ⟨x, _, rfl⟩ := List.mem_map.1 h
  rw [ByteArray.size_extract]
  omega
theorem forms_op' {k : Nat} (h : k < 18) : formsV[0 + k * 2 + 1]? = some (.string (opAt k)) := by
  rw [Nat.zero_add]; exact forms_op h
theorem sls_1 {b n m sz : Nat} {K : Value → Prop} (hn : n = m + 1) (hk : K (.slice (slA (some ⟨b, 0, none⟩) n 1 sz) m m)) : SlsT (some ⟨b, 0, none⟩) n n sz (some 1) none none K := by
  subst hn
  exact ⟨1, m + 1, m + 1, rfl, rfl, rfl, by omega, by simp, by simp, by simp, hk⟩
section
variable {W0 : World} {own : Own}
theorem rd_tail {T : TypeId} {b : Nat} {w : ByteArray} {ws : List ByteArray} : RdE encS 1 W0 [canE encS T b (w :: ws)] (slA (some ⟨b, 0, none⟩) (ws.length + 1) 1 1) ws := by
  have hr : RdE encS 1 W0 [canE encS T b (w :: ws)] (some ⟨b, 0, none⟩) (w :: ws) := can_rd (fun _ _ => rfl)
  cases ws with
  | nil => exact ⟨fun h => absurd rfl h, fun _ _ => rfl, fun h => by simp at h⟩
  | cons x r =>
    have e : slA (some ⟨b, 0, none⟩) ((x :: r).length + 1) 1 1 = some ⟨b, 1, none⟩ := by
      unfold slA
      rw [if_neg (by simp)]
      rfl
    rw [e]
    refine ⟨fun _ => rfl, fun _ _ => rfl, fun {j k y v} hy hv => ?_⟩
    have := hr.cell (j := j + 1) (k := k) (x := y) (v := v) (by simpa using hy) hv
    have e2 : ao (some (⟨b, 1, none⟩ : Addr)) + j * 1 + k = ao (some (⟨b, 0, none⟩ : Addr)) + (j + 1) * 1 + k := by show 1 + j * 1 + k = 0 + (j + 1) * 1 + k; omega
    rw [e2]
    exact this
theorem sp_operand (hL : LibAt W0) {b : Nat} {i : Ins} {k : UInt8} {w : ByteArray} (hw : w.size ≤ 281474976710656) {C : (Obj → Prop) → Own} [m : UpC b (insP i) own C] :
    Spec Tryz.prog W0 75 [.pointer (some ⟨b, 0, none⟩), .int .u8 k.toNat, .string w] own fun v own' => v = .bool (rdB k w) ∧ Ent W0 own' (C (insP (setI i k (rdV k w)))) := by
  refine spec_of mixed low_isa_operand (by simp [ir_isa_operand]) ?_
  unfold rdB rdV setI
  unfold insP at m
  by_cases h1 : (k.toNat : Int) = 65
  · have hr : isReg k := .inl h1
    rw [if_pos hr, if_pos hr, if_pos h1]
    repeat' ((try (conv => whnf)); first | (refine when_ye ?_ ?_; exact rfl) | (refine when_ne ?_ ?_; exact rfl) | (refine br_te ?_ ?_; exact rfl) | (refine br_fe ?_ ?_; exact rfl) | (apply br_pyE; (exact rfl); omega) | (apply br_pnE; (exact rfl); omega) | (apply when_pyE; (exact rfl); omega) | (apply when_pnE; (exact rfl); omega) | (apply br_npyE; (exact rfl); omega) | (apply br_npnE; (exact rfl); omega) | (apply when_npyE; (exact rfl); omega) | (apply when_npnE; (exact rfl); omega) | ((with_reducible show CallT _ _ _ _ _ _); first | ((refine call_pe (sp_register0 w) ?_ ?_ ?_; (exact rfl); exact rfl))) | (refine ari ?_ ?_; omega) | (refine aru ?_ ?_; omega) | (apply sel; exact rfl) | (refine ix0 rfl ?_) | (refine ix1 rfl ?_) | (refine ix2 rfl ?_) | (refine ix3 rfl ?_) | (apply ixj; omega) | (refine ixn ?_ ?_; omega) | (refine ixs0 rfl ?_) | (refine ixs1 rfl ?_) | (refine ixs_j ?_ ?_; omega) | (refine ixs_n ?_ ?_; omega) | (apply ld_o; exact rfl) | (apply ldN_a; exact rfl) | (apply ldN_o; (exact rfl); exact rfl) | (apply st_o; (exact rfl); exact rfl) | (apply stN_o; (exact rfl); (exact rfl); exact rfl) | (refine new_i (fun bk hbk => ?_)) | (apply when_dE; (exact rfl); (exact rfl); all_goals intro hc) | (apply when_dF; (exact rfl); (exact rfl); all_goals intro hc) | (apply when_nE; (exact rfl); (exact rfl); all_goals intro hc) | (apply when_nF; (exact rfl); (exact rfl); all_goals intro hc) | (apply br_dE; (exact rfl); all_goals intro hc) | (apply br_nE; (exact rfl); all_goals intro hc) | (refine mm_min ?_) | (refine mm_max ?_) | (refine rem_i ?_ ?_; omega) | (refine SelN.mk ?_) | (refine cut_n ?_) | (refine Both.mk ?_ ?_) | (exact True.intro))
    exact ⟨rfl, Ent.refl⟩
  · by_cases h2 : (k.toNat : Int) = 66
    · have hr : isReg k := .inr (.inl h2)
      rw [if_pos hr, if_pos hr, if_neg h1, if_pos h2]
      repeat' ((try (conv => whnf)); first | (refine when_ye ?_ ?_; exact rfl) | (refine when_ne ?_ ?_; exact rfl) | (refine br_te ?_ ?_; exact rfl) | (refine br_fe ?_ ?_; exact rfl) | (apply br_pyE; (exact rfl); omega) | (apply br_pnE; (exact rfl); omega) | (apply when_pyE; (exact rfl); omega) | (apply when_pnE; (exact rfl); omega) | (apply br_npyE; (exact rfl); omega) | (apply br_npnE; (exact rfl); omega) | (apply when_npyE; (exact rfl); omega) | (apply when_npnE; (exact rfl); omega) | ((with_reducible show CallT _ _ _ _ _ _); first | ((refine call_pe (sp_register0 w) ?_ ?_ ?_; (exact rfl); exact rfl))) | (refine ari ?_ ?_; omega) | (refine aru ?_ ?_; omega) | (apply sel; exact rfl) | (refine ix0 rfl ?_) | (refine ix1 rfl ?_) | (refine ix2 rfl ?_) | (refine ix3 rfl ?_) | (apply ixj; omega) | (refine ixn ?_ ?_; omega) | (refine ixs0 rfl ?_) | (refine ixs1 rfl ?_) | (refine ixs_j ?_ ?_; omega) | (refine ixs_n ?_ ?_; omega) | (apply ld_o; exact rfl) | (apply ldN_a; exact rfl) | (apply ldN_o; (exact rfl); exact rfl) | (apply st_o; (exact rfl); exact rfl) | (apply stN_o; (exact rfl); (exact rfl); exact rfl) | (refine new_i (fun bk hbk => ?_)) | (apply when_dE; (exact rfl); (exact rfl); all_goals intro hc) | (apply when_dF; (exact rfl); (exact rfl); all_goals intro hc) | (apply when_nE; (exact rfl); (exact rfl); all_goals intro hc) | (apply when_nF; (exact rfl); (exact rfl); all_goals intro hc) | (apply br_dE; (exact rfl); all_goals intro hc) | (apply br_nE; (exact rfl); all_goals intro hc) | (refine mm_min ?_) | (refine mm_max ?_) | (refine rem_i ?_ ?_; omega) | (refine SelN.mk ?_) | (refine cut_n ?_) | (refine Both.mk ?_ ?_) | (exact True.intro))
      exact ⟨rfl, Ent.refl⟩
    · by_cases h3 : (k.toNat : Int) = 67
      · have hr : isReg k := .inr (.inr h3)
        rw [if_pos hr, if_pos hr, if_neg h1, if_neg h2, if_pos h3]
        repeat' ((try (conv => whnf)); first | (refine when_ye ?_ ?_; exact rfl) | (refine when_ne ?_ ?_; exact rfl) | (refine br_te ?_ ?_; exact rfl) | (refine br_fe ?_ ?_; exact rfl) | (apply br_pyE; (exact rfl); omega) | (apply br_pnE; (exact rfl); omega) | (apply when_pyE; (exact rfl); omega) | (apply when_pnE; (exact rfl); omega) | (apply br_npyE; (exact rfl); omega) | (apply br_npnE; (exact rfl); omega) | (apply when_npyE; (exact rfl); omega) | (apply when_npnE; (exact rfl); omega) | ((with_reducible show CallT _ _ _ _ _ _); first | ((refine call_pe (sp_register0 w) ?_ ?_ ?_; (exact rfl); exact rfl))) | (refine ari ?_ ?_; omega) | (refine aru ?_ ?_; omega) | (apply sel; exact rfl) | (refine ix0 rfl ?_) | (refine ix1 rfl ?_) | (refine ix2 rfl ?_) | (refine ix3 rfl ?_) | (apply ixj; omega) | (refine ixn ?_ ?_; omega) | (refine ixs0 rfl ?_) | (refine ixs1 rfl ?_) | (refine ixs_j ?_ ?_; omega) | (refine ixs_n ?_ ?_; omega) | (apply ld_o; exact rfl) | (apply ldN_a; exact rfl) | (apply ldN_o; (exact rfl); exact rfl) | (apply st_o; (exact rfl); exact rfl) | (apply stN_o; (exact rfl); (exact rfl); exact rfl) | (refine new_i (fun bk hbk => ?_)) | (apply when_dE; (exact rfl); (exact rfl); all_goals intro hc) | (apply when_dF; (exact rfl); (exact rfl); all_goals intro hc) | (apply when_nE; (exact rfl); (exact rfl); all_goals intro hc) | (apply when_nF; (exact rfl); (exact rfl); all_goals intro hc) | (apply br_dE; (exact rfl); all_goals intro hc) | (apply br_nE; (exact rfl); all_goals intro hc) | (refine mm_min ?_) | (refine mm_max ?_) | (refine rem_i ?_ ?_; omega) | (refine SelN.mk ?_) | (refine cut_n ?_) | (refine Both.mk ?_ ?_) | (exact True.intro))
        exact ⟨rfl, Ent.refl⟩
      · have hr : ¬ isReg k := by unfold isReg; omega
        rw [if_neg hr, if_neg hr, if_neg h1, if_neg h2, if_neg h3]
        repeat' ((try (conv => whnf)); first | (refine when_ye ?_ ?_; exact rfl) | (refine when_ne ?_ ?_; exact rfl) | (refine br_te ?_ ?_; exact rfl) | (refine br_fe ?_ ?_; exact rfl) | (apply br_pyE; (exact rfl); omega) | (apply br_pnE; (exact rfl); omega) | (apply when_pyE; (exact rfl); omega) | (apply when_pnE; (exact rfl); omega) | (apply br_npyE; (exact rfl); omega) | (apply br_npnE; (exact rfl); omega) | (apply when_npyE; (exact rfl); omega) | (apply when_npnE; (exact rfl); omega) | ((with_reducible show CallT _ _ _ _ _ _); first | ((refine call_pe (sp_decimal hL w hw) ?_ ?_ ?_; (exact rfl); exact rfl))) | (refine ari ?_ ?_; omega) | (refine aru ?_ ?_; omega) | (apply sel; exact rfl) | (refine ix0 rfl ?_) | (refine ix1 rfl ?_) | (refine ix2 rfl ?_) | (refine ix3 rfl ?_) | (apply ixj; omega) | (refine ixn ?_ ?_; omega) | (refine ixs0 rfl ?_) | (refine ixs1 rfl ?_) | (refine ixs_j ?_ ?_; omega) | (refine ixs_n ?_ ?_; omega) | (apply ld_o; exact rfl) | (apply ldN_a; exact rfl) | (apply ldN_o; (exact rfl); exact rfl) | (apply st_o; (exact rfl); exact rfl) | (apply stN_o; (exact rfl); (exact rfl); exact rfl) | (refine new_i (fun bk hbk => ?_)) | (apply when_dE; (exact rfl); (exact rfl); all_goals intro hc) | (apply when_dF; (exact rfl); (exact rfl); all_goals intro hc) | (apply when_nE; (exact rfl); (exact rfl); all_goals intro hc) | (apply when_nF; (exact rfl); (exact rfl); all_goals intro hc) | (apply br_dE; (exact rfl); all_goals intro hc) | (apply br_nE; (exact rfl); all_goals intro hc) | (refine mm_min ?_) | (refine mm_max ?_) | (refine rem_i ?_ ?_; omega) | (refine SelN.mk ?_) | (refine cut_n ?_) | (refine Both.mk ?_ ?_) | (exact True.intro))
        exact ⟨rfl, Ent.refl⟩
end
end Go.Proofs.YtiimndcifcoofaaGreatDoor
