/- What the laws share, part 34. No condition. -/
import Derived.Lib.LastIndexByte
import Derived.Test.YtiimndcifcoofaaGreatDoorY33
namespace Go.Proofs.YtiimndcifcoofaaGreatDoor
open Go Go.RowKit
set_option maxRecDepth 10000
set_option maxHeartbeats 4000000
def rawT (n : Nat) : List Ins → Nat → List Int
  | [], _ => []
  | i :: r, k => if iskips i = true ∧ (k : Int) + 1 + iskip i ≤ n then ((k : Int) + 1 + iskip i) :: rawT n r (k + 1) else rawT n r (k + 1)
def tgtT (p : List Ins) : List Int := cmp (srt (rawT p.length p 0))
def idxI (x : Int) : List Int → Nat → Option Nat
  | [], _ => none
  | y :: r, j => if x = y then some j else idxI x r (j + 1)
def lnmL (j : Nat) : List UInt8 := 108 :: Go.Lib.itoa ((j : Int) + 1)
def labT (T : List Int) (k : Int) : List UInt8 := match idxI k T 0 with
  | some j => lnmL j ++ [58, 10]
  | none => []
def uptoL (s : ByteArray) : List UInt8 := s.data.toList.take (Go.Lib.lastIndexByte s 32 + 1).toNat
def insX (T : List Int) (i : Ins) (k : Nat) : List UInt8 := if iskips i = true then (match idxI ((k : Int) + 1 + iskip i) T 0 with
  | some j => uptoL (fmtB i) ++ lnmL j
  | none => (fmtB i).data.toList) else (fmtB i).data.toList
def disR (T : List Int) : List Ins → Nat → List UInt8
  | [], k => labT T k
  | i :: r, k => labT T k ++ (insX T i k ++ [10] ++ disR T r (k + 1))
def errP : List Ins → Int
  | [] => 0
  | i :: r => if icheck i = 0 then errP r else icheck i
def disM (p : List Ins) : ByteArray × Int := if 64 < p.length then (noB, 3) else if errP p = 0 then (bW (disR (tgtT p) p 0), 0) else (noB, errP p)
theorem errP_all : ∀ {p : List Ins}, errP p = 0 → ∀ i ∈ p, icheck i = 0
  | [], _, i, h => by cases h
  | x :: r, he, i, h => by
    unfold errP at he
    split at he
    · rename_i hx
      rcases List.mem_cons.1 h with rfl | h
      · exact hx
      · exact errP_all he i h
    · rename_i hx; exact absurd he hx
theorem skip_rng {i : Ins} (h : iskips i = true) : 0 ≤ iskip i ∧ iskip i ≤ 64 := by
  unfold iskip
  rw [if_pos h]
  unfold iskips at h
  obtain ⟨h0, h1⟩ := of_decide_eq_true h
  have hi := (fmt_regs h0).2.2.2.2
  rcases h1 with h1 | h1 | h1 <;> rw [h1] at hi <;> exact hi
theorem iskip_le (i : Ins) : 0 ≤ iskip i ∧ iskip i ≤ 64 := by
  cases h : iskips i with
  | true => exact skip_rng h
  | false => unfold iskip; rw [h]; simp
theorem rawT_len (n : Nat) : ∀ (p : List Ins) (k : Nat), (rawT n p k).length ≤ p.length
  | [], _ => Nat.le_refl _
  | i :: r, k => by
    have := rawT_len n r (k + 1)
    simp only [rawT]
    split
    · simp; omega
    · simp; omega
theorem rawT_rng (n : Nat) : ∀ (p : List Ins) (k : Nat), ∀ x ∈ rawT n p k, 0 ≤ x ∧ x ≤ n
  | [], _, x, h => by cases h
  | i :: r, k, x, h => by
    simp only [rawT] at h
    split at h
    · rename_i hc
      rcases List.mem_cons.1 h with rfl | h
      · have := skip_rng hc.1
        omega
      · exact rawT_rng n r (k + 1) x h
    · exact rawT_rng n r (k + 1) x h
theorem tgtT_len (p : List Ins) : (tgtT p).length ≤ p.length := by
  have h1 := (cmp_spec (srt_sorted (rawT p.length p 0))).2.2
  rw [srt_len] at h1
  have h2 := rawT_len p.length p 0
  unfold tgtT
  omega
theorem tgtT_asc (p : List Ins) : (tgtT p).Pairwise (· < ·) := (cmp_spec (srt_sorted (rawT p.length p 0))).1
theorem tgtT_rng (p : List Ins) : ∀ x ∈ tgtT p, 0 ≤ x ∧ x ≤ p.length := fun x hx => rawT_rng p.length p 0 x (srt_mem.1 (((cmp_spec (srt_sorted (rawT p.length p 0))).2.1 x).1 hx))
def mpV : List Int → Nat → List (Value × Value)
  | [], _ => []
  | x :: r, j => (Value.int .i64 x, Value.string (bW (lnmL j))) :: mpV r (j + 1)
theorem find_mp (x : Int) : ∀ (T : List Int) (j : Nat), findM 0 (.int .i64 x) (mpV T j) = some ((idxI x T j).map fun q => Value.string (bW (lnmL q)))
  | [], _ => rfl
  | y :: r, j => by
    show (match eqOne 0 (.int .i64 x) (.int .i64 y) with | some true => some (some (Value.string (bW (lnmL j)))) | some false => findM 0 (.int .i64 x) (mpV r (j + 1)) | none => none) = _
    have e : eqOne 0 (.int .i64 x) (.int .i64 y) = some (decide (x = y)) := rfl
    rw [e]
    unfold idxI
    by_cases h : x = y
    · rw [if_pos h, decide_eq_true h]; rfl
    · rw [if_neg h, decide_eq_false h]; exact find_mp x r (j + 1)
theorem upd_mp (x : Int) (v : Value) : ∀ (T : List Int) (j : Nat), idxI x T j = none → updM 0 (.int .i64 x) v (mpV T j) = mpV T j ++ [(.int .i64 x, v)]
  | [], _, _ => rfl
  | y :: r, j, h => by
    unfold idxI at h
    split at h
    · cases h
    · rename_i hne
      show (match eqOne 0 (.int .i64 x) (.int .i64 y) with | some true => (Value.int .i64 x, v) :: mpV r (j + 1) | _ => (Value.int .i64 y, Value.string (bW (lnmL j))) :: updM 0 (.int .i64 x) v (mpV r (j + 1))) = _
      have e : eqOne 0 (.int .i64 x) (.int .i64 y) = some (decide (x = y)) := rfl
      rw [e, decide_eq_false hne, upd_mp x v r (j + 1) h]
      rfl
theorem mpV_app (x : Int) : ∀ (T : List Int) (j : Nat), mpV (T ++ [x]) j = mpV T j ++ [(.int .i64 x, .string (bW (lnmL (j + T.length))))]
  | [], _ => rfl
  | y :: r, j => by
    simp only [List.cons_append, mpV, List.length_cons]
    rw [mpV_app x r (j + 1), show j + 1 + r.length = j + (r.length + 1) by omega]
theorem idx_none (x : Int) : ∀ (T : List Int) (j : Nat), x ∉ T → idxI x T j = none
  | [], _, _ => rfl
  | y :: r, j, h => by
    unfold idxI
    rw [if_neg (fun e => h (by rw [e]; exact List.mem_cons_self))]
    exact idx_none x r (j + 1) fun hm => h (List.mem_cons_of_mem _ hm)
theorem idx_lt (x : Int) : ∀ (T : List Int) (j q : Nat), idxI x T j = some q → q < j + T.length
  | [], _, _, h => by cases h
  | y :: r, j, q, h => by
    unfold idxI at h
    split at h
    · have := Option.some.inj h; simp; omega
    · have := idx_lt x r (j + 1) q h; simp; omega
end Go.Proofs.YtiimndcifcoofaaGreatDoor
