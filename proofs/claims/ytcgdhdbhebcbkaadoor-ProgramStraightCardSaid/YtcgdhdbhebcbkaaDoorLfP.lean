/- Programs: what Commit, Longest and Needs answer, in plain lists. No condition. -/
import Derived.Test.YtcgdhdbhebcbkaaDoorLdD
namespace Go.Proofs.YtcgdhdbhebcbkaaDoor
open Go
set_option maxRecDepth 10000

/-- The begin of the transaction that is open ahead of a place, or -1. -/
def stB (p : List Ins) : Nat → Int
  | 0 => -1
  | k + 1 => match p[k]? with
    | some x => nextB x k (stB p k)
    | none => stB p k
theorem stB_succ {p : List Ins} {k : Nat} {x : Ins} (hx : p[k]? = some x) : stB p (k + 1) = nextB x k (stB p k) := by
  simp only [stB, hx]
theorem ck_len {p : List Ins} (h : checkP p = (0, 0)) : p.length ≤ 64 := by
  unfold checkP at h
  split at h
  · simp at h
  · omega
theorem ck_step {p : List Ins} (h : checkP p = (0, 0)) : ∀ k, k ≤ p.length → Inv p k (stB p k) ∧ checkG (targetM p) (p.drop k) k (stB p k) = (0, 0)
  | 0, _ => by
    refine ⟨Inv.start p, ?_⟩
    unfold checkP at h
    split at h
    · simp at h
    · exact h
  | k + 1, hk => by
    obtain ⟨h1, h2⟩ := ck_step h k (by omega)
    obtain ⟨x, hx⟩ : ∃ x, p[k]? = some x := ⟨_, List.getElem?_eq_getElem (by omega)⟩
    rw [drop_at hx, checkG] at h2
    split at h2
    · rename_i h0
      simp only [Prod.mk.injEq] at h2
      exact absurd h2.2 h0
    · rename_i h0
      have ho := oneX_ok (by simpa using h0)
      rw [stB_succ hx]
      exact ⟨h1.step hx ho.1 ho.2.1, h2⟩
theorem ck_one {p : List Ins} (h : checkP p = (0, 0)) {k : Nat} {x : Ins} (hx : p[k]? = some x) : oneX (targetM p k (stB p k) x) (stB p k) x = 0 := by
  have hk := (List.getElem?_eq_some_iff.1 hx).1
  have h2 := (ck_step h k (by omega)).2
  rw [drop_at hx, checkG] at h2
  split at h2
  · rename_i h0
    simp only [Prod.mk.injEq] at h2
    exact absurd h2.2 h0
  · rename_i h0
    simpa using h0
theorem ck_end {p : List Ins} (h : checkP p = (0, 0)) : stB p p.length < 0 := by
  have h2 := (ck_step h p.length (Nat.le_refl _)).2
  rw [List.drop_length, checkG] at h2
  split at h2
  · simp at h2
  · omega
theorem ck_inv {p : List Ins} (h : checkP p = (0, 0)) {k : Nat} (hk : k ≤ p.length) : Inv p k (stB p k) := (ck_step h k hk).1
/-- What a permitted instruction is. -/
theorem ck_ins {p : List Ins} (h : checkP p = (0, 0)) {k : Nat} {x : Ins} (hx : p[k]? = some x) :
    icheck x = 0 ∧ (x.op = 7 → stB p k < 0) ∧ (x.op = 8 → 0 ≤ stB p k) ∧ targetM p k (stB p k) x = 0 ∧
      (x.op = 9 ∨ x.op = 10 ∨ x.op = 11 ∨ x.op = 14 ∨ x.op = 15 → 0 ≤ stB p k) := by
  have h0 := ck_one h hx
  have ho := oneX_ok h0
  refine ⟨ho.2.2.1, ho.1, ho.2.1, ho.2.2.2, fun hop => ?_⟩
  unfold oneX at h0
  rw [if_neg (by simpa using ho.2.2.1)] at h0
  split at h0
  · omega
  · split at h0
    · omega
    · rename_i h2
      have hp : iplace x = 1 := by unfold iplace; rw [if_pos ho.2.2.1, if_pos (by omega)]
      omega

/-- Inside a transaction: its commit, and what lies ahead of it. -/
theorem in_end {p : List Ins} (h : checkP p = (0, 0)) : ∀ (n k : Nat), n + k = p.length → 0 ≤ stB p k →
    ∃ c, endL (p.drop k) k = c ∧ k ≤ c ∧ c < p.length ∧ (∃ x, p[c]? = some x ∧ x.op = 8) ∧ stB p (c + 1) = -1 ∧ ∀ i, k ≤ i → i ≤ c → stB p i = stB p k ∧ endL (p.drop i) i = c ∧ (i < c → ∀ x, p[i]? = some x → x.op ≠ 7 ∧ x.op ≠ 8)
  | 0, k, hn, hb => by
    have hk : k = p.length := by omega
    have := ck_end h
    rw [← hk] at this
    omega
  | n + 1, k, hn, hb => by
    obtain ⟨x, hx⟩ : ∃ x, p[k]? = some x := ⟨_, List.getElem?_eq_getElem (by omega)⟩
    have hi := ck_ins h hx
    have h7 : x.op ≠ 7 := fun e => by have := hi.2.1 e; omega
    have hd : endL (p.drop k) k = if x.op = 8 then k else endL (p.drop (k + 1)) (k + 1) := by rw [drop_at hx, endL]
    by_cases h8 : x.op = 8
    · refine ⟨k, by rw [hd, if_pos h8], Nat.le_refl k, by omega, ⟨x, hx, h8⟩, ?_, fun i h1 h2 => ?_⟩
      · rw [stB_succ hx, nextB, if_neg h7, if_pos h8]
      · obtain rfl : i = k := by omega
        exact ⟨rfl, by rw [hd, if_pos h8], fun h => absurd h (by omega)⟩
    · have hs : stB p (k + 1) = stB p k := by rw [stB_succ hx, nextB, if_neg h7, if_neg h8]
      obtain ⟨c, hc, hkc, hcl, hc8, hc1, hall⟩ := in_end h n (k + 1) (by omega) (by rw [hs]; exact hb)
      refine ⟨c, by rw [hd, if_neg h8, hc], by omega, hcl, hc8, hc1, fun i h1 h2 => ?_⟩
      by_cases hik : i = k
      · subst hik
        refine ⟨rfl, by rw [hd, if_neg h8, hc], fun _ y hy => ?_⟩
        rw [hx] at hy
        obtain rfl := Option.some.inj hy
        exact ⟨h7, h8⟩
      · have := hall i (by omega) h2
        rw [hs] at this
        exact this
/-- A transaction: its begin and its commit. -/
theorem of_begin {p : List Ins} (h : checkP p = (0, 0)) {k : Nat} {x : Ins} (hx : p[k]? = some x) (h7 : x.op = 7) :
    ∃ c, endM p k = c ∧ k < c ∧ c < p.length ∧ (∃ y, p[c]? = some y ∧ y.op = 8) ∧ stB p (c + 1) = -1 ∧ ∀ i, k < i → i ≤ c → stB p i = k ∧ endL (p.drop i) i = c ∧ (i < c → ∀ y, p[i]? = some y → y.op ≠ 7 ∧ y.op ≠ 8) := by
  have hk := (List.getElem?_eq_some_iff.1 hx).1
  have hs : stB p (k + 1) = k := by rw [stB_succ hx, nextB, if_pos h7]
  obtain ⟨c, h1, h2, h3, h4, h5, h6⟩ := in_end h (p.length - (k + 1)) (k + 1) (by omega) (by rw [hs]; omega)
  rw [hs] at h6
  exact ⟨c, h1, h2, h3, h4, h5, fun i hi => h6 i (by omega)⟩

/-- The places that may follow a place. -/
def afterL (p : List Ins) (k : Nat) (x : Ins) : List Int :=
  if x.op = 4 then [k + 1 + x.imm] else if x.op = 5 ∨ x.op = 6 then [k + 1, k + 1 + x.imm] else if x.op = 9 then [(endM p k : Int) + 1] else [k + 1]
theorem intoL_no (len : Nat) : ∀ (l : List Ins) (j t : Nat), intoL len l j t = false → ∀ (i : Nat) (x : Ins), l[i]? = some x → j + i < t → x.op = 7 → endL (l.drop (i + 1)) (j + i + 1) < t ∨ len ≤ t
  | [], j, t, _, i, x, hx, _, _ => by simp at hx
  | y :: l, j, t, h, i, x, hx, hi, h7 => by
    unfold intoL at h
    rw [Bool.or_eq_false_iff, decide_eq_false_iff_not] at h
    cases i with
    | zero =>
      simp only [List.getElem?_cons_zero, Option.some.injEq] at hx
      subst hx
      simp only [Nat.add_zero, Nat.zero_add, List.drop_succ_cons, List.drop_zero]
      by_cases h1 : t ≤ endL l (j + 1)
      · right
        by_cases h2 : t + 1 ≤ len
        · exact absurd ⟨by omega, h7, h1, h2⟩ h.1
        · omega
      · left; omega
    | succ i =>
      have := intoL_no len l (j + 1) t h.2 i x (by simpa using hx) (by omega) h7
      simp only [List.drop_succ_cons]
      have e : j + (i + 1) + 1 = j + 1 + i + 1 := by omega
      rw [e]
      exact this
theorem iskips_of {x : Ins} (hc : icheck x = 0) (h : x.op = 4 ∨ x.op = 5 ∨ x.op = 6) : iskips x = true := by
  unfold iskips
  rw [decide_eq_true_iff]
  exact ⟨hc, h⟩
/-- Where a path goes on. -/
theorem after_ok {p : List Ins} (h : checkP p = (0, 0)) {k : Nat} {x : Ins} (hx : p[k]? = some x) : ∀ t ∈ afterL p k x, ∃ j : Nat, t = j ∧ k < j ∧ j ≤ p.length ∧
    (0 ≤ stB p k → x.op ≠ 8 → (x.op ≠ 9 → j ≤ endL (p.drop k) k) ∧ (x.op = 9 → j = endL (p.drop k) k + 1)) ∧
    (stB p k < 0 → ∀ (b : Nat) (y : Ins), k < b → p[b]? = some y → y.op = 7 → j ≤ b ∨ endM p b < j) := by
  have hk := (List.getElem?_eq_some_iff.1 hx).1
  have hi := ck_ins h hx
  have hin := fun hb => in_end h (p.length - k) k (by omega) hb
  have hdk : x.op ≠ 8 → endL (p.drop k) k = endL (p.drop (k + 1)) (k + 1) := fun h8 => by rw [drop_at hx, endL, if_neg h8]
  have step : ∃ j : Nat, ((k : Int) + 1) = j ∧ k < j ∧ j ≤ p.length ∧ (0 ≤ stB p k → x.op ≠ 8 → j ≤ endL (p.drop k) k) ∧
      (stB p k < 0 → ∀ (b : Nat) (y : Ins), k < b → p[b]? = some y → y.op = 7 → j ≤ b ∨ endM p b < j) := by
    refine ⟨k + 1, by omega, by omega, by omega, fun hb h8 => ?_, fun _ b y hb _ _ => .inl (by omega)⟩
    rw [hdk h8]
    exact (endL_ge _ _).1
  have skip : (x.op = 4 ∨ x.op = 5 ∨ x.op = 6) → ∃ j : Nat, ((k : Int) + 1 + x.imm) = j ∧ k < j ∧ j ≤ p.length ∧ (0 ≤ stB p k → x.op ≠ 8 → j ≤ endL (p.drop k) k) ∧
      (stB p k < 0 → ∀ (b : Nat) (y : Ins), k < b → p[b]? = some y → y.op = 7 → j ≤ b ∨ endM p b < j) := fun hop => by
    have hs := iskips_of hi.1 hop
    have hs2 := skips_op hs
    have ht := hi.2.2.2.1
    unfold targetM at ht
    rw [if_pos hs] at ht
    split at ht
    · omega
    · rename_i hlen
      refine ⟨k + 1 + x.imm.toNat, by omega, by omega, by omega, fun hb h8 => ?_, fun hb b y hkb hy h7 => ?_⟩
      · rw [if_pos hb] at ht
        split at ht
        · omega
        · rename_i he
          rcases (ck_inv h (by omega : k ≤ p.length)).bb with hb1 | ⟨_, _, hb3⟩
          · omega
          · rw [hb3] at he; omega
      · rw [if_neg (by omega)] at ht
        split at ht
        · omega
        · rename_i hno
          by_cases hjb : k + 1 + x.imm.toNat ≤ b
          · exact .inl hjb
          · right
            have hbl := (List.getElem?_eq_some_iff.1 hy).1
            have := intoL_no p.length (p.drop (k + 1)) (k + 1) (k + 1 + x.imm.toNat) (by simpa using hno) (b - (k + 1)) y (by rw [List.getElem?_drop, show k + 1 + (b - (k + 1)) = b by omega]; exact hy) (by omega) h7
            rw [List.drop_drop, show k + 1 + (b - (k + 1) + 1) = b + 1 by omega, show k + 1 + (b - (k + 1)) + 1 = b + 1 by omega] at this
            obtain ⟨c, hc, _, hcl, _⟩ := of_begin h hy h7
            have hce : endL (p.drop (b + 1)) (b + 1) = c := hc
            rw [hc]
            rw [hce] at this
            omega
  intro t ht
  unfold afterL at ht
  split at ht
  · rename_i h4
    obtain ⟨j, hj, h1, h2, h3, h5⟩ := skip (.inl h4)
    rw [List.mem_singleton.1 ht]
    exact ⟨j, hj, h1, h2, fun hb h8 => ⟨fun _ => h3 hb h8, fun h9 => by omega⟩, h5⟩
  · split at ht
    · rename_i h56
      rcases List.mem_cons.1 ht with rfl | ht
      · obtain ⟨j, hj, h1, h2, h3, h5⟩ := step
        exact ⟨j, hj, h1, h2, fun hb h8 => ⟨fun _ => h3 hb h8, fun h9 => by omega⟩, h5⟩
      · obtain ⟨j, hj, h1, h2, h3, h5⟩ := skip (.inr h56)
        rw [List.mem_singleton.1 ht]
        exact ⟨j, hj, h1, h2, fun hb h8 => ⟨fun _ => h3 hb h8, fun h9 => by omega⟩, h5⟩
    · split at ht
      · rename_i h9
        rw [List.mem_singleton.1 ht]
        have hb := hi.2.2.2.2 (.inl h9)
        obtain ⟨c, hc, hkc, hcl, _⟩ := hin hb
        have he : endM p k = c := by unfold endM; rw [← hdk (by omega), hc]
        rw [he]
        refine ⟨c + 1, by omega, by omega, by omega, fun _ _ => ⟨fun h => absurd h9 h, fun _ => by rw [hc]⟩, fun hb2 => by omega⟩
      · rename_i h9
        obtain ⟨j, hj, h1, h2, h3, h5⟩ := step
        rw [List.mem_singleton.1 ht]
        exact ⟨j, hj, h1, h2, fun hb h8 => ⟨fun _ => h3 hb h8, fun h => absurd h h9⟩, h5⟩

/- LONGEST -/
def longR (k : Nat) (m : List Int) (l : List Int) : Int := l.foldl (fun acc t => max acc (m.getD (t.toNat - (k + 1)) 0 + 1)) 0
def longT (p : List Ins) : Nat → List Int
  | 0 => [0]
  | i + 1 => (match p[p.length - 1 - i]? with
    | some x => longR (p.length - 1 - i) (longT p i) (afterL p (p.length - 1 - i) x)
    | none => 0) :: longT p i
def longM (p : List Ins) : Int := if (checkP p).2 = 0 then (longT p p.length).headD 0 else -1
theorem longT_len (p : List Ins) : ∀ i, (longT p i).length = i + 1
  | 0 => rfl
  | i + 1 => by simp [longT, longT_len p i]
theorem longR_bd (k : Nat) (m : List Int) (n : Int) (hn : 0 ≤ n) (hm : ∀ j, 0 ≤ m.getD j 0 ∧ m.getD j 0 ≤ n) : ∀ (l : List Int) (a : Int), 0 ≤ a ∧ a ≤ n + 1 → 0 ≤ l.foldl (fun acc t => max acc (m.getD (t.toNat - (k + 1)) 0 + 1)) a ∧ l.foldl (fun acc t => max acc (m.getD (t.toNat - (k + 1)) 0 + 1)) a ≤ n + 1
  | [], a, h => h
  | t :: l, a, h => by
    rw [List.foldl_cons]
    have := hm (t.toNat - (k + 1))
    exact longR_bd k m n hn hm l _ (by omega)
theorem longT_bd (p : List Ins) : ∀ i j, 0 ≤ (longT p i).getD j 0 ∧ (longT p i).getD j 0 ≤ i
  | 0, 0 => by simp [longT]
  | 0, j + 1 => by simp [longT]
  | i + 1, 0 => by
    simp only [longT, List.getD_cons_zero]
    split
    · have := longR_bd (p.length - 1 - i) (longT p i) i (by omega) (longT_bd p i) (afterL p (p.length - 1 - i) (by assumption)) 0 (by omega)
      unfold longR
      omega
    · omega
  | i + 1, j + 1 => by
    simp only [longT, List.getD_cons_succ]
    have := longT_bd p i j
    omega
theorem foldl_ge (f : Int → Int) : ∀ (l : List Int) (a : Int), a ≤ l.foldl (fun acc t => max acc (f t)) a ∧ ∀ t ∈ l, f t ≤ l.foldl (fun acc t => max acc (f t)) a
  | [], a => ⟨Int.le_refl _, fun _ h => by cases h⟩
  | t :: l, a => by
    rw [List.foldl_cons]
    obtain ⟨h1, h2⟩ := foldl_ge f l (max a (f t))
    refine ⟨by omega, fun u hu => ?_⟩
    rcases List.mem_cons.1 hu with rfl | hu
    · omega
    · exact h2 u hu
theorem longT_suf (p : List Ins) : ∀ i j d, (longT p (i + d)).getD (j + d) 0 = (longT p i).getD j 0
  | i, j, 0 => rfl
  | i, j, d + 1 => by
    rw [← Nat.add_assoc, ← Nat.add_assoc, longT, List.getD_cons_succ]
    exact longT_suf p i j d
/-- A step of a path costs one. -/
theorem long_step {p : List Ins} (h : checkP p = (0, 0)) {k j : Nat} {x : Ins} (hx : p[k]? = some x) (hj : (j : Int) ∈ afterL p k x) : (longT p p.length).getD j 0 + 1 ≤ (longT p p.length).getD k 0 := by
  have hk := (List.getElem?_eq_some_iff.1 hx).1
  obtain ⟨j', hj', h1, h2, _⟩ := after_ok h hx _ hj
  obtain rfl : j = j' := by omega
  obtain ⟨i, hi⟩ : ∃ i, p.length = i + 1 + k := ⟨p.length - k - 1, by omega⟩
  have e1 : (longT p p.length).getD k 0 = (longT p (i + 1)).getD 0 0 := by
    have := longT_suf p (i + 1) 0 k
    rw [← hi, Nat.zero_add] at this
    exact this
  have e2 : (longT p p.length).getD j 0 = (longT p i).getD (j - (k + 1)) 0 := by
    have := longT_suf p i (j - (k + 1)) (k + 1)
    rw [show i + (k + 1) = p.length by omega, show j - (k + 1) + (k + 1) = j by omega] at this
    exact this
  rw [e1, e2, longT, List.getD_cons_zero, show p.length - 1 - i = k by omega, hx]
  simp only
  have := (foldl_ge (fun t => (longT p i).getD (t.toNat - (k + 1)) 0 + 1) (afterL p k x) 0).2 j hj
  simpa [longR] using this

/- NEEDS -/
structure Nd where
  r : Int
  w : Int
  a : Int
  f : Int
abbrev Nd.enc (x : Nd) : List Value := [.int .i64 x.r, .int .i64 x.w, .int .i64 x.a, .int .i64 x.f]
def nd0 : Nd := ⟨0, 0, 0, 0⟩
def ndOwn (x : Ins) : Nd := if x.op = 10 then ⟨1, 0, 0, 0⟩ else if x.op = 11 then ⟨0, 1, 0, 0⟩ else if x.op = 14 then ⟨0, 1 * 2 ^ x.imm.toNat + 1, 1, 0⟩ else if x.op = 15 then ⟨1, 1, 0, 1⟩ else ⟨0, 0, 0, 0⟩
def ndMax (o acc m : Nd) : Nd := ⟨max acc.r (o.r + m.r), max acc.w (o.w + m.w), max acc.a (o.a + m.a), max acc.f (o.f + m.f)⟩
def needR (k : Nat) (o : Nd) (m : List Nd) (l : List Int) : Nd := l.foldl (fun acc t => ndMax o acc (m.getD (t.toNat - (k + 1)) nd0)) nd0
def needT (p : List Ins) (last : Nat) : Nat → List Nd
  | 0 => [nd0, nd0]
  | i + 1 => (match p[last - 1 - i]? with
    | some x => needR (last - 1 - i) (ndOwn x) (needT p last i) (afterL p (last - 1 - i) x)
    | none => nd0) :: needT p last i
def commitM (p : List Ins) (k : Int) : Int := if (checkP p).2 = 0 ∧ 0 ≤ k then (match p[k.toNat]? with
  | some x => if x.op = 7 then endM p k.toNat else -1
  | none => -1) else -1
def needM (p : List Ins) (k : Int) : Nd := if commitM p k < 0 then nd0 else (needT p (commitM p k).toNat ((commitM p k).toNat - 1 - k.toNat)).headD nd0
theorem needT_len (p : List Ins) (last : Nat) : ∀ i, (needT p last i).length = i + 2
  | 0 => rfl
  | i + 1 => by simp [needT, needT_len p last i]
def ndIn (n : Int) (x : Nd) : Prop := (0 ≤ x.r ∧ x.r ≤ n) ∧ (0 ≤ x.w ∧ x.w ≤ n) ∧ (0 ≤ x.a ∧ x.a ≤ n) ∧ (0 ≤ x.f ∧ x.f ≤ n)
theorem ndIn_0 {n : Int} (h : 0 ≤ n) : ndIn n nd0 := by unfold ndIn nd0; simp only; omega
theorem ndIn_le {n m : Int} {x : Nd} (h : ndIn n x) (hm : n ≤ m) : ndIn m x := by unfold ndIn at *; omega
theorem ndMax_in {n c : Int} {o acc m : Nd} (ho : ndIn c o) (ha : ndIn (n + c) acc) (hm : ndIn n m) : ndIn (n + c) (ndMax o acc m) := by unfold ndIn ndMax at *; simp only at *; omega
theorem needR_in (k : Nat) (o : Nd) (m : List Nd) {n c : Int} (ho : ndIn c o) (hm : ∀ j, ndIn n (m.getD j nd0)) : ∀ (l : List Int) (a : Nd), ndIn (n + c) a → ndIn (n + c) (l.foldl (fun acc t => ndMax o acc (m.getD (t.toNat - (k + 1)) nd0)) a)
  | [], a, h => h
  | t :: l, a, h => by
    rw [List.foldl_cons]
    exact needR_in k o m ho hm l _ (ndMax_in ho h (hm _))
theorem imm14 {x : Ins} (h : icheck x = 0) (h14 : x.op = 14) : x.imm = 0 ∨ x.imm = 1 ∨ x.imm = 2 ∨ x.imm = 3 := by
  unfold icheck at h
  split at h
  · omega
  · split at h
    · split at h
      · rename_i hi
        unfold immOk at hi
        rw [if_neg (by omega), if_neg (by omega), if_neg (by omega), if_neg (by omega), if_pos h14] at hi
        omega
      · omega
    · omega
theorem ndOwn_in {x : Ins} (h : icheck x = 0) : ndIn 9 (ndOwn x) := by
  unfold ndOwn ndIn
  (repeat' split)
  all_goals try (simp only; omega)
  rename_i h14
  rcases imm14 h h14 with e | e | e | e <;> rw [e] <;> simp only <;> decide
theorem needT_in {p : List Ins} (h : checkP p = (0, 0)) (last : Nat) : ∀ (i j : Nat), ndIn (9 * (i : Int)) ((needT p last i).getD j nd0)
  | 0, 0 => ndIn_0 (by omega)
  | 0, 1 => ndIn_0 (by omega)
  | 0, j + 2 => ndIn_0 (by omega)
  | i + 1, 0 => by
    simp only [needT, List.getD_cons_zero]
    split
    · rename_i x hx
      have := needR_in (last - 1 - i) (ndOwn x) (needT p last i) (ndOwn_in (ck_ins h hx).1) (needT_in h last i) (afterL p (last - 1 - i) x) nd0 (ndIn_0 (by omega))
      exact ndIn_le this (by omega)
    · exact ndIn_0 (by omega)
  | i + 1, j + 1 => by
    simp only [needT, List.getD_cons_succ]
    exact ndIn_le (needT_in h last i j) (by omega)
theorem needT_suf (p : List Ins) (last : Nat) : ∀ i j d, (needT p last (i + d)).getD (j + d) nd0 = (needT p last i).getD j nd0
  | i, j, 0 => rfl
  | i, j, d + 1 => by
    rw [← Nat.add_assoc, ← Nat.add_assoc, needT, List.getD_cons_succ]
    exact needT_suf p last i j d
theorem ndfold_ge (o : Nd) (m : Int → Nd) : ∀ (l : List Int) (a : Nd), (a.r ≤ (l.foldl (fun acc t => ndMax o acc (m t)) a).r ∧ a.w ≤ (l.foldl (fun acc t => ndMax o acc (m t)) a).w) ∧ ∀ t ∈ l, o.r + (m t).r ≤ (l.foldl (fun acc t => ndMax o acc (m t)) a).r ∧ o.w + (m t).w ≤ (l.foldl (fun acc t => ndMax o acc (m t)) a).w
  | [], a => ⟨⟨Int.le_refl _, Int.le_refl _⟩, fun _ h => by cases h⟩
  | t :: l, a => by
    rw [List.foldl_cons]
    obtain ⟨h1, h2⟩ := ndfold_ge o m l (ndMax o a (m t))
    have e : a.r ≤ (ndMax o a (m t)).r ∧ a.w ≤ (ndMax o a (m t)).w ∧ o.r + (m t).r ≤ (ndMax o a (m t)).r ∧ o.w + (m t).w ≤ (ndMax o a (m t)).w := by unfold ndMax; simp only; omega
    refine ⟨by omega, fun u hu => ?_⟩
    rcases List.mem_cons.1 hu with rfl | hu
    · omega
    · exact h2 u hu
/-- The needs from a place of a transaction on. -/
def needAt (p : List Ins) (last j : Nat) : Nd := (needT p last (last - j)).getD (j - last) nd0
theorem need_step {p : List Ins} (h : checkP p = (0, 0)) {last k j : Nat} {x : Ins} (hl : k < last) (hx : p[k]? = some x) (hj : (j : Int) ∈ afterL p k x) (hjl : j ≤ last + 1) :
    (ndOwn x).r + (needAt p last j).r ≤ (needAt p last k).r ∧ (ndOwn x).w + (needAt p last j).w ≤ (needAt p last k).w := by
  obtain ⟨j', hj', h1, h2, _⟩ := after_ok h hx _ hj
  obtain rfl : j = j' := by omega
  obtain ⟨i, hi⟩ : ∃ i, last - k = i + 1 := ⟨last - k - 1, by omega⟩
  have e1 : needAt p last k = (needT p last (i + 1)).getD 0 nd0 := by unfold needAt; rw [hi, show k - last = 0 by omega]
  have e2 : needAt p last j = (needT p last i).getD (j - (k + 1)) nd0 := by
    unfold needAt
    by_cases hjl2 : j ≤ last
    · have := needT_suf p last (last - j) 0 (j - (k + 1))
      rw [show last - j + (j - (k + 1)) = i by omega, Nat.zero_add] at this
      rw [show j - last = 0 by omega, this]
    · have := needT_suf p last 0 1 i
      rw [Nat.zero_add] at this
      rw [show j - last = 1 by omega, show last - j = 0 by omega, show j - (k + 1) = 1 + i by omega, this]
  rw [e1, e2, needT, List.getD_cons_zero, show last - 1 - i = k by omega, hx]
  simp only
  have := (ndfold_ge (ndOwn x) (fun t => (needT p last i).getD (t.toNat - (k + 1)) nd0) (afterL p k x) nd0).2 j hj
  simpa [needR] using this
end Go.Proofs.YtcgdhdbhebcbkaaDoor
