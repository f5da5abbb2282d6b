/- Traces: the reference's closure, as a contract. No condition. -/
import Derived.Test.YtofjnldidkiihaaDoorOcD
namespace Go.Proofs.YtofjnldidkiihaaDoor
open Go
set_option maxRecDepth 10000
set_option maxHeartbeats 4000000

def rowL (n : Nat) (g : Nat → Bool) : List Bool := (List.range n).map g
theorem rowL_len (n : Nat) (g : Nat → Bool) : (rowL n g).length = n := by simp [rowL]
theorem rowL_get {n j : Nat} {g : Nat → Bool} (hj : j < n) : (rowL n g)[j]? = some (g j) := by simp [rowL, hj]
theorem rowL_congr {n : Nat} {g g' : Nat → Bool} (h : ∀ j, j < n → g j = g' j) : rowL n g = rowL n g' := List.map_congr_left fun j hj => h j (List.mem_range.1 hj)
theorem rowL_set {n j : Nat} {g : Nat → Bool} {v : Bool} : (rowL n g).set j v = rowL n (fun i => if i = j then v else g i) := by
  apply List.ext_getElem?
  intro i
  by_cases hi : i < n
  · rw [rowL_get hi, List.getElem?_set]
    by_cases hij : j = i
    · subst hij; rw [if_pos rfl, if_pos (by rw [rowL_len]; exact hi), if_pos rfl]
    · rw [if_neg hij, rowL_get hi, if_neg (Ne.symm hij)]
  · rw [List.getElem?_eq_none (by rw [List.length_set, rowL_len]; omega), List.getElem?_eq_none (by rw [rowL_len]; omega)]
theorem rowL_rep (n : Nat) : List.replicate n false = rowL n (fun _ => false) := by
  apply List.ext_getElem?
  intro i
  by_cases hi : i < n
  · rw [rowL_get hi]; simp [hi]
  · rw [List.getElem?_eq_none (by simp; omega), List.getElem?_eq_none (by rw [rowL_len]; omega)]
/-- Rows that lie in blocks of their own. -/
def rowsO (T : TypeId) (n : Nat) (f : Nat → Nat → Bool) : List Nat → Nat → Own
  | [], _ => []
  | b :: bs, i => canE encB T b (rowL n (f i)) :: rowsO T n f bs (i + 1)
theorem rowsO_snoc (T : TypeId) (n : Nat) (f : Nat → Nat → Bool) (b : Nat) : ∀ (bs : List Nat) (i : Nat), rowsO T n f (bs ++ [b]) i = rowsO T n f bs i ++ [canE encB T b (rowL n (f (i + bs.length)))]
  | [], i => rfl
  | c :: bs, i => by
    simp only [List.cons_append, rowsO, List.length_cons]
    rw [rowsO_snoc T n f b bs (i + 1), show i + 1 + bs.length = i + (bs.length + 1) by omega]
theorem rowsO_congr {T : TypeId} {n : Nat} {f f' : Nat → Nat → Bool} : ∀ (bs : List Nat) (i : Nat), (∀ a j, i ≤ a → a < i + bs.length → j < n → f a j = f' a j) → rowsO T n f bs i = rowsO T n f' bs i
  | [], _, _ => rfl
  | b :: bs, i, h => by
    simp only [rowsO]
    rw [rowL_congr (fun j hj => h i j (Nat.le_refl i) (by simp) hj), rowsO_congr bs (i + 1) (fun a j h1 h2 hj => h a j (by omega) (by simp only [List.length_cons]; omega) hj)]
theorem rowsO_at {T : TypeId} {n : Nat} {f : Nat → Nat → Bool} : ∀ (bs : List Nat) (s i b : Nat), bs[i]? = some b → ∃ C : Own → Own, At [canE encB T b (rowL n (f (s + i)))] (rowsO T n f bs s) C ∧ ∀ g : Nat → Bool, C [canE encB T b (rowL n g)] = rowsO T n (fun a => if a = s + i then g else f a) bs s
  | [], _, _, _, h => by simp at h
  | c :: bs, s, 0, b, h => by
    simp only [List.getElem?_cons_zero, Option.some.injEq] at h
    subst h
    refine ⟨fun X => X ++ rowsO T n f bs (s + 1), At.head (D := [_]), fun g => ?_⟩
    simp only [rowsO, Nat.add_zero, if_true, List.cons_append, List.nil_append]
    rw [rowsO_congr (f' := fun a => if a = s then g else f a) bs (s + 1) (fun a j h1 _ _ => by rw [if_neg (by omega)])]
  | c :: bs, s, i + 1, b, h => by
    obtain ⟨C, h1, h2⟩ := rowsO_at (T := T) (n := n) (f := f) bs (s + 1) i b (by simpa using h)
    rw [show s + 1 + i = s + (i + 1) by omega] at h1 h2
    refine ⟨fun X => canE encB T c (rowL n (f s)) :: C X, At.tail h1, fun g => ?_⟩
    simp only [rowsO]
    rw [h2 g, if_neg (by omega)]
abbrev encR (n b : Nat) : List Value := [.slice (some ⟨b, 0, none⟩) n n]
def isB (l : List EH) (i : Nat) : Bool := (cntL l l.length).getD i false
def dirB (l : List EH) (i j : Nat) : Bool := decide (i < j) && (isB l i && isB l j && (decide (thr l i = thr l j) || (decide (knd l i = 4) && (decide (knd l j = 4) || decide (knd l j = 3)))))
/-- The closure under way: place k, row i, column j. -/
def clS (h : Nat → Nat → Bool) (k i j : Nat) : Nat → Nat → Bool := fun a b => if a < i ∨ (a = i ∧ b < j) then stepK h k a b else h a b
section
variable {h : Nat → Nat → Bool} {k i j : Nat}
theorem stepK_le {a b : Nat} (hb : b ≤ k) : stepK h k a b = h a b := by unfold stepK; rw [if_neg (by omega)]
theorem clS_0 (a b : Nat) : clS h k 0 (k + 1) a b = h a b := by
  unfold clS
  split
  · exact stepK_le (by omega)
  · rfl
theorem clS_ik (hj : k < j) : clS h k i j i k = h i k := by unfold clS; rw [if_pos (.inr ⟨rfl, hj⟩), stepK_le (Nat.le_refl k)]
theorem clS_ij : clS h k i j i j = h i j := by unfold clS; rw [if_neg (by omega)]
theorem clS_kj (hik : i < k) : clS h k i j k j = h k j := by unfold clS; rw [if_neg (by omega)]
theorem clS_next {a b : Nat} (hik : i < k) (hj : k < j) (ht : h i k = true) : (if a = i then (fun x => if x = j then h i j || h k j else clS h k i j i x) else clS h k i j a) b = clS h k i (j + 1) a b := by
  by_cases ha : a = i
  · subst ha
    rw [if_pos rfl]
    by_cases hb : b = j
    · subst hb
      simp only [if_true]
      unfold clS
      rw [if_pos (.inr ⟨rfl, by omega⟩)]
      unfold stepK
      rw [if_pos ⟨hik, hj, ht⟩]
    · simp only [hb, if_false]
      unfold clS
      by_cases hbj : b < j
      · rw [if_pos (.inr ⟨rfl, hbj⟩), if_pos (.inr ⟨rfl, by omega⟩)]
      · rw [if_neg (by omega), if_neg (by omega)]
  · rw [if_neg ha]
    unfold clS
    by_cases hai : a < i
    · rw [if_pos (.inl hai), if_pos (.inl hai)]
    · rw [if_neg (by omega), if_neg (by omega)]
theorem clS_row {n a b : Nat} (hb : b < n) : clS h k i n a b = clS h k (i + 1) (k + 1) a b := by
  unfold clS
  by_cases ha : a < i
  · rw [if_pos (.inl ha), if_pos (.inl (by omega))]
  · by_cases ha2 : a = i
    · rw [if_pos (.inr ⟨ha2, hb⟩), if_pos (.inl (by omega))]
    · rw [if_neg (by omega)]
      split
      · exact (stepK_le (by omega)).symm
      · rfl
theorem clS_skip {a b : Nat} (hf : h i k = false) : clS h k i j a b = clS h k (i + 1) (k + 1) a b := by
  have hs : ∀ b, stepK h k i b = h i b := fun b => by unfold stepK; rw [if_neg (fun hh => by rw [hf] at hh; cases hh.2.2)]
  unfold clS
  by_cases ha : a < i
  · rw [if_pos (.inl ha), if_pos (.inl (by omega))]
  · by_cases ha2 : a = i
    · subst ha2
      rw [if_pos (c := a < a + 1 ∨ _) (.inl (by omega)), hs]
      split <;> rfl
    · rw [if_neg (by omega)]
      split
      · exact (stepK_le (by omega)).symm
      · rfl
theorem clS_end (a b : Nat) : clS h k k (k + 1) a b = stepK h k a b := by
  unfold clS
  split
  · rfl
  · unfold stepK; rw [if_neg (by omega)]
end
theorem ldS0 {α : Type} {enc : α → List Value} {sz : Nat} {W0 : World} {own own' : Own} {l : List α} {b j : Nat} {x : α} {v : Value} {K : Value → Prop} (h : RdE enc sz W0 own' (some ⟨b, 0, none⟩) l) (hx : l[j]? = some x) [m : EntC own own'] (hv : (enc x)[0]? = some v) (hk : K v) : Ld W0 own ⟨b, j * sz, none⟩ K := by
  have := ldE0 (own := own) h hx hv hk
  simp only [ab, ao, Nat.zero_add] at this
  exact this
theorem rowsO_rd {W0 : World} {T : TypeId} {n : Nat} {f : Nat → Nat → Bool} {bs : List Nat} {i b : Nat} (hb : bs[i]? = some b) : RdE encB 1 W0 (rowsO T n f bs 0) (some ⟨b, 0, none⟩) (rowL n (f i)) := by
  obtain ⟨C, h, _⟩ := rowsO_at (T := T) (n := n) (f := f) bs 0 i b hb
  rw [Nat.zero_add] at h
  exact (can_rd (enc := encB) (sz := 1) (fun _ _ => rfl)).ent h.self
section
variable {W0 : World} {own : Own} {a : Option Addr} {cap : Nat} {l : List EH}
theorem sp_rclosure {m : Nat} (hw : Wf l m) (hR : RdE EH.enc 6 W0 own a l) (hl : l.length ≤ 65536) :
    Spec Tryd.prog W0 52 [.slice a l.length cap] own fun v own' => ∃ ha hc D bs, v = .slice ha (List.length bs) hc ∧ BufE (encR l.length) 80 1 ha hc bs D ∧ List.length bs = l.length ∧ Ent W0 own' (D ++ (rowsO 4 l.length (clos (dirB l) l.length) bs 0 ++ own)) := by
  refine spec_of mixed low_ref24_closure (by simp [ir_ref24_closure]) ?_
  have hcn := sp_rcounts (cap := cap) hw hR hl
  repeat' ((try (conv => whnf)); first | (refine when_ye ?_ ?_; exact rfl) | (refine when_ne ?_ ?_; exact rfl) | (refine br_te ?_ ?_; exact rfl) | (refine br_fe ?_ ?_; exact rfl) | (apply br_pyE; (exact rfl); omega) | (apply br_pnE; (exact rfl); omega) | (apply when_pyE; (exact rfl); omega) | (apply when_pnE; (exact rfl); omega) | (apply br_npyE; (exact rfl); omega) | (apply br_npnE; (exact rfl); omega) | (apply when_npyE; (exact rfl); omega) | (apply when_npnE; (exact rfl); omega) | ((with_reducible show CallT _ _ _ _ _ _); first | ((refine call_se hcn ?_ ?_ (fun v own' hv => ?_); (exact rfl); (exact rfl); (obtain ⟨b, rfl, rfl⟩ := hv)))) | (refine ari ?_ ?_; omega) | (refine aru ?_ ?_; omega) | (apply sel; exact rfl) | (refine ix0 rfl ?_) | (refine ix1 rfl ?_) | (refine ix2 rfl ?_) | (refine ix3 rfl ?_) | (apply ixj; omega) | (refine ixn ?_ ?_; omega) | (refine ixs0 rfl ?_) | (refine ixs1 rfl ?_) | (refine ixs_j ?_ ?_; omega) | (refine ixs_n ?_ ?_; omega) | (apply ld_o; exact rfl) | (apply ldN_a; exact rfl) | (apply ldN_o; (exact rfl); exact rfl) | (apply st_o; (exact rfl); exact rfl) | (apply stN_o; (exact rfl); (exact rfl); exact rfl) | (refine new_i (fun bk hbk => ?_)) | (apply when_dE; (exact rfl); (exact rfl); all_goals intro hc) | (apply when_dF; (exact rfl); (exact rfl); all_goals intro hc) | (apply when_nE; (exact rfl); (exact rfl); all_goals intro hc) | (apply when_nF; (exact rfl); (exact rfl); all_goals intro hc) | (apply br_dE; (exact rfl); all_goals intro hc) | (apply br_nE; (exact rfl); all_goals intro hc) | (refine mm_min ?_) | (refine mm_max ?_) | (refine rem_i ?_ ?_; omega) | (refine SelN.mk ?_) | (refine cut_n ?_) | (refine Both.mk ?_ ?_) | (exact True.intro))
  have hcl := cntL_len l l.length
  have hisb : ∀ i, i < l.length → (cntL l l.length)[i]? = some (isB l i) := fun i hi => by
    unfold isB
    rw [List.getD_eq_getElem?_getD, List.getElem?_eq_getElem (by omega)]
    rfl
  generalize cntL l l.length = c at *
  have hwc : ∀ x ∈ c, (encB x).length = 1 := fun _ _ => rfl
  -- the rows are made
  refine loop_i (σ := List Nat × Option Addr × Nat × Own) (fun s => [(5, .slice s.2.1 s.1.length s.2.2.1), (6, .int .i64 s.1.length)]) (fun s => s.2.2.2 ++ (rowsO 4 l.length (dirB l) s.1 0 ++ (canE encB 4 b c :: own)))
    (fun s => s.1.length ≤ l.length ∧ BufE (encR l.length) 80 1 s.2.1 s.2.2.1 s.1 s.2.2.2) (fun s => l.length - s.1.length) ([], none, 0, []) ⟨by simp, BufE.nil⟩ (by repeat' (first | exact True.intro | refine And.intro ?_ ?_ | exact rfl | exact vi (by omega) | (dsimp only; exact rfl) | (dsimp only; exact vi (by omega)))) Ent.refl rfl ?_
  rintro ⟨bs, ha, hc, D⟩ junk ⟨hi, hB⟩
  dsimp only at hi hB ⊢
  by_cases hlt : bs.length < l.length
  · obtain ⟨e, he⟩ : ∃ e, l[bs.length]? = some e := ⟨_, List.getElem?_eq_getElem hlt⟩
    have hlt' : (bs.length : Int) < l.length := by omega
    repeat' ((try (conv => whnf)); first | (refine when_ye ?_ ?_; exact rfl) | (refine when_ne ?_ ?_; exact rfl) | (refine br_te ?_ ?_; exact rfl) | (refine br_fe ?_ ?_; exact rfl) | (apply br_pyE; (exact rfl); omega) | (apply br_pnE; (exact rfl); omega) | (apply when_pyE; (exact rfl); omega) | (apply when_pnE; (exact rfl); omega) | (apply br_npyE; (exact rfl); omega) | (apply br_npnE; (exact rfl); omega) | (apply when_npyE; (exact rfl); omega) | (apply when_npnE; (exact rfl); omega) | (refine br_pyE ?_ hlt' ?_; exact rfl) | (refine br_pnE ?_ hlt' ?_; exact rfl) | (refine when_pyE ?_ hlt' ?_; exact rfl) | (refine when_pnE ?_ hlt' ?_; exact rfl) | (refine br_npyE ?_ hlt' ?_; exact rfl) | (refine br_npnE ?_ hlt' ?_; exact rfl) | (refine when_npyE ?_ hlt' ?_; exact rfl) | (refine when_npnE ?_ hlt' ?_; exact rfl) | (refine mkC (enc := encB) l.length false rfl rfl rfl (by omega) (fun br => ?_)) | (refine ari ?_ ?_; omega) | (refine aru ?_ ?_; omega) | (apply sel; exact rfl) | (refine ix0 rfl ?_) | (refine ix1 rfl ?_) | (refine ix2 rfl ?_) | (refine ix3 rfl ?_) | (apply ixj; omega) | (refine ixn ?_ ?_; omega) | (refine ixs0 rfl ?_) | (refine ixs1 rfl ?_) | (refine ixs_j ?_ ?_; omega) | (refine ixs_n ?_ ?_; omega) | (apply ld_o; exact rfl) | (apply ldN_a; exact rfl) | (apply ldN_o; (exact rfl); exact rfl) | (apply st_o; (exact rfl); exact rfl) | (apply stN_o; (exact rfl); (exact rfl); exact rfl) | (refine new_i (fun bk hbk => ?_)) | (apply when_dE; (exact rfl); (exact rfl); all_goals intro hc) | (apply when_dF; (exact rfl); (exact rfl); all_goals intro hc) | (apply when_nE; (exact rfl); (exact rfl); all_goals intro hc) | (apply when_nF; (exact rfl); (exact rfl); all_goals intro hc) | (apply br_dE; (exact rfl); all_goals intro hc) | (apply br_nE; (exact rfl); all_goals intro hc) | (refine mm_min ?_) | (refine mm_max ?_) | (refine rem_i ?_ ?_; omega) | (refine SelN.mk ?_) | (refine cut_n ?_) | (refine Both.mk ?_ ?_) | (exact True.intro))
    refine loop_i (σ := Nat) (fun j => [(8, .int .i64 j)]) (fun j => canE encB 4 br (rowL l.length fun j' => decide (j' < j) && dirB l bs.length j') :: (D ++ (rowsO 4 l.length (dirB l) bs 0 ++ (canE encB 4 b c :: own))))
      (fun j => bs.length < j ∧ j ≤ l.length) (fun j => l.length - j) (bs.length + 1) ⟨by omega, by omega⟩ (by repeat' (first | exact True.intro | refine And.intro ?_ ?_ | exact rfl | exact vi (by omega) | (dsimp only; exact rfl) | (dsimp only; exact vi (by omega)))) ?_ rfl ?_
    · rw [rowL_rep, rowL_congr (g' := fun j' => decide (j' < bs.length + 1) && dirB l bs.length j')]
      · exact Ent.refl
      · intro j hj
        unfold dirB
        by_cases h1 : bs.length < j
        · simp; omega
        · simp [h1]
    rintro j junk2 ⟨hj1, hj2⟩
    by_cases hjl : j < l.length
    · obtain ⟨x, hx⟩ : ∃ x, l[j]? = some x := ⟨_, List.getElem?_eq_getElem hjl⟩
      have hjl' : (j : Int) < l.length := by omega
      have hci := hisb bs.length hlt
      have hcj := hisb j hjl
      have hd : dirB l bs.length j = (isB l bs.length && isB l j && (decide (e.t = x.t) || (decide (e.k = 4) && (decide (x.k = 4) || decide (x.k = 3))))) := by
        unfold dirB thr knd
        rw [at_get he, at_get hx, decide_eq_true hj1, Bool.true_and]
      have hw1 : ∀ y ∈ rowL l.length (fun j' => decide (j' < j) && dirB l bs.length j'), (encB y).length = 1 := fun _ _ => rfl
      have hn1 := (rowL_len l.length (fun j' => decide (j' < j) && dirB l bs.length j')).symm
      have hx1 := rowL_get (g := fun j' => decide (j' < j) && dirB l bs.length j') hjl
      have hset : (rowL l.length (fun j' => decide (j' < j) && dirB l bs.length j')).set j (dirB l bs.length j) = rowL l.length (fun j' => decide (j' < j + 1) && dirB l bs.length j') := by
        rw [rowL_set]
        refine rowL_congr fun i _ => ?_
        by_cases hij : i = j
        · subst hij; simp
        · rw [if_neg hij]
          by_cases h2 : i < j
          · simp [h2, show i < j + 1 by omega]
          · simp [h2, show ¬ i < j + 1 by omega]
      generalize hdv : dirB l bs.length j = dv at hd hset
      generalize isB l bs.length = ci at *
      generalize isB l j = cj at *
      cases ci <;> cases cj
      all_goals
        repeat' ((try (conv => whnf)); first | (refine when_ye ?_ ?_; exact rfl) | (refine when_ne ?_ ?_; exact rfl) | (refine br_te ?_ ?_; exact rfl) | (refine br_fe ?_ ?_; exact rfl) | (apply br_pyE; (exact rfl); omega) | (apply br_pnE; (exact rfl); omega) | (apply when_pyE; (exact rfl); omega) | (apply when_pnE; (exact rfl); omega) | (apply br_npyE; (exact rfl); omega) | (apply br_npnE; (exact rfl); omega) | (apply when_npyE; (exact rfl); omega) | (apply when_npnE; (exact rfl); omega) | (refine br_pyE ?_ hjl' ?_; exact rfl) | (refine br_pnE ?_ hjl' ?_; exact rfl) | (refine when_pyE ?_ hjl' ?_; exact rfl) | (refine when_pnE ?_ hjl' ?_; exact rfl) | (refine br_npyE ?_ hjl' ?_; exact rfl) | (refine br_npnE ?_ hjl' ?_; exact rfl) | (refine when_npyE ?_ hjl' ?_; exact rfl) | (refine when_npnE ?_ hjl' ?_; exact rfl) | (apply stC (T := 4) (k := 0) dv hw1 hx1; (exact rfl); (omega); (subst hd; simp [*]); (exact rfl)) | ((with_reducible show Ld _ _ _ _); first | (refine ldE0 hR he rfl ?_) | (refine ldEk hR he rfl ?_) | (refine ldE1 hR he rfl ?_) | (refine ldE0 hR hx rfl ?_) | (refine ldEk hR hx rfl ?_) | (refine ldE1 hR hx rfl ?_) | (refine ldC0 hwc hci rfl ?_) | (refine ldC1 hwc hci rfl ?_) | (refine ldC hwc hci rfl ?_) | (refine ldC0 hwc hcj rfl ?_) | (refine ldC1 hwc hcj rfl ?_) | (refine ldC hwc hcj rfl ?_) | (refine ldC0 hw1 hx1 rfl ?_) | (refine ldC1 hw1 hx1 rfl ?_) | (refine ldC hw1 hx1 rfl ?_)) | ((with_reducible show IxS _ _ _ _ _); first | ((refine ixE hR he ?_ ?_; (first | rfl | omega))) | ((refine ixE hR hx ?_ ?_; (first | rfl | omega))) | ((refine ixC hci hcl.symm ?_ ?_; (first | rfl | omega))) | ((refine ixC hcj hcl.symm ?_ ?_; (first | rfl | omega))) | ((refine ixC hx1 hn1 ?_ ?_; (first | rfl | omega)))) | ((with_reducible show LdN _ _ _ _ _); first | (refine ldNEi hR he rfl ?_) | (refine ldNEi hR hx rfl ?_) | (refine ldNC hwc hci rfl ?_) | (refine ldNC hwc hcj rfl ?_) | (refine ldNC hw1 hx1 rfl ?_)) | (refine ari ?_ ?_; omega) | (refine aru ?_ ?_; omega) | (apply sel; exact rfl) | (refine ix0 rfl ?_) | (refine ix1 rfl ?_) | (refine ix2 rfl ?_) | (refine ix3 rfl ?_) | (apply ixj; omega) | (refine ixn ?_ ?_; omega) | (refine ixs0 rfl ?_) | (refine ixs1 rfl ?_) | (refine ixs_j ?_ ?_; omega) | (refine ixs_n ?_ ?_; omega) | (apply ld_o; exact rfl) | (apply ldN_a; exact rfl) | (apply ldN_o; (exact rfl); exact rfl) | (apply st_o; (exact rfl); exact rfl) | (apply stN_o; (exact rfl); (exact rfl); exact rfl) | (refine new_i (fun bk hbk => ?_)) | (apply when_dE; (exact rfl); (exact rfl); all_goals intro hc) | (apply when_dF; (exact rfl); (exact rfl); all_goals intro hc) | (apply when_nE; (exact rfl); (exact rfl); all_goals intro hc) | (apply when_nF; (exact rfl); (exact rfl); all_goals intro hc) | (apply br_dE; (exact rfl); all_goals intro hc) | (apply br_nE; (exact rfl); all_goals intro hc) | (refine mm_min ?_) | (refine mm_max ?_) | (refine rem_i ?_ ?_; omega) | (refine SelN.mk ?_) | (refine cut_n ?_) | (refine Both.mk ?_ ?_) | (exact True.intro))
        all_goals exact ⟨j + 1, ⟨by omega, by omega⟩, by omega, (by repeat' (first | exact True.intro | refine And.intro ?_ ?_ | exact rfl | exact vi (by omega) | (dsimp only; exact rfl) | (dsimp only; exact vi (by omega)))), by rw [hset]; exact Ent.refl⟩
    · have hjl' : ¬ (j : Int) < l.length := by omega
      have hj3 : j = l.length := by omega
      subst hj3
      rw [rowL_congr (g' := dirB l bs.length) (fun j hj => by simp [hj])]
      repeat' ((try (conv => whnf)); first | (refine when_ye ?_ ?_; exact rfl) | (refine when_ne ?_ ?_; exact rfl) | (refine br_te ?_ ?_; exact rfl) | (refine br_fe ?_ ?_; exact rfl) | (apply br_pyE; (exact rfl); omega) | (apply br_pnE; (exact rfl); omega) | (apply when_pyE; (exact rfl); omega) | (apply when_pnE; (exact rfl); omega) | (apply br_npyE; (exact rfl); omega) | (apply br_npnE; (exact rfl); omega) | (apply when_npyE; (exact rfl); omega) | (apply when_npnE; (exact rfl); omega) | (refine br_pyE ?_ hjl' ?_; exact rfl) | (refine br_pnE ?_ hjl' ?_; exact rfl) | (refine when_pyE ?_ hjl' ?_; exact rfl) | (refine when_pnE ?_ hjl' ?_; exact rfl) | (refine br_npyE ?_ hjl' ?_; exact rfl) | (refine br_npnE ?_ hjl' ?_; exact rfl) | (refine when_npyE ?_ hjl' ?_; exact rfl) | (refine when_npnE ?_ hjl' ?_; exact rfl) | (apply app_i (enc := encR l.length) br hB; (exact rfl); (exact rfl); (omega); (exact rfl); (exact rfl); (omega); intro a1 c1 D1 hb1) | (refine ari ?_ ?_; omega) | (refine aru ?_ ?_; omega) | (apply sel; exact rfl) | (refine ix0 rfl ?_) | (refine ix1 rfl ?_) | (refine ix2 rfl ?_) | (refine ix3 rfl ?_) | (apply ixj; omega) | (refine ixn ?_ ?_; omega) | (refine ixs0 rfl ?_) | (refine ixs1 rfl ?_) | (refine ixs_j ?_ ?_; omega) | (refine ixs_n ?_ ?_; omega) | (apply ld_o; exact rfl) | (apply ldN_a; exact rfl) | (apply ldN_o; (exact rfl); exact rfl) | (apply st_o; (exact rfl); exact rfl) | (apply stN_o; (exact rfl); (exact rfl); exact rfl) | (refine new_i (fun bk hbk => ?_)) | (apply when_dE; (exact rfl); (exact rfl); all_goals intro hc) | (apply when_dF; (exact rfl); (exact rfl); all_goals intro hc) | (apply when_nE; (exact rfl); (exact rfl); all_goals intro hc) | (apply when_nF; (exact rfl); (exact rfl); all_goals intro hc) | (apply br_dE; (exact rfl); all_goals intro hc) | (apply br_nE; (exact rfl); all_goals intro hc) | (refine mm_min ?_) | (refine mm_max ?_) | (refine rem_i ?_ ?_; omega) | (refine SelN.mk ?_) | (refine cut_n ?_) | (refine Both.mk ?_ ?_) | (exact True.intro))
      refine ⟨(bs ++ [br], a1, c1, D1), ⟨by simp; omega, hb1⟩, by simp; omega, ?_, ?_⟩
      · simp only [List.length_append, List.length_cons, List.length_nil, Nat.zero_add]
        exact (by repeat' (first | exact True.intro | refine And.intro ?_ ?_ | exact rfl | exact vi (by omega) | (dsimp only; exact rfl) | (dsimp only; exact vi (by omega))))
      · simp only [rowsO_snoc, Nat.zero_add]
        refine Ent.cons (Ent.of_perm ?_)
        have e : D1 ++ ((rowsO 4 l.length (dirB l) bs 0 ++ [canE encB 4 br (rowL l.length (dirB l bs.length))]) ++ (canE encB 4 b c :: own)) = (D1 ++ rowsO 4 l.length (dirB l) bs 0) ++ canE encB 4 br (rowL l.length (dirB l bs.length)) :: (canE encB 4 b c :: own) := by simp
        rw [e]
        refine List.Perm.trans ?_ List.perm_middle.symm
        rw [List.append_assoc]
  · have hlt' : ¬ (bs.length : Int) < l.length := by omega
    have hbl : bs.length = l.length := by omega
    have hbr := hB.rd (W0 := W0)
    repeat' ((try (conv => whnf)); first | (refine when_ye ?_ ?_; exact rfl) | (refine when_ne ?_ ?_; exact rfl) | (refine br_te ?_ ?_; exact rfl) | (refine br_fe ?_ ?_; exact rfl) | (apply br_pyE; (exact rfl); omega) | (apply br_pnE; (exact rfl); omega) | (apply when_pyE; (exact rfl); omega) | (apply when_pnE; (exact rfl); omega) | (apply br_npyE; (exact rfl); omega) | (apply br_npnE; (exact rfl); omega) | (apply when_npyE; (exact rfl); omega) | (apply when_npnE; (exact rfl); omega) | (refine br_pyE ?_ hlt' ?_; exact rfl) | (refine br_pnE ?_ hlt' ?_; exact rfl) | (refine when_pyE ?_ hlt' ?_; exact rfl) | (refine when_pnE ?_ hlt' ?_; exact rfl) | (refine br_npyE ?_ hlt' ?_; exact rfl) | (refine br_npnE ?_ hlt' ?_; exact rfl) | (refine when_npyE ?_ hlt' ?_; exact rfl) | (refine when_npnE ?_ hlt' ?_; exact rfl) | (refine ari ?_ ?_; omega) | (refine aru ?_ ?_; omega) | (apply sel; exact rfl) | (refine ix0 rfl ?_) | (refine ix1 rfl ?_) | (refine ix2 rfl ?_) | (refine ix3 rfl ?_) | (apply ixj; omega) | (refine ixn ?_ ?_; omega) | (refine ixs0 rfl ?_) | (refine ixs1 rfl ?_) | (refine ixs_j ?_ ?_; omega) | (refine ixs_n ?_ ?_; omega) | (apply ld_o; exact rfl) | (apply ldN_a; exact rfl) | (apply ldN_o; (exact rfl); exact rfl) | (apply st_o; (exact rfl); exact rfl) | (apply stN_o; (exact rfl); (exact rfl); exact rfl) | (refine new_i (fun bk hbk => ?_)) | (apply when_dE; (exact rfl); (exact rfl); all_goals intro hc) | (apply when_dF; (exact rfl); (exact rfl); all_goals intro hc) | (apply when_nE; (exact rfl); (exact rfl); all_goals intro hc) | (apply when_nF; (exact rfl); (exact rfl); all_goals intro hc) | (apply br_dE; (exact rfl); all_goals intro hc) | (apply br_nE; (exact rfl); all_goals intro hc) | (refine mm_min ?_) | (refine mm_max ?_) | (refine rem_i ?_ ?_; omega) | (refine SelN.mk ?_) | (refine cut_n ?_) | (refine Both.mk ?_ ?_) | (exact True.intro))
    refine loop_i (σ := Nat) (fun k => [(10, .int .i64 k)]) (fun k => D ++ (rowsO 4 l.length (clos (dirB l) k) bs 0 ++ (canE encB 4 b c :: own))) (fun k => k ≤ l.length) (fun k => l.length - k) 0 (by omega) (by repeat' (first | exact True.intro | refine And.intro ?_ ?_ | exact rfl | exact vi (by omega) | (dsimp only; exact rfl) | (dsimp only; exact vi (by omega)))) Ent.refl rfl ?_
    intro k junk3 hk
    by_cases hkl : k < l.length
    · have hkl' : (k : Int) < l.length := by omega
      have hclos : clos (dirB l) (k + 1) = stepK (clos (dirB l) k) k := rfl
      generalize clos (dirB l) k = h at *
      repeat' ((try (conv => whnf)); first | (refine when_ye ?_ ?_; exact rfl) | (refine when_ne ?_ ?_; exact rfl) | (refine br_te ?_ ?_; exact rfl) | (refine br_fe ?_ ?_; exact rfl) | (apply br_pyE; (exact rfl); omega) | (apply br_pnE; (exact rfl); omega) | (apply when_pyE; (exact rfl); omega) | (apply when_pnE; (exact rfl); omega) | (apply br_npyE; (exact rfl); omega) | (apply br_npnE; (exact rfl); omega) | (apply when_npyE; (exact rfl); omega) | (apply when_npnE; (exact rfl); omega) | (refine br_pyE ?_ hkl' ?_; exact rfl) | (refine br_pnE ?_ hkl' ?_; exact rfl) | (refine when_pyE ?_ hkl' ?_; exact rfl) | (refine when_pnE ?_ hkl' ?_; exact rfl) | (refine br_npyE ?_ hkl' ?_; exact rfl) | (refine br_npnE ?_ hkl' ?_; exact rfl) | (refine when_npyE ?_ hkl' ?_; exact rfl) | (refine when_npnE ?_ hkl' ?_; exact rfl) | (refine ari ?_ ?_; omega) | (refine aru ?_ ?_; omega) | (apply sel; exact rfl) | (refine ix0 rfl ?_) | (refine ix1 rfl ?_) | (refine ix2 rfl ?_) | (refine ix3 rfl ?_) | (apply ixj; omega) | (refine ixn ?_ ?_; omega) | (refine ixs0 rfl ?_) | (refine ixs1 rfl ?_) | (refine ixs_j ?_ ?_; omega) | (refine ixs_n ?_ ?_; omega) | (apply ld_o; exact rfl) | (apply ldN_a; exact rfl) | (apply ldN_o; (exact rfl); exact rfl) | (apply st_o; (exact rfl); exact rfl) | (apply stN_o; (exact rfl); (exact rfl); exact rfl) | (refine new_i (fun bk hbk => ?_)) | (apply when_dE; (exact rfl); (exact rfl); all_goals intro hc) | (apply when_dF; (exact rfl); (exact rfl); all_goals intro hc) | (apply when_nE; (exact rfl); (exact rfl); all_goals intro hc) | (apply when_nF; (exact rfl); (exact rfl); all_goals intro hc) | (apply br_dE; (exact rfl); all_goals intro hc) | (apply br_nE; (exact rfl); all_goals intro hc) | (refine mm_min ?_) | (refine mm_max ?_) | (refine rem_i ?_ ?_; omega) | (refine SelN.mk ?_) | (refine cut_n ?_) | (refine Both.mk ?_ ?_) | (exact True.intro))
      refine loop_i (σ := Nat) (fun i => [(11, .int .i64 i)]) (fun i => D ++ (rowsO 4 l.length (clS h k i (k + 1)) bs 0 ++ (canE encB 4 b c :: own))) (fun i => i ≤ k) (fun i => k - i) 0 (by omega) (by repeat' (first | exact True.intro | refine And.intro ?_ ?_ | exact rfl | exact vi (by omega) | (dsimp only; exact rfl) | (dsimp only; exact vi (by omega)))) ?_ rfl ?_
      · rw [rowsO_congr (f := h) (f' := clS h k 0 (k + 1)) bs 0 (fun a j _ _ _ => (clS_0 a j).symm)]
        exact Ent.refl
      intro i junk4 hik
      by_cases hikl : i < k
      · have hikl' : (i : Int) < k := by omega
        repeat' ((try (conv => whnf)); first | (refine when_ye ?_ ?_; exact rfl) | (refine when_ne ?_ ?_; exact rfl) | (refine br_te ?_ ?_; exact rfl) | (refine br_fe ?_ ?_; exact rfl) | (apply br_pyE; (exact rfl); omega) | (apply br_pnE; (exact rfl); omega) | (apply when_pyE; (exact rfl); omega) | (apply when_pnE; (exact rfl); omega) | (apply br_npyE; (exact rfl); omega) | (apply br_npnE; (exact rfl); omega) | (apply when_npyE; (exact rfl); omega) | (apply when_npnE; (exact rfl); omega) | (refine br_pyE ?_ hikl' ?_; exact rfl) | (refine br_pnE ?_ hikl' ?_; exact rfl) | (refine when_pyE ?_ hikl' ?_; exact rfl) | (refine when_pnE ?_ hikl' ?_; exact rfl) | (refine br_npyE ?_ hikl' ?_; exact rfl) | (refine br_npnE ?_ hikl' ?_; exact rfl) | (refine when_npyE ?_ hikl' ?_; exact rfl) | (refine when_npnE ?_ hikl' ?_; exact rfl) | (refine ari ?_ ?_; omega) | (refine aru ?_ ?_; omega) | (apply sel; exact rfl) | (refine ix0 rfl ?_) | (refine ix1 rfl ?_) | (refine ix2 rfl ?_) | (refine ix3 rfl ?_) | (apply ixj; omega) | (refine ixn ?_ ?_; omega) | (refine ixs0 rfl ?_) | (refine ixs1 rfl ?_) | (refine ixs_j ?_ ?_; omega) | (refine ixs_n ?_ ?_; omega) | (apply ld_o; exact rfl) | (apply ldN_a; exact rfl) | (apply ldN_o; (exact rfl); exact rfl) | (apply st_o; (exact rfl); exact rfl) | (apply stN_o; (exact rfl); (exact rfl); exact rfl) | (refine new_i (fun bk hbk => ?_)) | (apply when_dE; (exact rfl); (exact rfl); all_goals intro hc) | (apply when_dF; (exact rfl); (exact rfl); all_goals intro hc) | (apply when_nE; (exact rfl); (exact rfl); all_goals intro hc) | (apply when_nF; (exact rfl); (exact rfl); all_goals intro hc) | (apply br_dE; (exact rfl); all_goals intro hc) | (apply br_nE; (exact rfl); all_goals intro hc) | (refine mm_min ?_) | (refine mm_max ?_) | (refine rem_i ?_ ?_; omega) | (refine SelN.mk ?_) | (refine cut_n ?_) | (refine Both.mk ?_ ?_) | (exact True.intro))
        refine loop_i (σ := Nat) (fun j => [(12, .int .i64 j)]) (fun j => D ++ (rowsO 4 l.length (clS h k i j) bs 0 ++ (canE encB 4 b c :: own))) (fun j => k < j ∧ j ≤ l.length) (fun j => l.length - j) (k + 1) ⟨by omega, by omega⟩ (by repeat' (first | exact True.intro | refine And.intro ?_ ?_ | exact rfl | exact vi (by omega) | (dsimp only; exact rfl) | (dsimp only; exact vi (by omega)))) Ent.refl rfl ?_
        rintro j junk5 ⟨hj1, hj2⟩
        by_cases hjl : j < l.length
        · have hjl' : (j : Int) < l.length := by omega
          obtain ⟨bi, hbi⟩ : ∃ x, bs[i]? = some x := ⟨_, List.getElem?_eq_getElem (by omega)⟩
          obtain ⟨bk2, hbk2⟩ : ∃ x, bs[k]? = some x := ⟨_, List.getElem?_eq_getElem (by omega)⟩
          have hri := rowsO_rd (W0 := W0) (T := 4) (n := l.length) (f := clS h k i j) hbi
          have hrk := rowsO_rd (W0 := W0) (T := 4) (n := l.length) (f := clS h k i j) hbk2
          have gik := rowL_get (g := clS h k i j i) hkl
          have gij := rowL_get (g := clS h k i j i) hjl
          have gkj := rowL_get (g := clS h k i j k) hjl
          have e1 : clS h k i j i k = h i k := clS_ik hj1
          have e2 : clS h k i j i j = h i j := clS_ij
          have e3 : clS h k i j k j = h k j := clS_kj hikl
          rw [e1] at gik
          rw [e2] at gij
          rw [e3] at gkj
          have hlr := (rowL_len l.length (clS h k i j i)).symm
          have hlk := (rowL_len l.length (clS h k i j k)).symm
          obtain ⟨C, hC, hC2⟩ := rowsO_at (T := 4) (n := l.length) (f := clS h k i j) bs 0 i bi hbi
          rw [Nat.zero_add] at hC
          have hwi : ∀ y ∈ rowL l.length (clS h k i j i), (encB y).length = 1 := fun _ _ => rfl
          cases ht : h i k with
          | true =>
            have hnx : ∀ v : Bool, v = (h i j || h k j) → C [canE encB 4 bi ((rowL l.length (clS h k i j i)).set j v)] = rowsO 4 l.length (clS h k i (j + 1)) bs 0 := fun v hv => by
              rw [rowL_set, hC2]
              refine rowsO_congr bs 0 (fun a b _ _ _ => ?_)
              rw [Nat.zero_add, hv]
              exact clS_next hikl hj1 ht
            rw [ht] at gik
            cases hv1 : h i j <;> cases hv2 : h k j
            all_goals
              rw [hv1] at gij
              rw [hv2] at gkj
              repeat' ((try (conv => whnf)); first | (refine when_ye ?_ ?_; exact rfl) | (refine when_ne ?_ ?_; exact rfl) | (refine br_te ?_ ?_; exact rfl) | (refine br_fe ?_ ?_; exact rfl) | (apply br_pyE; (exact rfl); omega) | (apply br_pnE; (exact rfl); omega) | (apply when_pyE; (exact rfl); omega) | (apply when_pnE; (exact rfl); omega) | (apply br_npyE; (exact rfl); omega) | (apply br_npnE; (exact rfl); omega) | (apply when_npyE; (exact rfl); omega) | (apply when_npnE; (exact rfl); omega) | (refine br_pyE ?_ hjl' ?_; exact rfl) | (refine br_pnE ?_ hjl' ?_; exact rfl) | (refine when_pyE ?_ hjl' ?_; exact rfl) | (refine when_pnE ?_ hjl' ?_; exact rfl) | (refine br_npyE ?_ hjl' ?_; exact rfl) | (refine br_npnE ?_ hjl' ?_; exact rfl) | (refine when_npyE ?_ hjl' ?_; exact rfl) | (refine when_npnE ?_ hjl' ?_; exact rfl) | (apply stC (T := 4) (k := 0) (m := ⟨At.skip (At.left hC)⟩) (false || false) hwi gij; (exact rfl); (omega); (exact rfl); (exact rfl)) | (apply stC (T := 4) (k := 0) (m := ⟨At.skip (At.left hC)⟩) true hwi gij; (exact rfl); (omega); (exact rfl); (exact rfl)) | ((with_reducible show Ld _ _ _ _); first | (refine ldE0 hbr hbi rfl ?_) | (refine ldEk hbr hbi rfl ?_) | (refine ldE1 hbr hbi rfl ?_) | (refine ldE0 hbr hbk2 rfl ?_) | (refine ldEk hbr hbk2 rfl ?_) | (refine ldE1 hbr hbk2 rfl ?_) | (refine ldS0 hri gik rfl ?_) | (refine ldS0 hri gij rfl ?_) | (refine ldS0 hrk gkj rfl ?_)) | ((with_reducible show IxS _ _ _ _ _); first | ((refine ixE hbr hbi ?_ ?_; (first | rfl | omega))) | ((refine ixE hbr hbk2 ?_ ?_; (first | rfl | omega))) | ((refine ixC gik hlr ?_ ?_; (first | rfl | omega))) | ((refine ixC gij hlr ?_ ?_; (first | rfl | omega))) | ((refine ixC gkj hlk ?_ ?_; (first | rfl | omega)))) | ((with_reducible show LdN _ _ _ _ _); first | (refine ldNEi hbr hbi rfl ?_) | (refine ldNEi hbr hbk2 rfl ?_)) | (refine ari ?_ ?_; omega) | (refine aru ?_ ?_; omega) | (apply sel; exact rfl) | (refine ix0 rfl ?_) | (refine ix1 rfl ?_) | (refine ix2 rfl ?_) | (refine ix3 rfl ?_) | (apply ixj; omega) | (refine ixn ?_ ?_; omega) | (refine ixs0 rfl ?_) | (refine ixs1 rfl ?_) | (refine ixs_j ?_ ?_; omega) | (refine ixs_n ?_ ?_; omega) | (apply ld_o; exact rfl) | (apply ldN_a; exact rfl) | (apply ldN_o; (exact rfl); exact rfl) | (apply st_o; (exact rfl); exact rfl) | (apply stN_o; (exact rfl); (exact rfl); exact rfl) | (refine new_i (fun bk hbk => ?_)) | (apply when_dE; (exact rfl); (exact rfl); all_goals intro hc) | (apply when_dF; (exact rfl); (exact rfl); all_goals intro hc) | (apply when_nE; (exact rfl); (exact rfl); all_goals intro hc) | (apply when_nF; (exact rfl); (exact rfl); all_goals intro hc) | (apply br_dE; (exact rfl); all_goals intro hc) | (apply br_nE; (exact rfl); all_goals intro hc) | (refine mm_min ?_) | (refine mm_max ?_) | (refine rem_i ?_ ?_; omega) | (refine SelN.mk ?_) | (refine cut_n ?_) | (refine Both.mk ?_ ?_) | (exact True.intro))
              all_goals exact ⟨j + 1, ⟨by omega, by omega⟩, by omega, (by repeat' (first | exact True.intro | refine And.intro ?_ ?_ | exact rfl | exact vi (by omega) | (dsimp only; exact rfl) | (dsimp only; exact vi (by omega)))), by rw [hnx _ (by simp [hv1, hv2])]; exact Ent.refl⟩
          | false =>
            rw [ht] at gik
            repeat' ((try (conv => whnf)); first | (refine when_ye ?_ ?_; exact rfl) | (refine when_ne ?_ ?_; exact rfl) | (refine br_te ?_ ?_; exact rfl) | (refine br_fe ?_ ?_; exact rfl) | (apply br_pyE; (exact rfl); omega) | (apply br_pnE; (exact rfl); omega) | (apply when_pyE; (exact rfl); omega) | (apply when_pnE; (exact rfl); omega) | (apply br_npyE; (exact rfl); omega) | (apply br_npnE; (exact rfl); omega) | (apply when_npyE; (exact rfl); omega) | (apply when_npnE; (exact rfl); omega) | (refine br_pyE ?_ hjl' ?_; exact rfl) | (refine br_pnE ?_ hjl' ?_; exact rfl) | (refine when_pyE ?_ hjl' ?_; exact rfl) | (refine when_pnE ?_ hjl' ?_; exact rfl) | (refine br_npyE ?_ hjl' ?_; exact rfl) | (refine br_npnE ?_ hjl' ?_; exact rfl) | (refine when_npyE ?_ hjl' ?_; exact rfl) | (refine when_npnE ?_ hjl' ?_; exact rfl) | ((with_reducible show Ld _ _ _ _); first | (refine ldE0 hbr hbi rfl ?_) | (refine ldEk hbr hbi rfl ?_) | (refine ldE1 hbr hbi rfl ?_) | (refine ldE0 hbr hbk2 rfl ?_) | (refine ldEk hbr hbk2 rfl ?_) | (refine ldE1 hbr hbk2 rfl ?_) | (refine ldS0 hri gik rfl ?_) | (refine ldS0 hri gij rfl ?_) | (refine ldS0 hrk gkj rfl ?_)) | ((with_reducible show IxS _ _ _ _ _); first | ((refine ixE hbr hbi ?_ ?_; (first | rfl | omega))) | ((refine ixE hbr hbk2 ?_ ?_; (first | rfl | omega))) | ((refine ixC gik hlr ?_ ?_; (first | rfl | omega))) | ((refine ixC gij hlr ?_ ?_; (first | rfl | omega))) | ((refine ixC gkj hlk ?_ ?_; (first | rfl | omega)))) | ((with_reducible show LdN _ _ _ _ _); first | (refine ldNEi hbr hbi rfl ?_) | (refine ldNEi hbr hbk2 rfl ?_)) | (refine ari ?_ ?_; omega) | (refine aru ?_ ?_; omega) | (apply sel; exact rfl) | (refine ix0 rfl ?_) | (refine ix1 rfl ?_) | (refine ix2 rfl ?_) | (refine ix3 rfl ?_) | (apply ixj; omega) | (refine ixn ?_ ?_; omega) | (refine ixs0 rfl ?_) | (refine ixs1 rfl ?_) | (refine ixs_j ?_ ?_; omega) | (refine ixs_n ?_ ?_; omega) | (apply ld_o; exact rfl) | (apply ldN_a; exact rfl) | (apply ldN_o; (exact rfl); exact rfl) | (apply st_o; (exact rfl); exact rfl) | (apply stN_o; (exact rfl); (exact rfl); exact rfl) | (refine new_i (fun bk hbk => ?_)) | (apply when_dE; (exact rfl); (exact rfl); all_goals intro hc) | (apply when_dF; (exact rfl); (exact rfl); all_goals intro hc) | (apply when_nE; (exact rfl); (exact rfl); all_goals intro hc) | (apply when_nF; (exact rfl); (exact rfl); all_goals intro hc) | (apply br_dE; (exact rfl); all_goals intro hc) | (apply br_nE; (exact rfl); all_goals intro hc) | (refine mm_min ?_) | (refine mm_max ?_) | (refine rem_i ?_ ?_; omega) | (refine SelN.mk ?_) | (refine cut_n ?_) | (refine Both.mk ?_ ?_) | (exact True.intro))
            exact ⟨i + 1, by omega, by omega, (by repeat' (first | exact True.intro | refine And.intro ?_ ?_ | exact rfl | exact vi (by omega) | (dsimp only; exact rfl) | (dsimp only; exact vi (by omega)))), by rw [rowsO_congr bs 0 (fun a b _ _ _ => clS_skip ht)]; exact Ent.refl⟩
        · have hjl' : ¬ (j : Int) < l.length := by omega
          have hj3 : j = l.length := by omega
          subst hj3
          repeat' ((try (conv => whnf)); first | (refine when_ye ?_ ?_; exact rfl) | (refine when_ne ?_ ?_; exact rfl) | (refine br_te ?_ ?_; exact rfl) | (refine br_fe ?_ ?_; exact rfl) | (apply br_pyE; (exact rfl); omega) | (apply br_pnE; (exact rfl); omega) | (apply when_pyE; (exact rfl); omega) | (apply when_pnE; (exact rfl); omega) | (apply br_npyE; (exact rfl); omega) | (apply br_npnE; (exact rfl); omega) | (apply when_npyE; (exact rfl); omega) | (apply when_npnE; (exact rfl); omega) | (refine br_pyE ?_ hjl' ?_; exact rfl) | (refine br_pnE ?_ hjl' ?_; exact rfl) | (refine when_pyE ?_ hjl' ?_; exact rfl) | (refine when_pnE ?_ hjl' ?_; exact rfl) | (refine br_npyE ?_ hjl' ?_; exact rfl) | (refine br_npnE ?_ hjl' ?_; exact rfl) | (refine when_npyE ?_ hjl' ?_; exact rfl) | (refine when_npnE ?_ hjl' ?_; exact rfl) | (refine ari ?_ ?_; omega) | (refine aru ?_ ?_; omega) | (apply sel; exact rfl) | (refine ix0 rfl ?_) | (refine ix1 rfl ?_) | (refine ix2 rfl ?_) | (refine ix3 rfl ?_) | (apply ixj; omega) | (refine ixn ?_ ?_; omega) | (refine ixs0 rfl ?_) | (refine ixs1 rfl ?_) | (refine ixs_j ?_ ?_; omega) | (refine ixs_n ?_ ?_; omega) | (apply ld_o; exact rfl) | (apply ldN_a; exact rfl) | (apply ldN_o; (exact rfl); exact rfl) | (apply st_o; (exact rfl); exact rfl) | (apply stN_o; (exact rfl); (exact rfl); exact rfl) | (refine new_i (fun bk hbk => ?_)) | (apply when_dE; (exact rfl); (exact rfl); all_goals intro hc) | (apply when_dF; (exact rfl); (exact rfl); all_goals intro hc) | (apply when_nE; (exact rfl); (exact rfl); all_goals intro hc) | (apply when_nF; (exact rfl); (exact rfl); all_goals intro hc) | (apply br_dE; (exact rfl); all_goals intro hc) | (apply br_nE; (exact rfl); all_goals intro hc) | (refine mm_min ?_) | (refine mm_max ?_) | (refine rem_i ?_ ?_; omega) | (refine SelN.mk ?_) | (refine cut_n ?_) | (refine Both.mk ?_ ?_) | (exact True.intro))
          exact ⟨i + 1, by omega, by omega, (by repeat' (first | exact True.intro | refine And.intro ?_ ?_ | exact rfl | exact vi (by omega) | (dsimp only; exact rfl) | (dsimp only; exact vi (by omega)))), by rw [rowsO_congr bs 0 (fun a b _ _ hb => clS_row hb)]; exact Ent.refl⟩
      · have hikl' : ¬ (i : Int) < k := by omega
        have hik2 : i = k := by omega
        subst hik2
        repeat' ((try (conv => whnf)); first | (refine when_ye ?_ ?_; exact rfl) | (refine when_ne ?_ ?_; exact rfl) | (refine br_te ?_ ?_; exact rfl) | (refine br_fe ?_ ?_; exact rfl) | (apply br_pyE; (exact rfl); omega) | (apply br_pnE; (exact rfl); omega) | (apply when_pyE; (exact rfl); omega) | (apply when_pnE; (exact rfl); omega) | (apply br_npyE; (exact rfl); omega) | (apply br_npnE; (exact rfl); omega) | (apply when_npyE; (exact rfl); omega) | (apply when_npnE; (exact rfl); omega) | (refine br_pyE ?_ hikl' ?_; exact rfl) | (refine br_pnE ?_ hikl' ?_; exact rfl) | (refine when_pyE ?_ hikl' ?_; exact rfl) | (refine when_pnE ?_ hikl' ?_; exact rfl) | (refine br_npyE ?_ hikl' ?_; exact rfl) | (refine br_npnE ?_ hikl' ?_; exact rfl) | (refine when_npyE ?_ hikl' ?_; exact rfl) | (refine when_npnE ?_ hikl' ?_; exact rfl) | (refine ari ?_ ?_; omega) | (refine aru ?_ ?_; omega) | (apply sel; exact rfl) | (refine ix0 rfl ?_) | (refine ix1 rfl ?_) | (refine ix2 rfl ?_) | (refine ix3 rfl ?_) | (apply ixj; omega) | (refine ixn ?_ ?_; omega) | (refine ixs0 rfl ?_) | (refine ixs1 rfl ?_) | (refine ixs_j ?_ ?_; omega) | (refine ixs_n ?_ ?_; omega) | (apply ld_o; exact rfl) | (apply ldN_a; exact rfl) | (apply ldN_o; (exact rfl); exact rfl) | (apply st_o; (exact rfl); exact rfl) | (apply stN_o; (exact rfl); (exact rfl); exact rfl) | (refine new_i (fun bk hbk => ?_)) | (apply when_dE; (exact rfl); (exact rfl); all_goals intro hc) | (apply when_dF; (exact rfl); (exact rfl); all_goals intro hc) | (apply when_nE; (exact rfl); (exact rfl); all_goals intro hc) | (apply when_nF; (exact rfl); (exact rfl); all_goals intro hc) | (apply br_dE; (exact rfl); all_goals intro hc) | (apply br_nE; (exact rfl); all_goals intro hc) | (refine mm_min ?_) | (refine mm_max ?_) | (refine rem_i ?_ ?_; omega) | (refine SelN.mk ?_) | (refine cut_n ?_) | (refine Both.mk ?_ ?_) | (exact True.intro))
        exact ⟨i + 1, by omega, by omega, (by repeat' (first | exact True.intro | refine And.intro ?_ ?_ | exact rfl | exact vi (by omega) | (dsimp only; exact rfl) | (dsimp only; exact vi (by omega)))), by rw [hclos, rowsO_congr bs 0 (fun a b _ _ _ => clS_end a b)]; exact Ent.refl⟩
    · have hkl' : ¬ (k : Int) < l.length := by omega
      have hk2 : k = l.length := by omega
      subst hk2
      repeat' ((try (conv => whnf)); first | (refine when_ye ?_ ?_; exact rfl) | (refine when_ne ?_ ?_; exact rfl) | (refine br_te ?_ ?_; exact rfl) | (refine br_fe ?_ ?_; exact rfl) | (apply br_pyE; (exact rfl); omega) | (apply br_pnE; (exact rfl); omega) | (apply when_pyE; (exact rfl); omega) | (apply when_pnE; (exact rfl); omega) | (apply br_npyE; (exact rfl); omega) | (apply br_npnE; (exact rfl); omega) | (apply when_npyE; (exact rfl); omega) | (apply when_npnE; (exact rfl); omega) | (refine br_pyE ?_ hkl' ?_; exact rfl) | (refine br_pnE ?_ hkl' ?_; exact rfl) | (refine when_pyE ?_ hkl' ?_; exact rfl) | (refine when_pnE ?_ hkl' ?_; exact rfl) | (refine br_npyE ?_ hkl' ?_; exact rfl) | (refine br_npnE ?_ hkl' ?_; exact rfl) | (refine when_npyE ?_ hkl' ?_; exact rfl) | (refine when_npnE ?_ hkl' ?_; exact rfl) | (refine ari ?_ ?_; omega) | (refine aru ?_ ?_; omega) | (apply sel; exact rfl) | (refine ix0 rfl ?_) | (refine ix1 rfl ?_) | (refine ix2 rfl ?_) | (refine ix3 rfl ?_) | (apply ixj; omega) | (refine ixn ?_ ?_; omega) | (refine ixs0 rfl ?_) | (refine ixs1 rfl ?_) | (refine ixs_j ?_ ?_; omega) | (refine ixs_n ?_ ?_; omega) | (apply ld_o; exact rfl) | (apply ldN_a; exact rfl) | (apply ldN_o; (exact rfl); exact rfl) | (apply st_o; (exact rfl); exact rfl) | (apply stN_o; (exact rfl); (exact rfl); exact rfl) | (refine new_i (fun bk hbk => ?_)) | (apply when_dE; (exact rfl); (exact rfl); all_goals intro hc) | (apply when_dF; (exact rfl); (exact rfl); all_goals intro hc) | (apply when_nE; (exact rfl); (exact rfl); all_goals intro hc) | (apply when_nF; (exact rfl); (exact rfl); all_goals intro hc) | (apply br_dE; (exact rfl); all_goals intro hc) | (apply br_nE; (exact rfl); all_goals intro hc) | (refine mm_min ?_) | (refine mm_max ?_) | (refine rem_i ?_ ?_; omega) | (refine SelN.mk ?_) | (refine cut_n ?_) | (refine Both.mk ?_ ?_) | (exact True.intro))
      refine ⟨ha, hc, D, bs, rfl, hB, hbl, ?_⟩
      rw [← List.append_assoc, ← List.append_assoc]
      exact Ent.of_sub ((List.Sublist.refl own).cons _ |>.append_left _)
end
end Go.Proofs.YtofjnldidkiihaaDoor
