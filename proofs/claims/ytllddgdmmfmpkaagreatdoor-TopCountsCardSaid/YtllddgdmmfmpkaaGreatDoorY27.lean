/- What the laws share, part 27. No condition. -/
import Derived.Test.YtllddgdmmfmpkaaGreatDoorY26
namespace Go.Proofs.YtllddgdmmfmpkaaGreatDoor
open Go
set_option maxRecDepth 10000
set_option maxHeartbeats 8000000
theorem fnd_upd {a b : Int} {v : Value} : ∀ {ml : List (Value × Value)}, (∀ e ∈ ml, ∃ z, e.1 = .int .i64 z) → findM 0 (.int .i64 a) (updM 0 (.int .i64 b) v ml) = if a = b then some (some v) else findM 0 (.int .i64 a) ml
  | [], _ => by
    show (match some (decide (a = b)) with | some true => some (some v) | some false => some none | none => none) = _
    by_cases h : a = b
    · rw [if_pos h, decide_eq_true h]
    · rw [if_neg h, decide_eq_false h]; rfl
  | (k, w) :: r, hk => by
    obtain ⟨z, rfl⟩ : ∃ z, k = .int .i64 z := hk _ List.mem_cons_self
    have ih := fnd_upd (a := a) (b := b) (v := v) (ml := r) fun e he => hk e (List.mem_cons_of_mem _ he)
    have e1 : updM 0 (.int .i64 b) v ((.int .i64 z, w) :: r) = (match some (decide (b = z)) with | some true => (.int .i64 b, v) :: r | _ => (.int .i64 z, w) :: updM 0 (.int .i64 b) v r) := rfl
    have e2 : ∀ (q : Value) (s : List (Value × Value)) (y : Int), findM 0 (.int .i64 a) ((.int .i64 y, q) :: s) = (match some (decide (a = y)) with | some true => some (some q) | some false => findM 0 (.int .i64 a) s | none => none) := fun _ _ _ => rfl
    rw [e1, e2]
    by_cases hb : b = z
    · subst hb
      simp only [decide_true]
      rw [e2]
      by_cases h : a = b
      · rw [if_pos h, decide_eq_true h]
      · rw [if_neg h, decide_eq_false h]
    · simp only [decide_eq_false hb]
      rw [e2, ih]
      by_cases h : a = b
      · subst h
        simp only [decide_eq_false hb, if_true]
      · simp only [if_neg h]
theorem upd_keys {b : Int} {v : Value} : ∀ {ml : List (Value × Value)}, (∀ e ∈ ml, ∃ z, e.1 = .int .i64 z) → ∀ e ∈ updM 0 (.int .i64 b) v ml, ∃ z, e.1 = .int .i64 z
  | [], _, e, he => by rw [show updM 0 (.int .i64 b) v [] = [(.int .i64 b, v)] from rfl, List.mem_singleton] at he; subst he; exact ⟨b, rfl⟩
  | (k, w) :: r, hk, e, he => by
    obtain ⟨z, rfl⟩ : ∃ z, k = .int .i64 z := hk _ List.mem_cons_self
    have e1 : updM 0 (.int .i64 b) v ((.int .i64 z, w) :: r) = (match some (decide (b = z)) with | some true => (.int .i64 b, v) :: r | _ => (.int .i64 z, w) :: updM 0 (.int .i64 b) v r) := rfl
    rw [e1] at he
    by_cases hb : b = z
    · simp only [decide_eq_true hb] at he
      rcases List.mem_cons.1 he with rfl | he
      · exact ⟨b, rfl⟩
      · exact hk e (List.mem_cons_of_mem _ he)
    · simp only [decide_eq_false hb] at he
      rcases List.mem_cons.1 he with rfl | he
      · exact ⟨z, rfl⟩
      · exact upd_keys (fun e he => hk e (List.mem_cons_of_mem _ he)) e he
structure NX where
  mp : Nat
  ml : List (Value × Value)
  a1 : Option Addr
  c1 : Nat
  D1 : Own
  e : Nat → Nat
structure NB where
  ia : Option Addr
  il : List Int
  ic : Nat
  b3 : Nat
  hb : Nat
  nb : Nat
  O : Nat
  n : Nat
abbrev zsl (b k : Nat) : Value := .slice (some ⟨b, 0, none⟩) k k
def vN (B : NB) (X : NX) : Nat → Value
  | 0 => .map (some X.mp) | 1 => .slice B.ia B.il.length B.ic | 2 => .slice X.a1 B.il.length X.c1 | 3 => zsl B.nb 0 | 4 => .int .i64 ((0 : Nat) : Int) | 5 => .slice X.a1 B.il.length X.c1
  | 7 => .pointer (some ⟨B.b3, 0 + 1, none⟩) | 8 => .int .i64 B.O | 9 => zsl (X.e 9) B.O | 11 => zsl (X.e 11) 1 | 13 => zsl (X.e 13) 1 | 15 => zsl (X.e 15) 1 | 17 => .int .i64 B.n | 18 => zsl (X.e 18) B.n
  | 20 => zsl B.hb 4 | 22 => zsl B.nb 0 | 24 => .map (some X.mp) | 25 => .agg #[.map (some X.mp)] | 26 => ptr (X.e 26) | 27 => ptr (X.e 26) | _ => .int .i64 0
def dN (j : Nat) : Nat := ([32, 33, 34, 35, 36, 37, 100, 38, 39, 40, 101, 41, 102, 42, 103, 43, 104, 44, 45, 105, 46, 106, 47, 107, 48, 49, 50, 6, 7] : List Nat).getD j 200
def muN (k : Nat) : Nat := ([6, 10, 12, 14, 16, 19, 21, 23] : List Nat).getD k 200
def crN (k : Nat) : Nat := ([5, 9, 11, 13, 15, 18, 20, 22] : List Nat).getD k 200
def clN : List (Nat × Nat) := [(5, 2), (6, 0), (6, 5), (10, 0), (10, 9), (12, 0), (12, 11), (14, 0), (14, 13), (16, 0), (16, 15), (19, 0), (19, 18), (21, 0), (21, 20), (23, 0), (23, 22), (24, 0), (25, 24), (26, 25), (27, 26)]
theorem clN_mu : ∀ k, k < 8 → (muN k, crN k) ∈ clN := by decide
theorem dN_inj : ∀ j, j < 29 → ∀ i, i < 29 → j ≠ i → dN j ≠ dN i := by decide
abbrev rpP (k : Nat) : Obj → Prop := fun o => o = Obj.cells (List.replicate k [uv 0]).flatten.toArray 33
abbrev mmP (mp : Nat) : Obj → Prop := fun o => o = Obj.cells #[.map (some mp)] 94
def pq (b : Bool) (D : Own) : Own := bif b then D else []
def pcN (B : NB) (X : NX) (l : Nat → Bool) : Own := pq (l 0) [(X.mp, mapO X.ml)] ++ (pq (l 2) X.D1 ++ (pq (l 9) [(X.e 9, rpP B.O)] ++ (pq (l 11) [(X.e 11, rpP 1)] ++ (pq (l 13) [(X.e 13, rpP 1)] ++ (pq (l 15) [(X.e 15, rpP 1)] ++ (pq (l 18) [(X.e 18, rpP B.n)] ++ pq (l 26) [(X.e 26, mmP X.mp)]))))))
abbrev setL (l : Nat → Bool) (i : Nat) : Nat → Bool := fun n => bif Nat.beq n i then true else l n
theorem setL_ne {l : Nat → Bool} {i n : Nat} (h : n ≠ i) : setL l i n = l n := by
  show (bif Nat.beq n i then true else l n) = l n
  cases hb : Nat.beq n i with
  | false => rfl
  | true => exact absurd (Nat.eq_of_beq_eq_true hb) h
theorem setL_eq {l : Nat → Bool} {i : Nat} : setL l i i = true := by
  show (bif Nat.beq i i then true else l i) = true
  rw [Nat.beq_refl]; rfl
theorem Ins.here {e : Nat × (Obj → Prop)} {Y : Own} : (e :: (pq false [e] ++ Y)).Perm (pq true [e] ++ Y) := List.Perm.refl _
theorem Ins.skip {e : Nat × (Obj → Prop)} {A Y Y' : Own} (h : (e :: Y).Perm Y') : (e :: (A ++ Y)).Perm (A ++ Y') := List.perm_middle.symm.trans (h.append_left A)
theorem Ins.base {e : Nat × (Obj → Prop)} {A Y Y' : Own} (h : (e :: Y).Perm Y') : (e :: (Y ++ A)).Perm (Y' ++ A) := h.append_right A
structure JN (B : NB) (base : Own) (X : NX) (l : Nat → Bool) (f : Fr) (own : Own) : Prop where
  v : ∀ j, j < 29 → dN j < 100 → l j = true → f (dN j) = vN B X j
  f1 : f 1 = .int .i64 B.n
  f2 : f 2 = .slice B.ia B.il.length B.ic
  f3 : f 3 = ptr B.b3
  f9 : f 9 = zsl B.hb 4
  f10 : f 10 = zsl B.nb 0
  cl : ∀ q ∈ clN, l q.1 = true → l q.2 = true
  m : l 0 = true → (∀ e ∈ X.ml, ∃ z, e.1 = .int .i64 z) ∧ ∀ k : Nat, k < 8 → findM 0 (.int .i64 ((k : Int) + 1)) X.ml = some (if l (muN k) = true then some (vN B X (crN k)) else none)
  b : l 2 = true → BufE encU 33 1 X.a1 X.c1 B.il X.D1
  o : own.Perm (pcN B X l ++ base)
section
variable {W0 : World} {B : NB} {base own own' : Own} {X X' : NX} {l : Nat → Bool} {f : Fr} {i : Nat} {v : Value}
theorem JN.next (hJ : JN B base X l f own) (hi : i < 29) (hdi : dN i < 100) (h10 : dN i = 6 ∨ dN i = 7 ∨ 10 < dN i) (hX : ∀ j, l j = true → vN B X' j = vN B X j) (hv : v = vN B X' i) (hc : ∀ q ∈ clN, q.1 = i → l q.2 = true) (hmu : ∀ k : Nat, k < 8 → muN k ≠ i)
    (hm : setL l i 0 = true → (∀ e ∈ X'.ml, ∃ z, e.1 = .int .i64 z) ∧ ∀ k : Nat, k < 8 → findM 0 (.int .i64 ((k : Int) + 1)) X'.ml = some (if l (muN k) = true then some (vN B X' (crN k)) else none))
    (hb : setL l i 2 = true → BufE encU 33 1 X'.a1 X'.c1 B.il X'.D1) (ho : own'.Perm (pcN B X' (setL l i) ++ base)) : JN B base X' (setL l i) (updO f (some (dN i)) v) own' := by
  refine ⟨fun j hj hd hl => ?_, by rw [updO_ne (by omega)]; exact hJ.f1, by rw [updO_ne (by omega)]; exact hJ.f2, by rw [updO_ne (by omega)]; exact hJ.f3, by rw [updO_ne (by omega)]; exact hJ.f9, by rw [updO_ne (by omega)]; exact hJ.f10, fun q hq hl => ?_, fun h0 => ?_, hb, ho⟩
  · by_cases e : j = i
    · subst e; rw [updO_same]; exact hv
    · rw [setL_ne e] at hl
      rw [updO_ne (dN_inj j hj i hi e), hX j hl]
      exact hJ.v j hj hd hl
  · by_cases e2 : q.2 = i
    · rw [e2]; exact setL_eq
    · rw [setL_ne e2]
      by_cases e1 : q.1 = i
      · exact hc q hq e1
      · rw [setL_ne e1] at hl
        exact hJ.cl q hq hl
  · obtain ⟨h1, h2⟩ := hm h0
    refine ⟨h1, fun k hk => ?_⟩
    rw [setL_ne (hmu k hk)]
    exact h2 k hk
theorem JN.keep (hJ : JN B base X l f own) (hi : i < 29) (hdi : dN i < 100) (h10 : dN i = 6 ∨ dN i = 7 ∨ 10 < dN i) (hv : v = vN B X i) (hc : ∀ q ∈ clN, q.1 = i → l q.2 = true) (hmu : ∀ k : Nat, k < 8 → muN k ≠ i) (hk : ∀ k : Nat, k ∈ ([0, 2, 9, 11, 13, 15, 18, 26] : List Nat) → k ≠ i) : JN B base X (setL l i) (updO f (some (dN i)) v) own := by
  refine hJ.next hi hdi h10 (fun _ _ => rfl) hv hc hmu (fun h => hJ.m (by rwa [setL_ne (hk 0 (by decide))] at h)) (fun h => hJ.b (by rwa [setL_ne (hk 2 (by decide))] at h)) ?_
  have : pcN B X (setL l i) = pcN B X l := by unfold pcN; rw [setL_ne (hk 0 (by decide)), setL_ne (hk 2 (by decide)), setL_ne (hk 9 (by decide)), setL_ne (hk 11 (by decide)), setL_ne (hk 13 (by decide)), setL_ne (hk 15 (by decide)), setL_ne (hk 18 (by decide)), setL_ne (hk 26 (by decide))]
  rw [this]
  exact hJ.o
theorem JN.make (hJ : JN B base X l f own) (b : Nat) (p : Obj → Prop) (hl : l i = false) (hs : i = 9 ∨ i = 11 ∨ i = 13 ∨ i = 15 ∨ i = 18 ∨ i = 26) (hv : v = vN B { X with e := fun k => if k = i then b else X.e k } i) (hc : ∀ q ∈ clN, q.1 = i → l q.2 = true) (hp : (i = 9 → p = rpP B.O) ∧ (i = 11 ∨ i = 13 ∨ i = 15 → p = rpP 1) ∧ (i = 18 → p = rpP B.n) ∧ (i = 26 → p = mmP X.mp)) : JN B base { X with e := fun k => if k = i then b else X.e k } (setL l i) (updO f (some (dN i)) v) ((b, p) :: own) := by
  have hX : ∀ j, l j = true → vN B { X with e := fun k => if k = i then b else X.e k } j = vN B X j := by
    intro j hj
    have hne : j ≠ i := fun e => by rw [e, hl] at hj; cases hj
    have h27 : j = 27 → i ≠ 26 := fun e e2 => by
      subst e; subst e2
      have := hJ.cl (27, 26) (by decide) hj
      rw [hl] at this; cases this
    unfold vN
    split <;> first | rfl | (dsimp only; rw [if_neg (by omega)])
  have hmu : ∀ k : Nat, k < 8 → muN k ≠ i := by
    intro k hk
    have : ∀ k : Nat, k < 8 → ∀ j, (j = 9 ∨ j = 11 ∨ j = 13 ∨ j = 15 ∨ j = 18 ∨ j = 26) → muN k ≠ j := by
      intro k hk j hj
      rcases hj with rfl | rfl | rfl | rfl | rfl | rfl <;> (revert k; decide)
    exact this k hk i hs
  have h29 : i < 29 ∧ dN i < 100 ∧ 10 < dN i := by rcases hs with rfl | rfl | rfl | rfl | rfl | rfl <;> decide
  refine hJ.next h29.1 h29.2.1 (.inr (.inr h29.2.2)) hX hv hc hmu (fun h => ?_) (fun h => hJ.b (by rwa [setL_ne (by omega)] at h)) ?_
  · rw [setL_ne (by omega)] at h
    obtain ⟨h1, h2⟩ := hJ.m h
    refine ⟨h1, fun k hk => ?_⟩
    rw [h2 k hk]
    by_cases hmk : l (muN k) = true
    · rw [if_pos hmk, if_pos hmk]
      refine congrArg (fun z => some (some z)) (hX (crN k) ?_).symm
      exact hJ.cl _ (clN_mu k hk) hmk
    · rw [if_neg hmk, if_neg hmk]
  · refine (hJ.o.cons _).trans ?_
    unfold pcN
    rcases hs with rfl | rfl | rfl | rfl | rfl | rfl
    · rw [hl, hp.1 rfl]; exact Ins.base (Ins.skip (Ins.skip Ins.here))
    · rw [hl, hp.2.1 (.inl rfl)]; exact Ins.base (Ins.skip (Ins.skip (Ins.skip Ins.here)))
    · rw [hl, hp.2.1 (.inr (.inl rfl))]; exact Ins.base (Ins.skip (Ins.skip (Ins.skip (Ins.skip Ins.here))))
    · rw [hl, hp.2.1 (.inr (.inr rfl))]; exact Ins.base (Ins.skip (Ins.skip (Ins.skip (Ins.skip (Ins.skip Ins.here)))))
    · rw [hl, hp.2.2.1 rfl]; exact Ins.base (Ins.skip (Ins.skip (Ins.skip (Ins.skip (Ins.skip (Ins.skip Ins.here))))))
    · rw [hl, hp.2.2.2 rfl]; exact Ins.base (Ins.skip (Ins.skip (Ins.skip (Ins.skip (Ins.skip (Ins.skip (Ins.skip (List.Perm.refl _))))))))
end
end Go.Proofs.YtllddgdmmfmpkaaGreatDoor
namespace Go.Proofs.YtllddgdmmfmpkaaGreatDoor
open Go
set_option maxRecDepth 10000
set_option maxHeartbeats 8000000
theorem clN_of : ∀ k, k < 8 → ∀ q ∈ clN, q.1 = muN k → q.2 = 0 ∨ q.2 = crN k := by decide
theorem muN_inj : ∀ k, k < 8 → ∀ j, j < 8 → k ≠ j → muN k ≠ muN j := by decide
theorem muN_big : ∀ k, k < 8 → 100 ≤ dN (muN k) := by decide
theorem muN_ks : ∀ k, k < 8 → ∀ j, j ∈ ([0, 2, 9, 11, 13, 15, 18, 26] : List Nat) → j ≠ muN k := by decide
theorem Ins.app {D A Y Y' : Own} (h : (D ++ Y).Perm Y') : (D ++ (A ++ Y)).Perm (A ++ Y') := by
  rw [← List.append_assoc]
  refine (List.perm_append_comm.append_right Y).trans ?_
  rw [List.append_assoc]
  exact h.append_left A
section
variable {W0 : World} {B : NB} {base own own' : Own} {X X' : NX} {l : Nat → Bool} {f : Fr} {i : Nat} {v : Value}
theorem JN.ent (hJ : JN B base X l f own) : Ent W0 own base := (Ent.of_perm hJ.o).trans Ent.right
theorem JN.mkm (hJ : JN B base X l f own) (hl : l 0 = false) (b : Nat) : JN B base { X with mp := b, ml := [] } (setL l 0) (updO f (some 32) (.map (some b))) ((b, mapO []) :: own) := by
  have c0 : ∀ j, (j, 0) ∈ clN → l j = false := fun j hj => by
    cases h : l j with
    | false => rfl
    | true => have := hJ.cl _ hj h; rw [hl] at this; cases this
  have h24 := c0 24 (by decide)
  have h25 : l 25 = false := by
    cases h : l 25 with
    | false => rfl
    | true => have := hJ.cl (25, 24) (by decide) h; rw [h24] at this; cases this
  have h26 : l 26 = false := by
    cases h : l 26 with
    | false => rfl
    | true => have := hJ.cl (26, 25) (by decide) h; rw [h25] at this; cases this
  refine hJ.next (i := 0) (by decide) (by decide) (by decide) (fun j hj => ?_) rfl (fun q hq e => absurd e ((by decide : ∀ q ∈ clN, q.1 ≠ 0) q hq)) (by decide) (fun _ => ⟨fun _ h => (by cases h), fun k hk => ?_⟩) (fun h => hJ.b h) ?_
  · unfold vN
    split <;> first | rfl | (rw [hl] at hj; cases hj) | (rw [h24] at hj; cases hj) | (rw [h25] at hj; cases hj)
  · have hm : l (muN k) = false := c0 _ (by revert k; decide)
    rw [hm]
    rfl
  · refine (hJ.o.cons _).trans ?_
    unfold pcN
    rw [hl, h26]
    show ((b, mapO []) :: (([] ++ _) ++ base)).Perm (([(b, mapO [])] ++ (pq (l 2) _ ++ (pq (l 9) _ ++ (pq (l 11) _ ++ (pq (l 13) _ ++ (pq (l 15) _ ++ (pq (l 18) _ ++ pq (l 26) _))))))) ++ base)
    rw [h26]
    exact List.Perm.refl _
theorem JN.cln (hJ : JN B base X l f own) (hl : l 2 = false) {a : Option Addr} {c : Nat} {D : Own} (hB : BufE encU 33 1 a c B.il D) : JN B base { X with a1 := a, c1 := c, D1 := D } (setL l 2) (updO f (some 34) (.slice a B.il.length c)) (D ++ own) := by
  have h5 : l 5 = false := by
    cases h : l 5 with
    | false => rfl
    | true => have := hJ.cl (5, 2) (by decide) h; rw [hl] at this; cases this
  have h6 : l 6 = false := by
    cases h : l 6 with
    | false => rfl
    | true => have := hJ.cl (6, 5) (by decide) h; rw [h5] at this; cases this
  have hX : ∀ j, l j = true → vN B { X with a1 := a, c1 := c, D1 := D } j = vN B X j := by
    intro j hj
    unfold vN
    split <;> first | rfl | (rw [hl] at hj; cases hj) | (rw [h5] at hj; cases hj)
  refine hJ.next (i := 2) (by decide) (by decide) (by decide) hX rfl (fun q hq e => absurd e ((by decide : ∀ q ∈ clN, q.1 ≠ 2) q hq)) (by decide) (fun h => ?_) (fun _ => hB) ?_
  · obtain ⟨h1, h2⟩ := hJ.m h
    refine ⟨h1, fun k hk => ?_⟩
    rw [h2 k hk]
    by_cases hm : l (muN k) = true
    · rw [if_pos hm, if_pos hm, hX _ (hJ.cl _ (clN_mu k hk) hm)]
    · rw [if_neg hm, if_neg hm]
  · refine (hJ.o.append_left D).trans ?_
    rw [← List.append_assoc]
    refine List.Perm.append_right base ?_
    unfold pcN
    rw [hl]
    exact Ins.app (List.Perm.refl _)
theorem JN.mup (hJ : JN B base X l f own) (k : Nat) (hk : k < 8) (h0 : l 0 = true) (hcr : l (crN k) = true) : ∃ own', Up X.mp (mapO X.ml) (mapO (updM 0 (.int .i64 ((k : Int) + 1)) (vN B X (crN k)) X.ml)) own own' ∧ (findM 0 (.int .i64 ((k : Int) + 1)) X.ml).isSome = true ∧ JN B base { X with ml := updM 0 (.int .i64 ((k : Int) + 1)) (vN B X (crN k)) X.ml } (setL l (muN k)) f own' := by
  obtain ⟨hm1, hm2⟩ := hJ.m h0
  obtain ⟨R, hR, hR2⟩ : ∃ R, pcN B X l = (X.mp, mapO X.ml) :: R ∧ pcN B { X with ml := updM 0 (.int .i64 ((k : Int) + 1)) (vN B X (crN k)) X.ml } (setL l (muN k)) = (X.mp, mapO (updM 0 (.int .i64 ((k : Int) + 1)) (vN B X (crN k)) X.ml)) :: R := by
    have hs := fun j hj => setL_ne (l := l) (muN_ks k hk j hj)
    unfold pcN
    rw [hs 0 (by decide), hs 2 (by decide), hs 9 (by decide), hs 11 (by decide), hs 13 (by decide), hs 15 (by decide), hs 18 (by decide), hs 26 (by decide), h0]
    exact ⟨_, rfl, rfl⟩
  have ho := hJ.o
  rw [hR] at ho
  obtain ⟨A, C, rfl⟩ := List.append_of_mem (ho.mem_iff.2 List.mem_cons_self)
  refine ⟨A ++ (X.mp, mapO (updM 0 (.int .i64 ((k : Int) + 1)) (vN B X (crN k)) X.ml)) :: C, Up.head.app A, by rw [hm2 k hk]; rfl, ?_⟩
  refine ⟨fun j hj hd hl => ?_, hJ.f1, hJ.f2, hJ.f3, hJ.f9, hJ.f10, fun q hq hl => ?_, fun _ => ⟨upd_keys hm1, fun j hj => ?_⟩, fun h => hJ.b (by rwa [setL_ne (muN_ks k hk 2 (by decide))] at h), ?_⟩
  · have hne : j ≠ muN k := fun e => by have := muN_big k hk; rw [← e] at this; omega
    rw [setL_ne hne] at hl
    exact hJ.v j hj hd hl
  · by_cases e2 : q.2 = muN k
    · rw [e2]; exact setL_eq
    · rw [setL_ne e2]
      by_cases e1 : q.1 = muN k
      · rcases clN_of k hk q hq e1 with e | e
        · rw [e]; exact h0
        · rw [e]; exact hcr
      · rw [setL_ne e1] at hl
        exact hJ.cl q hq hl
  · show findM 0 _ (updM 0 _ _ X.ml) = _
    rw [fnd_upd hm1]
    by_cases e : j = k
    · subst e
      rw [if_pos rfl, setL_eq, if_pos rfl]
      rfl
    · rw [if_neg (by omega), hm2 j hj, setL_ne (muN_inj j hj k hk e)]
      rfl
  · rw [hR2]
    exact List.perm_middle.trans (((List.perm_middle.symm.trans ho).cons_inv).cons _)
abbrev JE (B : NB) (base : Own) (l : Nat → Bool) (f : Fr) (own : Own) : Prop := ∃ X, JN B base X l f own
variable (hJ : JN B base X l f own)
include hJ
theorem JN.xmov (i t : Nat) {w : Value} (hf : f t = w) (hi : i < 29 ∧ dN i < 100 ∧ (dN i = 6 ∨ dN i = 7 ∨ 10 < dN i) ∧ (∀ k : Nat, k < 8 → muN k ≠ i) ∧ ∀ k : Nat, k ∈ ([0, 2, 9, 11, 13, 15, 18, 26] : List Nat) → k ≠ i) (hv : w = vN B X i) (hc : ∀ q ∈ clN, q.1 = i → l q.2 = true) : XO Tryz.prog W0 f own (.mov (.tmp t)) fun v own' => JE B base (setL l i) (updO f (some (dN i)) v) own' := by
  unfold XO
  dsimp only [ev]
  refine Mv.mk ?_
  rw [hf]
  exact ⟨X, hJ.keep hi.1 hi.2.1 hi.2.2.1 hv hc hi.2.2.2.1 hi.2.2.2.2⟩
theorem JN.xmk (i : Nat) (n : Nat) (x y : Operand) (hx : ev f x = .int .i64 n) (hy : ev f y = .int .i64 n) (hn : n ≤ 1000000) (hl : l i = false) (hs : i = 9 ∨ i = 11 ∨ i = 13 ∨ i = 15 ∨ i = 18) (hp : (i = 9 → n = B.O) ∧ (i = 11 ∨ i = 13 ∨ i = 15 → n = 1) ∧ (i = 18 → n = B.n)) (hc : ∀ q ∈ clN, q.1 = i → l q.2 = true) : XO Tryz.prog W0 f own (.mk 33 1 8 [.int .u64 0] x y) fun v own' => JE B base (setL l i) (updO f (some (dN i)) v) own' := by
  unfold XO
  dsimp only
  rw [hx, hy]
  refine ⟨n, n, rfl, rfl, Nat.le_refl _, by omega, fun b _ => ⟨_, hJ.make b (rpP n) hl (by omega) ?_ hc ⟨fun h => by rw [hp.1 h], fun h => by rw [hp.2.1 h], fun h => by rw [hp.2.2 h], fun h => by omega⟩⟩⟩
  rcases hs with rfl | rfl | rfl | rfl | rfl
  · rw [hp.1 rfl]; rfl
  · rw [hp.2.1 (.inl rfl)]; rfl
  · rw [hp.2.1 (.inr (.inl rfl))]; rfl
  · rw [hp.2.1 (.inr (.inr rfl))]; rfl
  · rw [hp.2.2 rfl]; rfl
theorem JN.xmup (k : Nat) (t : Nat) (kv : Int) (hk : k < 8) (hkv : kv = (k : Int) + 1) (ht : f t = vN B X (crN k)) (h32 : f 32 = .map (some X.mp)) (h0 : l 0 = true) (hcr : l (crN k) = true) : XO Tryz.prog W0 f own (.mup 0 (.tmp 32) (.const (.int .i64 kv)) (.tmp t)) fun v own' => JE B base (setL l (muN k)) (updO f none v) own' := by
  subst hkv
  obtain ⟨own', h1, h2, h3⟩ := hJ.mup k hk h0 hcr
  unfold XO
  dsimp only [ev]
  rw [h32, ht]
  exact ⟨_, own', h1, h2, _, h3⟩
end
end Go.Proofs.YtllddgdmmfmpkaaGreatDoor
namespace Go.Proofs.YtllddgdmmfmpkaaGreatDoor
open Go
set_option maxRecDepth 10000
set_option maxHeartbeats 8000000
theorem rp_flat (n : Nat) : (List.replicate n [uv 0]).flatten = (List.replicate n (0 : Int)).map uv ++ [] := by
  rw [List.append_nil, List.map_replicate]
  induction n with
  | zero => rfl
  | succ n ih => rw [List.replicate_succ, List.flatten_cons, ih, List.replicate_succ]; rfl
theorem fl_map (l : List Int) : (l.map encU).flatten = l.map uv := by
  induction l with
  | nil => rfl
  | cons x l ih => rw [List.map_cons, List.flatten_cons, ih, List.map_cons]; rfl
def ms0 (il : List Int) (O n : Nat) : MS := ⟨il, List.replicate O 0, 0, 0, 0, List.replicate n 0, [0, 0, 0, 0], []⟩
theorem fin_cn {W0 : World} {own : Own} {f : Fr} {b : Nat} {K : Value → Own → Prop} (h6 : f 6 = ptr b) (h7 : f 7 = .int .i64 0) (hk : K (.tuple #[ptr b, .int .i64 0]) own) : XRes W0 f own [.tmp 6, .tmp 7] fun vs => K (resV vs) own := by
  unfold XRes
  dsimp only
  rw [h6]
  refine Mv.mk ?_
  rw [h7]
  exact Mv.mk hk
section
variable {W0 : World} {own : Own} {c : Cfg}
theorem sp_cnew {ia : Option Addr} {il : List Int} {ic O n : Nat} (hc : checkM c = 0) (h0 : c.c0 = 0 ∧ c.c1 = 0 ∧ c.c2 = 0 ∧ c.c3 = 0) (hb : blocksM c = 0) (hI : RdE encU 1 W0 own ia il) (hil : (il.length : Int) = c.words) (hi1 : il ≠ []) (hi2 : il.length ≤ 1000) (hO : c.orecs = (O : Int)) (hO2 : O ≤ 1000) (hn1 : 1 ≤ n) (hn : n ≤ 16) :
    Spec Tryz.prog W0 12 [c.v, .int .i64 n, .slice ia il.length ic] own fun v own' => ∃ mh : MH, (v = .tuple #[ptr mh.mb, .int .i64 0] ∧ mh.ok (ms0 il O n).L) ∧ Ent W0 own' (mh.O (ms0 il O n) ++ own) := by
  refine spec_of mixed low_cells_New (by simp [ir_cells_New]) ?_
  have hc1 := fun own => sp_check W0 own c
  rw [hc] at hc1
  have hls := fun (own' : Own) => sp_lists (W0 := W0) (own := own') h0 hb
  obtain ⟨w, o, bs, c0, c1, c2, c3, r, wr, al, fr, ck, st⟩ := c
  dsimp only at hil hO
  dsimp only [Cfg.v, Cfg.cs] at hc1 hls ⊢
  subst hO
  repeat' ((try (conv => whnf)); first | (refine when_ye ?_ ?_; exact rfl) | (refine br_fe ?_ ?_; exact rfl) | (apply br_pnE; (exact rfl); omega) | (apply when_pnE; (exact rfl); omega) | (refine new_i (fun b3 hb3 => ?_)) | ((with_reducible show CallT _ _ _ _ _ _); first | ((refine call_pe (hc1 _) ?_ ?_ ?_; (exact rfl); exact rfl)) | ((refine call_x (hls _) ?_ ?_ (fun y v hv => ?_); (exact rfl); (exact rfl); (obtain ⟨hb, nb⟩ := y; subst hv)))) | (apply sel; exact rfl) | (apply ld_o; exact rfl) | (apply ldN_a; exact rfl))
  refine par_of (JE ⟨ia, il, ic, b3, hb, nb, O, n⟩ (canE encU 33 hb [0, 0, 0, 0] :: canE encU 33 nb [] :: (b3, fun z => z = Obj.cells #[.int .i64 w, .int .i64 O, .int .i64 bs, .int .i64 c0, .int .i64 c1, .int .i64 c2, .int .i64 c3, .int .i64 r, .int .i64 wr, .int .i64 al, .int .i64 fr, .int .i64 ck, .bool st] 31) :: own))
    ⟨⟨0, [], none, 0, [], fun _ => 0⟩, ⟨fun _ _ _ h => (by cases h), rfl, rfl, rfl, rfl, rfl, fun _ _ h => (by cases h), fun h => (by cases h), fun h => (by cases h), List.Perm.refl _⟩⟩ ?_ ?_
  · rintro l f own' ⟨X, hJ⟩ hl
    have hL : ∀ j, j < 29 → l j = true := hl
    clear hl
    have hB := hJ.b (hL 2 (by decide))
    obtain ⟨hm1, hm2⟩ := hJ.m (hL 0 (by decide))
    rcases hB.how with ⟨e, -⟩ | ⟨b0, rest, ha, hD, hlen, hle⟩
    · exact absurd e hi1
    have hlen' : il.length * 1 + rest.length = X.c1 * 1 := hlen
    have hf6 := hJ.v 27 (by decide) (by decide) (hL 27 (by decide))
    have hf7 := hJ.v 28 (by decide) (by decide) (hL 28 (by decide))
    have hT : pcN ⟨ia, il, ic, b3, hb, nb, O, n⟩ X l = [(X.mp, mapO X.ml)] ++ (X.D1 ++ ([(X.e 9, rpP O)] ++ ([(X.e 11, rpP 1)] ++ ([(X.e 13, rpP 1)] ++ ([(X.e 15, rpP 1)] ++ ([(X.e 18, rpP n)] ++ [(X.e 26, mmP X.mp)])))))) := by
      unfold pcN
      rw [hL 0 (by decide), hL 2 (by decide), hL 9 (by decide), hL 11 (by decide), hL 13 (by decide), hL 15 (by decide), hL 18 (by decide), hL 26 (by decide)]
      rfl
    have hE := Ent.of_perm (W0 := W0) hJ.o
    rw [hT, hD] at hE
    refine fin_cn (W0 := W0) (K := fun v own' => ∃ mh : MH, (v = .tuple #[ptr mh.mb, .int .i64 0] ∧ mh.ok (ms0 il O n).L) ∧ Ent W0 own' (mh.O (ms0 il O n) ++ own)) hf6 hf7 ?_
    refine ⟨⟨X.e 26, X.mp, fun k => ([b0, X.e 9, X.e 11, X.e 13, X.e 15, X.e 18, hb, nb] : List Nat).getD k 0, fun k => if k = 0 then rest else [], fun k => ([il.length, O, 1, 1, 1, n, 4, 0] : List Nat).getD k 0, X.ml⟩, ⟨rfl, ?_⟩, ?_⟩
    · refine ⟨fun k hk => ?_, fun k hk => ?_, rfl, fun k hk => ?_⟩
      · rw [hm2 k hk, if_pos (hL _ (by revert k; decide))]
        have h8 : k = 0 ∨ k = 1 ∨ k = 2 ∨ k = 3 ∨ k = 4 ∨ k = 5 ∨ k = 6 ∨ k = 7 := by omega
        rcases h8 with rfl | rfl | rfl | rfl | rfl | rfl | rfl | rfl
        · show some (some (Value.slice X.a1 il.length X.c1)) = some (some (Value.slice (some ⟨b0, 0, none⟩) il.length (il.length + rest.length)))
          rw [ha, show X.c1 = il.length + rest.length by omega]
        all_goals rfl
      · have h8 : k = 0 ∨ k = 1 ∨ k = 2 ∨ k = 3 ∨ k = 4 ∨ k = 5 ∨ k = 6 ∨ k = 7 := by omega
        rcases h8 with rfl | rfl | rfl | rfl | rfl | rfl | rfl | rfl <;> first | rfl | exact List.length_replicate
      · have h8 : k = 0 ∨ k = 1 ∨ k = 2 ∨ k = 3 ∨ k = 4 ∨ k = 5 ∨ k = 6 ∨ k = 7 := by omega
        rcases h8 with rfl | rfl | rfl | rfl | rfl | rfl | rfl | rfl
        · show il.length ≤ 1000000; omega
        · show O ≤ 1000000; omega
        · show 1 ≤ 1000000; decide
        · show 1 ≤ 1000000; decide
        · show 1 ≤ 1000000; decide
        · show n ≤ 1000000; omega
        · show 4 ≤ 1000000; decide
        · show 0 ≤ 1000000; decide
    · refine hE.trans ?_
      unfold rpP
      rw [rp_flat, rp_flat, rp_flat, fl_map]
      show Ent W0 _ ((X.e 26, mmP X.mp) :: (X.mp, mapO X.ml) :: (b0, fun o => o = Obj.cells (il.map uv ++ rest).toArray 33) :: (X.e 9, fun o => o = Obj.cells ((List.replicate O (0 : Int)).map uv ++ []).toArray 33) :: (X.e 11, fun o => o = Obj.cells ((List.replicate 1 (0 : Int)).map uv ++ []).toArray 33) :: (X.e 13, fun o => o = Obj.cells ((List.replicate 1 (0 : Int)).map uv ++ []).toArray 33) :: (X.e 15, fun o => o = Obj.cells ((List.replicate 1 (0 : Int)).map uv ++ []).toArray 33) :: (X.e 18, fun o => o = Obj.cells ((List.replicate n (0 : Int)).map uv ++ []).toArray 33) :: (canE encU 33 hb [0, 0, 0, 0]) :: (canE encU 33 nb []) :: own)
      simp only [List.cons_append, List.nil_append]
      exact (by refine sb_ent ?_; (repeat (first | exact sb_refl | exact sb_nil | refine sb_fr ?_ | refine sb_pu rfl ?_ | refine sb_cons ?_ | refine sb_app ?_)))
  · exact ⟨fun l f own' hl _ ⟨X, hJ⟩ => ⟨fun b _ => ⟨_, hJ.mkm hl b⟩⟩,
    fun l f own' _ _ ⟨X, hJ⟩ => hJ.xmov 1 2 hJ.f2 (by decide) rfl (fun q hq e => absurd e ((by decide : ∀ q ∈ clN, q.1 ≠ 1) q hq)),
    fun l f own' hl hd ⟨X, hJ⟩ => by
      change CallT Tryz.prog W0 own' _ [f 33] _
      rw [show f 33 = .slice ia il.length ic from (hJ.v 1 (by decide) (by decide) (hd 1 (by decide)))]
      refine call_x (sp_clone_uint64 (W0 := W0) (own := own') (cap := ic) (hI.ent (hJ.ent.trans (Ent.of_sub ((List.sublist_cons_self _ _).trans ((List.sublist_cons_self _ _).trans (List.sublist_cons_self _ _)))))) (by omega)) rfl rfl fun y v hv => ?_
      obtain ⟨a, c, D⟩ := y
      obtain ⟨rfl, hB⟩ := hv
      exact ⟨_, hJ.cln hl hB⟩,
    fun l f own' _ _ ⟨X, hJ⟩ => hJ.xmov 3 10 hJ.f10 (by decide) rfl (fun q hq e => absurd e ((by decide : ∀ q ∈ clN, q.1 ≠ 3) q hq)),
    fun l f own' _ hd ⟨X, hJ⟩ => by
      unfold XO
      dsimp only [ev]
      rw [show f 35 = zsl nb 0 from (hJ.v 3 (by decide) (by decide) (hd 3 (by decide)))]
      exact ⟨X, hJ.keep (i := 4) (by decide) (by decide) (by decide) rfl (fun q hq e => absurd e ((by decide : ∀ q ∈ clN, q.1 ≠ 4) q hq)) (by decide) (by decide)⟩,
    fun l f own' _ hd ⟨X, hJ⟩ => by
      unfold XO
      dsimp only [ev]
      rw [show f 34 = .slice X.a1 il.length X.c1 from (hJ.v 2 (by decide) (by decide) (hd 2 (by decide))), show f 36 = .int .i64 ((0 : Nat) : Int) from (hJ.v 4 (by decide) (by decide) (hd 4 (by decide)))]
      exact ⟨.inl ⟨rfl, (hJ.b (hd 2 (by decide))).le, X, hJ.keep (i := 5) (by decide) (by decide) (by decide) rfl (fun q hq e => by have := (by decide : ∀ q ∈ clN, q.1 = 5 → q.2 = 2) q hq e; rw [this]; exact hd _ (by decide)) (by decide) (by decide)⟩⟩,
    fun l f own' _ hd ⟨X, hJ⟩ => hJ.xmup 0 37 1 (by decide) (by decide) (hJ.v 5 (by decide) (by decide) (hd 5 (by decide))) (hJ.v 0 (by decide) (by decide) (hd 0 (by decide))) (hd 0 (by decide)) (hd 5 (by decide)),
    fun l f own' _ _ ⟨X, hJ⟩ => by
      unfold XO
      dsimp only [ev]
      rw [hJ.f3]
      exact ⟨X, hJ.keep (i := 7) (by decide) (by decide) (by decide) rfl (fun q hq e => absurd e ((by decide : ∀ q ∈ clN, q.1 ≠ 7) q hq)) (by decide) (by decide)⟩,
    fun l f own' _ hd ⟨X, hJ⟩ => by
      unfold XO
      dsimp only [ev]
      rw [show f 38 = .pointer (some ⟨b3, 0 + 1, none⟩) from (hJ.v 7 (by decide) (by decide) (hd 7 (by decide)))]
      exact ⟨.int .i64 O, kn_cell (hJ.o.mem_iff.2 (List.mem_append_right _ (List.mem_cons_of_mem _ (List.mem_cons_of_mem _ List.mem_cons_self)))) rfl, X, hJ.keep (i := 8) (by decide) (by decide) (by decide) rfl (fun q hq e => absurd e ((by decide : ∀ q ∈ clN, q.1 ≠ 8) q hq)) (by decide) (by decide)⟩,
    fun l f own' hl hd ⟨X, hJ⟩ => hJ.xmk 9 O _ _ (hJ.v 8 (by decide) (by decide) (hd 8 (by decide))) (hJ.v 8 (by decide) (by decide) (hd 8 (by decide))) (by omega) hl (by decide) ⟨fun _ => rfl, fun h => by omega, fun h => by omega⟩ (fun q hq e => absurd e ((by decide : ∀ q ∈ clN, q.1 ≠ 9) q hq)),
    fun l f own' _ hd ⟨X, hJ⟩ => hJ.xmup 1 40 2 (by decide) (by decide) (hJ.v 9 (by decide) (by decide) (hd 9 (by decide))) (hJ.v 0 (by decide) (by decide) (hd 0 (by decide))) (hd 0 (by decide)) (hd 9 (by decide)),
    fun l f own' hl _ ⟨X, hJ⟩ => hJ.xmk 11 1 _ _ rfl rfl (by decide) hl (by decide) ⟨fun h => by omega, fun _ => rfl, fun h => by omega⟩ (fun q hq e => absurd e ((by decide : ∀ q ∈ clN, q.1 ≠ 11) q hq)),
    fun l f own' _ hd ⟨X, hJ⟩ => hJ.xmup 2 41 3 (by decide) (by decide) (hJ.v 11 (by decide) (by decide) (hd 11 (by decide))) (hJ.v 0 (by decide) (by decide) (hd 0 (by decide))) (hd 0 (by decide)) (hd 11 (by decide)),
    fun l f own' hl _ ⟨X, hJ⟩ => hJ.xmk 13 1 _ _ rfl rfl (by decide) hl (by decide) ⟨fun h => by omega, fun _ => rfl, fun h => by omega⟩ (fun q hq e => absurd e ((by decide : ∀ q ∈ clN, q.1 ≠ 13) q hq)),
    fun l f own' _ hd ⟨X, hJ⟩ => hJ.xmup 3 42 4 (by decide) (by decide) (hJ.v 13 (by decide) (by decide) (hd 13 (by decide))) (hJ.v 0 (by decide) (by decide) (hd 0 (by decide))) (hd 0 (by decide)) (hd 13 (by decide)),
    fun l f own' hl _ ⟨X, hJ⟩ => hJ.xmk 15 1 _ _ rfl rfl (by decide) hl (by decide) ⟨fun h => by omega, fun _ => rfl, fun h => by omega⟩ (fun q hq e => absurd e ((by decide : ∀ q ∈ clN, q.1 ≠ 15) q hq)),
    fun l f own' _ hd ⟨X, hJ⟩ => hJ.xmup 4 43 5 (by decide) (by decide) (hJ.v 15 (by decide) (by decide) (hd 15 (by decide))) (hJ.v 0 (by decide) (by decide) (hd 0 (by decide))) (hd 0 (by decide)) (hd 15 (by decide)),
    fun l f own' _ _ ⟨X, hJ⟩ => hJ.xmov 17 1 hJ.f1 (by decide) rfl (fun q hq e => absurd e ((by decide : ∀ q ∈ clN, q.1 ≠ 17) q hq)),
    fun l f own' hl hd ⟨X, hJ⟩ => hJ.xmk 18 n _ _ (hJ.v 17 (by decide) (by decide) (hd 17 (by decide))) (hJ.v 17 (by decide) (by decide) (hd 17 (by decide))) (by omega) hl (by decide) ⟨fun h => by omega, fun h => by omega, fun _ => rfl⟩ (fun q hq e => absurd e ((by decide : ∀ q ∈ clN, q.1 ≠ 18) q hq)),
    fun l f own' _ hd ⟨X, hJ⟩ => hJ.xmup 5 45 6 (by decide) (by decide) (hJ.v 18 (by decide) (by decide) (hd 18 (by decide))) (hJ.v 0 (by decide) (by decide) (hd 0 (by decide))) (hd 0 (by decide)) (hd 18 (by decide)),
    fun l f own' _ _ ⟨X, hJ⟩ => hJ.xmov 20 9 hJ.f9 (by decide) rfl (fun q hq e => absurd e ((by decide : ∀ q ∈ clN, q.1 ≠ 20) q hq)),
    fun l f own' _ hd ⟨X, hJ⟩ => hJ.xmup 6 46 7 (by decide) (by decide) (hJ.v 20 (by decide) (by decide) (hd 20 (by decide))) (hJ.v 0 (by decide) (by decide) (hd 0 (by decide))) (hd 0 (by decide)) (hd 20 (by decide)),
    fun l f own' _ _ ⟨X, hJ⟩ => hJ.xmov 22 10 hJ.f10 (by decide) rfl (fun q hq e => absurd e ((by decide : ∀ q ∈ clN, q.1 ≠ 22) q hq)),
    fun l f own' _ hd ⟨X, hJ⟩ => hJ.xmup 7 47 8 (by decide) (by decide) (hJ.v 22 (by decide) (by decide) (hd 22 (by decide))) (hJ.v 0 (by decide) (by decide) (hd 0 (by decide))) (hd 0 (by decide)) (hd 22 (by decide)),
    fun l f own' _ hd ⟨X, hJ⟩ => hJ.xmov 24 32 (hJ.v 0 (by decide) (by decide) (hd 0 (by decide))) (by decide) rfl (fun q hq e => by have := (by decide : ∀ q ∈ clN, q.1 = 24 → q.2 = 0) q hq e; rw [this]; exact hd _ (by decide)),
    fun l f own' _ hd ⟨X, hJ⟩ => by
      unfold XO
      dsimp only
      simp only [Bld_cons, Bld_nil, ev, show f 48 = .map (some X.mp) from (hJ.v 24 (by decide) (by decide) (hd 24 (by decide)))]
      exact ⟨X, hJ.keep (i := 25) (by decide) (by decide) (by decide) rfl (fun q hq e => by have := (by decide : ∀ q ∈ clN, q.1 = 25 → q.2 = 24) q hq e; rw [this]; exact hd _ (by decide)) (by decide) (by decide)⟩,
    fun l f own' hl hd ⟨X, hJ⟩ => by
      unfold XO
      dsimp only [ev]
      rw [show f 49 = .agg #[.map (some X.mp)] from (hJ.v 25 (by decide) (by decide) (hd 25 (by decide)))]
      exact ⟨fun b _ _ => ⟨_, hJ.make (i := 26) b (mmP X.mp) hl (by decide) rfl (fun q hq e => by have := (by decide : ∀ q ∈ clN, q.1 = 26 → q.2 = 25) q hq e; rw [this]; exact hd _ (by decide)) ⟨fun h => by omega, fun h => by omega, fun h => by omega, fun _ => rfl⟩⟩⟩,
    fun l f own' _ hd ⟨X, hJ⟩ => hJ.xmov 27 50 (hJ.v 26 (by decide) (by decide) (hd 26 (by decide))) (by decide) rfl (fun q hq e => by have := (by decide : ∀ q ∈ clN, q.1 = 27 → q.2 = 26) q hq e; rw [this]; exact hd _ (by decide)),
    fun l f own' _ _ ⟨X, hJ⟩ => by
      unfold XO
      dsimp only [ev]
      exact ⟨X, hJ.keep (i := 28) (by decide) (by decide) (by decide) rfl (fun q hq e => absurd e ((by decide : ∀ q ∈ clN, q.1 ≠ 28) q hq)) (by decide) (by decide)⟩,
    trivial⟩
end
end Go.Proofs.YtllddgdmmfmpkaaGreatDoor
namespace Go.Proofs.YtllddgdmmfmpkaaGreatDoor
open Go
set_option maxRecDepth 10000
set_option maxHeartbeats 8000000
theorem TsO_snoc {c : Cfg} {n : Nat} {p : List Ins} {y : TW} : ∀ (L : List TW) (k : Nat), TsO c n p k (L ++ [y]) = TsO c n p k L ++ ThO c n p (k + L.length) y
  | [], k => by
    show ThO c n p k y ++ [] = [] ++ ThO c n p (k + 0) y
    rw [List.append_nil, List.nil_append, Nat.add_zero]
  | z :: L, k => by
    rw [List.cons_append, TsO, TsO, TsO_snoc L (k + 1), List.append_assoc, List.length_cons, show k + 1 + L.length = k + (L.length + 1) by omega]
section
variable {W0 : World} {own : Own} {c : Cfg} {p : List Ins}
theorem sp_mNew {ia pa ka : Option Addr} {il ks : List Int} {ic pc kc O : Nat} {ps : List PH} (hF : FormsAt W0) (hcs : csM c il.length ps ks = (0, 0, 0)) (hc : checkM c = 0) (h0 : c.c0 = 0 ∧ c.c1 = 0 ∧ c.c2 = 0 ∧ c.c3 = 0) (hb : blocksM c = 0) (hI : RdE encU 1 W0 own ia il) (hil : (il.length : Int) = c.words) (hi1 : il ≠ []) (hi2 : il.length ≤ 1000) (hO : c.orecs = (O : Int)) (hO2 : O ≤ 1000)
    (hP : RdE PH.enc 1 W0 own pa ps) (hQ : ∀ h ∈ ps, RdE Ins.enc 5 W0 own h.a h.p) (hK : RdE encI 1 W0 own ka ks) (hn1 : 1 ≤ ps.length) (hn : ps.length ≤ 16) (hp : ∀ h ∈ ps, h.p = p) (hck : checkP p = (0, 0)) (hpl : p.length ≤ 100000) :
    Spec Tryz.prog W0 8 [scrV c ia il.length ic pa ps.length pc ka ks.length kc] own fun v own' => ∃ M : MQ, (v = .tuple #[ptr M.b, .int .i64 0, .int .i64 0, .int .i64 0] ∧ M.ok W0 c p (ms0 il O ps.length) [] ∧ M.L.length = ps.length ∧ ∀ y ∈ M.L, y.x = newG p) ∧ Ent W0 own' (M.O c ps.length p (ms0 il O ps.length) [] own) := by
  refine spec_of mixed low_machine_New (by simp [ir_machine_New]) ?_
  have hc1 := fun (own' : Own) (m : EntC own' own) => sp_cs (c := c) (ia := ia) (il := il.length) (ic := ic) (pc := pc) (kc := kc) (own := own') hF hP.up (fun h hh => (hQ h hh).up) hK.up
  rw [hcs] at hc1
  have hcn := fun (own' : Own) (m : EntC own' own) => sp_cnew (W0 := W0) (own := own') (ic := ic) hc h0 hb hI.up hil hi1 hi2 hO hO2 hn1 hn
  have htn := fun (own' : Own) (t : Nat) (a : Option Addr) (cap : Nat) (ht : t < ps.length) (hR : RdE Ins.enc 5 W0 own' a p) => sp_tNew (W0 := W0) (own := own') (t := t) (n := ps.length) (cap := cap) hF hc hck ht hn hR hpl
  dsimp only [Cfg.v, Cfg.cs] at hcn htn
  dsimp only [tup3] at hc1
  repeat' ((try (conv => whnf)); first | (refine br_fe ?_ ?_; exact rfl) | (refine new_i (fun bk hbk => ?_)) | ((with_reducible show CallT _ _ _ _ _ _); first | ((refine call_pe (hc1 _ inferInstance) ?_ ?_ ?_; (exact rfl); exact rfl)) | ((refine call_x (hcn _ inferInstance) ?_ ?_ (fun mh v hv => ?_); (exact rfl); (exact rfl); (obtain ⟨rfl, hmh⟩ := hv)))) | (apply sel; exact rfl) | (apply ld_o; exact rfl) | (apply ldN_a; exact rfl) | (apply ldN_o; (exact rfl); exact rfl) | (apply st_o; (exact rfl); exact rfl))
  rename_i b1 hb1
  refine loop_i (σ := Nat × List TW × Option Addr × Nat × Own) (fun s => [(40, .int .i64 s.1)]) (fun s => (bk, fun z => z = Obj.cells #[ptr mh.mb, .slice s.2.2.1 (s.2.1.map fun y => y.h.b).length s.2.2.2.1, .slice none 0 0, .slice none 0 0] 70 (0, 0)) ::
      (b1, fun z => z = Obj.cells #[.int .i64 c.words, .int .i64 c.orecs, .int .i64 c.base, .int .i64 c.c0, .int .i64 c.c1, .int .i64 c.c2, .int .i64 c.c3, .int .i64 c.reads, .int .i64 c.writes, .int .i64 c.allocs, .int .i64 c.frees, .int .i64 c.clock, .bool c.strong, .slice ia il.length ic, .slice pa ps.length pc, .slice ka ks.length kc] 46 (0, 0)) ::
      (mh.O (ms0 il O ps.length) ++ (s.2.2.2.2 ++ (TsO c ps.length p 0 s.2.1 ++ own))))
    (fun s => s.1 ≤ ps.length ∧ s.2.1.length = s.1 ∧ BufE encP 73 1 s.2.2.1 s.2.2.2.1 (s.2.1.map fun y => y.h.b) s.2.2.2.2 ∧ ∀ (t : Nat) (y : TW), s.2.1[t]? = some y → y.ok W0 c p t ∧ y.x = newG p) (fun s => ps.length - s.1) (0, [], none, 0, []) ⟨Nat.zero_le _, rfl, BufE.nil, fun _ _ h => (by simp at h)⟩ (by repeat' (first | exact True.intro | refine And.intro ?_ ?_ | exact rfl | exact vi (by omega) | (dsimp only; exact rfl) | (dsimp only; exact vi (by omega)))) (by dsimp only [TsO]; simp only [List.nil_append]; exact (by refine sb_ent ?_; (repeat (first | exact sb_refl | exact sb_nil | refine sb_fr ?_ | refine sb_pu rfl ?_ | refine sb_cons ?_ | refine sb_app ?_)))) rfl ?_
  rintro ⟨i, L, ta, tc, tD⟩ junk ⟨hi, hLl, hBt, hLo⟩
  dsimp only at hi hLl hBt hLo ⊢
  by_cases hlt : i < ps.length
  · obtain ⟨x, hx⟩ : ∃ x, ps[i]? = some x := ⟨_, List.getElem?_eq_getElem hlt⟩
    have hlt' : (i : Int) < ps.length := by omega
    have hxm := List.mem_of_getElem? hx
    have hxQ := hQ x hxm
    have hxp := hp x hxm
    obtain ⟨xa, xc, xp⟩ := x
    dsimp only at hxQ hxp
    subst hxp
    have hth := fun (own' : Own) (m : EntC own' own) => htn own' i xa xc hlt hxQ.up
    have hml : (L.map fun y => y.h.b).length ≤ 16 := by rw [List.length_map]; omega
    repeat' ((try (conv => whnf)); first | (apply br_pyE; (exact rfl); omega) | (refine new_i (fun be hbe => ?_)) | (apply app_i (enc := encP) (T := 73) y.h.b hBt; (exact rfl); (exact rfl); (omega); (exact rfl); (exact rfl); (omega); intro a5 c5 D5 hb5) | ((with_reducible show Ld _ _ _ _); first | (refine ldE0 hP hx rfl ?_)) | ((with_reducible show IxS _ _ _ _ _); first | ((refine ixE hP hx ?_ ?_; (first | rfl | omega)))) | ((with_reducible show CallT _ _ _ _ _ _); first | ((refine call_x (hth _ inferInstance) ?_ ?_ (fun y v hv => ?_); (exact rfl); (exact rfl); (obtain ⟨rfl, hyo, hyx⟩ := hv)))) | (refine ari ?_ ?_; omega) | (apply sel; exact rfl) | (apply ld_o; exact rfl) | (apply ldN_o; (exact rfl); exact rfl) | (apply st_o; (exact rfl); exact rfl))
    all_goals
      have hmp : (L.map fun y => y.h.b) ++ [y.h.b] = (L ++ [y]).map fun y => y.h.b := by rw [List.map_append]; rfl
      refine ⟨(i + 1, L ++ [y], a5, c5, D5), ⟨hlt, by dsimp only; rw [List.length_append, hLl]; rfl, by dsimp only; rw [← hmp]; exact hb5, fun t z hz => ?_⟩, by simp only; omega, (by repeat' (first | exact True.intro | refine And.intro ?_ ?_ | exact rfl | exact vi (by omega) | (dsimp only; exact rfl) | (dsimp only; exact vi (by omega)))), ?_⟩
      · dsimp only at hz
        by_cases ht : t < L.length
        · rw [List.getElem?_append_left ht] at hz
          exact hLo t z hz
        · have ht2 : t = L.length := by
            have := (List.getElem?_eq_some_iff.1 hz).1
            rw [List.length_append, List.length_singleton] at this
            omega
          subst ht2
          rw [List.getElem?_append_right (Nat.le_refl _), Nat.sub_self] at hz
          cases hz
          rw [hLl]
          exact ⟨hyo, hyx⟩
      · dsimp only
        rw [TsO_snoc, hLl, Nat.zero_add i, ← hmp, List.length_append]
        simp only [List.append_assoc]
        exact (by refine sb_ent ?_; (repeat (first | exact sb_refl | exact sb_nil | refine sb_fr ?_ | refine sb_pu rfl ?_ | refine sb_cons ?_ | refine sb_app ?_)))
  · obtain rfl : i = ps.length := by omega
    have hlt' : ¬ (ps.length : Int) < ps.length := by omega
    repeat' ((try (conv => whnf)); first | (apply br_pnE; (exact rfl); omega))
    all_goals exact ⟨⟨bk, mh, ta, tc, tD, none, 0, [], none, 0, [], [], [], L⟩, ⟨rfl, ⟨hmh, hBt.rd, BufE.nil, BufE.nil, fun _ h => (by cases h), fun t y hy => (hLo t y hy).1, Nat.le_refl _⟩, hLl, fun y hy => by obtain ⟨t, ht, rfl⟩ := List.getElem_of_mem hy; exact (hLo t _ (List.getElem?_eq_getElem ht)).2⟩, by dsimp only [MQ.O]; simp only [List.nil_append]; exact (by refine sb_ent ?_; (repeat (first | exact sb_refl | exact sb_nil | refine sb_fr ?_ | refine sb_pu rfl ?_ | refine sb_cons ?_ | refine sb_app ?_)))⟩
end
end Go.Proofs.YtllddgdmmfmpkaaGreatDoor
namespace Go.Proofs.YtllddgdmmfmpkaaGreatDoor
open Go
set_option maxRecDepth 10000
set_option maxHeartbeats 8000000
section
variable {W0 : World} {own : Own} {c : Cfg} {t n : Nat} {p : List Ins} {h : TH} {x : GT}
theorem sp_clone_Step {a : Option Addr} {l : List StM} {cap : Nat} (hR : RdE StM.enc 9 W0 own a l) (hl : l.length ≤ 1000000000) :
    Spec Tryz.prog W0 16 [.slice a l.length cap] own fun v own' => ∃ s : Option Addr × Nat × Own, (v = .slice s.1 l.length s.2.1 ∧ BufE StM.enc 51 9 s.1 s.2.1 l s.2.2) ∧ Ent W0 own' (s.2.2 ++ own) := by
  refine spec_of mixed low_slices_Clone_Step (by simp [ir_slices_Clone_Step]) ?_
  cases a with
  | none =>
    have hn : l = [] := by
      by_cases h : l = []
      · exact h
      · have := hR.isS h; cases this
    subst hn
    repeat' ((try (conv => whnf)); first | (refine br_te ?_ ?_; exact rfl))
    exact ⟨(none, 0, []), ⟨rfl, BufE.nil⟩, (by first | exact ent_i | (repeat (first | exact Ent.refl | exact Ent.left | refine Ent.cons ?_ | refine Ent.app ?_)))⟩
  | some a =>
    repeat' ((try (conv => whnf)); first | (refine br_fe ?_ ?_; exact rfl) | (refine app_c (enc := StM.enc) (l := []) (l2 := l) BufE.nil (At.head (D := []) (r := _)) hR.up rfl rfl (by omega) (fun _ _ => rfl) (fun _ => by simp; omega) (fun a1 c1 D1 hB1 => ?_); (rw [List.length_nil, Nat.zero_add l.length]); (apply Stop.h)) | (refine new_i (fun bk hbk => ?_)))
    refine Stop.mk ?_
    rw [List.nil_append] at hB1
    skip
    exact ⟨(a1, c1, D1), ⟨rfl, hB1⟩, Ent.of_sub ((List.sublist_cons_self _ own).append_left D1)⟩
theorem sp_tState [mm : MemC h.b (thP c t n p h x) own] : Pure Tryz.prog W0 17 [ptr h.b] own (.agg x.th.enc.toArray) := by
  refine pure_of (spec_of mixed low_thread_Thread_State (by simp [ir_thread_Thread_State]) ?_)
  have hL : ∀ {own' : Own} {K : Array Value → Prop}, Ent W0 own' own → K x.th.enc.toArray → LdN W0 own' ⟨h.b, 0 + 32, none⟩ 11 K := fun he hK => by
    obtain ⟨vs, h1, h2, h3⟩ := ldN_own (W0 := W0) (own := own) (n := 11) (off := 0 + 32) (K := fun v => v = x.th.enc.toArray) x.th.enc mm.h rfl rfl rfl
    subst h3
    exact ⟨_, h1, fun w hw => h2 w (he w hw), hK⟩
  repeat' ((try (conv => whnf)); first | (refine br_fe ?_ ?_; exact rfl) | (refine hL ?_ ?_; exact (by refine sb_ent ?_; (repeat (first | exact sb_refl | exact sb_nil | refine sb_fr ?_ | refine sb_pu rfl ?_ | refine sb_cons ?_ | refine sb_app ?_)))) | (apply ldN_a; exact rfl) | (apply stN_o; (exact rfl); (exact rfl); exact rfl) | (refine new_i (fun bk hbk => ?_)))
  all_goals exact ⟨rfl, (by first | exact ent_i | (repeat (first | exact Ent.refl | exact Ent.left | refine Ent.cons ?_ | refine Ent.app ?_)))⟩
theorem sp_tObs [mm : MemC h.b (thP c t n p h x) own] [me : EntC own h.oD] (hh : BufE ObM.enc 54 3 h.oa h.oc x.obs h.oD) (hl : x.obs.length ≤ 1000000) : Spec Tryz.prog W0 18 [ptr h.b] own fun v own' =>
    ∃ s : Option Addr × Nat × Own, (v = .slice s.1 x.obs.length s.2.1 ∧ BufE ObM.enc 54 3 s.1 s.2.1 x.obs s.2.2) ∧ Ent W0 own' (s.2.2 ++ own) := by
  refine spec_of mixed low_thread_Thread_Obs (by simp [ir_thread_Thread_Obs]) ?_
  have hc : Cl W0 own h.b 44 (.slice h.oa x.obs.length h.oc) := cl_of mm rfl
  have hcl := sp_clone_Obs (W0 := W0) (own := own) (cap := h.oc) ((hh.rd (W0 := W0)).up) (by omega)
  repeat' ((try (conv => whnf)); first | (refine br_fe ?_ ?_; exact rfl) | (refine ldK1 hc ?_) | ((with_reducible show CallT _ _ _ _ _ _); first | ((refine call_x hcl ?_ ?_ (fun y v hv => ?_); (exact rfl); (exact rfl); (obtain ⟨a3, c3, D3⟩ := y; obtain ⟨rfl, hB3⟩ := hv; dsimp only at hB3)))))
  all_goals exact ⟨(a3, c3, D3), ⟨rfl, hB3⟩, (by refine sb_ent ?_; (repeat (first | exact sb_refl | exact sb_nil | refine sb_fr ?_ | refine sb_pu rfl ?_ | refine sb_cons ?_ | refine sb_app ?_)))⟩
end
end Go.Proofs.YtllddgdmmfmpkaaGreatDoor
namespace Go.Proofs.YtllddgdmmfmpkaaGreatDoor
open Go
set_option maxRecDepth 10000
set_option maxHeartbeats 16000000
structure OB where
  a : Option Addr
  c : Nat
  l : List ObM
  D : Own
abbrev OB.enc (o : OB) : List Value := [.slice o.a o.l.length o.c]
abbrev OB.ok (o : OB) : Prop := BufE ObM.enc 54 3 o.a o.c o.l o.D
def ownB (l : List OB) : Own := (l.map OB.D).flatten
theorem ownB_snoc {l : List OB} {o : OB} : ownB (l ++ [o]) = ownB l ++ o.D := by simp [ownB]
theorem TsO_mem {c : Cfg} {n : Nat} {p : List Ins} {L : List TW} {t : Nat} {y : TW} (h : L[t]? = some y) : (y.h.b, thP c t n p y.h y.x) ∈ TsO c n p 0 L := by
  rw [TsO_at L 0 t y h, Nat.zero_add]
  exact List.mem_append_right _ (List.mem_append_left _ List.mem_cons_self)
theorem TsO_obs {W0 : World} {c : Cfg} {n : Nat} {p : List Ins} {L : List TW} {t : Nat} {y : TW} (h : L[t]? = some y) : Ent W0 (TsO c n p 0 L) y.h.oD := by
  rw [TsO_at L 0 t y h, Nat.zero_add, ThO]
  exact Ent.right.trans (Ent.left.trans (Ent.of_sub ((List.sublist_append_left _ _).trans ((List.sublist_append_right _ _).trans ((List.sublist_append_right _ _).trans (List.sublist_cons_self _ _))))))
structure RS4 where
  cs : List Value
  ta : Option Addr
  tc : Nat
  tD : Own
  sa : Option Addr
  sc : Nat
  sD : Own
  ea : Option Addr
  en : Nat
  ec : Nat
  oa : Option Addr
  oc : Nat
  oD : Own
  ol : List OB
abbrev RS4.O (r : RS4) (Q : Own) : Own := r.tD ++ (r.sD ++ (r.oD ++ (ownB r.ol ++ Q)))
structure RS4.ok (r : RS4) (L : List TW) (S : List StM) : Prop where
  sh : Sh8 r.cs
  ht : BufE Thr.enc 58 11 r.ta r.tc (L.map fun y => y.x.th) r.tD
  hs : BufE StM.enc 51 9 r.sa r.sc S r.sD
  ho : BufE OB.enc 52 1 r.oa r.oc r.ol r.oD
  ob : r.ol.map OB.l = L.map fun y => y.x.obs
  hv : ∀ o ∈ r.ol, o.ok
abbrev RS4.vs (r : RS4) (L : List TW) (S : List StM) : List Value := r.cs ++ [.slice r.ta (L.map fun y => y.x.th).length r.tc, .slice r.sa S.length r.sc, .slice r.ea r.en r.ec, .slice r.oa r.ol.length r.oc]
section
variable {W0 : World} {own Q : Own} {c : Cfg} {n : Nat} {p : List Ins} {M : MQ} {m : MS} {S : List StM}
theorem sp_result (hk : M.ok W0 c p m S) (hn : M.L.length ≤ 16) (hS : S.length ≤ 1000) (hob : ∀ y ∈ M.L, y.x.obs.length ≤ 100000) (Q : Own) : Spec Tryz.prog W0 10 [ptr M.b] (M.O c n p m S Q) fun v own' =>
    ∃ r : RS4, (v = .agg (r.vs M.L S).toArray ∧ r.ok M.L S) ∧ Ent W0 own' (r.O Q) := by
  refine spec_of mixed low_machine_Machine_Result (by simp [ir_machine_Machine_Result]) ?_
  have hgn : ∀ g, g = 2 ∨ g = 3 ∨ g = 4 → 0 < M.mh.n g := fun g hg => by
    rw [← hk.hM.ln g (by omega)]
    rcases hg with rfl | rfl | rfl <;> exact Nat.zero_lt_one
  have him := fun Q => sp_image (W0 := W0) hk.hM hgn Q
  have hcs := fun (own' : Own) (m : EntC own' M.sD) => sp_clone_Step (W0 := W0) (own := own') (cap := M.sc) ((hk.hs.rd (W0 := W0)).up) (by omega)
  have htR := hk.ht
  have hle := hk.le
  repeat' ((try (conv => whnf)); first | (refine br_fe ?_ ?_; exact rfl) | ((with_reducible show CallT _ _ _ _ _ _); first | ((refine call_fr (D := M.mh.O m) (him _) ?_ ?_ (fun cs v hv => ?_); (exact rfl); (exact rfl); (obtain ⟨rfl, ⟨a1, a2, a3, a4, a5, n1, c1, n2, c2, n3, c3, n4, c4, n5, c5, x1, x2, x3, rfl⟩⟩ := hv))) | ((refine call_x (hcs _ inferInstance) ?_ ?_ (fun y v hv => ?_); (exact rfl); (exact rfl); (obtain ⟨sa, sc, sD⟩ := y; obtain ⟨rfl, hB⟩ := hv; dsimp only at hB)))) | (apply ld_o; exact rfl) | (apply stN_o; (exact rfl); (exact rfl); exact rfl) | (refine new_i (fun bk hbk => ?_)) | (refine Both.mk ?_ ?_))
  all_goals
    rename_i b2 hb2
    refine loop_i (σ := Nat × (Option Addr × Nat × Own) × (Option Addr × Nat × Own) × List OB) (fun s => [(27, .int .i64 s.1)]) (fun s => (b2, fun z => z = Obj.cells #[.slice none 0 0, .slice none 0 0, .int .u64 0, .int .u64 0, .int .u64 0, .slice none 0 0, .slice none 0 0, .slice none 0 0, .slice none 0 0, .slice none 0 0, .slice none 0 0, .slice none 0 0] 41 (0, 0)) ::
        (bk, fun z => z = Obj.cells #[.slice a1 n1 c1, .slice a2 n2 c2, uv x1, uv x2, uv x3, .slice a3 n3 c3, .slice a4 n4 c4, .slice a5 n5 c5, .slice s.2.1.1 ((M.L.take s.1).map fun y => y.x.th).length s.2.1.2.1, .slice sa S.length sc, .slice none 0 0, .slice s.2.2.1.1 s.2.2.2.length s.2.2.1.2.1] 41 (0, 0)) ::
        (sD ++ (s.2.1.2.2 ++ (s.2.2.1.2.2 ++ (ownB s.2.2.2 ++ M.O c n p m S Q)))))
      (fun s => s.1 ≤ M.L.length ∧ BufE Thr.enc 58 11 s.2.1.1 s.2.1.2.1 ((M.L.take s.1).map fun y => y.x.th) s.2.1.2.2 ∧ BufE OB.enc 52 1 s.2.2.1.1 s.2.2.1.2.1 s.2.2.2 s.2.2.1.2.2 ∧ s.2.2.2.map OB.l = ((M.L.take s.1).map fun y => y.x.obs) ∧ ∀ o ∈ s.2.2.2, o.ok)
      (fun s => M.L.length - s.1) (0, (none, 0, []), (none, 0, []), []) ⟨Nat.zero_le _, BufE.nil, BufE.nil, rfl, fun _ h => (by cases h)⟩ (by repeat' (first | exact True.intro | refine And.intro ?_ ?_ | exact rfl | exact vi (by omega) | (dsimp only; exact rfl) | (dsimp only; exact vi (by omega)))) (by dsimp only [ownB, List.map_nil, List.flatten_nil]; simp only [List.nil_append]; exact (by refine sb_ent ?_; (repeat (first | exact sb_refl | exact sb_nil | refine sb_fr ?_ | refine sb_pu rfl ?_ | refine sb_cons ?_ | refine sb_app ?_)))) rfl ?_
    rintro ⟨i, ⟨tha, thc, thD⟩, ⟨oa, oc, oD⟩, ol⟩ junk ⟨hi, hBt, hBo, hom, hov⟩
    dsimp only at hi hBt hBo hom hov ⊢
    have hll : (M.L.map fun y => y.h.b).length = M.L.length := List.length_map ..
    have htl : ((M.L.take i).map fun y => y.x.th).length = i := by rw [List.length_map, List.length_take]; omega
    have hol : ol.length = i := by have := congrArg List.length hom; rw [List.length_map, List.length_map, List.length_take] at this; omega
    by_cases hlt : i < M.L.length
    · obtain ⟨y, hy⟩ : ∃ y, M.L[i]? = some y := ⟨_, List.getElem?_eq_getElem hlt⟩
      have hlt' : (i : Int) < (M.L.map fun y => y.h.b).length := by omega
      have hb := tb_at hy
      have hym := List.mem_of_getElem? hy
      have hyo := (hk.hL i y hy).ok
      have hyl := hob y hym
      have hm1 : MemC y.h.b (thP c i n p y.h y.x) (TsO c n p 0 M.L) := ⟨TsO_mem hy⟩
      have hm2 : EntC (TsO c n p 0 M.L) y.h.oD := ⟨fun W => TsO_obs hy⟩
      have hst := fun (own' : Own) (mm : MemC y.h.b (thP c i n p y.h y.x) own') => sp_tState (W0 := W0) (own := own') (c := c) (t := i) (n := n) (p := p) (h := y.h) (x := y.x)
      have hso := fun (own' : Own) (mm : MemC y.h.b (thP c i n p y.h y.x) own') (me : EntC own' y.h.oD) => sp_tObs (W0 := W0) (own := own') (c := c) (t := i) (n := n) (p := p) (h := y.h) (x := y.x) hyo.ho (by omega)
      have htk : (M.L.take (i + 1)).map (fun y => y.x.th) = ((M.L.take i).map fun y => y.x.th) ++ [y.x.th] := by rw [List.take_add_one, hy, List.map_append]; rfl
      have htk2 : (M.L.take (i + 1)).map (fun y => y.x.obs) = ((M.L.take i).map fun y => y.x.obs) ++ [y.x.obs] := by rw [List.take_add_one, hy, List.map_append]; rfl
      repeat' ((try (conv => whnf)); first | (apply br_pyE; (exact rfl); omega) | (refine new_i (fun be hbe => ?_)) | (apply app_i (enc := Thr.enc) (T := 58) y.x.th hBt; (exact rfl); (exact rfl); (omega); (exact rfl); (exact rfl); (omega); intro a6 c6 D6 hb6) | (apply app_i (enc := OB.enc) (T := 52) (⟨a8, c8, y.x.obs, D8⟩ : OB) hBo; (exact rfl); (exact rfl); (omega); (exact rfl); (exact rfl); (omega); intro a7 c7 D7 hb7) | ((with_reducible show Ld _ _ _ _); first | (refine ldE0 htR hb rfl ?_)) | ((with_reducible show IxS _ _ _ _ _); first | ((refine ixE htR hb ?_ ?_; (first | rfl | omega)))) | ((with_reducible show CallT _ _ _ _ _ _); first | ((refine call_x (hso _ inferInstance inferInstance) ?_ ?_ (fun y v hv => ?_); (exact rfl); (exact rfl); (obtain ⟨a8, c8, D8⟩ := y; obtain ⟨rfl, hB8⟩ := hv; dsimp only at hB8)))) | ((with_reducible show CallQ _ _ _ _ _ _); first | ((refine call_qi (fun ex => hst _ inferInstance) ?_ ?_ ?_; (exact rfl); (exact rfl)))) | (refine ari ?_ ?_; omega) | (apply ld_o; exact rfl) | (apply st_o; (exact rfl); exact rfl) | (refine Both.mk ?_ ?_))
      all_goals
        refine ⟨(i + 1, (a6, c6, D6), (a7, c7, D7), ol ++ [⟨a8, c8, y.x.obs, D8⟩]), ⟨hlt, by dsimp only; rw [htk]; exact hb6, hb7, by dsimp only; rw [List.map_append, hom, htk2]; rfl, fun o ho => ?_⟩, by simp only; omega, (by repeat' (first | exact True.intro | refine And.intro ?_ ?_ | exact rfl | exact vi (by omega) | (dsimp only; exact rfl) | (dsimp only; exact vi (by omega)))), ?_⟩
        · rcases List.mem_append.1 ho with ho | ho
          · exact hov o ho
          · rw [List.mem_singleton] at ho; subst ho; exact hB8
        · dsimp only
          rw [htk, List.length_append, ownB_snoc, List.length_append]
          simp only [List.append_assoc]
          exact (by refine sb_ent ?_; (repeat (first | exact sb_refl | exact sb_nil | refine sb_fr ?_ | refine sb_pu rfl ?_ | refine sb_cons ?_ | refine sb_app ?_)))
    · obtain rfl : i = M.L.length := by omega
      have hlt' : ¬ (M.L.length : Int) < (M.L.map fun y => y.h.b).length := by omega
      rw [List.take_length] at hBt hom htl ⊢
      repeat' ((try (conv => whnf)); first | (apply br_pnE; (exact rfl); omega) | (apply ld_o; exact rfl))
      refine loop_i (σ := Nat × Option Addr × Nat × Own × List EH) (fun s => [(51, .int .i64 s.1)]) (fun s => (b2, fun z => z = Obj.cells #[.slice none 0 0, .slice none 0 0, .int .u64 0, .int .u64 0, .int .u64 0, .slice none 0 0, .slice none 0 0, .slice none 0 0, .slice none 0 0, .slice none 0 0, .slice none 0 0, .slice none 0 0] 41 (0, 0)) ::
          (bk, fun z => z = Obj.cells #[.slice a1 n1 c1, .slice a2 n2 c2, uv x1, uv x2, uv x3, .slice a3 n3 c3, .slice a4 n4 c4, .slice a5 n5 c5, .slice tha (M.L.map fun y => y.x.th).length thc, .slice sa S.length sc, .slice s.2.1 s.2.2.2.2.length s.2.2.1, .slice oa ol.length oc] 41 (0, 0)) ::
          (sD ++ (thD ++ (oD ++ (ownB ol ++ (s.2.2.2.1 ++ M.O c n p m S Q))))))
        (fun s => s.1 ≤ M.el.length ∧ BufE EH.enc 79 6 s.2.1 s.2.2.1 s.2.2.2.2 s.2.2.2.1 ∧ s.2.2.2.2.length = s.1) (fun s => M.el.length - s.1) (0, none, 0, [], []) ⟨Nat.zero_le _, BufE.nil, rfl⟩ (by repeat' (first | exact True.intro | refine And.intro ?_ ?_ | exact rfl | exact vi (by omega) | (dsimp only; exact rfl) | (dsimp only; exact vi (by omega)))) (by simp only [List.nil_append]; exact (by refine sb_ent ?_; (repeat (first | exact sb_refl | exact sb_nil | refine sb_fr ?_ | refine sb_pu rfl ?_ | refine sb_cons ?_ | refine sb_app ?_)))) rfl ?_
      rintro ⟨j, ea, ec, eD, el⟩ junk2 ⟨hj, hBe, hell⟩
      dsimp only at hj hBe hell ⊢
      by_cases hjt : j < M.el.length
      · obtain ⟨e, he⟩ : ∃ e, M.el[j]? = some e := ⟨_, List.getElem?_eq_getElem hjt⟩
        have hjt' : (j : Int) < M.el.length := by omega
        have hev := hk.hv e (List.mem_of_getElem? he)
        have heR := hk.he.rd (W0 := W0)
        have hcr := fun (own' : Own) (mm : EntC own' M.gD) => sp_clone_int (W0 := W0) (own := own') (cap := e.rc) (hev.1.1.up) (by omega)
        have hcw := fun (own' : Own) (mm : EntC own' M.gD) => sp_clone_int (W0 := W0) (own := own') (cap := e.wc) (hev.1.2.up) (by omega)
        repeat' ((try (conv => whnf)); first | (apply br_pyE; (exact rfl); omega) | (refine new_i (fun be hbe => ?_)) | (apply app_i (enc := EH.enc) (T := 79) { e with ra := ra, rc := rc, wa := wa, wc := wc } hBe; (exact rfl); (exact rfl); (omega); (exact rfl); (exact rfl); (omega); intro a6 c6 D6 hb6) | ((with_reducible show IxS _ _ _ _ _); first | ((refine ixE heR he ?_ ?_; (first | rfl | omega)))) | ((with_reducible show LdN _ _ _ _ _); first | (refine ldNEi heR he rfl ?_)) | ((with_reducible show CallT _ _ _ _ _ _); first | ((refine call_x (hcr _ inferInstance) ?_ ?_ (fun y v hv => ?_); (exact rfl); (exact rfl); (obtain ⟨ra, rc, rD⟩ := y; obtain ⟨rfl, -⟩ := hv))) | ((refine call_x (hcw _ inferInstance) ?_ ?_ (fun y v hv => ?_); (exact rfl); (exact rfl); (obtain ⟨wa, wc, wD⟩ := y; obtain ⟨rfl, -⟩ := hv)))) | (refine ari ?_ ?_; omega) | (apply ld_o; exact rfl) | (apply ldN_a; exact rfl) | (apply st_o; (exact rfl); exact rfl) | (apply stN_o; (exact rfl); (exact rfl); exact rfl) | (refine Both.mk ?_ ?_))
        all_goals exact ⟨(j + 1, a6, c6, D6, el ++ [{ e with ra := ra, rc := rc, wa := wa, wc := wc }]), ⟨hjt, hb6, by dsimp only; rw [List.length_append, hell]; rfl⟩, by simp only; omega, (by repeat' (first | exact True.intro | refine And.intro ?_ ?_ | exact rfl | exact vi (by omega) | (dsimp only; exact rfl) | (dsimp only; exact vi (by omega)))), by dsimp only; rw [List.length_append]; exact (by refine sb_ent ?_; (repeat (first | exact sb_refl | exact sb_nil | refine sb_fr ?_ | refine sb_pu rfl ?_ | refine sb_cons ?_ | refine sb_app ?_)))⟩
      · obtain rfl : j = M.el.length := by omega
        have hjt' : ¬ (M.el.length : Int) < M.el.length := by omega
        repeat' ((try (conv => whnf)); first | (apply br_pnE; (exact rfl); omega) | (apply ldN_a; exact rfl) | (apply stN_o; (exact rfl); (exact rfl); exact rfl))
        all_goals exact ⟨⟨[.slice a1 n1 c1, .slice a2 n2 c2, uv x1, uv x2, uv x3, .slice a3 n3 c3, .slice a4 n4 c4, .slice a5 n5 c5], tha, thc, thD, sa, sc, sD, ea, el.length, ec, oa, oc, oD, ol⟩, ⟨rfl, ⟨⟨_, _, _, _, _, _, _, _, _, _, _, _, _, _, _, _, _, _, rfl⟩, hBt, hB, hBo, hom, hov⟩⟩, by unfold RS4.O; exact (by refine sb_ent ?_; (repeat (first | exact sb_refl | exact sb_nil | refine sb_fr ?_ | refine sb_pu rfl ?_ | refine sb_cons ?_ | refine sb_app ?_)))⟩
end
end Go.Proofs.YtllddgdmmfmpkaaGreatDoor
