/- Traces: what happens before what, in plain lists. No condition. -/
import Derived.Test.YtofjnldidkiihaaDoorVk
namespace Go.Proofs.YtofjnldidkiihaaDoor
open Go
set_option maxRecDepth 10000

/-- An event, and where its lists lie. -/
structure EH where
  ev : Int
  t : Int
  k : Int
  w : Int
  ra : Option Addr
  rl : List Int
  rc : Nat
  wa : Option Addr
  wl : List Int
  wc : Nat
abbrev EH.enc (e : EH) : List Value := [.int .i64 e.ev, .int .i64 e.t, .int .i64 e.k, .int .i64 e.w, .slice e.ra e.rl.length e.rc, .slice e.wa e.wl.length e.wc]
abbrev EH.v (e : EH) : Value := .agg #[.int .i64 e.ev, .int .i64 e.t, .int .i64 e.k, .int .i64 e.w, .slice e.ra e.rl.length e.rc, .slice e.wa e.wl.length e.wc]
def inW (x : Int) : Bool := decide (0 ≤ x ∧ x < 64)
/-- An event fits behind a trace. -/
def fitsM (n : Nat) (first : Bool) (pa last : Int) (e : EH) : Bool :=
  decide (0 ≤ e.t ∧ e.t < n ∧ 1 ≤ e.k ∧ e.k ≤ 4 ∧ (first = true ∨ pa ≤ e.ev) ∧ 0 ≤ e.w ∧ e.w < 64) && e.rl.all inW && e.wl.all inW && (if e.k = 4 then decide (last = 3) else decide (e.rl = [] ∧ e.wl = []))
/-- The first event that does not fit. -/
def chkG (n : Nat) : List EH → Nat → Int → List Int → Int × Int
  | [], _, _, _ => (0, 0)
  | e :: l, i, pa, last => if fitsM n (i == 0) pa (last.getD e.t.toNat 0) e then chkG n l (i + 1) e.ev (last.set e.t.toNat e.k) else (i, 91)
def chkE (l : List EH) (n : Int) : Int × Int := if n < 1 ∨ 16 < n then (0, 54) else if 65536 < l.length then (0, 3) else chkG n.toNat l 0 0 (List.replicate n.toNat 0)

/- PLACES OF A TRACE -/
def eh0 : EH := ⟨0, 0, 0, 0, none, [], 0, none, [], 0⟩
abbrev at' (l : List EH) (i : Nat) : EH := l.getD i eh0
abbrev thr (l : List EH) (i : Nat) : Int := (at' l i).t
abbrev knd (l : List EH) (i : Nat) : Int := (at' l i).k
def isEnd (l : List EH) (i : Nat) : Prop := knd l i = 4
/-- The event of the same thread ahead of this one. -/
def prevT (l : List EH) (i p : Nat) : Prop := p < i ∧ thr l p = thr l i ∧ ∀ q, p < q → q < i → thr l q ≠ thr l i
/-- What a well-formed trace has. -/
structure Wf (l : List EH) (n : Nat) : Prop where
  kd : ∀ i, i < l.length → 1 ≤ knd l i ∧ knd l i ≤ 4 ∧ 0 ≤ thr l i ∧ thr l i < n ∧ inW (at' l i).w = true ∧ (at' l i).rl.all inW = true ∧ (at' l i).wl.all inW = true
  en : ∀ i, i < l.length → knd l i = 4 → ∃ p, prevT l i p ∧ knd l p = 3
  pl : ∀ i, i < l.length → knd l i ≠ 4 → (at' l i).rl = [] ∧ (at' l i).wl = []
/-- Plain accesses, ends, and begins that have their end. -/
def cntP (l : List EH) (i : Nat) : Prop := i < l.length ∧ (knd l i ≠ 3 ∨ ∃ e, e < l.length ∧ prevT l e i ∧ knd l e = 4)
def plainP (l : List EH) (i : Nat) : Prop := knd l i = 1 ∨ knd l i = 2
/-- Happens before. -/
def HB (l : List EH) (i j : Nat) : Prop := i < j ∧ cntP l i ∧ cntP l j ∧
  (thr l i = thr l j ∨ (plainP l j ∧ ∃ e f, i ≤ e ∧ e < f ∧ f < j ∧ knd l e = 4 ∧ knd l f = 4 ∧ thr l e = thr l i ∧ thr l f = thr l j) ∨ (¬plainP l j ∧ ∃ e, i ≤ e ∧ e < j ∧ knd l e = 4 ∧ thr l e = thr l i))
/-- What is ordered at once. -/
def DI (l : List EH) (i j : Nat) : Prop := i < j ∧ cntP l i ∧ cntP l j ∧ (thr l i = thr l j ∨ (knd l i = 4 ∧ (knd l j = 4 ∨ knd l j = 3)))

theorem kinds {l : List EH} {n : Nat} (h : Wf l n) {i : Nat} (hi : i < l.length) : knd l i = 1 ∨ knd l i = 2 ∨ knd l i = 3 ∨ knd l i = 4 := by
  have := h.kd i hi
  omega
theorem DI.hb {l : List EH} {i j : Nat} (d : DI l i j) : HB l i j := by
  obtain ⟨h1, h2, h3, h4⟩ := d
  refine ⟨h1, h2, h3, ?_⟩
  rcases h4 with h4 | ⟨h4, h5⟩
  · exact .inl h4
  · refine .inr (.inr ⟨?_, i, Nat.le_refl i, h1, h4, rfl⟩)
    unfold plainP
    omega
/-- Between a begin that counts and a later event of its thread lies its end, or the event is it. -/
theorem end_of {l : List EH} {i j : Nat} (hc : cntP l i) (h3 : knd l i = 3) (hij : i < j) (ht : thr l i = thr l j) : ∃ f, i < f ∧ f ≤ j ∧ knd l f = 4 ∧ thr l f = thr l j := by
  obtain ⟨_, h | ⟨e, he, ⟨hp1, hp2, hp3⟩, hk⟩⟩ := hc
  · exact absurd h3 h
  · refine ⟨e, hp1, ?_, hk, by rw [← hp2, ht]⟩
    by_cases hle : e ≤ j
    · exact hle
    · exact absurd (by rw [← hp2, ht]) (hp3 j hij (by omega))
theorem HB.trans {l : List EH} {n : Nat} (h : Wf l n) {i j k : Nat} (a : HB l i j) (b : HB l j k) : HB l i k := by
  obtain ⟨h1, h2, h3, h4⟩ := a
  obtain ⟨g1, g2, g3, g4⟩ := b
  refine ⟨by omega, h2, g3, ?_⟩
  by_cases hik : thr l i = thr l k
  · exact .inl hik
  · right
    -- an end of i's thread, from i on, ahead of k; and, if k is plain, an end of k's thread behind it
    have key : (∃ e, i ≤ e ∧ e < k ∧ knd l e = 4 ∧ thr l e = thr l i ∧ (plainP l k → ∃ f, e < f ∧ f < k ∧ knd l f = 4 ∧ thr l f = thr l k)) := by
      rcases g4 with g4 | ⟨gp, e, f, he1, he2, he3, he4, he5, he6, he7⟩ | ⟨gp, e, he1, he2, he3, he4⟩
      · -- j and k of one thread
        rcases h4 with h4 | ⟨hp, e, f, he1, he2, he3, he4, he5, he6, he7⟩ | ⟨hp, e, he1, he2, he3, he4⟩
        · exact absurd (h4.trans g4) hik
        · exact ⟨e, he1, by omega, he4, he6, fun _ => ⟨f, he2, by omega, he5, he7.trans g4⟩⟩
        · refine ⟨e, he1, by omega, he3, he4, fun hpk => ?_⟩
          have hj3 := kinds h h3.1
          unfold plainP at hp
          by_cases hj4 : knd l j = 4
          · exact ⟨j, he2, g1, hj4, g4⟩
          · obtain ⟨f, hf1, hf2, hf3, hf4⟩ := end_of h3 (by omega) g1 g4
            refine ⟨f, by omega, ?_, hf3, hf4⟩
            by_cases hfk : f = k
            · subst hfk; unfold plainP at hpk; omega
            · omega
      · -- k plain, another thread than j
        rcases h4 with h4 | ⟨hp, e', f', he1', he2', he3', he4', he5', he6', he7'⟩ | ⟨hp, e', he1', he2', he3', he4'⟩
        · exact ⟨e, by omega, by omega, he4, he6.trans h4.symm, fun _ => ⟨f, he2, he3, he5, he7⟩⟩
        · exact ⟨e', he1', by omega, he4', he6', fun _ => ⟨f, by omega, he3, he5, he7⟩⟩
        · exact ⟨e', he1', by omega, he3', he4', fun _ => ⟨f, by omega, he3, he5, he7⟩⟩
      · rcases h4 with h4 | ⟨hp, e', f', he1', he2', he3', he4', he5', he6', he7'⟩ | ⟨hp, e', he1', he2', he3', he4'⟩
        · exact ⟨e, by omega, by omega, he3, he4.trans h4.symm, fun h => absurd h gp⟩
        · exact ⟨e', he1', by omega, he4', he6', fun h => absurd h gp⟩
        · exact ⟨e', he1', by omega, he3', he4', fun h => absurd h gp⟩
    obtain ⟨e, he1, he2, he3, he4, he5⟩ := key
    by_cases hp : plainP l k
    · obtain ⟨f, hf1, hf2, hf3, hf4⟩ := he5 hp
      exact .inl ⟨hp, e, f, he1, hf1, hf2, he3, hf3, he4, hf4⟩
    · exact .inr ⟨hp, e, he1, he2, he3, he4⟩
theorem cnt_end {l : List EH} {e : Nat} (he : e < l.length) (h4 : knd l e = 4) : cntP l e := ⟨he, .inl (by omega)⟩
/-- Whatever holds what is ordered at once, and each step by way of an end, holds happens-before. -/
theorem HB.of {l : List EH} {n : Nat} (h : Wf l n) {R : Nat → Nat → Prop} (hd : ∀ i j, DI l i j → R i j) (hs : ∀ i e j, knd l e = 4 → i < e → e < j → R i e → R e j → R i j) {i j : Nat} (b : HB l i j) : R i j := by
  obtain ⟨h1, h2, h3, h4⟩ := b
  have hjl := h3.1
  rcases h4 with h4 | ⟨hp, e, f, he1, he2, he3, he4, he5, he6, he7⟩ | ⟨hp, e, he1, he2, he3, he4⟩
  · exact hd i j ⟨h1, h2, h3, .inl h4⟩
  · have ce := cnt_end (by omega : e < l.length) he4
    have cf := cnt_end (by omega : f < l.length) he5
    have r1 : R e f := hd e f ⟨he2, ce, cf, .inr ⟨he4, .inl he5⟩⟩
    have r2 : R f j := hd f j ⟨he3, cf, h3, .inl he7⟩
    have r3 : R e j := hs e f j he5 he2 he3 r1 r2
    by_cases hie : i = e
    · subst hie; exact r3
    · exact hs i e j he4 (by omega) (by omega) (hd i e ⟨by omega, h2, ce, .inl he6.symm⟩) r3
  · have ce := cnt_end (by omega : e < l.length) he3
    have hj := kinds h hjl
    unfold plainP at hp
    have r1 : R e j := hd e j ⟨he2, ce, h3, .inr ⟨he3, by omega⟩⟩
    by_cases hie : i = e
    · subst hie; exact r1
    · exact hs i e j he3 (by omega) he2 (hd i e ⟨by omega, h2, ce, .inl he4.symm⟩) r1

/- THE CLOSURE: steps by way of 0, 1, .. -/
def stepK (h : Nat → Nat → Bool) (k : Nat) : Nat → Nat → Bool := fun i j => if i < k ∧ k < j ∧ h i k = true then h i j || h k j else h i j
def clos (h : Nat → Nat → Bool) : Nat → Nat → Nat → Bool
  | 0 => h
  | k + 1 => stepK (clos h k) k
theorem stepK_mono {h : Nat → Nat → Bool} {k i j : Nat} (hh : h i j = true) : stepK h k i j = true := by
  unfold stepK
  split
  · rw [hh]; rfl
  · exact hh
theorem clos_mono {h : Nat → Nat → Bool} {i j : Nat} : ∀ (a d : Nat), clos h a i j = true → clos h (a + d) i j = true
  | _, 0, hh => hh
  | a, d + 1, hh => stepK_mono (clos_mono a d hh)
theorem clos_sub {l : List EH} {n : Nat} (hw : Wf l n) {h : Nat → Nat → Bool} (h0 : ∀ i j, h i j = true → DI l i j) : ∀ k i j, clos h k i j = true → HB l i j
  | 0, i, j, hh => (h0 i j hh).hb
  | k + 1, i, j, hh => by
    unfold clos stepK at hh
    split at hh
    · rename_i hc
      rcases Bool.or_eq_true _ _ ▸ hh with h1 | h1
      · exact clos_sub hw h0 k i j h1
      · exact (clos_sub hw h0 k i k hc.2.2).trans hw (clos_sub hw h0 k k j h1)
    · exact clos_sub hw h0 k i j hh
/-- What is true of a pair whose second place is not passed yet stays; behind a place e all that goes by way of it is there. -/
theorem clos_by {h : Nat → Nat → Bool} {i e j m : Nat} (h1 : i < e) (h2 : e < j) (hie : clos h e i e = true) (hej : clos h e e j = true) (hm : e < m) : clos h m i j = true := by
  have : clos h (e + 1) i j = true := by
    show stepK (clos h e) e i j = true
    unfold stepK
    rw [if_pos ⟨h1, h2, hie⟩, hej, Bool.or_true]
  have e2 : m = e + 1 + (m - (e + 1)) := by omega
  rw [e2]
  exact clos_mono _ _ this
theorem clos_hb {l : List EH} {n : Nat} (hw : Wf l n) {h : Nat → Nat → Bool} (h0 : ∀ i j, h i j = true ↔ DI l i j) (i j : Nat) : clos h l.length i j = true ↔ HB l i j := by
  refine ⟨clos_sub hw (fun i j hh => (h0 i j).1 hh) _ i j, fun b => ?_⟩
  -- R: true at the latest when the second place is reached, or, for a way by an end, behind it
  have hdir : ∀ {i j : Nat} (m : Nat), DI l i j → clos h m i j = true := fun {i j} m d => by
    have := clos_mono (h := h) 0 m ((h0 i j).2 d)
    rwa [Nat.zero_add] at this
  obtain ⟨b1, b2, b3, b4⟩ := b
  have hjl := b3.1
  rcases b4 with b4 | ⟨hp, e, f, he1, he2, he3, he4, he5, he6, he7⟩ | ⟨hp, e, he1, he2, he3, he4⟩
  · exact hdir _ ⟨b1, b2, b3, .inl b4⟩
  · have ce := cnt_end (by omega : e < l.length) he4
    have cf := cnt_end (by omega : f < l.length) he5
    have def' : DI l e f := ⟨he2, ce, cf, .inr ⟨he4, .inl he5⟩⟩
    have dfj : DI l f j := ⟨he3, cf, b3, .inl he7⟩
    by_cases hie : i = e
    · subst hie
      exact clos_by he2 he3 (hdir _ def') (hdir _ dfj) (by omega)
    · have die : DI l i e := ⟨by omega, b2, ce, .inl he6.symm⟩
      have hif : clos h f i f = true := clos_by (by omega) he2 (hdir _ die) (hdir _ def') he2
      exact clos_by (by omega) he3 hif (hdir _ dfj) (by omega)
  · have ce := cnt_end (by omega : e < l.length) he3
    have hj := kinds hw hjl
    unfold plainP at hp
    have dej : DI l e j := ⟨he2, ce, b3, .inr ⟨he3, by omega⟩⟩
    by_cases hie : i = e
    · subst hie; exact hdir _ dej
    · exact clos_by (by omega) he2 (hdir _ ⟨by omega, b2, ce, .inl he4.symm⟩) (hdir _ dej) (by omega)
end Go.Proofs.YtofjnldidkiihaaDoor
