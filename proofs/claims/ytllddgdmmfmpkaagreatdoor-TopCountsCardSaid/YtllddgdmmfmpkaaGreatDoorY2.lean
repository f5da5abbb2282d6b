/- What the laws share, part 2. No condition. -/
import Derived.Test.YtllddgdmmfmpkaaGreatDoorY1
namespace Go.Proofs.YtllddgdmmfmpkaaGreatDoor
set_option maxRecDepth 10000
def RB (x : Int) : Prop := 0 ≤ x ∧ x ≤ 100000
def RP : Ph → Prop
  | .en2 rv => RB rv
  | .act rv => RB rv
  | .rd1 rv w => RB rv ∧ RB w
  | .rd2 rv w val => RB rv ∧ RB w ∧ RB val
  | .lk0 rv => RB rv
  | .lk1 rv w => RB rv ∧ RB w
  | .tn0 rv old => RB rv ∧ RB old
  | .tn1 rv old tk => RB rv ∧ RB old ∧ RB tk
  | .chk rv old tk => RB rv ∧ RB old ∧ RB tk
  | .dec rv old tk => RB rv ∧ RB old ∧ RB tk
  | .wrt rv old tk clk => RB rv ∧ RB old ∧ RB tk ∧ RB clk
  | .rel rv tk w clk _ => RB rv ∧ RB tk ∧ RB w ∧ RB clk
  | .stm rv tk clk => RB rv ∧ RB tk ∧ RB clk
  | .pas rv tk _ => RB rv ∧ RB tk
  | .lev rv _ => RB rv
  | _ => True
structure RI (k : Nat) (x : TS) : Prop where
  r1 : RB x.r1
  s1 : RB x.s1
  r2 : RB x.r2
  s2 : RB x.s2
  oc : RB x.oc
  lg : ∀ l, x.lg = some l → RB l
  ph : RP x.ph
  ct : x.ct ≤ k
  ob : x.obs.length ≤ 2 * k
  se : x.seen.length ≤ 1
  sk : SI x
structure MI (n k : Nat) (m : TM) : Prop where
  c0 : 0 ≤ m.ck
  c1 : m.ck ≤ k
  s0 : 0 ≤ m.sv
  t1 : m.tk ≤ k
  sl : m.sl.length = n
theorem RI.up {k : Nat} {x : TS} (h : RI k x) : RI (k + 1) x :=
  ⟨h.r1, h.s1, h.r2, h.s2, h.oc, h.lg, h.ph, Nat.le_succ_of_le h.ct, by have := h.ob; omega, h.se, h.sk⟩
theorem MI.up {n k : Nat} {m : TM} (h : MI n k m) : MI n (k + 1) m := ⟨h.c0, by have := h.c1; omega, h.s0, by have := h.t1; omega, h.sl⟩
section
variable {R n t k : Nat} {m : TM} {X : Nat → TS} {V : Int} {Mo : Nat}
theorem GI.nums (h : GI R n m X V Mo) (hm : MI n k m) (hk : k ≤ 300) : RB m.d ∧ RB m.o ∧ RB m.ck ∧ RB m.tk ∧ RB m.sv ∧ RB (m.tk + 1) ∧ RB ((m.ck + 1) * 64) ∧ RB (m.ck + 1) ∧ 0 ≤ V ∧ V ≤ 301 := by
  have h1 := hm.c0
  have h2 := hm.c1
  have h3 := hm.s0
  have h4 := hm.t1
  have h5 := h.svt
  have h6 := h.n16
  have hV : m.ck ≤ V ∧ V ≤ m.ck + 1 ∧ 100 ≤ m.d ∧ m.d ≤ m.ck + 101 := by rcases h.md with ⟨-, a, b, -⟩ | ⟨-, a, b, -⟩ | ⟨-, a, b, -⟩ <;> omega
  have ho : 64 * V ≤ m.o ∧ m.o ≤ 64 * V + 17 := by rcases h.lk with ⟨a, -⟩ | ⟨u, hu, -, -, a⟩ <;> omega
  unfold RB
  omega
theorem ri_step (h : GI R n m X V Mo) (ht : t < n) (hm : MI n k m) (hk : k ≤ 300) (hr : RI k (X t)) : RI (k + 1) (stepT t m (X t)).2.1 ∧ MI n (k + 1) (stepT t m (X t)).1 := by
  obtain ⟨n1, n2, n3, n4, n5, n6, n7, n8, -, -⟩ := h.nums hm hk
  have hI := h.pi t ht
  have hT := h.th t ht
  have hs := si_step (t := t) (m := m) (X t) hr.sk
  have hmu := hm.up
  generalize hX : X t = x at hI hT hr hs ⊢
  obtain ⟨c0, c1, s0, t1, sl⟩ := hm
  obtain ⟨pc, rr1, rr2, oo, bg, ss1, ss2, tr, ct, obs, seen, lg, ph⟩ := x
  obtain ⟨r1, s1, r2, s2, oc, hlg, hph, hct, hob, hse, hsk⟩ := hr
  dsimp only at r1 s1 r2 s2 oc hlg hph hct hob hse
  have one : RB 1 := ⟨by omega, by omega⟩
  have up : RI (k + 1) ⟨pc, rr1, rr2, oo, bg, ss1, ss2, tr, ct, obs, seen, lg, .idle⟩ := ⟨r1, s1, r2, s2, oc, hlg, trivial, by dsimp only; omega, by dsimp only; omega, hse, hsk⟩
  have sln : ∀ v, (m.sl.set t v).length = n := fun v => by rw [List.length_set]; exact sl
  cases ph with
  | idle =>
    dsimp only [stepT] at hs ⊢
    revert hs; split <;> intro hs
    · exact ⟨⟨r1, s1, one, s2, oc, hlg, trivial, up.ct, up.ob, hse, hs⟩, hmu⟩
    · exact ⟨⟨r1, r1, r2, r2, oc, (fun l hl => by cases hl), trivial, by dsimp only; omega, up.ob, Nat.zero_le _, hs⟩, ⟨c0, hmu.c1, s0, hmu.t1, sln _⟩⟩
  | en1 => exact ⟨⟨r1, s1, r2, s2, oc, hlg, n3, up.ct, up.ob, hse, hs⟩, hmu⟩
  | en2 rv => exact ⟨⟨r1, s1, r2, s2, oc, hlg, hph, up.ct, up.ob, hse, hs⟩, ⟨c0, hmu.c1, s0, hmu.t1, sln _⟩⟩
  | act rv =>
    obtain ⟨hI, hB⟩ : (pc = bg + 1 ∨ pc = bg + 2 ∨ pc = bg + 3 ∨ pc = bg + 4) ∧ BB R _ := hI
    obtain ⟨hrv, hT⟩ : rv ≤ m.ck ∧ (pc = bg + 1 ∨ ∃ k, KF m V k rv ∧ ((pc = bg + 2 ∧ rr1 = 100 + k) ∨ (pc = bg + 3 ∧ rr1 = 101 + k) ∨ (pc = bg + 4 ∧ lg = some (101 + k)))) := hT
    unfold BB at hB
    dsimp only at hB
    have hph : RB rv := hph
    dsimp only [stepT] at hs ⊢
    by_cases c2 : pc % 6 = 2
    · rw [if_pos c2] at hs ⊢
      dsimp only at hs ⊢
      refine ⟨⟨r1, s1, r2, s2, oc, hlg, ?_, up.ct, up.ob, hse, hs⟩, hmu⟩
      dsimp only
      split
      · exact hph
      · exact ⟨hph, n2⟩
    · rw [if_neg c2] at hs ⊢
      by_cases c3 : pc % 6 = 3
      · rw [if_pos c3] at hs ⊢
        refine ⟨⟨?_, s1, r2, s2, oc, hlg, hph, up.ct, up.ob, hse, hs⟩, hmu⟩
        obtain ⟨j, ⟨hj, hj2, -⟩, hT⟩ := hT.resolve_left (by omega)
        have : rr1 = 100 + j := by rcases hT with hT | hT | hT <;> omega
        unfold RB at r1 r2 ⊢
        dsimp only
        omega
      · rw [if_neg c3] at hs ⊢
        by_cases c4 : pc % 6 = 4
        · rw [if_pos c4] at hs ⊢
          exact ⟨⟨r1, s1, r2, s2, oc, (fun l hl => by injection hl with hl; subst hl; exact r1), hph, up.ct, up.ob, hse, hs⟩, hmu⟩
        · rw [if_neg c4] at hs ⊢
          exact ⟨⟨r1, s1, r2, s2, oc, hlg, hph, up.ct, up.ob, hse, hs⟩, hmu⟩
  | rd1 rv w => exact ⟨⟨r1, s1, r2, s2, oc, hlg, ⟨hph.1, hph.2, n1⟩, up.ct, up.ob, hse, hs⟩, hmu⟩
  | rd2 rv w val =>
    dsimp only [stepT] at hs ⊢
    revert hs; split <;> intro hs
    · exact ⟨⟨hph.2.2, s1, r2, s2, oc, hlg, hph.1, up.ct, up.ob, Nat.le_refl _, hs⟩, hmu⟩
    · exact ⟨⟨r1, s1, r2, s2, oc, hlg, hph.1, up.ct, up.ob, hse, hs⟩, hmu⟩
  | lk0 rv =>
    refine ⟨⟨r1, s1, r2, s2, oc, hlg, ?_, up.ct, up.ob, hse, hs⟩, hmu⟩
    have hph : RB rv := hph
    dsimp only [stepT]
    split
    · exact ⟨hph, n2⟩
    · exact hph
  | lk1 rv w =>
    dsimp only [stepT] at hs ⊢
    revert hs; split <;> intro hs
    · exact ⟨⟨r1, s1, r2, s2, oc, hlg, hph, up.ct, up.ob, hse, hs⟩, ⟨c0, hmu.c1, s0, hmu.t1, sl⟩⟩
    · exact ⟨⟨r1, s1, r2, s2, oc, hlg, hph.1, up.ct, up.ob, hse, hs⟩, hmu⟩
  | tn0 rv old => exact ⟨⟨r1, s1, r2, s2, oc, hlg, ⟨hph.1, hph.2, n4⟩, up.ct, up.ob, hse, hs⟩, ⟨c0, hmu.c1, s0, by show m.tk + 1 ≤ _; omega, sl⟩⟩
  | tn1 rv old tk =>
    refine ⟨⟨r1, s1, r2, s2, oc, hlg, ?_, up.ct, up.ob, hse, hs⟩, hmu⟩
    dsimp only [stepT]
    split
    · exact hph
    · exact hph
  | chk rv old tk =>
    refine ⟨⟨r1, s1, r2, s2, oc, hlg, ?_, up.ct, up.ob, hse, hs⟩, hmu⟩
    dsimp only [stepT]
    split
    · exact ⟨hph.1, hph.2.2, hph.2.1, by omega, by omega⟩
    · exact hph
  | dec rv old tk => exact ⟨⟨r1, s1, r2, s2, oc, hlg, ⟨hph.1, hph.2.1, hph.2.2, n3⟩, up.ct, up.ob, hse, hs⟩, hmu⟩
  | wrt rv old tk clk =>
    have hT : clk = m.ck ∧ lg = some (101 + m.ck) := hT
    obtain ⟨rfl, -⟩ := hT
    exact ⟨⟨r1, s1, r2, s2, oc, hlg, ⟨hph.1, hph.2.2.1, n7, n3⟩, up.ct, up.ob, hse, hs⟩, hmu.c0, hmu.c1, hmu.s0, hmu.t1, sl⟩
  | rel rv tk w clk ok =>
    refine ⟨⟨r1, s1, r2, s2, oc, hlg, ?_, up.ct, up.ob, hse, hs⟩, hmu.c0, hmu.c1, hmu.s0, hmu.t1, sl⟩
    cases ok with
    | true => exact ⟨hph.1, hph.2.1, hph.2.2.2⟩
    | false => exact ⟨hph.1, hph.2.1⟩
  | stm rv tk clk =>
    have hT : clk = m.ck := hT
    subst hT
    exact ⟨⟨r1, s1, r2, s2, oc, hlg, ⟨hph.1, hph.2.1⟩, up.ct, up.ob, hse, hs⟩, ⟨by show 0 ≤ m.ck + 1; omega, by show m.ck + 1 ≤ _; omega, s0, hmu.t1, sl⟩⟩
  | pas rv tk ok =>
    have h2 : RB tk := hph.2
    exact ⟨⟨r1, s1, r2, s2, oc, hlg, hph.1, up.ct, up.ob, hse, hs⟩, ⟨c0, hmu.c1, by show 0 ≤ tk + 1; unfold RB at h2; omega, hmu.t1, sl⟩⟩
  | lev rv ok =>
    dsimp only [stepT] at hs ⊢
    unfold endT at hs ⊢
    dsimp only at hs ⊢
    have hn : ∀ l : Int, (none : Option Int) = some l → RB l := fun l hl => by cases hl
    have five : RB 5 := ⟨by omega, by omega⟩
    revert hs; split <;> intro hs
    · exact ⟨⟨r1, s1, r2, s2, one, hn, trivial, up.ct, by simp only [List.length_append, List.length_cons, List.length_nil]; omega, hse, hs⟩, ⟨c0, hmu.c1, s0, hmu.t1, sln _⟩⟩
    · revert hs; split <;> intro hs
      · exact ⟨⟨s1, s1, s2, s2, oc, hn, trivial, up.ct, up.ob, hse, hs⟩, ⟨c0, hmu.c1, s0, hmu.t1, sln _⟩⟩
      · exact ⟨⟨s1, s1, s2, s2, five, hn, trivial, up.ct, by simp only [List.length_append, List.length_cons, List.length_nil]; omega, hse, hs⟩, ⟨c0, hmu.c1, s0, hmu.t1, sln _⟩⟩
end
end Go.Proofs.YtllddgdmmfmpkaaGreatDoor
namespace Go.Proofs.YtllddgdmmfmpkaaGreatDoor
set_option maxRecDepth 10000
def runT (R : Nat) : List Nat → TM → (Nat → TS) → TM × (Nat → TS) × List (Nat × TE × Bool × Nat)
  | [], m, X => (m, X, [])
  | t :: l, m, X => if (X t).pc = 6 * R then runT R l m X else
    let r := stepT t m (X t)
    let z := runT R l r.1 (setX X t r.2.1)
    (z.1, z.2.1, (t, r.2.2, decide (r.2.2.ph = 0 ∧ (X t).pc % 6 = 0), r.2.1.ct) :: z.2.2)
def scT : List TE → Int → Int → Bool → Option Int
  | [], _, c, _ => some c
  | e :: l, v, c, w =>
    let v' := if e.ph = 17 then e.put else v
    let c' := if e.ph = 17 then c else if e.ph = 19 then c + 1 else c
    let w' := if e.ph = 17 then true else if e.ph = 19 then false else w
    if w' = false ∧ v' ≠ 100 + c' then none else scT l v' c' w'
structure WI (R n k : Nat) (m : TM) (X : Nat → TS) (Mo : Nat) : Prop where
  gi : ∃ V, GI R n m X V Mo
  mi : MI n k m
  ri : ∀ t, t < n → RI k (X t)
section
variable {R n t k : Nat} {m : TM} {X : Nat → TS} {Mo : Nat}
theorem WI.up (h : WI R n k m X Mo) : WI R n (k + 1) m X Mo := ⟨h.gi, h.mi.up, fun t ht => (h.ri t ht).up⟩
theorem wi_step (h : WI R n k m X Mo) (ht : t < n) (hk : k ≤ 300) (hd : (X t).pc ≠ 6 * R) :
    ∃ Mo', WI R n (k + 1) (stepT t m (X t)).1 (setX X t (stepT t m (X t)).2.1) Mo' ∧ Sc m (stepT t m (X t)).1 (stepT t m (X t)).2.2 Mo Mo' := by
  obtain ⟨V, hg⟩ := h.gi
  obtain ⟨V', Mo', hg', hs⟩ := gi_step hg ht fun _ => hd
  have h1 := ri_step hg ht h.mi hk (h.ri t ht)
  exact ⟨Mo', ⟨⟨V', hg'⟩, h1.2, all_set (P := fun _ y => RI (k + 1) y) h1.1 fun u hu _ => (h.ri u hu).up⟩, hs⟩
theorem run_ok : ∀ (l : List Nat) (k : Nat) (m : TM) (X : Nat → TS) (Mo : Nat), WI R n k m X Mo → (∀ t ∈ l, t < n) → k + l.length ≤ 300 →
    (∃ Mo', WI R n (k + l.length) (runT R l m X).1 (runT R l m X).2.1 Mo') ∧
    scT ((runT R l m X).2.2.map (·.2.1)) m.d m.ck (decide (Mo ≠ 0)) = some (runT R l m X).1.ck ∧
    (sumN (fun u => cntT ((runT R l m X).2.1 u)) n : Int) + m.ck = sumN (fun u => cntT (X u)) n + (runT R l m X).1.ck := by
  intro l
  induction l with
  | nil => intro k m X Mo h _ _; exact ⟨⟨Mo, h⟩, rfl, rfl⟩
  | cons t l ih =>
    intro k m X Mo h hl hk
    have ht := hl t (List.mem_cons_self ..)
    have hl' := fun u hu => hl u (List.mem_cons_of_mem _ hu)
    rw [List.length_cons] at hk
    rw [List.length_cons, show k + (l.length + 1) = k + 1 + l.length by omega]
    unfold runT
    by_cases hd : (X t).pc = 6 * R
    · rw [if_pos hd]
      exact ih (k + 1) m X Mo h.up hl' (by omega)
    · rw [if_neg hd]
      obtain ⟨Mo', h', hs⟩ := wi_step h ht (by omega) hd
      obtain ⟨a1, a2, a3⟩ := ih (k + 1) _ _ Mo' h' hl' (by omega)
      obtain ⟨V, hg⟩ := h.gi
      have hc := cnt_step (t := t) (m := m) (X t) (h.ri t ht).sk (hg.th t ht)
      have hsum := sumN_set (X := X) (x' := (stepT t m (X t)).2.1) cntT ht
      refine ⟨a1, ?_, by dsimp only; omega⟩
      have hmd : Mo' = 0 → (stepT t m (X t)).1.d = 100 + (stepT t m (X t)).1.ck := by
        obtain ⟨V', hg'⟩ := h'.gi
        intro e
        rcases hg'.md with ⟨-, -, a, -⟩ | ⟨a, -⟩ | ⟨a, -⟩
        · exact a
        · omega
        · omega
      dsimp only
      rw [List.map_cons]
      unfold scT
      dsimp only
      generalize stepT t m (X t) = r at hs a2 hmd ⊢
      rcases hs with ⟨e1, e2, e3, e4⟩ | ⟨e1, e2, e3, e4⟩ | ⟨e1, e2, e3, e4, e5⟩
      · rw [if_pos e1, if_pos e1, if_pos e1, if_neg (by simp), e2, ← e3, show (true : Bool) = decide (Mo' ≠ 0) from (decide_eq_true (by omega)).symm]
        exact a2
      · have e6 : ¬ r.2.2.ph = 17 := by omega
        have := hmd e4
        rw [if_neg e6, if_neg e6, if_neg e6, if_pos e1, if_pos e1, if_neg (by omega), ← e2, ← e3, show (false : Bool) = decide (Mo' ≠ 0) from (decide_eq_false (by omega)).symm]
        exact a2
      · rw [if_neg e1, if_neg e1, if_neg e1, if_neg e2, if_neg e2]
        have hw : decide (Mo ≠ 0) = decide (Mo' ≠ 0) := by
          by_cases c : Mo = 0
          · rw [decide_eq_false (by omega), decide_eq_false (by omega)]
          · rw [decide_eq_true (by omega), decide_eq_true (by omega)]
        rw [hw, ← e3, ← e4, if_neg (fun ⟨c1, c2⟩ => c2 (hmd (by simpa using c1)))]
        exact a2
end
def X0 : TS := ⟨0, 0, 0, 0, 0, 0, 0, 0, 0, [], [], none, .idle⟩
def M0 (n : Nat) : TM := ⟨100, 0, 0, 0, 0, List.replicate n 0⟩
theorem wi_0 {R n : Nat} (hn : n ≤ 16) : WI R n 0 (M0 n) (fun _ => X0) 0 := by
  have z : RB 0 := ⟨by omega, by omega⟩
  refine ⟨⟨0, ?_⟩, ⟨Int.le_refl _, Int.le_refl _, Int.le_refl _, Int.le_refl _, List.length_replicate⟩, fun _ _ => ⟨z, z, z, z, z, fun l hl => (by cases hl), trivial, Nat.le_refl _, Nat.le_refl _, Nat.zero_le _, fun o ho => (by cases ho)⟩⟩
  refine ⟨hn, .inl ⟨rfl, fun _ _ => rfl⟩, fun _ _ a ha => (by cases ha), fun _ _ _ _ a ha => (by cases ha), fun _ _ a ha => (by cases ha), Int.le_refl _, .inl ⟨rfl, rfl, rfl, fun _ _ => ⟨rfl, rfl⟩⟩, fun _ _ => trivial, fun _ _ => .inl ⟨rfl, Nat.zero_le _, rfl⟩⟩
theorem run_law {R n : Nat} (hn : n ≤ 16) {l : List Nat} (hl : ∀ t ∈ l, t < n) (hk : l.length ≤ 300) :
    ∃ c : Nat, scT ((runT R l (M0 n) fun _ => X0).2.2.map (·.2.1)) 100 0 false = some (c : Int) ∧ c ≤ 300 ∧
    sumN (fun u => cmt ((runT R l (M0 n) fun _ => X0).2.1 u).obs) n ≤ c ∧ c ≤ sumN (fun u => cmt ((runT R l (M0 n) fun _ => X0).2.1 u).obs) n + n := by
  obtain ⟨⟨Mo, a1⟩, a2, a3⟩ := run_ok l 0 (M0 n) (fun _ => X0) 0 (wi_0 (R := R) hn) hl (by omega)
  have z : sumN (fun u => cntT ((fun _ => X0) u)) n = 0 := by
    clear a1 a2 a3 hn hl
    induction n with
    | zero => rfl
    | succ n ih => rw [sumN, ih]; rfl
  rw [z] at a3
  have c0 := a1.mi.c0
  have c1 := a1.mi.c1
  generalize hz : runT R l (M0 n) (fun _ => X0) = r at a1 a2 a3 c0 c1 ⊢
  have hck : (M0 n).ck = 0 := rfl
  rw [hck] at a3
  refine ⟨r.1.ck.toNat, ?_, by omega, ?_, ?_⟩
  · rw [show ((r.1.ck.toNat : Nat) : Int) = r.1.ck by omega]; exact a2
  · have : sumN (fun u => cmt (r.2.1 u).obs) n ≤ sumN (fun u => cntT (r.2.1 u)) n := sumN_le fun t _ => Nat.le_add_right _ _
    omega
  · have h1 : sumN (fun u => cntT (r.2.1 u)) n ≤ sumN (fun u => cmt (r.2.1 u).obs + 1) n := sumN_le fun t _ => by
      unfold cntT
      have : pend (r.2.1 t).ph ≤ 1 := by
        cases (r.2.1 t).ph <;> first | exact Nat.zero_le _ | (rename_i b; cases b <;> simp [pend])
      omega
    have h2 := sumN_one (f := fun u => cmt (r.2.1 u).obs) (n := n)
    omega
end Go.Proofs.YtllddgdmmfmpkaaGreatDoor
