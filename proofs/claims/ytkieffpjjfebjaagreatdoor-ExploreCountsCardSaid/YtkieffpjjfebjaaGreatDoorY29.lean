/- What the laws share, part 29. No condition. -/
import Derived.Test.YtkieffpjjfebjaaGreatDoorY28
namespace Go.Proofs.YtkieffpjjfebjaaGreatDoor
open Go
set_option maxRecDepth 10000
def bcS (f : Nat → Nat) : Nat → Nat
  | 0 => 1
  | b + 1 => f (b + 1) + bcS f b
def bc : Nat → Nat → Nat
  | 0 => fun _ => 1
  | a + 1 => bcS (bc a)
abbrev insW : Ins := ⟨13, 0, 0, 0, 0⟩
abbrev insR : Ins := ⟨12, 1, 0, 0, 1⟩
def twoP (n m : Nat) : List (List Ins) := [List.replicate n insW, List.replicate m insR]
structure Two (c : Cfg) (n m : Nat) (s : GS) (i j : Nat) : Prop where
  G : GOk c (twoP n m) s
  T : ∃ a b : Thr, s.T = [a, b] ∧ a.pc = i ∧ b.pc = j ∧ a.rg.r0 = 0 ∧ b.rg.r0 = 0 ∧ a.dn = decide (i = n) ∧ b.dn = decide (j = m)
  E : ∀ e ∈ s.E, (e.k = 1 ∨ e.k = 2) ∧ e.w = e.t
section
variable {c : Cfg} {n m : Nat} {s : GS} {i j : Nat}
theorem two_i (h : Two c n m s i j) : i ≤ n ∧ j ≤ m := by
  obtain ⟨a, b, hT, ha, hb, -⟩ := h.T
  have h0 := h.G.th 0 a (List.replicate n insW) (by rw [hT]; rfl) rfl
  have h1 := h.G.th 1 b (List.replicate m insR) (by rw [hT]; rfl) rfl
  rw [List.length_replicate] at h0 h1
  exact ⟨by omega, by omega⟩
theorem two_s0 (hw : c.words = 2) (hs : c.strong = false) (h : Two c n m s i j) (hi : i < n) : Two c n m (doM c (twoP n m) s ⟨(0 : Nat), 0, []⟩).2 (i + 1) j := by
  suffices hr : (∃ a b : Thr, (doM c (twoP n m) s ⟨(0 : Nat), 0, []⟩).2.T = [a, b] ∧ a.pc = i + 1 ∧ b.pc = j ∧ a.rg.r0 = 0 ∧ b.rg.r0 = 0 ∧ a.dn = decide (i + 1 = n) ∧ b.dn = decide (j = m)) ∧ ∀ e ∈ (doM c (twoP n m) s ⟨(0 : Nat), 0, []⟩).2.E, (e.k = 1 ∨ e.k = 2) ∧ e.w = e.t from ⟨do_ok h.G (ch := ⟨(0 : Nat), 0, []⟩) (fun _ h => (by cases h)), hr.1, hr.2⟩
  obtain ⟨a, b, hT, ha, hb, ra, rb, da, db⟩ := h.T
  have hx : (List.replicate n insW)[a.pc]? = some insW := by rw [List.getElem?_replicate, if_pos (by omega)]
  have he := ch_eq (c := c) (P := twoP n m) (s := s) (t := 0) (th := a) (p := List.replicate n insW) (x := insW) (by rw [hT]; rfl) rfl (by rw [da]; exact decide_eq_false (by omega)) hx 0
  have hadr : adr a.rg insW.a insW.imm = 0 := by
    unfold adr Rg.get
    show wrapu (a.rg.r0 + wrapu 0) = 0
    rw [ra]
    rfl
  rw [if_neg (show ¬ insW.op = 7 by decide)] at he
  unfold sgM at he
  rw [if_pos (show insW.op = 12 ∨ insW.op = 13 from .inr rfl), if_neg (show ¬ insW.op = 12 by decide), hadr] at he
  dsimp only at he
  rw [if_neg (by simp), if_neg (by omega)] at he
  unfold doM
  rw [he]
  refine ⟨⟨a.nxt (List.replicate n insW).length a.rg, b, ?_, ?_, hb, ra, rb, ?_, db⟩, fun e hE => ?_⟩
  · show s.T.set 0 _ = _
    rw [hT]
    rfl
  · show a.pc + 1 = i + 1
    omega
  · show decide (a.pc + 1 = (List.replicate n insW).length) = _
    rw [List.length_replicate, ha]
  · have hE' : e ∈ s.E ++ plE c s.n 0 2 0 := hE
    rcases List.mem_append.1 hE' with hE' | hE'
    · exact h.E e hE'
    · unfold plE at hE'
      rw [hs, if_neg (by simp), List.mem_singleton] at hE'
      subst hE'
      exact ⟨.inr rfl, rfl⟩
theorem two_s1 (hw : c.words = 2) (hs : c.strong = false) (h : Two c n m s i j) (hj : j < m) : Two c n m (doM c (twoP n m) s ⟨(1 : Nat), 0, []⟩).2 i (j + 1) := by
  suffices hr : (∃ a b : Thr, (doM c (twoP n m) s ⟨(1 : Nat), 0, []⟩).2.T = [a, b] ∧ a.pc = i ∧ b.pc = j + 1 ∧ a.rg.r0 = 0 ∧ b.rg.r0 = 0 ∧ a.dn = decide (i = n) ∧ b.dn = decide (j + 1 = m)) ∧ ∀ e ∈ (doM c (twoP n m) s ⟨(1 : Nat), 0, []⟩).2.E, (e.k = 1 ∨ e.k = 2) ∧ e.w = e.t from ⟨do_ok h.G (ch := ⟨(1 : Nat), 0, []⟩) (fun _ h => (by cases h)), hr.1, hr.2⟩
  obtain ⟨a, b, hT, ha, hb, ra, rb, da, db⟩ := h.T
  have hx : (List.replicate m insR)[b.pc]? = some insR := by rw [List.getElem?_replicate, if_pos (by omega)]
  have he := ch_eq (c := c) (P := twoP n m) (s := s) (t := 1) (th := b) (p := List.replicate m insR) (x := insR) (by rw [hT]; rfl) rfl (by rw [db]; exact decide_eq_false (by omega)) hx 0
  have hadr : adr b.rg insR.b insR.imm = 1 := by
    unfold adr Rg.get
    show wrapu (b.rg.r0 + wrapu 1) = 1
    rw [rb]
    rfl
  rw [if_neg (show ¬ insR.op = 7 by decide)] at he
  unfold sgM at he
  rw [if_pos (show insR.op = 12 ∨ insR.op = 13 from .inl rfl), if_pos (show insR.op = 12 from rfl), hadr] at he
  dsimp only at he
  rw [if_neg (by simp), if_neg (by omega), if_pos rfl] at he
  unfold doM
  rw [he]
  refine ⟨⟨a, b.nxt (List.replicate m insR).length (b.rg.set 1 (s.d.getD 1 0)), ?_, ha, ?_, ra, rb, da, ?_⟩, fun e hE => ?_⟩
  · show s.T.set 1 _ = _
    rw [hT]
    rfl
  · show b.pc + 1 = j + 1
    omega
  · show decide (b.pc + 1 = (List.replicate m insR).length) = _
    rw [List.length_replicate, hb]
  · have hE' : e ∈ s.E ++ plE c s.n 1 1 1 := hE
    rcases List.mem_append.1 hE' with hE' | hE'
    · exact h.E e hE'
    · unfold plE at hE'
      rw [hs, if_neg (by simp), List.mem_singleton] at hE'
      subst hE'
      exact ⟨.inl rfl, rfl⟩
theorem two_nx0 (h : Two c n m s i j) (hi : i < n) : nxM (twoP n m) s 0 = some insW := by
  obtain ⟨a, b, hT, ha, hb, ra, rb, da, db⟩ := h.T
  exact nx_of (th := a) (p := List.replicate n insW) (by rw [hT]; rfl) rfl (by rw [da]; exact decide_eq_false (by omega)) (by rw [List.getElem?_replicate, if_pos (by omega)])
theorem two_nx1 (h : Two c n m s i j) (hj : j < m) : nxM (twoP n m) s 1 = some insR := by
  obtain ⟨a, b, hT, ha, hb, ra, rb, da, db⟩ := h.T
  exact nx_of (th := b) (p := List.replicate m insR) (by rw [hT]; rfl) rfl (by rw [db]; exact decide_eq_false (by omega)) (by rw [List.getElem?_replicate, if_pos (by omega)])
theorem two_adv {t : Nat} {l : List ChM} {x : Ins} (h : nxM (twoP n m) s t = some x) (hx : isL x = false) : advM c (twoP n m) t 64 s l = (s, l) := by
  unfold advM
  have : locB (twoP n m) s t = false := by unfold locB; rw [h]; exact hx
  rw [this]
  rfl
theorem two_dn0 (h : Two c n m s i j) : dnB s 0 = decide (i = n) := by
  obtain ⟨a, b, hT, ha, hb, ra, rb, da, db⟩ := h.T
  unfold dnB
  rw [hT]
  exact da
theorem two_dn1 (h : Two c n m s i j) : dnB s 1 = decide (j = m) := by
  obtain ⟨a, b, hT, ha, hb, ra, rb, da, db⟩ := h.T
  unfold dnB
  rw [hT]
  exact db
theorem two_done (h : Two c n m s i j) : doneM s = (decide (i = n) && decide (j = m)) := by
  obtain ⟨a, b, hT, ha, hb, ra, rb, da, db⟩ := h.T
  unfold doneM
  rw [hT]
  simp [da, db]
theorem bc_pos : ∀ a b, 1 ≤ bc a b
  | 0, _ => Nat.le_refl _
  | _ + 1, 0 => Nat.le_refl _
  | a + 1, b + 1 => by
    have := bc_pos a (b + 1)
    show 1 ≤ bc a (b + 1) + bc (a + 1) b
    omega
theorem bc_z (a : Nat) : bc a 0 = 1 := by cases a <;> rfl
theorem vis_two {fo : List Int} {lim : Int} (hw : c.words = 2) (hs : c.strong = false) : ∀ (f : Nat) (s : GS) (l : List ChM) (x : SS) (i j : Nat), Two c n m s i j → (n - i) + (m - j) < f → x.stop = false → (x.runs : Int) ≤ lim →
    ((x.runs + bc (n - i) (m - j) : Nat) ≤ lim → visM (rcC 2) c (twoP n m) fo lim f s l x = { x with runs := x.runs + bc (n - i) (m - j) }) ∧
    (lim < (x.runs + bc (n - i) (m - j) : Nat) → (visM (rcC 2) c (twoP n m) fo lim f s l x).many = true ∧ (visM (rcC 2) c (twoP n m) fo lim f s l x).racy = false)
  | 0, _, _, _, _, _, _, hf, _, _ => absurd hf (by omega)
  | f + 1, s, l, x, i, j, h, hf, hx, hr => by
    obtain ⟨hin, hjm⟩ := two_i h
    have hno := rc_own (n := 2) h.E
    have hx2 := stop_no hx
    unfold visM
    rw [two_done h]
    by_cases hi : i = n
    · by_cases hj : j = m
      · subst hi; subst hj
        rw [if_pos (by simp), Nat.sub_self, Nat.sub_self]
        unfold finM
        rw [hno]
        show ((x.runs + 1 : Nat) ≤ lim → _) ∧ (lim < (x.runs + 1 : Nat) → _)
        constructor
        · intro hle
          rw [if_neg (by omega), if_neg (by simp)]
          rfl
        · intro hlt
          rw [if_pos (by omega)]
          exact ⟨rfl, hx2.1⟩
      · have hn0 : n - i = 0 := by omega
        have hT2 : s.T.length = 2 := by obtain ⟨a, b, hT, -⟩ := h.T; rw [hT]; rfl
        have hnx := two_nx1 h (by omega)
        have ih := vis_two (fo := fo) hw hs f _ (l ++ [⟨(1 : Nat), 0, []⟩]) x i (j + 1) (two_s1 hw hs h (by omega)) (by omega) hx hr
        rw [if_neg (by simp [hj]), hT2, show List.range 2 = [0, 1] from rfl]
        simp only [List.foldl_cons, List.foldl_nil, hx, Bool.false_eq_true, if_false, two_dn0 h, two_dn1 h, decide_eq_true hi, if_true]
        rw [two_adv hnx rfl]
        simp only [two_dn1 h, decide_eq_false hj, Bool.false_eq_true, if_false, hnx]
        rw [show codesM fo (some insR) = [0] from rfl]
        simp only [List.foldl_cons, List.foldl_nil, hx, Bool.false_eq_true, if_false]
        rw [hn0] at ih ⊢
        exact ih
    · have hT2 : s.T.length = 2 := by obtain ⟨a, b, hT, -⟩ := h.T; rw [hT]; rfl
      have hnx := two_nx0 h (by omega)
      have ih0 := vis_two (fo := fo) hw hs f _ (l ++ [⟨(0 : Nat), 0, []⟩]) x (i + 1) j (two_s0 hw hs h (by omega)) (by omega) hx hr
      rw [if_neg (by simp [hi]), hT2, show List.range 2 = [0, 1] from rfl]
      simp only [List.foldl_cons, List.foldl_nil, hx, Bool.false_eq_true, if_false, two_dn0 h, decide_eq_false hi]
      rw [two_adv hnx rfl]
      simp only [two_dn0 h, decide_eq_false hi, Bool.false_eq_true, if_false, hnx]
      rw [show codesM fo (some insW) = [0] from rfl]
      simp only [List.foldl_cons, List.foldl_nil, hx, Bool.false_eq_true, if_false]
      by_cases hj : j = m
      · subst hj
        rw [Nat.sub_self, bc_z] at ih0 ⊢
        simp only [two_dn1 h, decide_true, if_true, ite_self]
        exact ih0
      · have hnx1 := two_nx1 h (by omega)
        obtain ⟨a, ha⟩ : ∃ a, n - i = a + 1 := ⟨n - i - 1, by omega⟩
        obtain ⟨b, hb⟩ : ∃ b, m - j = b + 1 := ⟨m - j - 1, by omega⟩
        rw [show n - (i + 1) = a by omega, hb] at ih0
        rw [ha, hb, show bc (a + 1) (b + 1) = bc a (b + 1) + bc (a + 1) b from rfl]
        by_cases hfit : ((x.runs + bc a (b + 1) : Nat) : Int) ≤ lim
        · rw [ih0.1 hfit]
          have hy : ({ x with runs := x.runs + bc a (b + 1) } : SS).stop = false := hx
          have ih1 := vis_two (fo := fo) hw hs f _ (l ++ [⟨(1 : Nat), 0, []⟩]) { x with runs := x.runs + bc a (b + 1) } i (j + 1) (two_s1 hw hs h (by omega)) (by omega) hy hfit
          rw [show m - (j + 1) = b by omega, ha] at ih1
          simp only [hy, Bool.false_eq_true, if_false, two_dn1 h, decide_eq_false hj]
          rw [two_adv hnx1 rfl]
          simp only [two_dn1 h, decide_eq_false hj, Bool.false_eq_true, if_false, hnx1]
          rw [show codesM fo (some insR) = [0] from rfl]
          simp only [List.foldl_cons, List.foldl_nil, hy, Bool.false_eq_true, if_false]
          dsimp only at ih1
          rw [Nat.add_assoc] at ih1
          exact ih1
        · have hm := ih0.2 (by omega)
          have hst : (visM (rcC 2) c (twoP n m) fo lim f (doM c (twoP n m) s ⟨(0 : Nat), 0, []⟩).2 (l ++ [⟨(0 : Nat), 0, []⟩]) x).stop = true := by unfold SS.stop; rw [hm.1]; simp
          simp only [hst, if_true]
          refine ⟨fun hle => absurd hle ?_, fun _ => hm⟩
          have := bc_pos (a + 1) b
          omega
end
end Go.Proofs.YtkieffpjjfebjaaGreatDoor
namespace Go.Proofs.YtkieffpjjfebjaaGreatDoor
open Go
set_option maxRecDepth 10000
set_option maxHeartbeats 16000000
def wM (m : Nat) : Nat → Nat
  | 0 => 1
  | i + 1 => wM m i * (m + (i + 1)) / (i + 1)
theorem le4 {n : Nat} (h : n ≤ 4) : n = 0 ∨ n = 1 ∨ n = 2 ∨ n = 3 ∨ n = 4 := by omega
theorem wM_bc {n m : Nat} (hn : n ≤ 4) (hm : m ≤ 4) : wM m n = bc n m := by
  rcases le4 hn with rfl | rfl | rfl | rfl | rfl <;> rcases le4 hm with rfl | rfl | rfl | rfl | rfl <;> rfl
theorem wM_le {n m : Nat} (hn : n ≤ 4) (hm : m ≤ 4) : 1 ≤ wM m n ∧ wM m n ≤ 70 := by
  rcases le4 hn with rfl | rfl | rfl | rfl | rfl <;> rcases le4 hm with rfl | rfl | rfl | rfl | rfl <;> exact ⟨by decide, by decide⟩
theorem cnt_p {n m : Nat} (hn : n ≤ 4) (hm : m ≤ 4) : ∀ p ∈ twoP n m, checkP p = (0, 0) := by
  intro p hp
  rcases List.mem_cons.1 hp with rfl | hp
  · rcases le4 hn with rfl | rfl | rfl | rfl | rfl <;> kernel_rfl
  · rw [List.mem_singleton.1 hp]
    rcases le4 hm with rfl | rfl | rfl | rfl | rfl <;> kernel_rfl
theorem cnt_two {n m : Nat} (hn : n ≤ 4) (hm : m ≤ 4) : Two twC n m (newM twC [0, 0] (twoP n m)) 0 0 := by
  refine ⟨new_ok (by kernel_rfl) rfl (fun x hx => ?_) (cnt_p hn hm), ⟨_, _, rfl, rfl, rfl, rfl, rfl, ?_, ?_⟩, fun e he => (by cases he)⟩
  · have e : x = 0 := by simpa using hx
    subst e
    exact ok0
  · show decide ((List.replicate n insW).length = 0) = decide (0 = n)
    rw [List.length_replicate]
    exact decide_eq_decide.2 eq_comm
  · show decide ((List.replicate m insR).length = 0) = decide (0 = m)
    rw [List.length_replicate]
    exact decide_eq_decide.2 eq_comm
theorem cnt_m {n m : Nat} (hn : n ≤ 4) (hm : m ≤ 4) : n + m < measM (twoP n m) (newM twC [0, 0] (twoP n m)) + 1 := by
  rcases le4 hn with rfl | rfl | rfl | rfl | rfl <;> rcases le4 hm with rfl | rfl | rfl | rfl | rfl <;> exact of_decide_eq_true (by kernel_rfl)
theorem cnt_vis {n m : Nat} (hn : n ≤ 4) (hm : m ≤ 4) (fo : List Int) {lim : Int} (hl : 0 ≤ lim) :
    ((wM m n : Int) ≤ lim → expR twC [0, 0] (twoP n m) fo lim = (⟨wM m n, false, false, []⟩, 0)) ∧ (lim < wM m n → expR twC [0, 0] (twoP n m) fo lim = (ss0, 80)) := by
  have h := vis_two (fo := fo) (lim := lim) (c := twC) rfl rfl _ _ [] ss0 0 0 (cnt_two hn hm) (cnt_m hn hm) rfl hl
  rw [Nat.sub_zero, Nat.sub_zero, show ss0.runs + bc n m = wM m n by rw [wM_bc hn hm]; exact Nat.zero_add _] at h
  unfold expR
  rw [show (twoP n m).length = 2 from rfl]
  refine ⟨fun h1 => ?_, fun h1 => ?_⟩
  · rw [h.1 h1]; rfl
  · dsimp only
    rw [(h.2 h1).1]; rfl
theorem cnt_arg {n m : Nat} (hn : n ≤ 4) (hm : m ≤ 4) {a b : Option Addr} {i j : Nat} {fo : List Int} {lim : Int} (hf : fo = [] ∨ fo = [5]) (hl : 1 ≤ lim ∧ lim ≤ 70) : argM twC 2 [⟨a, i, List.replicate n insW⟩, ⟨b, j, List.replicate m insR⟩] fo lim = 0 := by
  have hc : csM twC 2 [⟨a, i, List.replicate n insW⟩, ⟨b, j, List.replicate m insR⟩] [] = (0, 0, 0) := by
    rcases le4 hn with rfl | rfl | rfl | rfl | rfl <;> rcases le4 hm with rfl | rfl | rfl | rfl | rfl <;> kernel_rfl
  have ha : alQ [⟨a, i, List.replicate n insW⟩, ⟨b, j, List.replicate m insR⟩] = false := by
    rcases le4 hn with rfl | rfl | rfl | rfl | rfl <;> rcases le4 hm with rfl | rfl | rfl | rfl | rfl <;> rfl
  unfold argM
  rw [hc, ha, if_neg (by simp), if_neg (by simp)]
  rcases hf with rfl | rfl
  · rw [if_neg (by simp; omega)]; rfl
  · rw [if_neg (by simp; omega)]; rfl
theorem cnt_ex {n m : Nat} (hn : n ≤ 4) (hm : m ≤ 4) {a b : Option Addr} {i j : Nat} : explM twC [0, 0] [⟨a, i, List.replicate n insW⟩, ⟨b, j, List.replicate m insR⟩] [5] (wM m n) = (⟨wM m n, false, false, []⟩, 0) := by
  have h := wM_le hn hm
  unfold explM
  rw [if_neg (by rw [show ([0, 0] : List Int).length = 2 from rfl, cnt_arg hn hm (.inr rfl) (by omega)]; simp)]
  exact (cnt_vis hn hm [5] (by omega)).1 (Int.le_refl _)
theorem cnt_ex2 {n m : Nat} (hn : n ≤ 4) (hm : m ≤ 4) {a b : Option Addr} {i j : Nat} (h1 : 1 < wM m n) : explM twC [0, 0] [⟨a, i, List.replicate n insW⟩, ⟨b, j, List.replicate m insR⟩] [] ((wM m n : Int) - 1) = (ss0, 80) := by
  have h := wM_le hn hm
  unfold explM
  rw [if_neg (by rw [show ([0, 0] : List Int).length = 2 from rfl, cnt_arg hn hm (.inl rfl) (by omega)]; simp)]
  exact (cnt_vis hn hm [] (by omega)).2 (by omega)
end Go.Proofs.YtkieffpjjfebjaaGreatDoor
namespace Go.Proofs.YtkieffpjjfebjaaGreatDoor
open Go
set_option maxRecDepth 10000
set_option maxHeartbeats 32000000
theorem app_k1 {α : Type} {enc : α → List Value} {sz : Nat} {W0 : World} {own : Own} {l : List α} {a : Option Addr} {T T2 : TypeId} {bytes cap n bt : Nat} {zs : List Value} {ys : Array Value} {D : Own} {C : Own → Own} {K : Value → Own → Prop} (x : α) (hB : BufE enc T sz a cap l D) [mm : AtC D own C] [m2 : MemC bt (fun o => o = Obj.cells ys T2) own] (hn : n = l.length) (hy : ys.toList = enc x)
    (hz : zs.length = sz) (hs : 0 < sz) (hw : (enc x).length = sz) (h1 : (enc x).all oneC = true) (hb : (l.length + 1) * bytes ≤ 140737488355328)
    (hk : ∀ a' cap' D', BufE enc T sz a' cap' (l ++ [x]) D' → K (.slice a' (n + 1) cap') (C D')) : AppT W0 own T sz bytes zs a n cap (some ⟨bt, 0, none⟩) 1 K :=
  have : EntC own own := ⟨fun _ => Ent.refl⟩
  app_k (own' := own) (l2 := [x]) hB (rd_blk m2.h (fun y hy => by rw [List.mem_singleton.1 hy]; exact hw) (by simpa using hy)) rfl hn hz hs (fun y hy => by rw [List.mem_singleton.1 hy]; exact h1) hb fun a' cap' D' h => by
    have := hk a' cap' D' h
    rw [hn] at this
    rwa [show (l ++ [x]).length = l.length + 1 by simp]
theorem ar_e {x : Int} {p : Nat} {K : Int → Prop} (he : x = (p : Int)) (hb : p ≤ 1000) (h : K p) : Arith .i64 x K := by
  rw [he]
  exact ari (by omega) h
theorem quo_e {x y q : Int} {K : Int → Prop} (hq : x / y = q) (h1 : 0 ≤ x ∧ 0 < y ∧ x ≤ 9223372036854775807) (h : K q) : Quo .i64 x y K := quo_i h1 (by rw [hq]; exact h)
theorem rep_s {x : Ins} {k : Nat} : List.replicate k x ++ [x] = List.replicate (k + 1) x := by rw [List.replicate_succ']
section
variable {W0 : World} {own : Own}
theorem ent_q1 {x : Nat × (Obj → Prop)} {A B C : Own} : Ent W0 (x :: (A ++ (B ++ C))) C := ent_cnt (x :: (A ++ B)) fun a => by simp only [cnt_app, cnt_cons]; omega
theorem ent_q2 {x : Nat × (Obj → Prop)} {A B C : Own} : Ent W0 (x :: (A ++ (B ++ C))) B := ent_cnt (x :: (A ++ C)) fun a => by simp only [cnt_app, cnt_cons]; omega
theorem ent_q3 {x : Nat × (Obj → Prop)} {A B C : Own} : Ent W0 (x :: (A ++ (B ++ C))) A := ent_cnt (x :: (B ++ C)) fun a => by simp only [cnt_app, cnt_cons]; omega
theorem ent_q4 {x b c : Nat × (Obj → Prop)} {A B C q : Own} : Ent W0 (x :: (b :: (c :: (A ++ (B ++ (C ++ q)))))) (b :: (A ++ (B ++ (C ++ [])))) := ent_cnt (x :: c :: q) fun a => by simp only [cnt_app, cnt_cons, cnt_nil]; omega
theorem ent_q5 {x w b c : Nat × (Obj → Prop)} {Z A B C q : Own} : Ent W0 (x :: (Z ++ (w :: (b :: (c :: (A ++ (B ++ (C ++ q)))))))) (b :: (A ++ (B ++ (C ++ [])))) := ent_cnt (x :: w :: c :: (Z ++ q)) fun a => by simp only [cnt_app, cnt_cons, cnt_nil]; omega
theorem sp_counts (hF : FormsAt W0) (hN : LaidAt W0 0 Ord.noneV) (a b : Int) : Pure Tryz.prog W0 8 [.int .i64 a, .int .i64 b] own (.bool true) := by
  refine pure_of (spec_of mixed low_law26_ExploreCounts (by simp [ir_law26_ExploreCounts]) ?_)
  have pa := fun q => sp_place W0 q a 5 (by omega)
  have pb := fun q => sp_place W0 q b 5 (by omega)
  have qa := place_bd a (n := 5) (by omega)
  have qb := place_bd b (n := 5) (by omega)
  obtain ⟨n, hn⟩ := Int.eq_ofNat_of_zero_le qa.1
  obtain ⟨m, hm⟩ := Int.eq_ofNat_of_zero_le qb.1
  rw [hn] at pa qa
  rw [hm] at pb qb
  have hn4 : n ≤ 4 := by omega
  have hm4 : m ≤ 4 := by omega
  clear hn hm qa qb
  repeat' ((try (conv => whnf)); first | ((with_reducible show CallT _ _ _ _ _ _); first | ((refine call_pe (pa _) ?_ ?_ ?_; (exact rfl); exact rfl)) | ((refine call_pe (pb _) ?_ ?_ ?_; (exact rfl); exact rfl)) | ((refine call_to (sp_two 0 1) Ent.refl ?_ ?_ (fun y v hv => ?_); (exact rfl); (exact rfl); (apply Stop.h)))))
  subst hv
  refine Stop.mk ?_
  repeat' ((try (conv => whnf)); first | (refine new_i (fun b7 h7 => ?_); (apply Stop.h)))
  refine Stop.mk ?_
  repeat' ((try (conv => whnf)); first | (refine new_i (fun b21 h21 => ?_); (apply Stop.h)) | (apply stN_o; (exact rfl); (exact rfl); exact rfl))
  refine Stop.mk ?_
  repeat' ((try (conv => whnf)); first | (apply st_o; (exact rfl); exact rfl))
  refine loop_i (σ := Nat × Option Addr × Nat × Own) (fun z => [(8, .int .i64 z.1)]) (fun z => (b21, fun o => o = Obj.cells #[.slice z.2.1 z.1 z.2.2.1, .slice none 0 0] 66 (0, 0)) :: ((b7, fun o => o = Obj.cells (scrC twC (.slice (some ⟨y.ib, 0, none⟩) 2 2) (.slice (some ⟨b21, 0, none⟩) 2 2) (.slice none 0 0)) 32 (0, 0)) :: (z.2.2.2 ++ (y.O 0 1 ++ own))))
    (fun z => z.1 ≤ n ∧ BufE Ins.enc 69 5 z.2.1 z.2.2.1 (List.replicate z.1 insW) z.2.2.2) (fun z => n - z.1) (0, none, 0, []) ⟨Nat.zero_le _, BufE.nil⟩ (by repeat' (first | exact True.intro | refine And.intro ?_ ?_ | exact rfl | exact vi (by omega) | (dsimp only; exact rfl) | (dsimp only; exact vi (by omega)))) Ent.refl rfl ?_
  rintro ⟨k, a1, c1, D1⟩ junk ⟨hk, hB⟩
  dsimp only at hk hB ⊢
  by_cases hkn : k < n
  · repeat' ((try (conv => whnf)); first | (apply br_pyE; (exact rfl); omega) | (refine new_i (fun b35 hb35 => ?_)) | (refine app_k1 (enc := Ins.enc) insW hB ?_ ?_ ?_ ?_ ?_ ?_ ?_ (fun a2 c2 D2 hB2 => ?_); (exact List.length_replicate.symm); (exact rfl); (exact rfl); (omega); (exact rfl); (exact rfl); (rw [List.length_replicate]; show (k + 1) * 40 ≤ _; omega)) | (refine ari ?_ ?_; omega) | (refine ixs0 rfl ?_) | (apply ld_o; exact rfl) | (apply st_o; (exact rfl); exact rfl) | (refine Both.mk ?_ ?_))
    all_goals
      rw [rep_s] at hB2
      exact ⟨(k + 1, a2, c2, D2), ⟨hkn, hB2⟩, (by show n - (k + 1) < n - k; omega), (by repeat' (first | exact True.intro | refine And.intro ?_ ?_ | exact rfl | exact vi (by omega) | (dsimp only; exact rfl) | (dsimp only; exact vi (by omega)))), Ent.drop⟩
  · obtain rfl : k = n := by omega
    repeat' ((try (conv => whnf)); first | (apply br_pnE; (exact rfl); omega))
    refine loop_i (σ := Nat × Option Addr × Nat × Own) (fun z => [(9, .int .i64 z.1)]) (fun z => (b21, fun o => o = Obj.cells #[.slice a1 k c1, .slice z.2.1 z.1 z.2.2.1] 66 (0, 0)) :: ((b7, fun o => o = Obj.cells (scrC twC (.slice (some ⟨y.ib, 0, none⟩) 2 2) (.slice (some ⟨b21, 0, none⟩) 2 2) (.slice none 0 0)) 32 (0, 0)) :: (z.2.2.2 ++ (D1 ++ (y.O 0 1 ++ own)))))
      (fun z => z.1 ≤ m ∧ BufE Ins.enc 69 5 z.2.1 z.2.2.1 (List.replicate z.1 insR) z.2.2.2) (fun z => m - z.1) (0, none, 0, []) ⟨Nat.zero_le _, BufE.nil⟩ (by repeat' (first | exact True.intro | refine And.intro ?_ ?_ | exact rfl | exact vi (by omega) | (dsimp only; exact rfl) | (dsimp only; exact vi (by omega)))) Ent.refl rfl ?_
    rintro ⟨j, a2, c2, D2⟩ junk2 ⟨hj, hB2⟩
    dsimp only at hj hB2 ⊢
    by_cases hjm : j < m
    · repeat' ((try (conv => whnf)); first | (apply br_pyE; (exact rfl); omega) | (refine new_i (fun b35 hb35 => ?_)) | (refine app_k1 (enc := Ins.enc) insR hB2 ?_ ?_ ?_ ?_ ?_ ?_ ?_ (fun a3 c3 D3 hB3 => ?_); (exact List.length_replicate.symm); (exact rfl); (exact rfl); (omega); (exact rfl); (exact rfl); (rw [List.length_replicate]; show (j + 1) * 40 ≤ _; omega)) | (refine ari ?_ ?_; omega) | (refine ixs1 rfl ?_) | (apply ld_o; exact rfl) | (apply st_o; (exact rfl); exact rfl) | (refine Both.mk ?_ ?_))
      all_goals
        rw [rep_s] at hB3
        exact ⟨(j + 1, a3, c3, D3), ⟨hjm, hB3⟩, (by show m - (j + 1) < m - j; omega), (by repeat' (first | exact True.intro | refine And.intro ?_ ?_ | exact rfl | exact vi (by omega) | (dsimp only; exact rfl) | (dsimp only; exact vi (by omega)))), Ent.drop⟩
    · obtain rfl : j = m := by omega
      repeat' ((try (conv => whnf)); first | (apply br_pnE; (exact rfl); omega))
      refine loop_i (σ := Nat) (fun i => [(10, .int .i64 (wM j i)), (11, .int .i64 ((i : Int) + 1))]) (fun _ => (b21, fun o => o = Obj.cells #[.slice a1 k c1, .slice a2 j c2] 66 (0, 0)) :: ((b7, fun o => o = Obj.cells (scrC twC (.slice (some ⟨y.ib, 0, none⟩) 2 2) (.slice (some ⟨b21, 0, none⟩) 2 2) (.slice none 0 0)) 32 (0, 0)) :: (D2 ++ (D1 ++ (y.O 0 1 ++ own)))))
        (fun i => i ≤ k) (fun i => k - i) 0 (Nat.zero_le _) (by repeat' (first | exact True.intro | refine And.intro ?_ ?_ | exact rfl | exact vi (by omega) | (dsimp only; exact rfl) | (dsimp only; exact vi (by omega)))) Ent.refl rfl ?_
      intro i junk3 hi
      have hi : i ≤ k := hi
      by_cases hik : i < k
      · have hw1 := wM_le (n := i) (m := j) (by omega) hm4
        have hPb : wM j i * (j + (i + 1)) ≤ 700 := Nat.le_trans (Nat.mul_le_mul hw1.2 (show j + (i + 1) ≤ 10 by omega)) (by decide)
        have hQ0 : wM j (i + 1) = wM j i * (j + (i + 1)) / (i + 1) := rfl
        have hPe : (wM j i : Int) * ((j : Int) + ((i : Int) + 1)) = ((wM j i * (j + (i + 1)) : Nat) : Int) := by push_cast; rfl
        generalize wM j i * (j + (i + 1)) = p at *
        have hQ : (p : Int) / ((i : Int) + 1) = (wM j (i + 1) : Int) := by rw [hQ0]; exact (Int.natCast_ediv p (i + 1)).symm
        repeat' ((try (conv => whnf)); first | (apply br_pyE; (exact rfl); omega) | (refine ar_e hPe (by omega) ?_) | (refine quo_e hQ (by omega) ?_) | (refine ari ?_ ?_; omega))
        all_goals exact ⟨i + 1, hik, (by show k - (i + 1) < k - i; omega), (by repeat' (first | exact True.intro | refine And.intro ?_ ?_ | exact rfl | exact vi (by omega) | (dsimp only; exact rfl) | (dsimp only; exact vi (by omega)))), Ent.refl⟩
      · obtain rfl : i = k := by omega
        have hw := wM_le hn4 hm4
        have he2 : 1 < wM j i → _ := fun h => cnt_ex2 (a := a1) (b := a2) (i := c1) (j := c2) hn4 hm4 h
        have he1 := cnt_ex (a := a1) (b := a2) (i := c1) (j := c2) hn4 hm4
        have hexp := fun (X : Own) (fa : Option Addr) (fo : List Int) (fc : Nat) (lim : Int) (hX : Ent W0 X ((b21, fun o => o = Obj.cells #[.slice a1 i c1, .slice a2 j c2] 66 (0, 0)) :: (D2 ++ (D1 ++ (y.O 0 1 ++ []))))) (hf : RdE encI 1 W0 X fa fo) =>
          sp_Explore (c := twC) (ia := some ⟨y.ib, 0, none⟩) (il := [0, 0]) (ic := 2) (pa := some ⟨b21, 0, none⟩) (ps := [⟨a1, c1, List.replicate i insW⟩, ⟨a2, c2, List.replicate j insR⟩]) (pc := 2) (ka := none) (ks := []) (kc := 0) (fa := fa) (fo := fo) (fc := fc) (own := X) hF hN ((show RdE encU 1 W0 (y.O 0 1 ++ []) _ _ from rd_blk (by (repeat (first | exact List.Mem.head _ | apply List.Mem.tail))) (fun _ _ => rfl) rfl).ent (hX.trans ent_q1)) (by decide) (fun x hx => by
            have e : x = 0 := by simpa using hx
            subst e
            exact ok0) ((show RdE PH.enc 1 W0 ((b21, fun o => o = Obj.cells #[.slice a1 i c1, .slice a2 j c2] 66 (0, 0)) :: (D2 ++ (D1 ++ (y.O 0 1 ++ [])))) _ _ from rd_blk (by (repeat (first | exact List.Mem.head _ | apply List.Mem.tail))) (fun _ _ => rfl) (by simp)).ent hX) (by show 2 ≤ 1000000; decide) (fun h hh => by
            rcases List.mem_cons.1 hh with rfl | hh
            · exact (hB.rd (W0 := W0)).ent (hX.trans ent_q2)
            · rw [List.mem_singleton.1 hh]
              exact (hB2.rd (W0 := W0)).ent (hX.trans ent_q3)) hf lim
        repeat' ((try (conv => whnf)); first | (apply br_pnE; (exact rfl); omega) | (refine new_i (fun b67 h67 => ?_); (apply Stop.h)) | (apply ldN_a; exact rfl))
        refine Stop.mk ?_
        repeat' ((try (conv => whnf)); first | ((with_reducible show CallT _ _ _ _ _ _); first | (((apply Stop.h)))))
        refine Stop.mk ?_
        refine call_to (hexp _ (some ⟨b67, 0, none⟩) [5] 1 (wM j i) ?_ ?_) Ent.refl rfl ?_ (fun z v hv => ?_)
        · exact ent_q4
        · exact rd_blk (by (repeat (first | exact List.Mem.head _ | apply List.Mem.tail))) (fun _ _ => rfl) rfl
        · exact rfl
        rw [he1] at hv
        obtain ⟨rfl, hz⟩ := hv
        dsimp only
        repeat' ((try (conv => whnf)); first | (refine new_i (fun b12 h12 => ?_); (apply Stop.h)) | (apply sel; exact rfl))
        refine Stop.mk ?_
        by_cases h1 : 1 < wM j i
        · have hx2 := he2 h1
          repeat' ((try (conv => whnf)); first | (apply br_pyE; (exact rfl); omega) | ((with_reducible show CallT _ _ _ _ _ _); first | (((apply Stop.h)))) | (refine ari ?_ ?_; omega) | (apply ldN_a; exact rfl) | (apply stN_o; (exact rfl); (exact rfl); exact rfl))
          refine Stop.mk ?_
          refine call_to (hexp _ none [] 0 ((wM j i : Int) - 1) ?_ ?_) Ent.refl rfl ?_ (fun z2 v hv => ?_)
          · exact ent_q5
          · exact RdE.nil
          · exact rfl
          rw [hx2] at hv
          obtain ⟨rfl, hz2⟩ := hv
          dsimp only
          repeat' ((try (conv => whnf)); first | (refine when_ye ?_ ?_; exact rfl) | (refine br_fe ?_ ?_; exact rfl) | (apply when_pyE; (exact rfl); omega) | (refine new_i (fun b14 h14 => ?_)) | ((with_reducible show CallT _ _ _ _ _ _); first | ((refine call_pe (sp_awake hF hN) ?_ ?_ ?_; (exact rfl); exact rfl))) | (apply sel; exact rfl) | (apply ld_o; exact rfl) | (apply stN_o; (exact rfl); (exact rfl); exact rfl))
          all_goals exact ⟨rfl, (by first | exact ent_i | (repeat (first | exact Ent.refl | exact Ent.left | refine Ent.cons ?_ | refine Ent.app ?_)))⟩
        · repeat' ((try (conv => whnf)); first | (refine when_ye ?_ ?_; exact rfl) | (apply br_pnE; (exact rfl); omega) | (apply when_pyE; (exact rfl); omega) | ((with_reducible show CallT _ _ _ _ _ _); first | ((refine call_pe (sp_awake hF hN) ?_ ?_ ?_; (exact rfl); exact rfl))) | (apply ld_o; exact rfl) | (apply stN_o; (exact rfl); (exact rfl); exact rfl))
          all_goals exact ⟨rfl, (by first | exact ent_i | (repeat (first | exact Ent.refl | exact Ent.left | refine Ent.cons ?_ | refine Ent.app ?_)))⟩
end
end Go.Proofs.YtkieffpjjfebjaaGreatDoor
namespace Go.Proofs.YtkieffpjjfebjaaGreatDoor
open Go Go.ChangeShapes Go.WideShapes Go.ChangeAt Go.RowKit
set_option maxRecDepth 100000
theorem forms2_at {W : World} (h : laidMetH Tryz.prog [("strongtx/tdrf.none", Rows.laid_strongtx_tdrf_none), ("strongtx/isa.forms", Rows.laid_strongtx_isa_forms)] W) : FormsAt W :=
  laid_at (d := Rows.laid_strongtx_isa_forms) (g := 2) (t := 240) (cs := formsV) (by kernel_rfl) h (List.Mem.tail _ (List.Mem.head _)) (by kernel_rfl) (by kernel_rfl) (by kernel_rfl) (by kernel_rfl) (by simp [formsV])
theorem none_at {W : World} (h : laidMetH Tryz.prog [("strongtx/tdrf.none", Rows.laid_strongtx_tdrf_none), ("strongtx/isa.forms", Rows.laid_strongtx_isa_forms)] W) : LaidAt W 0 Ord.noneV :=
  laid_at (d := Rows.laid_strongtx_tdrf_none) (g := 0) (t := 56) (cs := Ord.noneV) (by kernel_rfl) h (List.Mem.head _) (by kernel_rfl) (by kernel_rfl) (by kernel_rfl) (by kernel_rfl) (by simp [Ord.noneV])
end Go.Proofs.YtkieffpjjfebjaaGreatDoor
