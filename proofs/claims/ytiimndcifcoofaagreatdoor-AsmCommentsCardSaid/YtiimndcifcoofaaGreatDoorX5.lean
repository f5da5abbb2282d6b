/- What the laws share, part 5. No condition. -/
import Derived.Test.YtiimndcifcoofaaGreatDoorX4
namespace Go.Proofs.YtiimndcifcoofaaGreatDoor
open Go Go.RowKit
set_option maxRecDepth 10000
set_option maxHeartbeats 4000000
inductive DecL : List ByteArray → List Cmd → Prop
  | nil : DecL [] []
  | skip {s : ByteArray} {r : List ByteArray} {cs : List Cmd} (h : wordsM (bareS s) = []) (hr : DecL r cs) : DecL (s :: r) cs
  | cmd {s : ByteArray} {r : List ByteArray} {c : Cmd} {cs : List Cmd} (hc : c.ok) (h : LineOf s c) (hr : DecL r cs) : DecL (s :: r) (c :: cs)
def psC : List Cmd → List Ins
  | [] => []
  | .lab _ :: cs => psC cs
  | .ins i :: cs => i :: psC cs
  | .jmp i _ :: cs => ⟨i.op, i.a, 0, 0, 0⟩ :: psC cs
def tgC : List Cmd → List ByteArray
  | [] => []
  | .lab _ :: cs => tgC cs
  | .ins _ :: cs => noB :: tgC cs
  | .jmp _ j :: cs => bW (lnmL j) :: tgC cs
def lbC : List Cmd → Nat → List (ByteArray × Int)
  | [], _ => []
  | .lab j :: cs, k => (bW (lnmL j), (k : Int)) :: lbC cs k
  | .ins _ :: cs, k => lbC cs (k + 1)
  | .jmp _ _ :: cs, k => lbC cs (k + 1)
def labsC : List Cmd → List Nat
  | [] => []
  | .lab j :: cs => j :: labsC cs
  | .ins _ :: cs => labsC cs
  | .jmp _ _ :: cs => labsC cs
theorem dec_lab {Ls : List ByteArray} {cs : List Cmd} (h : DecL Ls cs) : ∀ j ∈ labsC cs, j ≤ 64 := by
  induction h with
  | nil => intro j hj; cases hj
  | skip _ _ ih => exact ih
  | @cmd s r c cs hc _ _ ih =>
    cases c with
    | lab j0 =>
      intro j hj
      rcases List.mem_cons.1 hj with rfl | hj
      · exact hc
      · exact ih j hj
    | ins i => exact ih
    | jmp i j0 => exact ih
theorem alook_app (n : ByteArray) (x : ByteArray × Int) : ∀ l : List (ByteArray × Int), alook n l = none → n ≠ x.1 → alook n (l ++ [x]) = none
  | [], _, h => by
    simp only [List.nil_append, alook]
    rw [if_neg (fun e => h (ba_toList e))]
  | y :: r, hl, h => by
    simp only [List.cons_append, alook] at hl ⊢
    split at hl
    · cases hl
    · rename_i hy
      rw [if_neg hy]
      exact alook_app n x r hl h
theorem lnm_ne {a b : Nat} (ha : a ≤ 64) (hb : b ≤ 64) (h : a ≠ b) : bW (lnmL a) ≠ bW (lnmL b) := fun e => h (lnm_inj ha hb (by have := congrArg (fun x : ByteArray => x.data.toList) e; simpa only [bW_data] using this))
theorem run_dec {Ls : List ByteArray} {cs : List Cmd} (h : DecL Ls cs) : ∀ (σ : AS) (ln : Int), σ.p.length + (psC cs).length ≤ 64 → (∀ j ∈ labsC cs, alook (bW (lnmL j)) σ.lb = none) → (labsC cs).Nodup →
    ∃ tg, runS Ls ln σ = (0, 0, ⟨σ.p ++ psC cs, σ.lb ++ lbC cs σ.p.length, σ.tg ++ tg⟩) ∧ tg.map (·.1) = tgC cs := by
  induction h with
  | nil => intro σ ln _ _ _; exact ⟨[], by simp [runS, psC, lbC], rfl⟩
  | @skip s r cs h _ ih =>
    intro σ ln h1 h2 h3
    obtain ⟨tg, e1, e2⟩ := ih σ (ln + 1) h1 h2 h3
    refine ⟨tg, ?_, e2⟩
    have hs : stepS σ s ln = (0, σ) := by unfold stepS; rw [if_pos h]
    simp only [runS, hs, if_true]
    exact e1
  | @cmd s r c cs hc h hr ih =>
    intro σ ln h1 h2 h3
    have hs := step_cmd (σ := σ) (ln := ln) hc h
    simp only [runS]
    rw [hs]
    cases c with
    | lab j =>
      simp only [labsC, psC, tgC, lbC] at h1 h2 h3 ⊢
      obtain ⟨h4, h5⟩ := List.nodup_cons.1 h3
      have hst : stepC σ ln (.lab j) = (0, ⟨σ.p, σ.lb ++ [(bW (lnmL j), (σ.p.length : Int))], σ.tg⟩) := by
        show lblS σ _ = _
        unfold lblS
        rw [h2 j List.mem_cons_self]
        rfl
      rw [hst]
      obtain ⟨tg, e1, e2⟩ := ih ⟨σ.p, σ.lb ++ [(bW (lnmL j), (σ.p.length : Int))], σ.tg⟩ (ln + 1) h1 (fun j2 hj2 => alook_app _ _ _ (h2 j2 (List.mem_cons_of_mem _ hj2)) (lnm_ne (dec_lab hr j2 hj2) hc (fun e => h4 (e ▸ hj2)))) h5
      exact ⟨tg, by rw [if_pos rfl, e1]; simp, e2⟩
    | ins i =>
      simp only [labsC, psC, tgC, lbC, List.length_cons] at h1 h2 h3 ⊢
      have hst : stepC σ ln (.ins i) = (0, ⟨σ.p ++ [i], σ.lb, σ.tg ++ [(noB, ln)]⟩) := by
        show pushS σ _ _ _ = _
        unfold pushS
        rw [if_neg (by omega)]
      rw [hst]
      obtain ⟨tg, e1, e2⟩ := ih ⟨σ.p ++ [i], σ.lb, σ.tg ++ [(noB, ln)]⟩ (ln + 1) (by simp; omega) h2 h3
      refine ⟨(noB, ln) :: tg, ?_, by rw [List.map_cons, e2]⟩
      rw [if_pos rfl, e1]
      simp
    | jmp i j =>
      simp only [labsC, psC, tgC, lbC, List.length_cons] at h1 h2 h3 ⊢
      have hst : stepC σ ln (.jmp i j) = (0, ⟨σ.p ++ [⟨i.op, i.a, 0, 0, 0⟩], σ.lb, σ.tg ++ [(bW (lnmL j), ln)]⟩) := by
        show pushS σ _ _ _ = _
        unfold pushS
        rw [if_neg (by omega)]
      rw [hst]
      obtain ⟨tg, e1, e2⟩ := ih ⟨σ.p ++ [⟨i.op, i.a, 0, 0, 0⟩], σ.lb, σ.tg ++ [(bW (lnmL j), ln)]⟩ (ln + 1) (by simp; omega) h2 h3
      refine ⟨(bW (lnmL j), ln) :: tg, ?_, by rw [List.map_cons, e2]⟩
      rw [if_pos rfl, e1]
      simp
def cmdI (T : List Int) (i : Ins) (k : Nat) : Cmd := if iskips i = true then (match idxI ((k : Int) + 1 + iskip i) T 0 with
  | some j => .jmp i j
  | none => .ins i) else .ins i
def labE (T : List Int) (k : Nat) (r : List Cmd) : List Cmd := match idxI (k : Int) T 0 with
  | some j => .lab j :: r
  | none => r
def cmds (T : List Int) : List Ins → Nat → List Cmd
  | [], k => labE T k []
  | i :: r, k => labE T k (cmdI T i k :: cmds T r (k + 1))
theorem idx_get {x : Int} : ∀ {T : List Int} {j q : Nat}, idxI x T j = some q → ∃ m, q = j + m ∧ T[m]? = some x
  | [], _, _, h => by cases h
  | y :: r, j, q, h => by
    unfold idxI at h
    split at h
    · rename_i e
      exact ⟨0, (Option.some.inj h).symm, by simp [e]⟩
    · obtain ⟨m, h1, h2⟩ := idx_get h
      exact ⟨m + 1, by omega, by simpa using h2⟩
theorem idx_inj {x y : Int} {T : List Int} {q : Nat} (h1 : idxI x T 0 = some q) (h2 : idxI y T 0 = some q) : x = y := by
  obtain ⟨m, e1, g1⟩ := idx_get h1
  obtain ⟨n, e2, g2⟩ := idx_get h2
  have : m = n := by omega
  subst this
  exact Option.some.inj (g1.symm.trans g2)
theorem labs_cmdI (T : List Int) (i : Ins) (k : Nat) (r : List Cmd) : labsC (cmdI T i k :: r) = labsC r := by
  unfold cmdI
  split
  · split <;> rfl
  · rfl
theorem labs_ge {T : List Int} : ∀ (r : List Ins) (k : Nat), ∀ j ∈ labsC (cmds T r k), ∃ k2 : Nat, k ≤ k2 ∧ idxI (k2 : Int) T 0 = some j
  | [], k, j, h => by
    unfold cmds labE at h
    split at h
    · rename_i j0 e
      rw [labsC, labsC] at h
      rw [List.mem_singleton.1 h]
      exact ⟨k, Nat.le_refl _, e⟩
    · cases h
  | i :: r, k, j, h => by
    unfold cmds labE at h
    split at h
    · rename_i j0 e
      rw [labsC, labs_cmdI] at h
      rcases List.mem_cons.1 h with rfl | h
      · exact ⟨k, Nat.le_refl _, e⟩
      · obtain ⟨k2, h1, h2⟩ := labs_ge r (k + 1) j h
        exact ⟨k2, by omega, h2⟩
    · rw [labs_cmdI] at h
      obtain ⟨k2, h1, h2⟩ := labs_ge r (k + 1) j h
      exact ⟨k2, by omega, h2⟩
theorem labs_nodup {T : List Int} : ∀ (r : List Ins) (k : Nat), (labsC (cmds T r k)).Nodup
  | [], k => by
    unfold cmds labE
    split
    · rw [labsC, labsC]; simp
    · exact List.nodup_nil
  | i :: r, k => by
    have ih := labs_nodup (T := T) r (k + 1)
    unfold cmds labE
    split
    · rename_i j0 e
      rw [labsC, labs_cmdI]
      refine List.nodup_cons.2 ⟨fun h => ?_, ih⟩
      obtain ⟨k2, h1, h2⟩ := labs_ge r (k + 1) j0 h
      have := idx_inj e h2
      omega
    · rw [labs_cmdI]
      exact ih
theorem lb_cmdI (T : List Int) (i : Ins) (k m : Nat) (r : List Cmd) : lbC (cmdI T i k :: r) m = lbC r (m + 1) := by
  unfold cmdI
  split
  · split <;> rfl
  · rfl
theorem lb_look {T : List Int} (hT : T.length ≤ 64) {t q : Nat} (hq : idxI (t : Int) T 0 = some q) : ∀ (r : List Ins) (k : Nat), k ≤ t → t ≤ k + r.length → alook (bW (lnmL q)) (lbC (cmds T r k) k) = some (t : Int) := by
  have hq64 := idx_lt (t : Int) T 0 q hq
  have key : ∀ (k j0 : Nat) (rest : List (ByteArray × Int)), idxI (k : Int) T 0 = some j0 → alook (bW (lnmL q)) ((bW (lnmL j0), (k : Int)) :: rest) = if k = t then some (t : Int) else alook (bW (lnmL q)) rest := fun k j0 rest e => by
    have hj64 := idx_lt (k : Int) T 0 j0 e
    simp only [alook]
    by_cases hkt : k = t
    · subst hkt
      have : j0 = q := Option.some.inj (e.symm.trans hq)
      subst this
      rw [if_pos rfl, if_pos rfl]
    · have hne : q ≠ j0 := fun h => by
        subst h
        have := idx_inj e hq
        omega
      rw [if_neg (fun e2 => lnm_ne (by omega) (by omega) hne (ba_toList e2)), if_neg hkt]
  intro r
  induction r with
  | nil =>
    intro k h1 h2
    have : k = t := by simp at h2; omega
    unfold cmds labE
    rw [this, hq]
    simp only [lbC]
    rw [key t q _ hq, if_pos rfl]
  | cons i r ih =>
    intro k h1 h2
    rw [List.length_cons] at h2
    unfold cmds labE
    cases hk : idxI (k : Int) T 0 with
    | none =>
      have hne : k ≠ t := fun e => by rw [e, hq] at hk; cases hk
      simp only
      rw [lb_cmdI]
      exact ih (k + 1) (by omega) (by omega)
    | some j0 =>
      simp only [lbC]
      rw [key k j0 _ hk]
      by_cases hkt : k = t
      · rw [if_pos hkt]
      · rw [if_neg hkt, lb_cmdI]
        exact ih (k + 1) (by omega) (by omega)
theorem ps_labE (T : List Int) (k : Nat) (r : List Cmd) : psC (labE T k r) = psC r := by unfold labE; split <;> rfl
theorem tg_labE (T : List Int) (k : Nat) (r : List Cmd) : tgC (labE T k r) = tgC r := by unfold labE; split <;> rfl
theorem ps_len (T : List Int) : ∀ (r : List Ins) (k : Nat), (psC (cmds T r k)).length = r.length
  | [], k => by unfold cmds; rw [ps_labE]; rfl
  | i :: r, k => by
    unfold cmds cmdI
    rw [ps_labE]
    have := ps_len T r (k + 1)
    split
    · split <;> (rw [psC]; simp [this])
    · rw [psC]; simp [this]
theorem lnm_nonil {j : Nat} : ¬ (bW (lnmL j)).toList = noB.toList := fun e => by
  have := congrArg (fun x : ByteArray => x.data.toList) (ba_toList e)
  simp only [bW_data, noB] at this
  simp [lnmL] at this
theorem res_dis {T : List Int} {n : Nat} {lb : List (ByteArray × Int)} (hlb : ∀ t q : Nat, idxI (t : Int) T 0 = some q → t ≤ n → alook (bW (lnmL q)) lb = some (t : Int)) (htr : ∀ x ∈ T, 0 ≤ x ∧ x ≤ n) :
    ∀ (r : List Ins) (k : Nat) (acc : List Ins) (tg : List (ByteArray × Int)), tg.map (·.1) = tgC (cmds T r k) → k + r.length = n → resS lb (psC (cmds T r k)) tg k acc = (0, 0, acc ++ r)
  | [], k, acc, tg, _, _ => by
    unfold cmds
    rw [ps_labE]
    simp [psC, resS]
  | i :: r, k, acc, tg, h, hn => by
    rw [List.length_cons] at hn
    have ih := fun acc tg h => res_dis hlb htr r (k + 1) acc tg h (by omega)
    unfold cmds at h ⊢
    rw [tg_labE] at h
    rw [ps_labE]
    have hins : tg.map (·.1) = noB :: tgC (cmds T r (k + 1)) → resS lb (i :: psC (cmds T r (k + 1))) tg k acc = (0, 0, acc ++ i :: r) := fun h => by
      cases tg with
      | nil => cases h
      | cons t tg =>
        rw [List.map_cons, List.cons.injEq] at h
        simp only [resS]
        rw [if_pos (by rw [h.1]), ih _ _ h.2]
        simp
    unfold cmdI at h ⊢
    split
    · rename_i hs
      rw [if_pos hs] at h
      cases hx : idxI ((k : Int) + 1 + iskip i) T 0 with
      | none =>
        rw [hx] at h
        exact hins h
      | some j =>
        rw [hx] at h
        simp only [tgC, psC] at h ⊢
        obtain ⟨tt, htt⟩ : ∃ tt : Nat, (k : Int) + 1 + iskip i = tt := ⟨((k : Int) + 1 + iskip i).toNat, by have := iskip_le i; omega⟩
        have hle : tt ≤ n := by
          obtain ⟨m, _, hm⟩ := idx_get hx
          have := htr _ (List.mem_of_getElem? hm)
          omega
        rw [htt] at hx
        have hl := hlb tt j hx hle
        cases tg with
        | nil => cases h
        | cons t tg =>
          rw [List.map_cons, List.cons.injEq] at h
          simp only [resS]
          rw [if_neg (by rw [h.1]; exact lnm_nonil), h.1, hl]
          have hr := iskip_le i
          simp only
          rw [if_neg (by omega)]
          have hi : (⟨i.op, i.a, 0, 0, (tt : Int) - k - 1⟩ : Ins) = i := by
            have him : iskip i = i.imm := by unfold iskip; rw [if_pos hs]
            have hbc : i.b = 0 ∧ i.c = 0 := by
              rcases fmt_form hs with ⟨_, _, hb, hc, _⟩ | ⟨_, hb, hc, _⟩ <;> exact ⟨hb, hc⟩
            obtain ⟨io, ia, ib, ic, im⟩ := i
            dsimp only at him hbc ⊢
            obtain ⟨rfl, rfl⟩ := hbc
            rw [show (tt : Int) - k - 1 = im by omega]
          rw [hi, ih _ _ h.2]
          simp
    · rename_i hs
      rw [if_neg hs] at h
      exact hins h
theorem asm_of_dec {p : List Ins} (hl : p.length ≤ 64) {s : ByteArray} (hs : s.size ≤ 65536) (hd : DecL (linesB s) (cmds (tgtT p) p 0)) : asmM s = (p, 0, 0) := by
  have htl := tgtT_len p
  have htr := tgtT_rng p
  obtain ⟨tg, e1, e2⟩ := run_dec hd AS0 1 (by rw [ps_len]; show 0 + p.length ≤ 64; omega) (fun _ _ => rfl) (labs_nodup p 0)
  unfold asmM
  rw [if_neg (by omega), e1]
  unfold finS
  rw [if_pos rfl]
  have hres := res_dis (T := tgtT p) (n := p.length) (lb := lbC (cmds (tgtT p) p 0) 0) (fun t q hq ht => lb_look (by omega) hq p 0 (Nat.zero_le _) (by omega)) htr p 0 [] tg e2 (by omega)
  have hA : (AS0.p ++ psC (cmds (tgtT p) p 0)) = psC (cmds (tgtT p) p 0) := rfl
  have hB : (AS0.lb ++ lbC (cmds (tgtT p) p 0) AS0.p.length) = lbC (cmds (tgtT p) p 0) 0 := rfl
  have hC : AS0.tg ++ tg = tg := rfl
  simp only [hA, hB, hC, hres]
  rfl
def Cmd.txt (c : Cmd) : List UInt8 := Go.Lib.join c.ws [32]
theorem join_mem : ∀ (ws : List (List UInt8)) (c : UInt8), c ∈ Go.Lib.join ws [32] → c = 32 ∨ ∃ w ∈ ws, c ∈ w
  | [], c, h => by simp [Go.Lib.join, List.intercalate] at h
  | [w], c, h => .inr ⟨w, List.mem_cons_self, by simpa [Go.Lib.join, List.intercalate] using h⟩
  | w :: w2 :: r, c, h => by
    have e : Go.Lib.join (w :: w2 :: r) [32] = w ++ 32 :: Go.Lib.join (w2 :: r) [32] := by simp [Go.Lib.join, List.intercalate, List.intersperse]
    rw [e] at h
    rcases List.mem_append.1 h with h | h
    · exact .inr ⟨w, List.mem_cons_self, h⟩
    · rcases List.mem_cons.1 h with h | h
      · exact .inl h
      · rcases join_mem (w2 :: r) c h with h | ⟨x, hx, h⟩
        · exact .inl h
        · exact .inr ⟨x, List.mem_cons_of_mem _ hx, h⟩
theorem txt_good {c : Cmd} (h : c.ok) : ∀ x ∈ c.txt, x ≠ 10 ∧ x ≠ 35 := by
  intro x hx
  rcases join_mem _ x hx with rfl | ⟨w, hw, hx⟩
  · decide
  · exact ((ws_good h w hw).2 x hx).2
theorem txt_wl {c : Cmd} (h : c.ok) : wl [] c.txt = c.ws := wl_join _ fun w hw => ⟨(ws_good h w hw).1, fun x hx => ((ws_good h w hw).2 x hx).1⟩
theorem txt_len {c : Cmd} (h : c.ok) : c.txt.length ≤ 88 := by
  have hln : ∀ j : Nat, j ≤ 64 → (lnmL j).length ≤ 20 := fun j hj => by
    have := (name_ok (lnm_facts j (by omega)).1).2.1
    rwa [bW_size] at this
  have h1 : ∀ w ∈ c.ws, w.length ≤ 21 := by
    intro w hw
    cases c with
    | lab j =>
      rw [List.mem_singleton.1 hw, List.length_append]
      have := hln j h
      simp; omega
    | ins i => exact (fmt_words h.1 h.2.1 h.2.2 w hw).2.2
    | jmp i j =>
      rcases List.mem_append.1 hw with hw | hw
      · exact (fmt_words h.1.1 h.1.2.1 h.1.2.2 w (List.dropLast_subset _ hw)).2.2
      · rw [List.mem_singleton.1 hw]
        have := hln j h.2.2
        omega
  have h2 : c.ws.length ≤ 4 := by
    cases c with
    | lab j => simp [Cmd.ws]
    | ins i => exact fmt_len i
    | jmp i j =>
      have := fmt_len i
      simp only [Cmd.ws, List.length_append, List.length_dropLast, List.length_singleton]
      have : 0 < (fmtL i).length := by simp [fmtL]
      omega
  have := join_len c.ws h1
  unfold Cmd.txt
  omega
theorem cut_app {x : List UInt8} (hx : cutL x = []) : ∀ u : List UInt8, (∀ c ∈ u, c ≠ 35) → cutL (u ++ x) = u
  | [], _ => hx
  | c :: u, h => by
    have ih := cut_app hx u fun y hy => h y (List.mem_cons_of_mem _ hy)
    unfold cutL at ih ⊢
    rw [List.cons_append, List.takeWhile_cons_of_pos (by simpa using h c List.mem_cons_self), ih]
theorem line_of {c : Cmd} (h : c.ok) {a b : Nat} (hab : a + b ≤ 100) {x : List UInt8} (hx : cutL x = []) : LineOf (bW (List.replicate a 32 ++ c.txt ++ List.replicate b 32 ++ x)) c := by
  have hb : bareS (bW (List.replicate a 32 ++ c.txt ++ List.replicate b 32 ++ x)) = bW (List.replicate a 32 ++ c.txt ++ List.replicate b 32) := by
    unfold bareS
    rw [bW_data, cut_app hx]
    intro y hy
    rcases List.mem_append.1 hy with hy | hy
    · rcases List.mem_append.1 hy with hy | hy
      · rw [(List.mem_replicate.1 hy).2]; decide
      · exact (txt_good h y hy).2
    · rw [(List.mem_replicate.1 hy).2]; decide
  refine ⟨?_, ?_⟩
  · rw [hb]
    have h1 : (wordsM (bW (List.replicate a 32 ++ c.txt ++ List.replicate b 32))).map (fun x => x.data.toList) = c.ws := by
      rw [words_wl, bW_data, wl_ends, wl_sps, txt_wl h]
    have h2 := congrArg (List.map bW) h1
    have e : (bW ∘ fun x : ByteArray => x.data.toList) = id := by funext x; exact bW_self x
    rw [List.map_map, e, List.map_id] at h2
    exact h2
  · rw [hb, bW_size]
    have := txt_len h
    simp only [List.length_append, List.length_replicate]
    omega
theorem txt_ins {T : List Int} {i : Ins} {k : Nat} (h : rngI i) : (cmdI T i k).txt = insX T i k := by
  unfold cmdI insX
  split
  · rename_i hs
    obtain ⟨ws, x, e1, e2, e3, e4, e5⟩ := fmt_split hs h.2.1 h.2.2
    split
    · rename_i j hj
      rw [hj]
      show Go.Lib.join ((fmtL i).dropLast ++ [lnmL j]) [32] = _
      rw [e1, List.dropLast_concat, join_snoc _ _ e2, e4]
      simp
    · rename_i hj
      rw [hj]
      show Go.Lib.join (fmtL i) [32] = (fmtB i).data.toList
      unfold fmtB
      simp
  · show Go.Lib.join (fmtL i) [32] = (fmtB i).data.toList
    unfold fmtB
    simp
theorem dis_txt {T : List Int} : ∀ (r : List Ins) (k : Nat), (∀ i ∈ r, rngI i) → disR T r k = ((cmds T r k).map fun c => c.txt ++ [10]).flatten
  | [], k, _ => by
    unfold cmds labE disR labT
    cases idxI (k : Int) T 0 with
    | none => rfl
    | some j => simp [Cmd.txt, Cmd.ws, Go.Lib.join, List.intercalate]
  | i :: r, k, h => by
    have ih := dis_txt (T := T) r (k + 1) fun x hx => h x (List.mem_cons_of_mem _ hx)
    have hi := txt_ins (T := T) (k := k) (h i List.mem_cons_self)
    unfold cmds labE disR labT
    rw [ih, ← hi]
    cases idxI (k : Int) T 0 with
    | none => simp
    | some j => simp [Cmd.txt, Cmd.ws, Go.Lib.join, List.intercalate]
theorem ln_run : ∀ (l cur r : List UInt8), (∀ c ∈ l, c ≠ 10) → lnL cur (l ++ 10 :: r) = (cur ++ l) :: lnL [] r
  | [], cur, r, _ => by rw [List.nil_append, ln_cons, if_pos rfl, List.append_nil]
  | c :: l, cur, r, h => by
    rw [List.cons_append, ln_cons, if_neg (h c List.mem_cons_self), ln_run l _ r fun x hx => h x (List.mem_cons_of_mem _ hx)]
    simp
theorem lines_of : ∀ ls : List (List UInt8), (∀ l ∈ ls, ∀ c ∈ l, c ≠ 10) → lnL [] ((ls.map fun l => l ++ [10]).flatten) = ls
  | [], _ => rfl
  | l :: ls, h => by
    rw [List.map_cons, List.flatten_cons, List.append_assoc]
    rw [show [10] ++ (ls.map fun l => l ++ [10]).flatten = 10 :: (ls.map fun l => l ++ [10]).flatten from rfl, ln_run l [] _ (h l List.mem_cons_self), lines_of ls fun x hx => h x (List.mem_cons_of_mem _ hx)]
    rfl
theorem cmds_ok {T : List Int} (hT : T.length ≤ 64) : ∀ (r : List Ins) (k : Nat), (∀ i ∈ r, rngI i) → ∀ c ∈ cmds T r k, c.ok := by
  have hlab : ∀ (k : Nat) (j : Nat), idxI (k : Int) T 0 = some j → (Cmd.lab j).ok := fun k j e => by
    have := idx_lt (k : Int) T 0 j e
    show j ≤ 64
    omega
  intro r
  induction r with
  | nil =>
    intro k _ c hc
    unfold cmds labE at hc
    split at hc
    · rename_i j e
      rw [List.mem_singleton.1 hc]
      exact hlab k j e
    · cases hc
  | cons i r ih =>
    intro k h c hc
    have hI : (cmdI T i k).ok := by
      unfold cmdI
      split
      · rename_i hs
        split
        · rename_i j e
          have := idx_lt _ T 0 j e
          exact ⟨h i List.mem_cons_self, hs, by omega⟩
        · exact h i List.mem_cons_self
      · exact h i List.mem_cons_self
    have hrest : c ∈ cmdI T i k :: cmds T r (k + 1) → c.ok := fun hc => by
      rcases List.mem_cons.1 hc with rfl | hc
      · exact hI
      · exact ih (k + 1) (fun x hx => h x (List.mem_cons_of_mem _ hx)) c hc
    unfold cmds labE at hc
    split at hc
    · rename_i j e
      rcases List.mem_cons.1 hc with rfl | hc
      · exact hlab k j e
      · exact hrest hc
    · exact hrest hc
theorem dec_of {f : Cmd → List ByteArray} (hf : ∀ (c : Cmd), c.ok → ∀ (cs : List Cmd) (Ls : List ByteArray), DecL Ls cs → DecL (f c ++ Ls) (c :: cs)) : ∀ cs : List Cmd, (∀ c ∈ cs, c.ok) → DecL (cs.map f).flatten cs
  | [], _ => DecL.nil
  | c :: cs, h => by
    rw [List.map_cons, List.flatten_cons]
    exact hf c (h c List.mem_cons_self) cs _ (dec_of hf cs fun x hx => h x (List.mem_cons_of_mem _ hx))
end Go.Proofs.YtiimndcifcoofaaGreatDoor
namespace Go.Proofs.YtiimndcifcoofaaGreatDoor
open Go Go.RowKit
set_option maxRecDepth 10000
set_option maxHeartbeats 4000000
theorem errP_zero : ∀ {p : List Ins}, (∀ i ∈ p, icheck i = 0) → errP p = 0
  | [], _ => rfl
  | i :: r, h => by
    unfold errP
    rw [if_pos (h i List.mem_cons_self)]
    exact errP_zero fun x hx => h x (List.mem_cons_of_mem _ hx)
theorem cmds_len (T : List Int) : ∀ (r : List Ins) (k : Nat), (cmds T r k).length ≤ 2 * r.length + 1
  | [], k => by unfold cmds labE; split <;> simp
  | i :: r, k => by
    have := cmds_len T r (k + 1)
    unfold cmds labE
    split <;> (simp only [List.length_cons]; omega)
theorem cflat_len : ∀ (cs : List Cmd), (∀ c ∈ cs, c.ok) → ((cs.map fun c => c.txt ++ [10]).flatten).length ≤ 89 * cs.length
  | [], _ => by simp
  | c :: cs, h => by
    have ih := cflat_len cs fun x hx => h x (List.mem_cons_of_mem _ hx)
    have := txt_len (h c List.mem_cons_self)
    rw [List.map_cons, List.flatten_cons, List.length_append, List.length_append, List.length_singleton, List.length_cons]
    omega
theorem disM_ok {p : List Ins} (h : ∀ i ∈ p, rngI i) (hl : p.length ≤ 64) : disM p = (bW (disR (tgtT p) p 0), 0) := by
  unfold disM
  rw [if_neg (by omega), if_pos (errP_zero fun i hi => (h i hi).1)]
theorem dis_size {p : List Ins} (h : ∀ i ∈ p, rngI i) (hl : p.length ≤ 64) : (disM p).1.size ≤ 20000 := by
  have htl := tgtT_len p
  rw [disM_ok h hl, bW_size, dis_txt p 0 h]
  have h1 := cflat_len (cmds (tgtT p) p 0) (cmds_ok (T := tgtT p) (by omega) p 0 h)
  have h2 := cmds_len (tgtT p) p 0
  omega
theorem dis_lines {p : List Ins} (h : ∀ i ∈ p, rngI i) (hl : p.length ≤ 64) : linesB (disM p).1 = ((cmds (tgtT p) p 0).map fun c => bW c.txt) := by
  have htl := tgtT_len p
  have hok := cmds_ok (T := tgtT p) (by omega) p 0 h
  rw [disM_ok h hl]
  unfold linesB
  rw [bW_data, dis_txt p 0 h]
  have e : ((cmds (tgtT p) p 0).map fun c => c.txt ++ [10]) = (((cmds (tgtT p) p 0).map Cmd.txt).map fun l => l ++ [10]) := by rw [List.map_map]; rfl
  rw [e, lines_of _ fun l hl c hc => by
    obtain ⟨x, hx, rfl⟩ := List.mem_map.1 hl
    exact (txt_good (hok x hx) c hc).1, List.map_map]
  rfl
theorem asm_round {p : List Ins} (h : ∀ i ∈ p, rngI i) (hl : p.length ≤ 64) : asmM (disM p).1 = (p, 0, 0) := by
  have htl := tgtT_len p
  have hok := cmds_ok (T := tgtT p) (by omega) p 0 h
  refine asm_of_dec hl (by have := dis_size h hl; omega) ?_
  rw [dis_lines h hl]
  have hd := dec_of (f := fun c => [bW c.txt]) (fun c hc cs Ls hr => by
    have := line_of hc (a := 0) (b := 0) (by omega) (x := []) rfl
    simp only [List.replicate_zero, List.nil_append, List.append_nil] at this
    exact DecL.cmd hc this hr) (cmds (tgtT p) p 0) hok
  have e : ((cmds (tgtT p) p 0).map fun c => [bW c.txt]).flatten = ((cmds (tgtT p) p 0).map fun c => bW c.txt) := by
    generalize cmds (tgtT p) p 0 = cs
    induction cs with
    | nil => rfl
    | cons c cs ih => simp only [List.map_cons, List.flatten_cons, ih]; rfl
  rw [e] at hd
  exact hd
end Go.Proofs.YtiimndcifcoofaaGreatDoor
namespace Go.Proofs.YtiimndcifcoofaaGreatDoor
open Go Go.RowKit
set_option maxRecDepth 10000
set_option maxHeartbeats 4000000
section
variable {W0 : World} {own : Own}
theorem sp_AsmRound (hA : AsmAt W0) {la : Option Addr} {lc : Nat} {l : List Int} (hL : RdE encI 1 W0 own la l) {sa : Option Addr} {sc : Nat} {sk : List Int} (hS : RdE encI 1 W0 own sa sk) :
    Pure Tryz.prog W0 6 [.slice la l.length lc, .slice sa sk.length sc] own (.bool true) := by
  refine pure_of (spec_of mixed low_law04_AsmRound (by simp [ir_law04_AsmRound]) ?_)
  have h9 := fun own => sp_awake4 (own := own) hA
  by_cases h6 : 60 < (l.length : Int)
  · repeat' ((try (conv => whnf)); first | (refine when_ye ?_ ?_; exact rfl) | (refine when_ne ?_ ?_; exact rfl) | (refine br_te ?_ ?_; exact rfl) | (refine br_fe ?_ ?_; exact rfl) | (apply br_pyE; (exact rfl); omega) | (apply br_pnE; (exact rfl); omega) | (apply when_pyE; (exact rfl); omega) | (apply when_pnE; (exact rfl); omega) | (apply br_npyE; (exact rfl); omega) | (apply br_npnE; (exact rfl); omega) | (apply when_npyE; (exact rfl); omega) | (apply when_npnE; (exact rfl); omega) | ((with_reducible show CallT _ _ _ _ _ _); first | ((refine call_pe (h9 _) ?_ ?_ ?_; (exact rfl); exact rfl))) | (refine ari ?_ ?_; omega) | (refine aru ?_ ?_; omega) | (apply sel; exact rfl) | (refine ix0 rfl ?_) | (refine ix1 rfl ?_) | (refine ix2 rfl ?_) | (refine ix3 rfl ?_) | (apply ixj; omega) | (refine ixn ?_ ?_; omega) | (refine ixs0 rfl ?_) | (refine ixs1 rfl ?_) | (refine ixs_j ?_ ?_; omega) | (refine ixs_n ?_ ?_; omega) | (apply ld_o; exact rfl) | (apply ldN_a; exact rfl) | (apply ldN_o; (exact rfl); exact rfl) | (apply st_o; (exact rfl); exact rfl) | (apply stN_o; (exact rfl); (exact rfl); exact rfl) | (refine new_i (fun bk hbk => ?_)) | (apply when_dE; (exact rfl); (exact rfl); all_goals intro hc) | (apply when_dF; (exact rfl); (exact rfl); all_goals intro hc) | (apply when_nE; (exact rfl); (exact rfl); all_goals intro hc) | (apply when_nF; (exact rfl); (exact rfl); all_goals intro hc) | (apply br_dE; (exact rfl); all_goals intro hc) | (apply br_nE; (exact rfl); all_goals intro hc) | (refine mm_min ?_) | (refine mm_max ?_) | (refine rem_i ?_ ?_; omega) | (refine SelN.mk ?_) | (refine cut_n ?_) | (refine Both.mk ?_ ?_) | (exact True.intro))
    exact ⟨rfl, (by first | exact ent_i | (repeat (first | exact Ent.refl | exact Ent.left | refine Ent.cons ?_ | refine Ent.app ?_)))⟩
  · repeat' ((try (conv => whnf)); first | (refine when_ye ?_ ?_; exact rfl) | (refine when_ne ?_ ?_; exact rfl) | (refine br_te ?_ ?_; exact rfl) | (refine br_fe ?_ ?_; exact rfl) | (apply br_pyE; (exact rfl); omega) | (apply br_pnE; (exact rfl); omega) | (apply when_pyE; (exact rfl); omega) | (apply when_pnE; (exact rfl); omega) | (apply br_npyE; (exact rfl); omega) | (apply br_npnE; (exact rfl); omega) | (apply when_npyE; (exact rfl); omega) | (apply when_npnE; (exact rfl); omega) | ((with_reducible show CallT _ _ _ _ _ _); first | ((refine call_prog (lc := lc) 40 hL (by omega) ⟨by decide, by decide⟩ ?_ ?_ (fun qa qc QD q hQB hQ1 hQ2 => ?_); (exact rfl); (exact rfl)))) | (refine ari ?_ ?_; omega) | (refine aru ?_ ?_; omega) | (apply sel; exact rfl) | (refine ix0 rfl ?_) | (refine ix1 rfl ?_) | (refine ix2 rfl ?_) | (refine ix3 rfl ?_) | (apply ixj; omega) | (refine ixn ?_ ?_; omega) | (refine ixs0 rfl ?_) | (refine ixs1 rfl ?_) | (refine ixs_j ?_ ?_; omega) | (refine ixs_n ?_ ?_; omega) | (apply ld_o; exact rfl) | (apply ldN_a; exact rfl) | (apply ldN_o; (exact rfl); exact rfl) | (apply st_o; (exact rfl); exact rfl) | (apply stN_o; (exact rfl); (exact rfl); exact rfl) | (refine new_i (fun bk hbk => ?_)) | (apply when_dE; (exact rfl); (exact rfl); all_goals intro hc) | (apply when_dF; (exact rfl); (exact rfl); all_goals intro hc) | (apply when_nE; (exact rfl); (exact rfl); all_goals intro hc) | (apply when_nF; (exact rfl); (exact rfl); all_goals intro hc) | (apply br_dE; (exact rfl); all_goals intro hc) | (apply br_nE; (exact rfl); all_goals intro hc) | (refine mm_min ?_) | (refine mm_max ?_) | (refine rem_i ?_ ?_; omega) | (refine SelN.mk ?_) | (refine cut_n ?_) | (refine Both.mk ?_ ?_) | (exact True.intro))
    refine loop_i (σ := Nat × List Ins × Own) (fun x => [(6, .int .i64 x.1)]) (fun x => x.2.2 ++ own) (fun x => x.1 ≤ q.length ∧ x.2.1.length = q.length ∧ BufE Ins.enc 23 5 qa qc x.2.1 x.2.2 ∧ ∀ y ∈ x.2.1, icheck y = 0 ∧ 0 ≤ y.imm ∧ y.imm ≤ 64) (fun x => q.length - x.1) (0, q, QD) ⟨Nat.zero_le _, rfl, hQB, hQ1⟩ (by repeat' (first | exact True.intro | refine And.intro ?_ ?_ | exact rfl | exact vi (by omega) | (dsimp only; exact rfl) | (dsimp only; exact vi (by omega)))) Ent.refl rfl ?_
    rintro ⟨k, r, D⟩ junk ⟨hk, hrl, hB, hI⟩
    dsimp only at hk hrl hB hI ⊢
    have hRB := hB.rd (W0 := W0)
    by_cases hlt : k < q.length
    · have hlt' : (k : Int) < q.length := by omega
      obtain ⟨i, hi⟩ : ∃ i, r[k]? = some i := ⟨_, List.getElem?_eq_getElem (by omega)⟩
      obtain ⟨hi0, hi1⟩ := hI i (List.mem_of_getElem? hi)
      have hs := fun own => sp_rskips W0 own i
      have hsk := fun h (m : Int) => icheck_skip (x := i) hi0 h (m := m)
      have hRE := hRB.ent (Ent.left (D := D) (r := own))
      generalize iskip i = s at *
      cases hq : iskips i with
      | false =>
        rw [hq] at hs
        obtain ⟨io, ia, ib, ic, im⟩ := i
        repeat' ((try (conv => whnf)); first | (refine when_ye ?_ ?_; exact rfl) | (refine when_ne ?_ ?_; exact rfl) | (refine br_te ?_ ?_; exact rfl) | (refine br_fe ?_ ?_; exact rfl) | (apply br_pyE; (exact rfl); omega) | (apply br_pnE; (exact rfl); omega) | (apply when_pyE; (exact rfl); omega) | (apply when_pnE; (exact rfl); omega) | (apply br_npyE; (exact rfl); omega) | (apply br_npnE; (exact rfl); omega) | (apply when_npyE; (exact rfl); omega) | (apply when_npnE; (exact rfl); omega) | (refine ixEn hRE hi hrl ?_ ?_; (omega)) | ((with_reducible show Ld _ _ _ _); first | (refine ldE0 hRB hi rfl ?_) | (refine ldEk hRB hi rfl ?_) | (refine ldE1 hRB hi rfl ?_)) | ((with_reducible show IxS _ _ _ _ _); first | ((refine ixE hRB hi ?_ ?_; (first | rfl | omega)))) | ((with_reducible show LdN _ _ _ _ _); first | (refine ldNEi hRB hi rfl ?_)) | ((with_reducible show CallT _ _ _ _ _ _); first | ((refine call_pe (hs _) ?_ ?_ ?_; (exact rfl); exact rfl))) | (refine ari ?_ ?_; omega) | (refine aru ?_ ?_; omega) | (apply sel; exact rfl) | (refine ix0 rfl ?_) | (refine ix1 rfl ?_) | (refine ix2 rfl ?_) | (refine ix3 rfl ?_) | (apply ixj; omega) | (refine ixn ?_ ?_; omega) | (refine ixs0 rfl ?_) | (refine ixs1 rfl ?_) | (refine ixs_j ?_ ?_; omega) | (refine ixs_n ?_ ?_; omega) | (apply ld_o; exact rfl) | (apply ldN_a; exact rfl) | (apply ldN_o; (exact rfl); exact rfl) | (apply st_o; (exact rfl); exact rfl) | (apply stN_o; (exact rfl); (exact rfl); exact rfl) | (refine new_i (fun bk hbk => ?_)) | (apply when_dE; (exact rfl); (exact rfl); all_goals intro hc) | (apply when_dF; (exact rfl); (exact rfl); all_goals intro hc) | (apply when_nE; (exact rfl); (exact rfl); all_goals intro hc) | (apply when_nF; (exact rfl); (exact rfl); all_goals intro hc) | (apply br_dE; (exact rfl); all_goals intro hc) | (apply br_nE; (exact rfl); all_goals intro hc) | (refine mm_min ?_) | (refine mm_max ?_) | (refine rem_i ?_ ?_; omega) | (refine SelN.mk ?_) | (refine cut_n ?_) | (refine Both.mk ?_ ?_) | (exact True.intro))
        exact ⟨(k + 1, r, D), ⟨by dsimp only; omega, hrl, hB, hI⟩, by dsimp only; omega, (by repeat' (first | exact True.intro | refine And.intro ?_ ?_ | exact rfl | exact vi (by omega) | (dsimp only; exact rfl) | (dsimp only; exact vi (by omega)))), (by first | exact ent_i | (repeat (first | exact Ent.refl | exact Ent.left | refine Ent.cons ?_ | refine Ent.app ?_)))⟩
      | true =>
        rw [hq] at hs
        have hsk2 := hsk hq
        by_cases hj : k < sk.length
        · have hj' : (k : Int) < sk.length := by omega
          obtain ⟨v, hv⟩ : ∃ v, sk[k]? = some v := ⟨_, List.getElem?_eq_getElem hj⟩
          have hpl := fun own => sp_place W0 own v (n := 60) ⟨by omega, by omega⟩
          have hpr := plc_rng v (n := 60) (by omega)
          generalize plc v 60 = u at *
          obtain ⟨io, ia, ib, ic, im⟩ := i
          repeat' ((try (conv => whnf)); first | (refine when_ye ?_ ?_; exact rfl) | (refine when_ne ?_ ?_; exact rfl) | (refine br_te ?_ ?_; exact rfl) | (refine br_fe ?_ ?_; exact rfl) | (apply br_pyE; (exact rfl); omega) | (apply br_pnE; (exact rfl); omega) | (apply when_pyE; (exact rfl); omega) | (apply when_pnE; (exact rfl); omega) | (apply br_npyE; (exact rfl); omega) | (apply br_npnE; (exact rfl); omega) | (apply when_npyE; (exact rfl); omega) | (apply when_npnE; (exact rfl); omega) | (refine ixEn hRE hi hrl ?_ ?_; (omega)) | (apply stE_i (enc := Ins.enc) (j := k) (k := 4) (⟨io, ia, ib, ic, u⟩ : Ins) hB hi; (exact rfl); (omega); (exact rfl); (exact rfl); intro E1 he1) | ((with_reducible show Ld _ _ _ _); first | (refine ldE0 hRB hi rfl ?_) | (refine ldEk hRB hi rfl ?_) | (refine ldE1 hRB hi rfl ?_) | (refine ldE0 hS hv rfl ?_) | (refine ldEk hS hv rfl ?_) | (refine ldE1 hS hv rfl ?_)) | ((with_reducible show IxS _ _ _ _ _); first | ((refine ixE hRB hi ?_ ?_; (first | rfl | omega))) | ((refine ixE hS hv ?_ ?_; (first | rfl | omega)))) | ((with_reducible show LdN _ _ _ _ _); first | (refine ldNEi hRB hi rfl ?_) | (refine ldNEi hS hv rfl ?_)) | ((with_reducible show CallT _ _ _ _ _ _); first | ((refine call_pe (hs _) ?_ ?_ ?_; (exact rfl); exact rfl)) | ((refine call_pe (hpl _) ?_ ?_ ?_; (exact rfl); exact rfl))) | (refine ari ?_ ?_; omega) | (refine aru ?_ ?_; omega) | (apply sel; exact rfl) | (refine ix0 rfl ?_) | (refine ix1 rfl ?_) | (refine ix2 rfl ?_) | (refine ix3 rfl ?_) | (apply ixj; omega) | (refine ixn ?_ ?_; omega) | (refine ixs0 rfl ?_) | (refine ixs1 rfl ?_) | (refine ixs_j ?_ ?_; omega) | (refine ixs_n ?_ ?_; omega) | (apply ld_o; exact rfl) | (apply ldN_a; exact rfl) | (apply ldN_o; (exact rfl); exact rfl) | (apply st_o; (exact rfl); exact rfl) | (apply stN_o; (exact rfl); (exact rfl); exact rfl) | (refine new_i (fun bk hbk => ?_)) | (apply when_dE; (exact rfl); (exact rfl); all_goals intro hc) | (apply when_dF; (exact rfl); (exact rfl); all_goals intro hc) | (apply when_nE; (exact rfl); (exact rfl); all_goals intro hc) | (apply when_nF; (exact rfl); (exact rfl); all_goals intro hc) | (apply br_dE; (exact rfl); all_goals intro hc) | (apply br_nE; (exact rfl); all_goals intro hc) | (refine mm_min ?_) | (refine mm_max ?_) | (refine rem_i ?_ ?_; omega) | (refine SelN.mk ?_) | (refine cut_n ?_) | (refine Both.mk ?_ ?_) | (exact True.intro))
          refine ⟨(k + 1, r.set k ⟨io, ia, ib, ic, u⟩, E1), ⟨by dsimp only; omega, by dsimp only; rw [List.length_set]; exact hrl, he1, fun y hy => ?_⟩, by dsimp only; omega, (by repeat' (first | exact True.intro | refine And.intro ?_ ?_ | exact rfl | exact vi (by omega) | (dsimp only; exact rfl) | (dsimp only; exact vi (by omega)))), (by first | exact ent_i | (repeat (first | exact Ent.refl | exact Ent.left | refine Ent.cons ?_ | refine Ent.app ?_)))⟩
          rcases List.mem_or_eq_of_mem_set hy with hy | rfl
          · exact hI y hy
          · exact ⟨hsk2 u ⟨by omega, by omega⟩, by dsimp only; omega, by dsimp only; omega⟩
        · have hj' : ¬ (k : Int) < sk.length := by omega
          obtain ⟨io, ia, ib, ic, im⟩ := i
          repeat' ((try (conv => whnf)); first | (refine when_ye ?_ ?_; exact rfl) | (refine when_ne ?_ ?_; exact rfl) | (refine br_te ?_ ?_; exact rfl) | (refine br_fe ?_ ?_; exact rfl) | (apply br_pyE; (exact rfl); omega) | (apply br_pnE; (exact rfl); omega) | (apply when_pyE; (exact rfl); omega) | (apply when_pnE; (exact rfl); omega) | (apply br_npyE; (exact rfl); omega) | (apply br_npnE; (exact rfl); omega) | (apply when_npyE; (exact rfl); omega) | (apply when_npnE; (exact rfl); omega) | (refine ixEn hRE hi hrl ?_ ?_; (omega)) | ((with_reducible show Ld _ _ _ _); first | (refine ldE0 hRB hi rfl ?_) | (refine ldEk hRB hi rfl ?_) | (refine ldE1 hRB hi rfl ?_)) | ((with_reducible show IxS _ _ _ _ _); first | ((refine ixE hRB hi ?_ ?_; (first | rfl | omega)))) | ((with_reducible show LdN _ _ _ _ _); first | (refine ldNEi hRB hi rfl ?_)) | ((with_reducible show CallT _ _ _ _ _ _); first | ((refine call_pe (hs _) ?_ ?_ ?_; (exact rfl); exact rfl))) | (refine ari ?_ ?_; omega) | (refine aru ?_ ?_; omega) | (apply sel; exact rfl) | (refine ix0 rfl ?_) | (refine ix1 rfl ?_) | (refine ix2 rfl ?_) | (refine ix3 rfl ?_) | (apply ixj; omega) | (refine ixn ?_ ?_; omega) | (refine ixs0 rfl ?_) | (refine ixs1 rfl ?_) | (refine ixs_j ?_ ?_; omega) | (refine ixs_n ?_ ?_; omega) | (apply ld_o; exact rfl) | (apply ldN_a; exact rfl) | (apply ldN_o; (exact rfl); exact rfl) | (apply st_o; (exact rfl); exact rfl) | (apply stN_o; (exact rfl); (exact rfl); exact rfl) | (refine new_i (fun bk hbk => ?_)) | (apply when_dE; (exact rfl); (exact rfl); all_goals intro hc) | (apply when_dF; (exact rfl); (exact rfl); all_goals intro hc) | (apply when_nE; (exact rfl); (exact rfl); all_goals intro hc) | (apply when_nF; (exact rfl); (exact rfl); all_goals intro hc) | (apply br_dE; (exact rfl); all_goals intro hc) | (apply br_nE; (exact rfl); all_goals intro hc) | (refine mm_min ?_) | (refine mm_max ?_) | (refine rem_i ?_ ?_; omega) | (refine SelN.mk ?_) | (refine cut_n ?_) | (refine Both.mk ?_ ?_) | (exact True.intro))
          exact ⟨(k + 1, r, D), ⟨by dsimp only; omega, hrl, hB, hI⟩, by dsimp only; omega, (by repeat' (first | exact True.intro | refine And.intro ?_ ?_ | exact rfl | exact vi (by omega) | (dsimp only; exact rfl) | (dsimp only; exact vi (by omega)))), (by first | exact ent_i | (repeat (first | exact Ent.refl | exact Ent.left | refine Ent.cons ?_ | refine Ent.app ?_)))⟩
    · have hlt' : ¬ (k : Int) < q.length := by omega
      have hri : ∀ i ∈ r, -9223372036854775808 ≤ i.imm ∧ i.imm ≤ 9223372036854775807 := fun i hi => by have := hI i hi; omega
      have hrg : ∀ i ∈ r, rngI i := fun i hi => ⟨(hI i hi).1, hri i hi⟩
      have hRE := hRB.ent (Ent.left (D := D) (r := own))
      have d3 := sp_Disassemble (cap := qc) hA hRE (by omega) hri
      rw [hrl] at d3
      have hz := dis_size hrg (by omega)
      have hr1 := asm_round hrg (by omega)
      have hr2 := congrArg Prod.snd (disM_ok hrg (by omega))
      dsimp only at hr2
      have k1 := fun own => sp_Assemble (own := own) hA (disM r).1 (by omega)
      rw [hr1] at k1
      rw [hr2] at d3
      have hkp := fun (a1 : Option Addr) (c1 : Nat) (own' : Own) (h1 : RdE Ins.enc 5 W0 own' a1 r) (h2 : RdE Ins.enc 5 W0 own' qa r) => sp_kprog (c1 := c1) (c2 := qc) h1 h2 (by omega)
      generalize (disM r).1 = tx at *
      rw [← hrl] at d3 ⊢
      repeat' ((try (conv => whnf)); first | (refine when_ye ?_ ?_; exact rfl) | (refine when_ne ?_ ?_; exact rfl) | (refine br_te ?_ ?_; exact rfl) | (refine br_fe ?_ ?_; exact rfl) | (apply br_pyE; (exact rfl); omega) | (apply br_pnE; (exact rfl); omega) | (apply when_pyE; (exact rfl); omega) | (apply when_pnE; (exact rfl); omega) | (apply br_npyE; (exact rfl); omega) | (apply br_npnE; (exact rfl); omega) | (apply when_npyE; (exact rfl); omega) | (apply when_npnE; (exact rfl); omega) | ((with_reducible show CallT _ _ _ _ _ _); first | ((refine call_pe (d3) ?_ ?_ ?_; (exact rfl); exact rfl)) | ((refine call_se (k1 _) ?_ ?_ (fun v own' hv => ?_); (exact rfl); (exact rfl); (obtain ⟨a1, c1, rfl, hR1, hE1⟩ := hv))) | ((refine call_pe (hkp a1 c1 _ hR1 (hRE.ent hE1)) ?_ ?_ ?_; (exact rfl); exact rfl)) | ((refine call_pe (h9 _) ?_ ?_ ?_; (exact rfl); exact rfl))) | (refine ari ?_ ?_; omega) | (refine aru ?_ ?_; omega) | (apply sel; exact rfl) | (refine ix0 rfl ?_) | (refine ix1 rfl ?_) | (refine ix2 rfl ?_) | (refine ix3 rfl ?_) | (apply ixj; omega) | (refine ixn ?_ ?_; omega) | (refine ixs0 rfl ?_) | (refine ixs1 rfl ?_) | (refine ixs_j ?_ ?_; omega) | (refine ixs_n ?_ ?_; omega) | (apply ld_o; exact rfl) | (apply ldN_a; exact rfl) | (apply ldN_o; (exact rfl); exact rfl) | (apply st_o; (exact rfl); exact rfl) | (apply stN_o; (exact rfl); (exact rfl); exact rfl) | (refine new_i (fun bk hbk => ?_)) | (apply when_dE; (exact rfl); (exact rfl); all_goals intro hc) | (apply when_dF; (exact rfl); (exact rfl); all_goals intro hc) | (apply when_nE; (exact rfl); (exact rfl); all_goals intro hc) | (apply when_nF; (exact rfl); (exact rfl); all_goals intro hc) | (apply br_dE; (exact rfl); all_goals intro hc) | (apply br_nE; (exact rfl); all_goals intro hc) | (refine mm_min ?_) | (refine mm_max ?_) | (refine rem_i ?_ ?_; omega) | (refine SelN.mk ?_) | (refine cut_n ?_) | (refine Both.mk ?_ ?_) | (exact True.intro))
      exact ⟨rfl, hE1.trans (by first | exact ent_i | (repeat (first | exact Ent.refl | exact Ent.left | refine Ent.cons ?_ | refine Ent.app ?_)))⟩
end
end Go.Proofs.YtiimndcifcoofaaGreatDoor
namespace Go.Proofs.YtiimndcifcoofaaGreatDoor
open Go Go.RowKit
set_option maxRecDepth 10000
set_option maxHeartbeats 4000000
abbrev cmtT : List UInt8 := [35, 32, 110, 111, 112, 58, 32, 55]
def cmtL (u : Int) : List (List UInt8) → Nat → List (List UInt8)
  | [], _ => []
  | t :: r, m => (([32] ++ t ++ [32, 32]) ++ cmtT) :: (if u = (m : Int) % 3 then [32, 32, 32] :: [35] :: cmtL u r (m + 1) else cmtL u r (m + 1))
def flatN (ls : List (List UInt8)) : List UInt8 := (ls.map fun l => l ++ [10]).flatten
theorem flatN_cons (l : List UInt8) (ls : List (List UInt8)) : flatN (l :: ls) = l ++ 10 :: flatN ls := by
  unfold flatN
  simp
theorem bare_sp3 : wordsM (bareS (bW [32, 32, 32])) = [] := by decide +kernel
theorem bare_cm : wordsM (bareS (bW [35])) = [] := by decide +kernel
theorem bare_head : wordsM (bareS (bW [35, 32, 104, 101, 97, 100])) = [] := by decide +kernel
theorem cmt_dec (u : Int) : ∀ (cs : List Cmd) (m : Nat), (∀ c ∈ cs, c.ok) → DecL ((cmtL u (cs.map Cmd.txt) m).map bW) cs
  | [], _, _ => DecL.nil
  | c :: cs, m, h => by
    have ih := cmt_dec u cs (m + 1) fun x hx => h x (List.mem_cons_of_mem _ hx)
    have hc := h c List.mem_cons_self
    have hl := line_of hc (a := 1) (b := 2) (by omega) (x := cmtT) rfl
    simp only [List.map_cons, cmtL]
    refine DecL.cmd hc hl ?_
    split
    · exact DecL.skip bare_sp3 (DecL.skip bare_cm ih)
    · exact ih
theorem cmt_good (u : Int) : ∀ (cs : List Cmd) (m : Nat), (∀ c ∈ cs, c.ok) → ∀ l ∈ cmtL u (cs.map Cmd.txt) m, ∀ x ∈ l, x ≠ 10
  | [], _, _, l, hl => by cases hl
  | c :: cs, m, h, l, hl => by
    have ih := cmt_good u cs (m + 1) fun x hx => h x (List.mem_cons_of_mem _ hx)
    have hc := h c List.mem_cons_self
    simp only [List.map_cons, cmtL] at hl
    rcases List.mem_cons.1 hl with rfl | hl
    · intro x hx
      rcases List.mem_append.1 hx with hx | hx
      · rcases List.mem_append.1 hx with hx | hx
        · rcases List.mem_append.1 hx with hx | hx
          · rw [List.mem_singleton.1 hx]; decide
          · exact (txt_good hc x hx).1
        · have : x = 32 := by simpa using hx
          rw [this]; decide
      · have : ∀ y ∈ cmtT, y ≠ 10 := by decide
        exact this x hx
    · split at hl
      · rcases List.mem_cons.1 hl with rfl | hl
        · decide
        · rcases List.mem_cons.1 hl with rfl | hl
          · decide
          · exact ih l hl
      · exact ih l hl
theorem asm_comments {p : List Ins} (h : ∀ i ∈ p, rngI i) (hl : p.length ≤ 64) (u : Int) {s : List UInt8} (hs : s = flatN ([35, 32, 104, 101, 97, 100] :: cmtL u ((cmds (tgtT p) p 0).map Cmd.txt) 0)) (hz : s.length ≤ 65536) : asmM (bW s) = (p, 0, 0) := by
  have htl := tgtT_len p
  have hok := cmds_ok (T := tgtT p) (by omega) p 0 h
  refine asm_of_dec hl (by rw [bW_size]; exact hz) ?_
  unfold linesB
  rw [bW_data, hs]
  unfold flatN
  rw [lines_of _ fun l hl c hc => by
    rcases List.mem_cons.1 hl with rfl | hl
    · have : ∀ y ∈ ([35, 32, 104, 101, 97, 100] : List UInt8), y ≠ 10 := by decide
      exact this c hc
    · exact cmt_good u _ 0 hok l hl c hc]
  exact DecL.skip bare_head (cmt_dec u _ 0 hok)
end Go.Proofs.YtiimndcifcoofaaGreatDoor
