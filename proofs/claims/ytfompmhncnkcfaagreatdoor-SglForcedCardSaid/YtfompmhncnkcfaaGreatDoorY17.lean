/- What the laws share, part 17. No condition. -/
import Derived.Test.YtfompmhncnkcfaaGreatDoorY16
namespace Go.Proofs.YtfompmhncnkcfaaGreatDoor
open Go
set_option maxRecDepth 10000
set_option maxHeartbeats 4000000
structure PH where
  a : Option Addr
  cap : Nat
  p : List Ins
abbrev PH.enc (h : PH) : List Value := [.slice h.a h.p.length h.cap]
abbrev encI (n : Int) : List Value := [.int .i64 n]
def psG : List PH → Nat → Option (Int × Int × Int)
  | [], _ => none
  | h :: l, t => if (checkP h.p).2 ≠ 0 then some (t, (checkP h.p).1, (checkP h.p).2) else psG l (t + 1)
def ksG (n : Nat) : List Int → Nat → Int × Int × Int
  | [], _ => (0, 0, 0)
  | k :: l, i => if k < 0 ∨ (n : Int) ≤ k then (0, i, 56) else ksG n l (i + 1)
def csM (c : Cfg) (il : Nat) (ps : List PH) (ks : List Int) : Int × Int × Int :=
  if checkM c ≠ 0 then (0, 0, checkM c) else if ps.length < 1 ∨ 16 < ps.length then (0, 0, 54) else if (il : Int) ≠ c.words then (0, 0, 55) else
    match psG ps 0 with
    | some r => r
    | none => if 65536 < ks.length then (0, 0, 56) else ksG ps.length ks 0
def tup3 (r : Int × Int × Int) : Value := .tuple #[.int .i64 r.1, .int .i64 r.2.1, .int .i64 r.2.2]
abbrev scrV (c : Cfg) (ia : Option Addr) (il ic : Nat) (pa : Option Addr) (pn pc : Nat) (ka : Option Addr) (kn kc : Nat) : Value :=
  .agg #[.int .i64 c.words, .int .i64 c.orecs, .int .i64 c.base, .int .i64 c.c0, .int .i64 c.c1, .int .i64 c.c2, .int .i64 c.c3, .int .i64 c.reads, .int .i64 c.writes, .int .i64 c.allocs, .int .i64 c.frees, .int .i64 c.clock, .bool c.strong, .slice ia il ic, .slice pa pn pc, .slice ka kn kc]
theorem drop_of {α : Type} {l : List α} {k : Nat} {x : α} (hx : l[k]? = some x) : l.drop k = x :: l.drop (k + 1) := by
  obtain ⟨hk, he⟩ := List.getElem?_eq_some_iff.1 hx
  rw [List.drop_eq_getElem_cons hk, he]
section
variable {W0 : World} {own : Own} {c : Cfg} {ia pa ka : Option Addr} {il ic pc kc : Nat} {ps : List PH} {ks : List Int}
theorem sp_cs (hF : FormsAt W0) (hP : RdE PH.enc 1 W0 own pa ps) (hQ : ∀ h ∈ ps, RdE Ins.enc 5 W0 own h.a h.p) (hK : RdE encI 1 W0 own ka ks) :
    Pure Tryz.prog W0 30 [scrV c ia il ic pa ps.length pc ka ks.length kc] own (tup3 (csM c il ps ks)) := by
  refine pure_of (spec_of mixed low_layout_CheckScript (by simp [ir_layout_CheckScript]) ?_)
  have hck := fun own => sp_check W0 own c
  unfold csM
  generalize checkM c = z at *
  by_cases h0 : z = 0
  · subst h0
    simp only [ne_eq, not_true_eq_false, if_false]
    by_cases h1 : ps.length < 1 ∨ 16 < ps.length
    · rw [if_pos h1]
      repeat' ((try (conv => whnf)); first | (refine br_f ?_) | (refine br_npn (by omega) ?_) | (apply call_p (hck _)) | (apply call_p (sp_within _ _ _ _ _)) | (apply ld_own; (first | (solve | repeat (first | with_reducible exact List.mem_cons_self | (with_reducible (apply List.mem_append_left; exact List.mem_cons_self)) | with_reducible apply List.mem_cons_of_mem | with_reducible apply List.mem_append_right)) | (repeat (first | exact List.Mem.head _ | apply List.Mem.tail | apply List.mem_append_right))); exact rfl) | (apply ldN_own; (first | (solve | repeat (first | with_reducible exact List.mem_cons_self | (with_reducible (apply List.mem_append_left; exact List.mem_cons_self)) | with_reducible apply List.mem_cons_of_mem | with_reducible apply List.mem_append_right)) | (repeat (first | exact List.Mem.head _ | apply List.Mem.tail | apply List.mem_append_right))); exact rfl; exact rfl) | (refine new_i (fun bk hbk => ?_)))
      all_goals exact ⟨rfl, by (repeat (first | exact Ent.refl | exact Ent.left | refine Ent.cons ?_ | refine Ent.app ?_))⟩
    · rw [if_neg h1]
      by_cases h2 : ¬ (il : Int) = c.words
      · rw [if_pos h2]
        repeat' ((try (conv => whnf)); first | (refine br_f ?_) | (refine br_py (by omega) ?_) | (refine br_npy (by omega) ?_) | (apply call_p (hck _)) | (apply call_p (sp_within _ _ _ _ _)) | (apply ld_own; (first | (solve | repeat (first | with_reducible exact List.mem_cons_self | (with_reducible (apply List.mem_append_left; exact List.mem_cons_self)) | with_reducible apply List.mem_cons_of_mem | with_reducible apply List.mem_append_right)) | (repeat (first | exact List.Mem.head _ | apply List.Mem.tail | apply List.mem_append_right))); exact rfl) | (apply ldN_own; (first | (solve | repeat (first | with_reducible exact List.mem_cons_self | (with_reducible (apply List.mem_append_left; exact List.mem_cons_self)) | with_reducible apply List.mem_cons_of_mem | with_reducible apply List.mem_append_right)) | (repeat (first | exact List.Mem.head _ | apply List.Mem.tail | apply List.mem_append_right))); exact rfl; exact rfl) | (refine new_i (fun bk hbk => ?_)))
        all_goals exact ⟨rfl, by (repeat (first | exact Ent.refl | exact Ent.left | refine Ent.cons ?_ | refine Ent.app ?_))⟩
      · rw [if_neg h2]
        repeat' ((try (conv => whnf)); first | (refine br_f ?_) | (refine br_pn (by omega) ?_) | (refine br_npy (by omega) ?_) | (apply call_p (hck _)) | (apply call_p (sp_within _ _ _ _ _)) | (apply ld_own; (first | (solve | repeat (first | with_reducible exact List.mem_cons_self | (with_reducible (apply List.mem_append_left; exact List.mem_cons_self)) | with_reducible apply List.mem_cons_of_mem | with_reducible apply List.mem_append_right)) | (repeat (first | exact List.Mem.head _ | apply List.Mem.tail | apply List.mem_append_right))); exact rfl) | (apply ldN_own; (first | (solve | repeat (first | with_reducible exact List.mem_cons_self | (with_reducible (apply List.mem_append_left; exact List.mem_cons_self)) | with_reducible apply List.mem_cons_of_mem | with_reducible apply List.mem_append_right)) | (repeat (first | exact List.Mem.head _ | apply List.Mem.tail | apply List.mem_append_right))); exact rfl; exact rfl) | (refine new_i (fun bk hbk => ?_)))
        generalize hres : psG ps 0 = res
        refine loop_c (σ := Nat) (fun t => [(33, .int .i64 t)]) (fun t => t ≤ ps.length ∧ psG (ps.drop t) t = res) (fun t => ps.length - t) 0 ⟨by omega, hres⟩ (by repeat' (first | exact True.intro | refine And.intro ?_ ?_ | exact rfl | exact vi (by omega) | (dsimp only; exact rfl) | (dsimp only; exact vi (by omega)))) rfl ?_
        rintro t junk ⟨ht, hI⟩
        by_cases hlt : t < ps.length
        · obtain ⟨x, hx⟩ : ∃ x, ps[t]? = some x := ⟨_, List.getElem?_eq_getElem hlt⟩
          have hx1 := hQ x (List.mem_of_getElem? hx)
          have hcp := fun ex => sp_pcheck (cap := x.cap) hF (hx1.ent (Ent.app (A := ex) Ent.refl))
          rw [drop_of hx, psG] at hI
          generalize checkP x.p = r at *
          by_cases hr : r.2 ≠ 0
          · rw [if_pos hr] at hI
            subst hI
            repeat' ((try (conv => whnf)); first | (refine br_py (by omega) ?_) | (refine call_p (hcp [_]) ?_) | ((with_reducible show Ld _ _ _ _); first | (refine ldE (k := 0) (RdE.ent hP ?_) hx ?_ rfl ?_; rotate_left; rfl; rotate_left; (solve | (repeat (first | exact Ent.refl | exact Ent.left | refine Ent.cons ?_ | refine Ent.app ?_))))) | ((with_reducible show IxS _ _ _ _ _); first | (refine ixE hP hx ?_ ?_; (first | rfl | omega))) | (apply sel; exact rfl))
            all_goals exact ⟨rfl, by (repeat (first | exact Ent.refl | exact Ent.left | refine Ent.cons ?_ | refine Ent.app ?_))⟩
          · rw [if_neg hr] at hI
            repeat' ((try (conv => whnf)); first | (refine br_py (by omega) ?_) | (refine br_pn (by omega) ?_) | (refine call_p (hcp [_]) ?_) | ((with_reducible show Ld _ _ _ _); first | (refine ldE (k := 0) (RdE.ent hP ?_) hx ?_ rfl ?_; rotate_left; rfl; rotate_left; (solve | (repeat (first | exact Ent.refl | exact Ent.left | refine Ent.cons ?_ | refine Ent.app ?_))))) | ((with_reducible show IxS _ _ _ _ _); first | (refine ixE hP hx ?_ ?_; (first | rfl | omega))) | (refine ari ?_ ?_; omega) | (apply sel; exact rfl))
            all_goals exact ⟨t + 1, ⟨by omega, hI⟩, by omega, (by repeat' (first | exact True.intro | refine And.intro ?_ ?_ | exact rfl | exact vi (by omega) | (dsimp only; exact rfl) | (dsimp only; exact vi (by omega)))), by (repeat (first | exact Ent.refl | exact Ent.left | refine Ent.cons ?_ | refine Ent.app ?_))⟩
        · have ht' : t = ps.length := by omega
          subst ht'
          rw [List.drop_length, psG] at hI
          subst hI
          simp only []
          by_cases h3 : 65536 < ks.length
          · rw [if_pos h3]
            repeat' ((try (conv => whnf)); first | (refine br_py (by omega) ?_) | (refine br_pn (by omega) ?_) | (apply ld_own; (first | (solve | repeat (first | with_reducible exact List.mem_cons_self | (with_reducible (apply List.mem_append_left; exact List.mem_cons_self)) | with_reducible apply List.mem_cons_of_mem | with_reducible apply List.mem_append_right)) | (repeat (first | exact List.Mem.head _ | apply List.Mem.tail | apply List.mem_append_right))); exact rfl))
            all_goals exact ⟨rfl, by (repeat (first | exact Ent.refl | exact Ent.left | refine Ent.cons ?_ | refine Ent.app ?_))⟩
          · rw [if_neg h3]
            generalize hres2 : ksG ps.length ks 0 = res2
            repeat' ((try (conv => whnf)); first | (refine br_pn (by omega) ?_) | (apply ld_own; (first | (solve | repeat (first | with_reducible exact List.mem_cons_self | (with_reducible (apply List.mem_append_left; exact List.mem_cons_self)) | with_reducible apply List.mem_cons_of_mem | with_reducible apply List.mem_append_right)) | (repeat (first | exact List.Mem.head _ | apply List.Mem.tail | apply List.mem_append_right))); exact rfl))
            refine loop_c (σ := Nat) (fun i => [(56, .int .i64 i)]) (fun i => i ≤ ks.length ∧ ksG ps.length (ks.drop i) i = res2) (fun i => ks.length - i) 0 ⟨by omega, hres2⟩ (by repeat' (first | exact True.intro | refine And.intro ?_ ?_ | exact rfl | exact vi (by omega) | (dsimp only; exact rfl) | (dsimp only; exact vi (by omega)))) rfl ?_
            rintro i junk2 ⟨hi, hI⟩
            by_cases hlt2 : i < ks.length
            · obtain ⟨k, hk⟩ : ∃ k, ks[i]? = some k := ⟨_, List.getElem?_eq_getElem hlt2⟩
              rw [drop_of hk, ksG] at hI
              by_cases hb : k < 0 ∨ (ps.length : Int) ≤ k
              · rw [if_pos hb] at hI
                subst hI
                repeat' ((try (conv => whnf)); first | (refine when_y ?_) | (refine when_tf ?_) | (refine br_t ?_) | (refine br_py (by omega) ?_) | ((with_reducible show Ld _ _ _ _); first | (refine ldE (k := 0) (RdE.ent hK ?_) hk ?_ rfl ?_; rotate_left; rfl; rotate_left; (solve | (repeat (first | exact Ent.refl | exact Ent.left | refine Ent.cons ?_ | refine Ent.app ?_))))) | ((with_reducible show IxS _ _ _ _ _); first | (refine ixE hK hk ?_ ?_; (first | rfl | omega))) | (apply ld_own; (first | (solve | repeat (first | with_reducible exact List.mem_cons_self | (with_reducible (apply List.mem_append_left; exact List.mem_cons_self)) | with_reducible apply List.mem_cons_of_mem | with_reducible apply List.mem_append_right)) | (repeat (first | exact List.Mem.head _ | apply List.Mem.tail | apply List.mem_append_right))); exact rfl) | (refine when_df (fun hc => ?_) (fun hc => ?_)))
                all_goals exact ⟨rfl, by (repeat (first | exact Ent.refl | exact Ent.left | refine Ent.cons ?_ | refine Ent.app ?_))⟩
              · rw [if_neg hb] at hI
                repeat' ((try (conv => whnf)); first | (refine when_y ?_) | (refine br_py (by omega) ?_) | (refine br_pn (by omega) ?_) | (refine when_pn (by omega) ?_) | ((with_reducible show Ld _ _ _ _); first | (refine ldE (k := 0) (RdE.ent hK ?_) hk ?_ rfl ?_; rotate_left; rfl; rotate_left; (solve | (repeat (first | exact Ent.refl | exact Ent.left | refine Ent.cons ?_ | refine Ent.app ?_))))) | ((with_reducible show IxS _ _ _ _ _); first | (refine ixE hK hk ?_ ?_; (first | rfl | omega))) | (refine ari ?_ ?_; omega) | (apply ld_own; (first | (solve | repeat (first | with_reducible exact List.mem_cons_self | (with_reducible (apply List.mem_append_left; exact List.mem_cons_self)) | with_reducible apply List.mem_cons_of_mem | with_reducible apply List.mem_append_right)) | (repeat (first | exact List.Mem.head _ | apply List.Mem.tail | apply List.mem_append_right))); exact rfl))
                all_goals exact ⟨i + 1, ⟨by omega, hI⟩, by omega, (by repeat' (first | exact True.intro | refine And.intro ?_ ?_ | exact rfl | exact vi (by omega) | (dsimp only; exact rfl) | (dsimp only; exact vi (by omega)))), by (repeat (first | exact Ent.refl | exact Ent.left | refine Ent.cons ?_ | refine Ent.app ?_))⟩
            · have hi' : i = ks.length := by omega
              subst hi'
              rw [List.drop_length, ksG] at hI
              subst hI
              repeat' ((try (conv => whnf)); first | (refine br_pn (by omega) ?_))
              all_goals exact ⟨rfl, by (repeat (first | exact Ent.refl | exact Ent.left | refine Ent.cons ?_ | refine Ent.app ?_))⟩
  · rw [if_pos h0]
    repeat' ((try (conv => whnf)); first | (refine br_py (by omega) ?_) | (apply call_p (hck _)) | (apply ldN_own; (first | (solve | repeat (first | with_reducible exact List.mem_cons_self | (with_reducible (apply List.mem_append_left; exact List.mem_cons_self)) | with_reducible apply List.mem_cons_of_mem | with_reducible apply List.mem_append_right)) | (repeat (first | exact List.Mem.head _ | apply List.Mem.tail | apply List.mem_append_right))); exact rfl; exact rfl) | (refine new_i (fun bk hbk => ?_)))
    all_goals exact ⟨rfl, by (repeat (first | exact Ent.refl | exact Ent.left | refine Ent.cons ?_ | refine Ent.app ?_))⟩
end
end Go.Proofs.YtfompmhncnkcfaaGreatDoor
namespace Go.Proofs.YtfompmhncnkcfaaGreatDoor
open Go
set_option maxRecDepth 10000
abbrev wrapu (n : Int) : Int := IntKind.u64.wrap n
abbrev okU (x : Int) : Prop := 0 ≤ x ∧ x ≤ 18446744073709551615
structure Rg where
  r0 : Int
  r1 : Int
  r2 : Int
  r3 : Int
  r4 : Int
  r5 : Int
  r6 : Int
  r7 : Int
abbrev Rg.enc (r : Rg) : List Value := [.int .u64 r.r0, .int .u64 r.r1, .int .u64 r.r2, .int .u64 r.r3, .int .u64 r.r4, .int .u64 r.r5, .int .u64 r.r6, .int .u64 r.r7]
def Rg.get (r : Rg) : Nat → Int
  | 0 => r.r0 | 1 => r.r1 | 2 => r.r2 | 3 => r.r3 | 4 => r.r4 | 5 => r.r5 | 6 => r.r6 | 7 => r.r7 | _ => 0
def Rg.set (r : Rg) : Nat → Int → Rg
  | 0, v => { r with r0 := v } | 1, v => { r with r1 := v } | 2, v => { r with r2 := v } | 3, v => { r with r3 := v }
  | 4, v => { r with r4 := v } | 5, v => { r with r5 := v } | 6, v => { r with r6 := v } | 7, v => { r with r7 := v } | _, _ => r
theorem lt8 {k : Nat} (h : k < 8) : k = 0 ∨ k = 1 ∨ k = 2 ∨ k = 3 ∨ k = 4 ∨ k = 5 ∨ k = 6 ∨ k = 7 := by omega
theorem Rg.get_set {r : Rg} {k j : Nat} {v : Int} (h : k < 8) : (r.set k v).get j = if j = k then v else r.get j := by
  rcases lt8 h with rfl | rfl | rfl | rfl | rfl | rfl | rfl | rfl
  all_goals
    by_cases hj : j < 8
    · rcases lt8 hj with rfl | rfl | rfl | rfl | rfl | rfl | rfl | rfl <;> rfl
    · rw [if_neg (by omega)]
      obtain ⟨m, rfl⟩ : ∃ m, j = m + 8 := ⟨j - 8, by omega⟩
      rfl
structure Thr where
  pc : Nat
  rg : Rg
  oc : Int
  dn : Bool
abbrev Thr.enc (t : Thr) : List Value := [.int .i64 t.pc, .int .u64 t.rg.r0, .int .u64 t.rg.r1, .int .u64 t.rg.r2, .int .u64 t.rg.r3, .int .u64 t.rg.r4, .int .u64 t.rg.r5, .int .u64 t.rg.r6, .int .u64 t.rg.r7, .int .i64 t.oc, .bool t.dn]
theorem Thr.enc_get {t : Thr} {k : Nat} (h : k < 8) : t.enc[1 + k]? = some (.int .u64 (t.rg.get k)) := by
  rcases lt8 h with rfl | rfl | rfl | rfl | rfl | rfl | rfl | rfl <;> rfl
theorem Thr.enc_set {t : Thr} {k : Nat} {v : Int} (h : k < 8) : t.enc.set (1 + k) (.int .u64 v) = { t with rg := t.rg.set k v : Thr }.enc := by
  rcases lt8 h with rfl | rfl | rfl | rfl | rfl | rfl | rfl | rfl <;> rfl
structure ObM where
  pc : Nat
  k : Int
  v : Int
abbrev ObM.enc (o : ObM) : List Value := [.int .i64 o.pc, .int .i64 o.k, .int .u64 o.v]
structure EvM where
  ev : Int
  t : Int
  k : Int
  w : Int
  r : List Int
  wl : List Int
def EH.m (e : EH) : EvM := ⟨e.ev, e.t, e.k, e.w, e.rl, e.wl⟩
structure ChM where
  t : Int
  f : Int
  ad : List Int
structure GS where
  d : List Int
  tk : List Bool
  T : List Thr
  E : List EvM
  O : List (List ObM)
  n : Nat
def locR (t : Thr) (x : Ins) : Rg :=
  if x.op = 1 then t.rg.set x.a.toNat (wrapu x.imm) else if x.op = 2 then t.rg.set x.a.toNat (t.rg.get x.b.toNat)
  else if x.op = 3 then t.rg.set x.a.toNat (Alu.applyW x.imm (t.rg.get x.b.toNat) (t.rg.get x.c.toNat)) else if x.op = 17 then t.rg.set x.a.toNat (wrapu t.oc) else t.rg
def locP (t : Thr) (x : Ins) : Nat :=
  if x.op = 4 ∨ (x.op = 5 ∧ t.rg.get x.a.toNat = 0) ∨ (x.op = 6 ∧ t.rg.get x.a.toNat ≠ 0) then t.pc + 1 + x.imm.toNat else t.pc + 1
def locM (t : Thr) (x : Ins) : Thr := { t with rg := locR t x, pc := locP t x }
structure BM where
  d : List Int
  tk : List Bool
  t : Thr
  r : List Int
  w : List Int
  o : List ObM
  ad : List Int
def adr (r : Rg) (b imm : Int) : Int := wrapu (r.get b.toNat + wrapu imm)
def addI (l : List Int) (a : Int) : List Int := if a ∈ l then l else l ++ [a]
def wrM (b : BM) (a : Nat) (v : Int) : BM := { b with d := b.d.set a v, w := addI b.w a }
def wrL (b : BM) (a : Nat) : Nat → BM
  | 0 => b
  | n + 1 => wrM (wrL b a n) (a + n) 0
def BM.put (b : BM) (r : Int) (k v : Int) : BM := { b with t := { b.t with rg := b.t.rg.set r.toNat v, pc := b.t.pc + 1 }, o := b.o ++ [⟨b.t.pc, k, v⟩] }
def BM.go (b : BM) : BM := { b with t := { b.t with pc := b.t.pc + 1 } }
def rdM (b : BM) (a : Nat) : BM := { b with r := if (a : Int) ∈ b.w ∨ (a : Int) ∈ b.r then b.r else b.r ++ [(a : Int)] }
def alB (c : Cfg) (tk : List Bool) (ad : List Int) (imm : Int) : Option (Nat × Nat) :=
  match ad with
  | [] => none
  | a :: _ => if a < 0 ∨ lfindM c a < 0 ∨ classM c (lfindM c a) ≠ imm ∨ tk.getD (lfindM c a).toNat false = true then none else some (a.toNat, (lfindM c a).toNat)
def stpM (c : Cfg) (b : BM) (x : Ins) : BM × Int :=
  if x.op = 10 then (if c.words ≤ adr b.t.rg x.b x.imm then (b.go, 7) else ((rdM b (adr b.t.rg x.b x.imm).toNat).put x.a 1 (b.d.getD (adr b.t.rg x.b x.imm).toNat 0), 0))
  else if x.op = 11 then (if c.words ≤ adr b.t.rg x.a x.imm then (b.go, 7) else ((wrM b (adr b.t.rg x.a x.imm).toNat (b.t.rg.get x.b.toNat)).go, 0))
  else if x.op = 14 then (match alB c b.tk b.ad x.imm with
    | none => (b, -1)
    | some (a, k) => ((wrL { b with ad := b.ad.tail, tk := b.tk.set k true } a (2 ^ x.imm.toNat)).put x.a 2 a, 0))
  else if x.op = 15 then (if lfindM c (b.t.rg.get x.a.toNat) < 0 ∨ b.tk.getD (lfindM c (b.t.rg.get x.a.toNat)).toNat false = false then (b.go, 8) else ({ b with tk := b.tk.set (lfindM c (b.t.rg.get x.a.toNat)).toNat false }.go, 0))
  else if x.op = 8 then (b.go, 1) else if x.op = 9 then (b.go, 2) else ({ b with t := locM b.t x }, 0)
def runM (c : Cfg) (p : List Ins) : Nat → BM → BM × Int
  | 0, b => (b, -1)
  | n + 1, b => match p[b.t.pc]? with
    | none => (b, -1)
    | some x => if (stpM c b x).2 = 0 then runM c p n (stpM c b x).1 else stpM c b x
def GS.fin (s : GS) (t : Nat) (th : Thr) (l : List ObM) : GS := { s with T := s.T.set t th, O := s.O.set t (s.O.getD t [] ++ l) }
def GS.ev (s : GS) (l : List EvM) : GS := { s with E := s.E ++ l }
def GS.mem (s : GS) (d : List Int) (tk : List Bool) : GS := { s with d := d, tk := tk }
def txM (c : Cfg) (p : List Ins) (s : GS) (th : Thr) (t : Nat) (f : Int) (ad : List Int) : Option GS :=
  if f ≠ 0 then (if (3 ≤ f ∧ f ≤ 6) ∧ ad = [] then some (s.fin t ⟨endM p th.pc + 1, th.rg, f, decide (endM p th.pc + 1 = p.length)⟩ [⟨th.pc, 3, f⟩]) else none)
  else match runM c p p.length ⟨s.d, s.tk, { th with pc := th.pc + 1 }, [], [], [], ad⟩ with
    | (b, o) => if o = -1 ∨ b.ad ≠ [] then none
      else if o = 1 then some (((s.mem b.d b.tk).ev [⟨s.n, t, 3, 0, [], []⟩, ⟨s.n, t, 4, 0, b.r, b.w⟩]).fin t ⟨endM p th.pc + 1, b.t.rg, 1, decide (endM p th.pc + 1 = p.length)⟩ (b.o ++ [⟨th.pc, 3, 1⟩]))
      else some ((s.ev [⟨s.n, t, 3, 0, [], []⟩, ⟨s.n, t, 4, 0, b.r, []⟩]).fin t ⟨endM p th.pc + 1, th.rg, o, decide (endM p th.pc + 1 = p.length)⟩ [⟨th.pc, 3, o⟩])
def plE (c : Cfg) (n t : Nat) (k a : Int) : List EvM :=
  if c.strong then [⟨n, t, 3, 0, [], []⟩, ⟨n, t, 4, 0, if k = 1 then [a] else [], if k = 1 then [] else [a]⟩] else [⟨n, t, k, a, [], []⟩]
def Thr.nxt (th : Thr) (len : Nat) (r : Rg) : Thr := ⟨th.pc + 1, r, th.oc, decide (th.pc + 1 = len)⟩
def sgM (c : Cfg) (p : List Ins) (s : GS) (th : Thr) (t : Nat) (f : Int) (x : Ins) : Option GS :=
  if x.op = 12 ∨ x.op = 13 then
    (match adr th.rg (if x.op = 12 then x.b else x.a) x.imm with
    | a => if f ≠ 0 then (if f = 6 ∧ c.strong = true ∧ x.op = 13 ∧ a < c.words then some (s.fin t (th.nxt p.length th.rg) [⟨th.pc, 7, 6⟩]) else none)
      else if c.words ≤ a then some (s.fin t (th.nxt p.length (if x.op = 12 then th.rg.set x.a.toNat 0 else th.rg)) [⟨th.pc, 7, 7⟩])
      else if x.op = 12 then some ((s.ev (plE c s.n t 1 a)).fin t (th.nxt p.length (th.rg.set x.a.toNat (s.d.getD a.toNat 0))) [⟨th.pc, 4, s.d.getD a.toNat 0⟩])
      else some (((s.mem (s.d.set a.toNat (th.rg.get x.b.toNat)) s.tk).ev (plE c s.n t 2 a)).fin t (th.nxt p.length th.rg) [⟨th.pc, 5, th.rg.get x.b.toNat⟩]))
  else if f ≠ 0 then none
  else some (s.fin t { locM th x with dn := decide ((locM th x).pc = p.length) } (if x.op = 16 then [⟨th.pc, 6, 0⟩] else []))
def chM (c : Cfg) (ps : List (List Ins)) (s : GS) (ch : ChM) : Option GS :=
  if ch.t < 0 then none else match s.T[ch.t.toNat]?, ps[ch.t.toNat]? with
  | some th, some p => if th.dn then none else match p[th.pc]? with
    | some x => if x.op = 7 then txM c p s th ch.t.toNat ch.f ch.ad else if ch.ad = [] then sgM c p s th ch.t.toNat ch.f x else none
    | none => none
  | _, _ => none
def doM (c : Cfg) (ps : List (List Ins)) (s : GS) (ch : ChM) : Int × GS :=
  match chM c ps s ch with
  | some s' => (0, { s' with n := s.n + 1 })
  | none => (70, s)
def newM (c : Cfg) (ini : List Int) (ps : List (List Ins)) : GS :=
  ⟨ini, List.replicate (blocksM c).toNat false, ps.map fun p => ⟨0, ⟨0, 0, 0, 0, 0, 0, 0, 0⟩, 0, decide (p.length = 0)⟩, [], ps.map fun _ => [], 0⟩
end Go.Proofs.YtfompmhncnkcfaaGreatDoor
namespace Go.Proofs.YtfompmhncnkcfaaGreatDoor
open Go Go.RowKit
set_option maxRecDepth 10000
set_option maxHeartbeats 4000000
inductive AllV (K : Value → Prop) : List Value → Prop
  | nil : AllV K []
  | cons {x : Value} {l : List Value} (h : K x) (hl : AllV K l) : AllV K (x :: l)
theorem AllV.mem {K : Value → Prop} {l : List Value} (h : AllV K l) : ∀ v ∈ l, K v := by
  induction h with
  | nil => intro v hv; cases hv
  | cons h _ ih =>
    intro v hv
    rcases List.mem_cons.1 hv with rfl | hv
    · exact h
    · exact ih v hv
theorem ld_tab {W0 : World} {own : Own} {b off : Nat} {cs : Array Value} {T : TypeId} {fz : Nat × Nat} {K : Value → Prop} (hm : (b, fun o => o = Obj.cells cs T fz) ∈ own) (ho : off < cs.toList.length) (h : AllV K cs.toList) :
    Ld W0 own ⟨b, off, none⟩ K := ld_own cs.toList[off] hm (List.getElem?_eq_getElem ho) (h.mem _ (List.getElem_mem ho))
def mkP (op : Int) (x : Ins) : Prop := x.op = op ∧ icheck x = 0 ∧ (op = 4 ∨ op = 5 ∨ op = 6 → x.imm = 0) ∧ 0 ≤ x.imm ∧ x.imm ≤ 64
theorem regs_ok {op a b c imm : Int} (h : 0 ≤ op ∧ op < 18) (ha : regOk (useA op) a) (hb : regOk (useB op) b) (hc : regOk (useC op) c) (hi : immOk op imm) : icheck ⟨op, a, b, c, imm⟩ = 0 := by
  unfold icheck
  rw [if_neg (by simp only; omega), if_pos ⟨ha, hb, hc⟩, if_pos hi]
theorem rest_ok {op : Int} (h : op = 0 ∨ op = 4 ∨ op = 5 ∨ op = 6 ∨ op = 8 ∨ op = 9 ∨ op = 16) : icheck ⟨op, 0, 0, 0, 0⟩ = 0 := by
  rcases h with rfl | rfl | rfl | rfl | rfl | rfl | rfl <;> rfl
theorem sp_ins (W0 : World) (own : Own) (op n : Int) (h : 0 ≤ op ∧ op < 18) (hn : 0 ≤ n ∧ n ≤ 18446744073709551615) :
    Spec Tryz.prog W0 79 [.int .i64 op, .int .u64 n] own fun v own' => ∃ x : Ins, v = x.v ∧ mkP op x ∧ Ent W0 own' own := by
  refine spec_of mixed low_make_instruction (by simp [ir_make_instruction]) ?_
  repeat' ((try (conv => whnf)); first | (apply br_pyE; (exact rfl); omega) | (refine quo_u ?_ ?_; omega) | (apply ld_tab; (repeat (first | exact List.Mem.head _ | apply List.Mem.tail | apply List.mem_append_right)); (simp; omega)) | (exact AllV.nil) | (refine AllV.cons ?_ ?_) | (refine ari ?_ ?_; omega) | (refine ixs_n ?_ ?_; omega) | (apply ldN_a; exact rfl) | (apply stN_o; (exact rfl); (exact rfl); exact rfl) | (refine new_i (fun bk hbk => ?_)) | (apply br_dE; (exact rfl); all_goals intro hc) | (refine rem_i ?_ ?_; omega))
  all_goals refine ⟨⟨_, _, _, _, _⟩, rfl, ?_, (by first | exact ent_i | (repeat (first | exact Ent.refl | exact Ent.left | refine Ent.cons ?_ | refine Ent.app ?_)))⟩
  all_goals (try subst op)
  all_goals refine ⟨rfl, ?_, fun h => ?_, ?_, ?_⟩
  all_goals first
    | (dsimp only; omega)
    | rfl
    | (exfalso; omega)
    | (refine regs_ok h ?_ ?_ ?_ ?_ <;> simp [regOk, useA, useB, useC, immOk] <;> omega)
    | exact rest_ok (by omega)
end Go.Proofs.YtfompmhncnkcfaaGreatDoor
namespace Go.Proofs.YtfompmhncnkcfaaGreatDoor
open Go Go.RowKit
set_option maxRecDepth 10000
def runG : List Ins → Nat → Int → Option Int
  | [], _, b => some b
  | x :: l, k, b => if oneX 0 b x = 0 then runG l (k + 1) (nextB x k b) else none
theorem runG_snoc (x : Ins) : ∀ (l : List Ins) (k : Nat) (b : Int), runG (l ++ [x]) k b = (runG l k b).bind fun b' => if oneX 0 b' x = 0 then some (nextB x (k + l.length) b') else none
  | [], k, b => by simp [runG]
  | y :: l, k, b => by
    simp only [List.cons_append, runG, List.length_cons]
    split
    · rw [runG_snoc x l, Nat.add_assoc, Nat.add_comm 1]
    · rfl
theorem check_run (p : List Ins) (hz : ∀ x ∈ p, iskips x = true → x.imm = 0) {b' : Int} (hb' : b' < 0) : ∀ (n k : Nat) (b : Int), n + k = p.length → PInv p k b → runG (p.drop k) k b = some b' → checkG (targetM p) (p.drop k) k b = (0, 0)
  | 0, k, b, hn, _, hr => by
    have : p.drop k = [] := List.drop_eq_nil_iff.2 (by omega)
    rw [this, runG, Option.some.injEq] at hr
    rw [this, checkG, if_neg (by omega)]
  | n + 1, k, b, hn, h, hr => by
    obtain ⟨x, hx⟩ : ∃ x, p[k]? = some x := ⟨_, List.getElem?_eq_getElem (by omega)⟩
    rw [drop_at hx, runG] at hr
    split at hr
    · rename_i h0
      have ho := oneX_ok h0
      have ht : targetM p k b x = 0 := by
        unfold targetM
        split
        · rename_i hs
          have hi := hz x (List.mem_of_getElem? hx) hs
          have h8 := skips_op hs
          rw [hi, if_neg (by omega)]
          split
          · rename_i hb
            rcases h.bb with hb1 | ⟨_, _, he⟩
            · omega
            · have := endL_ge (p.drop (k + 1)) (k + 1)
              rw [he, drop_at hx, endL]
              (repeat' split) <;> omega
          · rw [intoL_le _ _ _ _ (by simp)]
            rfl
        · rfl
      rw [drop_at hx, checkG, ht, if_neg (by simpa using h0)]
      exact check_run p hz hb' n (k + 1) _ (by omega) (h.step hx ho.1 ho.2.1) hr
    · cases hr
structure Mk (p : List Ins) (b : Int) : Prop where
  run : runG p 0 (-1) = some b
  zer : ∀ x ∈ p, iskips x = true → x.imm = 0
theorem Mk.nil : Mk [] (-1) := ⟨rfl, fun _ h => by cases h⟩
theorem Mk.snoc {p : List Ins} {b : Int} {x : Ins} (h : Mk p b) (ho : oneX 0 b x = 0) (hi : iskips x = true → x.imm = 0) : Mk (p ++ [x]) (nextB x p.length b) := by
  refine ⟨by rw [runG_snoc, h.run]; simp [ho], fun y hy hs => ?_⟩
  rcases List.mem_append.1 hy with hy | hy
  · exact h.zer y hy hs
  · obtain rfl := List.mem_singleton.1 hy
    exact hi hs
theorem Mk.ok {p : List Ins} {b : Int} (h : Mk p b) (hb : b < 0) (hl : p.length ≤ 64) : checkR p = (0, 0) := by
  rw [← checkP_R]
  unfold checkP
  rw [if_neg (by omega)]
  exact check_run p h.zer hb p.length 0 (-1) (by omega) (PInv.start p) h.run
def fits (o : Bool) (op : Int) : Prop :=
  (1 ≤ op ∧ op ≤ 6) ∨ (o = false ∧ (op = 7 ∨ op = 12 ∨ op = 13 ∨ op = 16 ∨ op = 17)) ∨ (o = true ∧ (op = 8 ∨ op = 9 ∨ op = 10 ∨ op = 11 ∨ op = 14 ∨ op = 15))
theorem fits_one {o : Bool} {b : Int} {x : Ins} (hf : fits o x.op) (hc : icheck x = 0) (hb : o = decide (0 ≤ b)) : oneX 0 b x = 0 := by
  unfold oneX
  have hp : iplace x = if x.op = 8 ∨ x.op = 9 ∨ x.op = 10 ∨ x.op = 11 ∨ x.op = 14 ∨ x.op = 15 then 1 else if x.op = 7 ∨ x.op = 12 ∨ x.op = 13 ∨ x.op = 16 ∨ x.op = 17 then 2 else 0 := by unfold iplace; rw [if_pos hc]
  rw [if_neg (by omega), hp]
  rcases hf with h | ⟨h0, h⟩ | ⟨h0, h⟩
  · (repeat' split) <;> omega
  · subst h0
    have hb' : ¬ 0 ≤ b := of_decide_eq_false hb.symm
    (repeat' split) <;> omega
  · subst h0
    have hb' : 0 ≤ b := of_decide_eq_true hb.symm
    (repeat' split) <;> omega
end Go.Proofs.YtfompmhncnkcfaaGreatDoor
namespace Go.Proofs.YtfompmhncnkcfaaGreatDoor
open Go Go.RowKit
set_option maxRecDepth 10000
set_option maxHeartbeats 4000000
theorem arx {e : Int} {K : Int → Prop} (h : ∀ m, 0 ≤ m ∧ m ≤ 18446744073709551615 → K m) : Arith .u64 e K := by
  refine ⟨h _ ?_⟩
  have : IntKind.u64.wrap e = e % 18446744073709551616 := by
    simp [IntKind.wrap, IntKind.signed, IntKind.bits]
  rw [this]; omega
theorem call_mk {α : Type} {en : α → Value} {Φ : α → Prop} {P : Program} {W0 : World} {own : Own} {k : FuncId} {args : List Value} {K : Value → Own → Prop} (h : Spec P W0 k args own fun v own' => ∃ x, v = en x ∧ Φ x ∧ Ent W0 own' own) (hk : ∀ x, Φ x → K (en x) own) : CallT P W0 own k args K :=
  ⟨fun w hw => (h w hw).mono fun _ _ ⟨_, _, he, hs, x, hv, hx, hE⟩ => ⟨_, own, by rw [he, hv], hE _ hs, hk x hx⟩⟩
abbrev encN (n : Nat) : List Value := [.int .i64 n]
structure PS where
  i : Nat
  o : Bool
  b : Int
  p : List Ins
  a : Option Addr
  cap : Nat
  D : Own
  js : List Nat
  a2 : Option Addr
  cap2 : Nat
  D2 : Own
structure PI (n : Nat) (most : Int) (s : PS) : Prop where
  le : s.i ≤ n
  ob : s.o = decide (0 ≤ s.b)
  mkd : Mk s.p s.b
  bp : BufE Ins.enc 69 5 s.a s.cap s.p s.D
  bj : BufE encN 3 1 s.a2 s.cap2 s.js s.D2
  lp : s.p.length + 1 ≤ most
  lj : s.js.length ≤ s.p.length
  asc : s.js.Pairwise (· < ·)
  zer : ∀ j ∈ s.js, ∃ x, s.p[j]? = some x ∧ x.imm = 0
  rng : ∀ x ∈ s.p, 0 ≤ x.imm ∧ x.imm ≤ 64
theorem icheck_a {y : Ins} (h : icheck y = 0) (ho : y.op = 5 ∨ y.op = 6) {m : Int} (hm : 0 ≤ m ∧ m < 8) : icheck ⟨y.op, m, y.b, y.c, y.imm⟩ = 0 := by
  unfold icheck at *
  rw [if_neg (by omega)] at h
  rw [if_neg (by simp only; omega)]
  split at h
  · rename_i hr
    have ha : regOk (useA y.op) m := by rcases ho with e | e <;> rw [e] <;> simpa [regOk, useA] using hm
    rw [if_pos ⟨ha, hr.2⟩]
    exact h
  · cases h
theorem PI.next {n : Nat} {most : Int} {s : PS} (h : PI n most s) (hi : s.i < n) (hl : (s.p.length : Int) + 1 < most) {y : Ins} (hf : fits s.o y.op) (hc : icheck y = 0) (hz : y.op = 4 ∨ y.op = 5 ∨ y.op = 6 → y.imm = 0) (hr : 0 ≤ y.imm ∧ y.imm ≤ 64)
    {a : Option Addr} {cap : Nat} {D : Own} (hb : BufE Ins.enc 69 5 a cap (s.p ++ [y]) D) {o : Bool} (ho : o = if y.op = 7 then true else if y.op = 8 then false else s.o) :
    PI n most ⟨s.i + 1, o, nextB y s.p.length s.b, s.p ++ [y], a, cap, D, s.js, s.a2, s.cap2, s.D2⟩ := by
  refine ⟨by simp only; omega, ?_, h.mkd.snoc (fits_one hf hc h.ob) (fun hs => hz (skips_op hs).1), hb, h.bj, by simp; omega, ?_, h.asc, fun j hj => ?_, fun x hx => by
    rcases List.mem_append.1 hx with hx | hx
    · exact h.rng x hx
    · rw [List.mem_singleton.1 hx]; exact hr⟩
  · simp only
    rw [ho]
    unfold nextB
    split
    · exact (decide_eq_true (by omega)).symm
    · split
      · exact (decide_eq_false (by omega)).symm
      · exact h.ob
  · have := h.lj
    simp; omega
  · obtain ⟨x, hx, h0⟩ := h.zer j hj
    exact ⟨x, by rw [List.getElem?_append_left (List.getElem?_eq_some_iff.1 hx).1]; exact hx, h0⟩
theorem PI.jump {n : Nat} {most : Int} {s : PS} (h : PI n most s) (hi : s.i < n) (hl : (s.p.length : Int) + 1 < most) {y : Ins} (hf : fits s.o y.op) (hc : icheck y = 0) (hj : y.op = 4 ∨ y.op = 5 ∨ y.op = 6) (hz : y.imm = 0)
    {a : Option Addr} {cap : Nat} {D : Own} (hb : BufE Ins.enc 69 5 a cap (s.p ++ [y]) D) {a2 : Option Addr} {cap2 : Nat} {D2 : Own} (hb2 : BufE encN 3 1 a2 cap2 (s.js ++ [s.p.length]) D2) :
    PI n most ⟨s.i + 1, s.o, s.b, s.p ++ [y], a, cap, D, s.js ++ [s.p.length], a2, cap2, D2⟩ := by
  have h1 := h.next hi hl hf hc (fun _ => hz) (by rw [hz]; exact ⟨by decide, by decide⟩) hb (o := s.o) (by rw [if_neg (by omega), if_neg (by omega)])
  have hn : nextB y s.p.length s.b = s.b := by unfold nextB; rw [if_neg (by omega), if_neg (by omega)]
  have hlt : ∀ j ∈ s.js, j < s.p.length := fun j hj => by
    obtain ⟨x, hx, _⟩ := h.zer j hj
    exact (List.getElem?_eq_some_iff.1 hx).1
  refine ⟨h1.le, h.ob, by have := h1.mkd; simp only [hn] at this; exact this, hb, hb2, h1.lp, ?_, ?_, fun j hj => ?_, h1.rng⟩
  · have := h.lj
    simp; omega
  · rw [List.pairwise_append]
    exact ⟨h.asc, List.pairwise_singleton _ _, fun j hj k hk => by rw [List.mem_singleton.1 hk]; exact hlt j hj⟩
  · rcases List.mem_append.1 hj with hj | hj
    · exact h1.zer j hj
    · rw [List.mem_singleton.1 hj]
      exact ⟨y, by simp, hz⟩
theorem PI.commit {n : Nat} {most : Int} {s : PS} (h : PI n most s) (ho : s.o = true) : Mk (s.p ++ [⟨8, 0, 0, 0, 0⟩]) (nextB ⟨8, 0, 0, 0, 0⟩ s.p.length s.b) ∧ nextB ⟨8, 0, 0, 0, 0⟩ s.p.length s.b < 0 ∧ ∀ j ∈ s.js, ∃ x, (s.p ++ [⟨8, 0, 0, 0, 0⟩])[j]? = some x ∧ x.imm = 0 := by
  refine ⟨h.mkd.snoc (fits_one (o := s.o) (by rw [ho]; simp [fits]) rfl h.ob) (fun _ => rfl), by simp [nextB], fun j hj => ?_⟩
  obtain ⟨x, hx, h0⟩ := h.zer j hj
  exact ⟨x, by rw [List.getElem?_append_left (List.getElem?_eq_some_iff.1 hx).1]; exact hx, h0⟩
theorem ixE_n {α : Type} {enc : α → List Value} {sz : Nat} {W0 : World} {own : Own} {a : Option Addr} {l : List α} {i : Int} {n : Nat} {K : Addr → Prop} {j : Nat} {x : α} (h : RdE enc sz W0 own a l) (hx : l[j]? = some x) (hn : n = l.length) (hi : i = j) (hk : K ⟨ab a, ao a + j * sz, none⟩) : IxS a sz i n K := by
  subst hn; exact ixE h hx hi hk
theorem set_back {l : List Ins} {j : Nat} {x y : Ins} (hx : l[j]? = some x) (h0 : x.imm = 0) : (l.set j y).set j ⟨x.op, x.a, x.b, x.c, 0⟩ = l := by
  obtain ⟨hj, he⟩ := List.getElem?_eq_some_iff.1 hx
  rw [List.set_set]
  have : (⟨x.op, x.a, x.b, x.c, 0⟩ : Ins) = l[j] := by rw [he, ← h0]
  rw [this, List.set_getElem_self]
theorem asc_ne {l : List Nat} (h : l.Pairwise (· < ·)) {a b i j : Nat} (hi : l[a]? = some i) (hj : l[b]? = some j) (hab : a < b) : i ≠ j := by
  obtain ⟨h1, e1⟩ := List.getElem?_eq_some_iff.1 hi
  obtain ⟨h2, e2⟩ := List.getElem?_eq_some_iff.1 hj
  have := (List.pairwise_iff_getElem.1 h) a b h1 h2 hab
  omega
theorem checkG_zero (tgt : Nat → Int → Ins → Int) : ∀ (l : List Ins) (k : Nat) (b : Int), (checkG tgt l k b).2 = 0 → checkG tgt l k b = (0, 0)
  | [], k, b, h => by
    unfold checkG at *
    split at h
    · cases h
    · rename_i hb
      rw [if_neg hb]
  | x :: l, k, b, h => by
    unfold checkG at *
    split at h
    · rename_i h1
      exact absurd h h1
    · rename_i h1
      rw [if_neg h1]
      exact checkG_zero tgt l (k + 1) _ h
theorem checkR_zero {p : List Ins} (h : (checkR p).2 = 0) : checkR p = (0, 0) := by
  unfold checkR at *
  split at h
  · cases h
  · rename_i h1
    rw [if_neg h1]
    exact checkG_zero _ _ _ _ h
section
variable {W0 : World} {own : Own} {la : Option Addr} {lc : Nat} {l : List Int}
theorem sp_program (most : Int) (heap plain : Bool) (hL : RdE (fun n => [.int .i64 n]) 1 W0 own la l) (hl : l.length ≤ 1000000) (hm : 1 ≤ most ∧ most ≤ 64) :
    Spec Tryz.prog W0 53 [.slice la l.length lc, .int .i64 most, .bool heap, .bool plain] own fun v own' =>
      ∃ a cap D p, v = .slice a (List.length p) cap ∧ BufE Ins.enc 69 5 a cap p D ∧ Ent W0 own' (D ++ own) ∧ checkR p = (0, 0) ∧ (p.length : Int) ≤ most ∧ ∀ x ∈ p, 0 ≤ x.imm ∧ x.imm ≤ 64 := by
  refine spec_of mixed lowc_make_Program (by simp [irc_make_Program]) ?_
  (try (conv => whnf))
  refine loop_i (σ := PS) (fun s => [(9, .slice s.a s.p.length s.cap), (10, .bool s.o), (11, .slice s.a2 s.js.length s.cap2), (12, .int .i64 s.i)]) (fun s => s.D ++ (s.D2 ++ own)) (PI l.length most) (fun s => l.length - s.i) ⟨0, false, -1, [], none, 0, [], [], none, 0, []⟩
    ⟨by simp, rfl, Mk.nil, BufE.nil, BufE.nil, by simp; omega, by simp, List.Pairwise.nil, fun _ h => (by cases h), fun _ h => (by cases h)⟩ (by repeat' (first | exact True.intro | refine And.intro ?_ ?_ | exact rfl | exact vi (by omega) | (dsimp only; exact rfl) | (dsimp only; exact vi (by omega)))) Ent.refl rfl ?_
  · rintro s junk hPI
    have hPI' := hPI
    obtain ⟨hi, hob, hmk, hbp, hbj, hlp, hlj, hasc, hzer, hrng⟩ := hPI'
    by_cases hlt : s.i < l.length ∧ (s.p.length : Int) + 1 < most
    · obtain ⟨x, hx⟩ : ∃ x, l[s.i]? = some x := ⟨_, List.getElem?_eq_getElem hlt.1⟩
      have hh1 : (s.i : Int) < l.length := by omega
      have hh2 : (s.p.length : Int) < most - 1 := by omega
      repeat' ((try (conv => whnf)); first | (refine when_ye ?_ ?_; exact rfl) | (apply br_pyE; (exact rfl); omega) | (apply when_pyE; (exact rfl); omega) | (refine arx (fun m hm => ?_)) | (refine quo_u ?_ ?_; omega) | ((with_reducible show Ld _ _ _ _); first | (refine ldE0 hL hx rfl ?_)) | ((with_reducible show IxS _ _ _ _ _); first | ((refine ixE hL hx ?_ ?_; (first | rfl | omega)))) | (refine ari ?_ ?_; omega) | (refine rem_i ?_ ?_; omega))
      refine cut_i (σ := Int × Int) 2658455991569831745807605324467707904 (fun r => [(13, .int .u64 r.2), (15, .int .i64 r.1)]) (fun _ => s.D ++ (s.D2 ++ own)) (fun r => (0 ≤ r.2 ∧ r.2 ≤ 18446744073709551615) ∧ fits s.o r.1) rfl ?_ ?_
      · clear hbp hbj hasc hzer hmk hlj hi
        obtain ⟨o, ho⟩ : ∃ o, s.o = o := ⟨_, rfl⟩
        rw [ho]
        cases o <;> cases heap <;> cases plain
        all_goals as_aux_lemma =>
          repeat' ((try (conv => whnf)); first | (refine when_ye ?_ ?_; exact rfl) | (refine when_ne ?_ ?_; exact rfl) | (refine br_te ?_ ?_; exact rfl) | (refine br_fe ?_ ?_; exact rfl) | (apply br_pyE; (exact rfl); omega) | (apply br_pnE; (exact rfl); omega) | (apply when_pyE; (exact rfl); omega) | (apply when_pnE; (exact rfl); omega) | (refine quo_u ?_ ?_; omega) | (apply ld_tab; (repeat (first | exact List.Mem.head _ | apply List.Mem.tail | apply List.mem_append_right)); (simp; omega)) | (exact AllV.nil) | (refine AllV.cons ?_ ?_) | (refine ixs_n ?_ ?_; omega) | (refine new_i (fun bk hbk => ?_)) | (apply when_dE; (exact rfl); (exact rfl); all_goals intro hc) | (apply br_dE; (exact rfl); all_goals intro hc) | (refine rem_i ?_ ?_; omega))
          all_goals refine ⟨(_, _), ⟨?_, ?_⟩, (by repeat' (first | exact True.intro | refine And.intro ?_ ?_ | exact rfl | exact vi (by omega) | (dsimp only; exact rfl) | (dsimp only; exact vi (by omega)))), (by first | exact ent_i | (repeat (first | exact Ent.refl | exact Ent.left | refine Ent.cons ?_ | refine Ent.app ?_)))⟩
          all_goals first | (simp only []; omega) | simp [fits]
      · rintro ⟨op, m2⟩ junk2 ⟨hm2, hf⟩
        simp only at hm2 hf
        have h18 : 0 ≤ op ∧ op < 18 := by unfold fits at hf; omega
        have hins := fun ex => sp_ins W0 ex op m2 h18 hm2
        as_aux_lemma =>
          refine call_mk (hins _) (fun y hy => ?_)
          obtain ⟨hy1, hy2, hy3, hy4⟩ := hy
          subst hy1
          have h6' : (y.op = 5 ∨ y.op = 6) ∨ y.op = 4 ∨ (y.op ≠ 4 ∧ y.op ≠ 5 ∧ y.op ≠ 6) := by omega
          rcases h6' with h6 | h6 | h6
          · rcases h6 with h6 | h6
            all_goals
              repeat' ((try (conv => whnf)); first | (refine when_ye ?_ ?_; exact rfl) | (refine when_ne ?_ ?_; exact rfl) | (refine br_te ?_ ?_; exact rfl) | (apply br_pyE; (exact rfl); omega) | (apply br_pnE; (exact rfl); omega) | (apply when_pyE; (exact rfl); omega) | (apply when_pnE; (exact rfl); omega) | (refine app_1 (enc := encN) s.p.length hbj (by (repeat (first | exact At.head | apply At.tail | apply At.skip))) (by (repeat (first | exact List.Mem.head _ | apply List.Mem.tail | apply List.mem_append_right))) rfl rfl (by omega) rfl rfl (by omega) (fun a1 c1 D1 hb1 => ?_)) | (refine app_1 (enc := Ins.enc) ⟨y.op, m2 % 4, y.b, y.c, y.imm⟩ hbp (by (repeat (first | exact At.head | apply At.tail | apply At.skip))) (by (repeat (first | exact List.Mem.head _ | apply List.Mem.tail | apply List.mem_append_right))) rfl rfl (by omega) rfl rfl (by omega) (fun a3 c3 D3 hb3 => ?_)) | (refine ari ?_ ?_; omega) | (apply ldN_a; exact rfl) | (apply st_o; (exact rfl); exact rfl) | (apply stN_o; (exact rfl); (exact rfl); exact rfl) | (refine new_i (fun bk hbk => ?_)) | (refine rem_i ?_ ?_; omega) | (refine cut_n ?_))
            all_goals refine ⟨⟨s.i + 1, s.o, s.b, s.p ++ [⟨y.op, m2 % 4, y.b, y.c, y.imm⟩], a3, c3, D3, s.js ++ [s.p.length], a1, c1, D1⟩, hPI.jump (y := ⟨y.op, m2 % 4, y.b, y.c, y.imm⟩) hlt.1 hlt.2 hf (icheck_a (y := y) hy2 (by omega) (by omega)) (by first | omega | (simp only; omega)) (hy3 (by omega)) hb3 hb1, by simp only; omega, ?_, (by first | exact ent_i | (repeat (first | exact Ent.refl | exact Ent.left | refine Ent.cons ?_ | refine Ent.app ?_)))⟩
            all_goals (simp only [List.length_append, List.length_cons, List.length_nil, Nat.zero_add]; exact (by repeat' (first | exact True.intro | refine And.intro ?_ ?_ | exact rfl | exact vi (by omega) | (dsimp only; exact rfl) | (dsimp only; exact vi (by omega)))))
          · repeat' ((try (conv => whnf)); first | (refine when_ye ?_ ?_; exact rfl) | (apply br_pyE; (exact rfl); omega) | (apply br_pnE; (exact rfl); omega) | (apply when_pnE; (exact rfl); omega) | (refine app_1 (enc := encN) s.p.length hbj (by (repeat (first | exact At.head | apply At.tail | apply At.skip))) (by (repeat (first | exact List.Mem.head _ | apply List.Mem.tail | apply List.mem_append_right))) rfl rfl (by omega) rfl rfl (by omega) (fun a1 c1 D1 hb1 => ?_)) | (refine app_1 (enc := Ins.enc) y hbp (by (repeat (first | exact At.head | apply At.tail | apply At.skip))) (by (repeat (first | exact List.Mem.head _ | apply List.Mem.tail | apply List.mem_append_right))) rfl rfl (by omega) rfl rfl (by omega) (fun a3 c3 D3 hb3 => ?_)) | (refine ari ?_ ?_; omega) | (apply ldN_a; exact rfl) | (apply stN_o; (exact rfl); (exact rfl); exact rfl) | (refine new_i (fun bk hbk => ?_)) | (refine cut_n ?_))
            refine ⟨⟨s.i + 1, s.o, s.b, s.p ++ [y], a3, c3, D3, s.js ++ [s.p.length], a1, c1, D1⟩, hPI.jump hlt.1 hlt.2 hf hy2 (by omega) (hy3 (by omega)) hb3 hb1, by simp only; omega, ?_, (by first | exact ent_i | (repeat (first | exact Ent.refl | exact Ent.left | refine Ent.cons ?_ | refine Ent.app ?_)))⟩
            (simp only [List.length_append, List.length_cons, List.length_nil, Nat.zero_add]; exact (by repeat' (first | exact True.intro | refine And.intro ?_ ?_ | exact rfl | exact vi (by omega) | (dsimp only; exact rfl) | (dsimp only; exact vi (by omega)))))
          · have h7 : y.op = 7 ∨ y.op = 8 ∨ (y.op ≠ 7 ∧ y.op ≠ 8) := by omega
            rcases h7 with h7 | h7 | h7
            · repeat' ((try (conv => whnf)); first | (refine when_ye ?_ ?_; exact rfl) | (apply br_pyE; (exact rfl); omega) | (apply br_pnE; (exact rfl); omega) | (apply when_pnE; (exact rfl); omega) | (refine app_1 (enc := Ins.enc) y hbp (by (repeat (first | exact At.head | apply At.tail | apply At.skip))) (by (repeat (first | exact List.Mem.head _ | apply List.Mem.tail | apply List.mem_append_right))) rfl rfl (by omega) rfl rfl (by omega) (fun a3 c3 D3 hb3 => ?_)) | (refine ari ?_ ?_; omega) | (apply ldN_a; exact rfl) | (apply stN_o; (exact rfl); (exact rfl); exact rfl) | (refine new_i (fun bk hbk => ?_)) | (refine cut_n ?_))
              refine ⟨⟨s.i + 1, true, nextB y s.p.length s.b, s.p ++ [y], a3, c3, D3, s.js, s.a2, s.cap2, s.D2⟩, hPI.next hlt.1 hlt.2 hf hy2 hy3 hy4 hb3 (by rw [if_pos h7]), by simp only; omega, ?_, (by first | exact ent_i | (repeat (first | exact Ent.refl | exact Ent.left | refine Ent.cons ?_ | refine Ent.app ?_)))⟩
              (simp only [List.length_append, List.length_cons, List.length_nil, Nat.zero_add]; exact (by repeat' (first | exact True.intro | refine And.intro ?_ ?_ | exact rfl | exact vi (by omega) | (dsimp only; exact rfl) | (dsimp only; exact vi (by omega)))))
            · repeat' ((try (conv => whnf)); first | (refine when_ye ?_ ?_; exact rfl) | (apply br_pyE; (exact rfl); omega) | (apply br_pnE; (exact rfl); omega) | (apply when_pnE; (exact rfl); omega) | (refine app_1 (enc := Ins.enc) y hbp (by (repeat (first | exact At.head | apply At.tail | apply At.skip))) (by (repeat (first | exact List.Mem.head _ | apply List.Mem.tail | apply List.mem_append_right))) rfl rfl (by omega) rfl rfl (by omega) (fun a3 c3 D3 hb3 => ?_)) | (refine ari ?_ ?_; omega) | (apply ldN_a; exact rfl) | (apply stN_o; (exact rfl); (exact rfl); exact rfl) | (refine new_i (fun bk hbk => ?_)) | (refine cut_n ?_))
              refine ⟨⟨s.i + 1, false, nextB y s.p.length s.b, s.p ++ [y], a3, c3, D3, s.js, s.a2, s.cap2, s.D2⟩, hPI.next hlt.1 hlt.2 hf hy2 hy3 hy4 hb3 (by rw [if_neg (by omega), if_pos h7]), by simp only; omega, ?_, (by first | exact ent_i | (repeat (first | exact Ent.refl | exact Ent.left | refine Ent.cons ?_ | refine Ent.app ?_)))⟩
              (simp only [List.length_append, List.length_cons, List.length_nil, Nat.zero_add]; exact (by repeat' (first | exact True.intro | refine And.intro ?_ ?_ | exact rfl | exact vi (by omega) | (dsimp only; exact rfl) | (dsimp only; exact vi (by omega)))))
            · repeat' ((try (conv => whnf)); first | (refine when_ye ?_ ?_; exact rfl) | (apply br_pnE; (exact rfl); omega) | (apply when_pnE; (exact rfl); omega) | (refine app_1 (enc := Ins.enc) y hbp (by (repeat (first | exact At.head | apply At.tail | apply At.skip))) (by (repeat (first | exact List.Mem.head _ | apply List.Mem.tail | apply List.mem_append_right))) rfl rfl (by omega) rfl rfl (by omega) (fun a3 c3 D3 hb3 => ?_)) | (refine ari ?_ ?_; omega) | (apply ldN_a; exact rfl) | (apply stN_o; (exact rfl); (exact rfl); exact rfl) | (refine new_i (fun bk hbk => ?_)) | (refine cut_n ?_))
              refine ⟨⟨s.i + 1, s.o, nextB y s.p.length s.b, s.p ++ [y], a3, c3, D3, s.js, s.a2, s.cap2, s.D2⟩, hPI.next hlt.1 hlt.2 hf hy2 hy3 hy4 hb3 (by rw [if_neg h7.1, if_neg h7.2]), by simp only; omega, ?_, (by first | exact ent_i | (repeat (first | exact Ent.refl | exact Ent.left | refine Ent.cons ?_ | refine Ent.app ?_)))⟩
              (simp only [List.length_append, List.length_cons, List.length_nil, Nat.zero_add]; exact (by repeat' (first | exact True.intro | refine And.intro ?_ ?_ | exact rfl | exact vi (by omega) | (dsimp only; exact rfl) | (dsimp only; exact vi (by omega)))))
    · have hx1 : ¬ (s.i : Int) < l.length ∨ ((s.i : Int) < l.length ∧ ¬ (s.p.length : Int) < most - 1) := by omega
      rcases hx1 with hx1 | ⟨hx0, hx1⟩
      all_goals
        repeat' ((try (conv => whnf)); first | (refine when_ye ?_ ?_; exact rfl) | (refine when_ne ?_ ?_; exact rfl) | (refine br_fe ?_ ?_; exact rfl) | (apply br_pnE; (exact rfl); omega) | (apply when_pyE; (exact rfl); omega) | (apply when_pnE; (exact rfl); omega) | (refine ari ?_ ?_; omega))
        refine cut_i (σ := List Ins × Option Addr × Nat × Own) 11326637689314497616078557453551193402333477208576 (fun q => [(9, .slice q.2.1 q.1.length q.2.2.1)]) (fun q => q.2.2.2 ++ (s.D2 ++ own)) (fun q => BufE Ins.enc 69 5 q.2.1 q.2.2.1 q.1 q.2.2.2 ∧ checkR q.1 = (0, 0) ∧ (q.1.length : Int) ≤ most ∧ (∀ j ∈ s.js, ∃ x, q.1[j]? = some x ∧ x.imm = 0) ∧ ∀ x ∈ q.1, 0 ≤ x.imm ∧ x.imm ≤ 64) rfl ?_ ?_
        · repeat' ((try (conv => whnf)); first | (refine br_s (fun hs => ?_) (fun hs => ?_)) | (refine app_1 (enc := Ins.enc) ⟨8, 0, 0, 0, 0⟩ hbp (by (repeat (first | exact At.head | apply At.tail | apply At.skip))) (by (repeat (first | exact List.Mem.head _ | apply List.Mem.tail | apply List.mem_append_right))) rfl rfl (by omega) rfl rfl (by omega) (fun a3 c3 D3 hb3 => ?_)) | (refine new_i (fun bk hbk => ?_)))
          · have hcm := hPI.commit hs
            refine ⟨(s.p ++ [⟨8, 0, 0, 0, 0⟩], a3, c3, D3), ⟨hb3, hcm.1.ok hcm.2.1 (by simp; omega), by simp; omega, hcm.2.2, fun x hx => by
              rcases List.mem_append.1 hx with hx | hx
              · exact hrng x hx
              · rw [List.mem_singleton.1 hx]; exact ⟨by decide, by decide⟩⟩, ?_, (by first | exact ent_i | (repeat (first | exact Ent.refl | exact Ent.left | refine Ent.cons ?_ | refine Ent.app ?_)))⟩
            (simp only [List.length_append, List.length_cons, List.length_nil, Nat.zero_add]; exact (by repeat' (first | exact True.intro | refine And.intro ?_ ?_ | exact rfl | exact vi (by omega) | (dsimp only; exact rfl) | (dsimp only; exact vi (by omega)))))
          · rw [hs] at hob
            exact ⟨(s.p, s.a, s.cap, s.D), ⟨hbp, hmk.ok (by simpa using hob.symm) (by omega), by simp only; omega, hzer, hrng⟩, (by repeat' (first | exact True.intro | refine And.intro ?_ ?_ | exact rfl | exact vi (by omega) | (dsimp only; exact rfl) | (dsimp only; exact vi (by omega)))), (by first | exact ent_i | (repeat (first | exact Ent.refl | exact Ent.left | refine Ent.cons ?_ | refine Ent.app ?_)))⟩
        · rintro q junk3 ⟨hq1, hq2, hq3, hq4, hq5⟩
          (try (conv => whnf))
          refine loop_i (σ := Nat × List Ins × Own) (fun r => [(17, .int .i64 r.1)]) (fun r => r.2.2 ++ (s.D2 ++ own)) (fun r => (r.1 ≤ s.js.length ∧ r.2.1.length = q.1.length) ∧ BufE Ins.enc 69 5 q.2.1 q.2.2.1 r.2.1 r.2.2 ∧ checkR r.2.1 = (0, 0) ∧ (∀ m j, r.1 ≤ m → s.js[m]? = some j → ∃ x, r.2.1[j]? = some x ∧ x.imm = 0) ∧ ∀ x ∈ r.2.1, 0 ≤ x.imm ∧ x.imm ≤ 64)
            (fun r => s.js.length - r.1) (0, q.1, q.2.2.2) ⟨⟨by simp, rfl⟩, hq1, hq2, fun m j _ hj => hq4 j (List.mem_of_getElem? hj), hq5⟩ (by repeat' (first | exact True.intro | refine And.intro ?_ ?_ | exact rfl | exact vi (by omega) | (dsimp only; exact rfl) | (dsimp only; exact vi (by omega)))) Ent.refl rfl ?_
          rintro r junk4 ⟨⟨hr1, hr2⟩, hr3, hr4, hr5, hr6⟩
          by_cases hlt2 : r.1 < s.js.length
          · obtain ⟨j, hj⟩ : ∃ j, s.js[r.1]? = some j := ⟨_, List.getElem?_eq_getElem hlt2⟩
            obtain ⟨x, hx, hx0⟩ := hr5 r.1 j (Nat.le_refl _) hj
            have hJ := hbj.rd (W0 := W0)
            have hP := hr3.rd (W0 := W0)
            have hh : (r.1 : Int) < s.js.length := by omega
            have hjl : j < r.2.1.length := (List.getElem?_eq_some_iff.1 hx).1
            have hx1 : (r.2.1.set j ⟨x.op, x.a, x.b, x.c, 1⟩)[j]? = some ⟨x.op, x.a, x.b, x.c, 1⟩ := List.getElem?_set_self hjl
            have hl1 : (r.2.1.set j ⟨x.op, x.a, x.b, x.c, 1⟩).length = q.1.length := by rw [List.length_set, hr2]
            have hback : (r.2.1.set j ⟨x.op, x.a, x.b, x.c, 1⟩).set j ⟨x.op, x.a, x.b, x.c, 0⟩ = r.2.1 := set_back hx hx0
            have hck : ∀ D1, BufE Ins.enc 69 5 q.2.1 q.2.2.1 (r.2.1.set j ⟨x.op, x.a, x.b, x.c, 1⟩) D1 → ∀ own', Ent W0 own' D1 → Pure Tryz.prog W0 50 [.slice q.2.1 q.1.length q.2.2.1] own' (.tuple #[.int .i64 (checkR (r.2.1.set j ⟨x.op, x.a, x.b, x.c, 1⟩)).1, .int .i64 (checkR (r.2.1.set j ⟨x.op, x.a, x.b, x.c, 1⟩)).2]) := fun D1 h own' he => by
              have := sp_rpcheck (cap := q.2.2.1) ((h.rd (W0 := W0)).ent he)
              rwa [hl1] at this
            have hnx : ∀ m j', r.1 + 1 ≤ m → s.js[m]? = some j' → ∃ x', (r.2.1.set j ⟨x.op, x.a, x.b, x.c, 1⟩)[j']? = some x' ∧ x'.imm = 0 := fun m j' hm hj' => by
              obtain ⟨x', h1, h2⟩ := hr5 m j' (by omega) hj'
              exact ⟨x', by rw [List.getElem?_set_ne (asc_ne hasc hj hj' (by omega))]; exact h1, h2⟩
            by_cases he : (checkR (r.2.1.set j ⟨x.op, x.a, x.b, x.c, 1⟩)).2 = 0
            · have hz := checkR_zero he
              repeat' ((try (conv => whnf)); first | (apply br_pyE; (exact rfl); omega) | (apply br_pnE; (exact rfl); omega) | (refine ixE_n (hP.ent (by (repeat (first | exact Ent.refl | exact Ent.left | refine Ent.cons ?_ | refine Ent.app ?_)))) hx (by omega) rfl ?_) | (refine stE (k := 4) ⟨x.op, x.a, x.b, x.c, 1⟩ hr3 (by (repeat (first | exact At.head | apply At.tail | apply At.skip))) hx rfl (by omega) rfl rfl (fun D1 hb1 => ?_)) | (refine call_p (hck _ hb1 _ (by (repeat (first | exact Ent.refl | exact Ent.left | refine Ent.cons ?_ | refine Ent.app ?_)))) ?_) | ((with_reducible show Ld _ _ _ _); first | (refine ldE0 hJ hj rfl ?_)) | ((with_reducible show IxS _ _ _ _ _); first | ((refine ixE hJ hj ?_ ?_; (first | rfl | omega)))) | (refine ari ?_ ?_; omega) | (apply sel; exact rfl))
              exact ⟨(r.1 + 1, _, D1), ⟨⟨by simp only; omega, hl1⟩, hb1, hz, hnx, fun y hy => by
                rcases List.mem_or_eq_of_mem_set hy with hy | rfl
                · exact hr6 y hy
                · exact ⟨(by decide : (0 : Int) ≤ 1), (by decide : (1 : Int) ≤ 64)⟩⟩, by simp only; omega, (by repeat' (first | exact True.intro | refine And.intro ?_ ?_ | exact rfl | exact vi (by omega) | (dsimp only; exact rfl) | (dsimp only; exact vi (by omega)))), (by first | exact ent_i | (repeat (first | exact Ent.refl | exact Ent.left | refine Ent.cons ?_ | refine Ent.app ?_)))⟩
            · repeat' ((try (conv => whnf)); first | (apply br_pyE; (exact rfl); omega) | (refine ixE_n (hP.ent (by (repeat (first | exact Ent.refl | exact Ent.left | refine Ent.cons ?_ | refine Ent.app ?_)))) hx (by omega) rfl ?_) | (refine stE (k := 4) ⟨x.op, x.a, x.b, x.c, 0⟩ hb1 (by (repeat (first | exact At.head | apply At.tail | apply At.skip))) hx1 rfl (by omega) rfl rfl (fun D2 hb2 => ?_)) | (refine stE (k := 4) ⟨x.op, x.a, x.b, x.c, 1⟩ hr3 (by (repeat (first | exact At.head | apply At.tail | apply At.skip))) hx rfl (by omega) rfl rfl (fun D1 hb1 => ?_)) | (refine call_p (hck _ hb1 _ (by (repeat (first | exact Ent.refl | exact Ent.left | refine Ent.cons ?_ | refine Ent.app ?_)))) ?_) | ((with_reducible show Ld _ _ _ _); first | (refine ldE0 hJ hj rfl ?_)) | ((with_reducible show IxS _ _ _ _ _); first | ((refine ixE hJ hj ?_ ?_; (first | rfl | omega)))) | (refine ari ?_ ?_; omega) | (apply sel; exact rfl))
              rw [hback] at hb2
              exact ⟨(r.1 + 1, r.2.1, D2), ⟨⟨by simp only; omega, hr2⟩, hb2, hr4, fun m j' hm hj' => hr5 m j' (by simp only at hm; omega) hj', hr6⟩, by simp only; omega, (by repeat' (first | exact True.intro | refine And.intro ?_ ?_ | exact rfl | exact vi (by omega) | (dsimp only; exact rfl) | (dsimp only; exact vi (by omega)))), (by first | exact ent_i | (repeat (first | exact Ent.refl | exact Ent.left | refine Ent.cons ?_ | refine Ent.app ?_)))⟩
          · repeat' ((try (conv => whnf)); first | (apply br_pnE; (exact rfl); omega))
            exact ⟨q.2.1, q.2.2.1, r.2.2, r.2.1, by rw [hr2]; rfl, hr3, Ent.of_sub ((List.sublist_append_right s.D2 own).append_left r.2.2), hr4, by omega, hr6⟩
end
end Go.Proofs.YtfompmhncnkcfaaGreatDoor
