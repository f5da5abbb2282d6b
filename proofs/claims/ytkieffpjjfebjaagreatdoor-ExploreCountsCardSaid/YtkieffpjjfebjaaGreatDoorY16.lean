/- What the laws share, part 16. No condition. -/
import Derived.Test.YtkieffpjjfebjaaGreatDoorY15
namespace Go.Proofs.YtkieffpjjfebjaaGreatDoor
open Go
set_option maxRecDepth 10000
set_option maxHeartbeats 4000000
structure PH where
  a : Option Addr
  cap : Nat
  p : List Ins
abbrev PH.enc (h : PH) : List Value := [.slice h.a h.p.length h.cap]
abbrev encI (n : Int) : List Value := [.int .i64 n]
def psG : List PH → Nat → Option (Int × Int × Int)
  | [], _ => none
  | h :: l, t => if (checkP h.p).2 ≠ 0 then some (t, (checkP h.p).1, (checkP h.p).2) else psG l (t + 1)
def ksG (n : Nat) : List Int → Nat → Int × Int × Int
  | [], _ => (0, 0, 0)
  | k :: l, i => if k < 0 ∨ (n : Int) ≤ k then (0, i, 56) else ksG n l (i + 1)
def csM (c : Cfg) (il : Nat) (ps : List PH) (ks : List Int) : Int × Int × Int :=
  if checkM c ≠ 0 then (0, 0, checkM c) else if ps.length < 1 ∨ 16 < ps.length then (0, 0, 54) else if (il : Int) ≠ c.words then (0, 0, 55) else
    match psG ps 0 with
    | some r => r
    | none => if 65536 < ks.length then (0, 0, 56) else ksG ps.length ks 0
def tup3 (r : Int × Int × Int) : Value := .tuple #[.int .i64 r.1, .int .i64 r.2.1, .int .i64 r.2.2]
abbrev scrV (c : Cfg) (ia : Option Addr) (il ic : Nat) (pa : Option Addr) (pn pc : Nat) (ka : Option Addr) (kn kc : Nat) : Value :=
  .agg #[.int .i64 c.words, .int .i64 c.orecs, .int .i64 c.base, .int .i64 c.c0, .int .i64 c.c1, .int .i64 c.c2, .int .i64 c.c3, .int .i64 c.reads, .int .i64 c.writes, .int .i64 c.allocs, .int .i64 c.frees, .int .i64 c.clock, .bool c.strong, .slice ia il ic, .slice pa pn pc, .slice ka kn kc]
theorem drop_of {α : Type} {l : List α} {k : Nat} {x : α} (hx : l[k]? = some x) : l.drop k = x :: l.drop (k + 1) := by
  obtain ⟨hk, he⟩ := List.getElem?_eq_some_iff.1 hx
  rw [List.drop_eq_getElem_cons hk, he]
section
variable {W0 : World} {own : Own} {c : Cfg} {ia pa ka : Option Addr} {il ic pc kc : Nat} {ps : List PH} {ks : List Int}
theorem sp_cs (hF : FormsAt W0) (hP : RdE PH.enc 1 W0 own pa ps) (hQ : ∀ h ∈ ps, RdE Ins.enc 5 W0 own h.a h.p) (hK : RdE encI 1 W0 own ka ks) :
    Pure Tryz.prog W0 67 [scrV c ia il ic pa ps.length pc ka ks.length kc] own (tup3 (csM c il ps ks)) := by
  refine pure_of (spec_of mixed low_layout_CheckScript (by simp [ir_layout_CheckScript]) ?_)
  have hck := fun own => sp_check W0 own c
  unfold csM
  generalize checkM c = z at *
  by_cases h0 : z = 0
  · subst h0
    simp only [ne_eq, not_true_eq_false, if_false]
    by_cases h1 : ps.length < 1 ∨ 16 < ps.length
    · rw [if_pos h1]
      repeat' ((try (conv => whnf)); first | (refine br_f ?_) | (refine br_npn (by omega) ?_) | (apply call_p (hck _)) | (apply call_p (sp_within _ _ _ _ _)) | (apply ld_own; (first | (solve | repeat (first | with_reducible exact List.mem_cons_self | (with_reducible (apply List.mem_append_left; exact List.mem_cons_self)) | with_reducible apply List.mem_cons_of_mem | with_reducible apply List.mem_append_right)) | (repeat (first | exact List.Mem.head _ | apply List.Mem.tail | apply List.mem_append_right))); exact rfl) | (apply ldN_own; (first | (solve | repeat (first | with_reducible exact List.mem_cons_self | (with_reducible (apply List.mem_append_left; exact List.mem_cons_self)) | with_reducible apply List.mem_cons_of_mem | with_reducible apply List.mem_append_right)) | (repeat (first | exact List.Mem.head _ | apply List.Mem.tail | apply List.mem_append_right))); exact rfl; exact rfl) | (refine new_i (fun bk hbk => ?_)))
      all_goals exact ⟨rfl, by (repeat (first | exact Ent.refl | exact Ent.left | refine Ent.cons ?_ | refine Ent.app ?_))⟩
    · rw [if_neg h1]
      by_cases h2 : ¬ (il : Int) = c.words
      · rw [if_pos h2]
        repeat' ((try (conv => whnf)); first | (refine br_f ?_) | (refine br_py (by omega) ?_) | (refine br_npy (by omega) ?_) | (apply call_p (hck _)) | (apply call_p (sp_within _ _ _ _ _)) | (apply ld_own; (first | (solve | repeat (first | with_reducible exact List.mem_cons_self | (with_reducible (apply List.mem_append_left; exact List.mem_cons_self)) | with_reducible apply List.mem_cons_of_mem | with_reducible apply List.mem_append_right)) | (repeat (first | exact List.Mem.head _ | apply List.Mem.tail | apply List.mem_append_right))); exact rfl) | (apply ldN_own; (first | (solve | repeat (first | with_reducible exact List.mem_cons_self | (with_reducible (apply List.mem_append_left; exact List.mem_cons_self)) | with_reducible apply List.mem_cons_of_mem | with_reducible apply List.mem_append_right)) | (repeat (first | exact List.Mem.head _ | apply List.Mem.tail | apply List.mem_append_right))); exact rfl; exact rfl) | (refine new_i (fun bk hbk => ?_)))
        all_goals exact ⟨rfl, by (repeat (first | exact Ent.refl | exact Ent.left | refine Ent.cons ?_ | refine Ent.app ?_))⟩
      · rw [if_neg h2]
        repeat' ((try (conv => whnf)); first | (refine br_f ?_) | (refine br_pn (by omega) ?_) | (refine br_npy (by omega) ?_) | (apply call_p (hck _)) | (apply call_p (sp_within _ _ _ _ _)) | (apply ld_own; (first | (solve | repeat (first | with_reducible exact List.mem_cons_self | (with_reducible (apply List.mem_append_left; exact List.mem_cons_self)) | with_reducible apply List.mem_cons_of_mem | with_reducible apply List.mem_append_right)) | (repeat (first | exact List.Mem.head _ | apply List.Mem.tail | apply List.mem_append_right))); exact rfl) | (apply ldN_own; (first | (solve | repeat (first | with_reducible exact List.mem_cons_self | (with_reducible (apply List.mem_append_left; exact List.mem_cons_self)) | with_reducible apply List.mem_cons_of_mem | with_reducible apply List.mem_append_right)) | (repeat (first | exact List.Mem.head _ | apply List.Mem.tail | apply List.mem_append_right))); exact rfl; exact rfl) | (refine new_i (fun bk hbk => ?_)))
        generalize hres : psG ps 0 = res
        refine loop_c (σ := Nat) (fun t => [(33, .int .i64 t)]) (fun t => t ≤ ps.length ∧ psG (ps.drop t) t = res) (fun t => ps.length - t) 0 ⟨by omega, hres⟩ (by repeat' (first | exact True.intro | refine And.intro ?_ ?_ | exact rfl | exact vi (by omega) | (dsimp only; exact rfl) | (dsimp only; exact vi (by omega)))) rfl ?_
        rintro t junk ⟨ht, hI⟩
        by_cases hlt : t < ps.length
        · obtain ⟨x, hx⟩ : ∃ x, ps[t]? = some x := ⟨_, List.getElem?_eq_getElem hlt⟩
          have hx1 := hQ x (List.mem_of_getElem? hx)
          have hcp := fun ex => sp_pcheck (cap := x.cap) hF (hx1.ent (Ent.app (A := ex) Ent.refl))
          rw [drop_of hx, psG] at hI
          generalize checkP x.p = r at *
          by_cases hr : r.2 ≠ 0
          · rw [if_pos hr] at hI
            subst hI
            repeat' ((try (conv => whnf)); first | (refine br_py (by omega) ?_) | (refine call_p (hcp [_]) ?_) | ((with_reducible show Ld _ _ _ _); first | (refine ldE (k := 0) (RdE.ent hP ?_) hx ?_ rfl ?_; rotate_left; rfl; rotate_left; (solve | (repeat (first | exact Ent.refl | exact Ent.left | refine Ent.cons ?_ | refine Ent.app ?_))))) | ((with_reducible show IxS _ _ _ _ _); first | (refine ixE hP hx ?_ ?_; (first | rfl | omega))) | (apply sel; exact rfl))
            all_goals exact ⟨rfl, by (repeat (first | exact Ent.refl | exact Ent.left | refine Ent.cons ?_ | refine Ent.app ?_))⟩
          · rw [if_neg hr] at hI
            repeat' ((try (conv => whnf)); first | (refine br_py (by omega) ?_) | (refine br_pn (by omega) ?_) | (refine call_p (hcp [_]) ?_) | ((with_reducible show Ld _ _ _ _); first | (refine ldE (k := 0) (RdE.ent hP ?_) hx ?_ rfl ?_; rotate_left; rfl; rotate_left; (solve | (repeat (first | exact Ent.refl | exact Ent.left | refine Ent.cons ?_ | refine Ent.app ?_))))) | ((with_reducible show IxS _ _ _ _ _); first | (refine ixE hP hx ?_ ?_; (first | rfl | omega))) | (refine ari ?_ ?_; omega) | (apply sel; exact rfl))
            all_goals exact ⟨t + 1, ⟨by omega, hI⟩, by omega, (by repeat' (first | exact True.intro | refine And.intro ?_ ?_ | exact rfl | exact vi (by omega) | (dsimp only; exact rfl) | (dsimp only; exact vi (by omega)))), by (repeat (first | exact Ent.refl | exact Ent.left | refine Ent.cons ?_ | refine Ent.app ?_))⟩
        · have ht' : t = ps.length := by omega
          subst ht'
          rw [List.drop_length, psG] at hI
          subst hI
          simp only []
          by_cases h3 : 65536 < ks.length
          · rw [if_pos h3]
            repeat' ((try (conv => whnf)); first | (refine br_py (by omega) ?_) | (refine br_pn (by omega) ?_) | (apply ld_own; (first | (solve | repeat (first | with_reducible exact List.mem_cons_self | (with_reducible (apply List.mem_append_left; exact List.mem_cons_self)) | with_reducible apply List.mem_cons_of_mem | with_reducible apply List.mem_append_right)) | (repeat (first | exact List.Mem.head _ | apply List.Mem.tail | apply List.mem_append_right))); exact rfl))
            all_goals exact ⟨rfl, by (repeat (first | exact Ent.refl | exact Ent.left | refine Ent.cons ?_ | refine Ent.app ?_))⟩
          · rw [if_neg h3]
            generalize hres2 : ksG ps.length ks 0 = res2
            repeat' ((try (conv => whnf)); first | (refine br_pn (by omega) ?_) | (apply ld_own; (first | (solve | repeat (first | with_reducible exact List.mem_cons_self | (with_reducible (apply List.mem_append_left; exact List.mem_cons_self)) | with_reducible apply List.mem_cons_of_mem | with_reducible apply List.mem_append_right)) | (repeat (first | exact List.Mem.head _ | apply List.Mem.tail | apply List.mem_append_right))); exact rfl))
            refine loop_c (σ := Nat) (fun i => [(56, .int .i64 i)]) (fun i => i ≤ ks.length ∧ ksG ps.length (ks.drop i) i = res2) (fun i => ks.length - i) 0 ⟨by omega, hres2⟩ (by repeat' (first | exact True.intro | refine And.intro ?_ ?_ | exact rfl | exact vi (by omega) | (dsimp only; exact rfl) | (dsimp only; exact vi (by omega)))) rfl ?_
            rintro i junk2 ⟨hi, hI⟩
            by_cases hlt2 : i < ks.length
            · obtain ⟨k, hk⟩ : ∃ k, ks[i]? = some k := ⟨_, List.getElem?_eq_getElem hlt2⟩
              rw [drop_of hk, ksG] at hI
              by_cases hb : k < 0 ∨ (ps.length : Int) ≤ k
              · rw [if_pos hb] at hI
                subst hI
                repeat' ((try (conv => whnf)); first | (refine when_y ?_) | (refine when_tf ?_) | (refine br_t ?_) | (refine br_py (by omega) ?_) | ((with_reducible show Ld _ _ _ _); first | (refine ldE (k := 0) (RdE.ent hK ?_) hk ?_ rfl ?_; rotate_left; rfl; rotate_left; (solve | (repeat (first | exact Ent.refl | exact Ent.left | refine Ent.cons ?_ | refine Ent.app ?_))))) | ((with_reducible show IxS _ _ _ _ _); first | (refine ixE hK hk ?_ ?_; (first | rfl | omega))) | (apply ld_own; (first | (solve | repeat (first | with_reducible exact List.mem_cons_self | (with_reducible (apply List.mem_append_left; exact List.mem_cons_self)) | with_reducible apply List.mem_cons_of_mem | with_reducible apply List.mem_append_right)) | (repeat (first | exact List.Mem.head _ | apply List.Mem.tail | apply List.mem_append_right))); exact rfl) | (refine when_df (fun hc => ?_) (fun hc => ?_)))
                all_goals exact ⟨rfl, by (repeat (first | exact Ent.refl | exact Ent.left | refine Ent.cons ?_ | refine Ent.app ?_))⟩
              · rw [if_neg hb] at hI
                repeat' ((try (conv => whnf)); first | (refine when_y ?_) | (refine br_py (by omega) ?_) | (refine br_pn (by omega) ?_) | (refine when_pn (by omega) ?_) | ((with_reducible show Ld _ _ _ _); first | (refine ldE (k := 0) (RdE.ent hK ?_) hk ?_ rfl ?_; rotate_left; rfl; rotate_left; (solve | (repeat (first | exact Ent.refl | exact Ent.left | refine Ent.cons ?_ | refine Ent.app ?_))))) | ((with_reducible show IxS _ _ _ _ _); first | (refine ixE hK hk ?_ ?_; (first | rfl | omega))) | (refine ari ?_ ?_; omega) | (apply ld_own; (first | (solve | repeat (first | with_reducible exact List.mem_cons_self | (with_reducible (apply List.mem_append_left; exact List.mem_cons_self)) | with_reducible apply List.mem_cons_of_mem | with_reducible apply List.mem_append_right)) | (repeat (first | exact List.Mem.head _ | apply List.Mem.tail | apply List.mem_append_right))); exact rfl))
                all_goals exact ⟨i + 1, ⟨by omega, hI⟩, by omega, (by repeat' (first | exact True.intro | refine And.intro ?_ ?_ | exact rfl | exact vi (by omega) | (dsimp only; exact rfl) | (dsimp only; exact vi (by omega)))), by (repeat (first | exact Ent.refl | exact Ent.left | refine Ent.cons ?_ | refine Ent.app ?_))⟩
            · have hi' : i = ks.length := by omega
              subst hi'
              rw [List.drop_length, ksG] at hI
              subst hI
              repeat' ((try (conv => whnf)); first | (refine br_pn (by omega) ?_))
              all_goals exact ⟨rfl, by (repeat (first | exact Ent.refl | exact Ent.left | refine Ent.cons ?_ | refine Ent.app ?_))⟩
  · rw [if_pos h0]
    repeat' ((try (conv => whnf)); first | (refine br_py (by omega) ?_) | (apply call_p (hck _)) | (apply ldN_own; (first | (solve | repeat (first | with_reducible exact List.mem_cons_self | (with_reducible (apply List.mem_append_left; exact List.mem_cons_self)) | with_reducible apply List.mem_cons_of_mem | with_reducible apply List.mem_append_right)) | (repeat (first | exact List.Mem.head _ | apply List.Mem.tail | apply List.mem_append_right))); exact rfl; exact rfl) | (refine new_i (fun bk hbk => ?_)))
    all_goals exact ⟨rfl, by (repeat (first | exact Ent.refl | exact Ent.left | refine Ent.cons ?_ | refine Ent.app ?_))⟩
end
end Go.Proofs.YtkieffpjjfebjaaGreatDoor
namespace Go.Proofs.YtkieffpjjfebjaaGreatDoor
open Go
set_option maxRecDepth 10000
abbrev wrapu (n : Int) : Int := IntKind.u64.wrap n
abbrev okU (x : Int) : Prop := 0 ≤ x ∧ x ≤ 18446744073709551615
structure Rg where
  r0 : Int
  r1 : Int
  r2 : Int
  r3 : Int
  r4 : Int
  r5 : Int
  r6 : Int
  r7 : Int
abbrev Rg.enc (r : Rg) : List Value := [.int .u64 r.r0, .int .u64 r.r1, .int .u64 r.r2, .int .u64 r.r3, .int .u64 r.r4, .int .u64 r.r5, .int .u64 r.r6, .int .u64 r.r7]
def Rg.get (r : Rg) : Nat → Int
  | 0 => r.r0 | 1 => r.r1 | 2 => r.r2 | 3 => r.r3 | 4 => r.r4 | 5 => r.r5 | 6 => r.r6 | 7 => r.r7 | _ => 0
def Rg.set (r : Rg) : Nat → Int → Rg
  | 0, v => { r with r0 := v } | 1, v => { r with r1 := v } | 2, v => { r with r2 := v } | 3, v => { r with r3 := v }
  | 4, v => { r with r4 := v } | 5, v => { r with r5 := v } | 6, v => { r with r6 := v } | 7, v => { r with r7 := v } | _, _ => r
theorem lt8 {k : Nat} (h : k < 8) : k = 0 ∨ k = 1 ∨ k = 2 ∨ k = 3 ∨ k = 4 ∨ k = 5 ∨ k = 6 ∨ k = 7 := by omega
theorem Rg.get_set {r : Rg} {k j : Nat} {v : Int} (h : k < 8) : (r.set k v).get j = if j = k then v else r.get j := by
  rcases lt8 h with rfl | rfl | rfl | rfl | rfl | rfl | rfl | rfl
  all_goals
    by_cases hj : j < 8
    · rcases lt8 hj with rfl | rfl | rfl | rfl | rfl | rfl | rfl | rfl <;> rfl
    · rw [if_neg (by omega)]
      obtain ⟨m, rfl⟩ : ∃ m, j = m + 8 := ⟨j - 8, by omega⟩
      rfl
structure Thr where
  pc : Nat
  rg : Rg
  oc : Int
  dn : Bool
abbrev Thr.enc (t : Thr) : List Value := [.int .i64 t.pc, .int .u64 t.rg.r0, .int .u64 t.rg.r1, .int .u64 t.rg.r2, .int .u64 t.rg.r3, .int .u64 t.rg.r4, .int .u64 t.rg.r5, .int .u64 t.rg.r6, .int .u64 t.rg.r7, .int .i64 t.oc, .bool t.dn]
theorem Thr.enc_get {t : Thr} {k : Nat} (h : k < 8) : t.enc[1 + k]? = some (.int .u64 (t.rg.get k)) := by
  rcases lt8 h with rfl | rfl | rfl | rfl | rfl | rfl | rfl | rfl <;> rfl
theorem Thr.enc_set {t : Thr} {k : Nat} {v : Int} (h : k < 8) : t.enc.set (1 + k) (.int .u64 v) = { t with rg := t.rg.set k v : Thr }.enc := by
  rcases lt8 h with rfl | rfl | rfl | rfl | rfl | rfl | rfl | rfl <;> rfl
structure ObM where
  pc : Nat
  k : Int
  v : Int
abbrev ObM.enc (o : ObM) : List Value := [.int .i64 o.pc, .int .i64 o.k, .int .u64 o.v]
structure EvM where
  ev : Int
  t : Int
  k : Int
  w : Int
  r : List Int
  wl : List Int
def EH.m (e : EH) : EvM := ⟨e.ev, e.t, e.k, e.w, e.rl, e.wl⟩
structure ChM where
  t : Int
  f : Int
  ad : List Int
structure GS where
  d : List Int
  tk : List Bool
  T : List Thr
  E : List EvM
  O : List (List ObM)
  n : Nat
def isL (x : Ins) : Bool := decide ((0 ≤ x.op ∧ x.op ≤ 6) ∨ x.op = 17)
def locR (t : Thr) (x : Ins) : Rg :=
  if x.op = 1 then t.rg.set x.a.toNat (wrapu x.imm) else if x.op = 2 then t.rg.set x.a.toNat (t.rg.get x.b.toNat)
  else if x.op = 3 then t.rg.set x.a.toNat (Alu.applyW x.imm (t.rg.get x.b.toNat) (t.rg.get x.c.toNat)) else if x.op = 17 then t.rg.set x.a.toNat (wrapu t.oc) else t.rg
def locP (t : Thr) (x : Ins) : Nat :=
  if x.op = 4 ∨ (x.op = 5 ∧ t.rg.get x.a.toNat = 0) ∨ (x.op = 6 ∧ t.rg.get x.a.toNat ≠ 0) then t.pc + 1 + x.imm.toNat else t.pc + 1
def locM (t : Thr) (x : Ins) : Thr := { t with rg := locR t x, pc := locP t x }
structure BM where
  d : List Int
  tk : List Bool
  t : Thr
  r : List Int
  w : List Int
  o : List ObM
  ad : List Int
def adr (r : Rg) (b imm : Int) : Int := wrapu (r.get b.toNat + wrapu imm)
def addI (l : List Int) (a : Int) : List Int := if a ∈ l then l else l ++ [a]
def wrM (b : BM) (a : Nat) (v : Int) : BM := { b with d := b.d.set a v, w := addI b.w a }
def wrL (b : BM) (a : Nat) : Nat → BM
  | 0 => b
  | n + 1 => wrM (wrL b a n) (a + n) 0
def BM.put (b : BM) (r : Int) (k v : Int) : BM := { b with t := { b.t with rg := b.t.rg.set r.toNat v, pc := b.t.pc + 1 }, o := b.o ++ [⟨b.t.pc, k, v⟩] }
def BM.go (b : BM) : BM := { b with t := { b.t with pc := b.t.pc + 1 } }
def rdM (b : BM) (a : Nat) : BM := { b with r := if (a : Int) ∈ b.w ∨ (a : Int) ∈ b.r then b.r else b.r ++ [(a : Int)] }
def alB (c : Cfg) (tk : List Bool) (ad : List Int) (imm : Int) : Option (Nat × Nat) :=
  match ad with
  | [] => none
  | a :: _ => if a < 0 ∨ lfindM c a < 0 ∨ classM c (lfindM c a) ≠ imm ∨ tk.getD (lfindM c a).toNat false = true then none else some (a.toNat, (lfindM c a).toNat)
def stpM (c : Cfg) (b : BM) (x : Ins) : BM × Int :=
  if x.op = 10 then (if c.words ≤ adr b.t.rg x.b x.imm then (b.go, 7) else ((rdM b (adr b.t.rg x.b x.imm).toNat).put x.a 1 (b.d.getD (adr b.t.rg x.b x.imm).toNat 0), 0))
  else if x.op = 11 then (if c.words ≤ adr b.t.rg x.a x.imm then (b.go, 7) else ((wrM b (adr b.t.rg x.a x.imm).toNat (b.t.rg.get x.b.toNat)).go, 0))
  else if x.op = 14 then (match alB c b.tk b.ad x.imm with
    | none => (b, -1)
    | some (a, k) => ((wrL { b with ad := b.ad.tail, tk := b.tk.set k true } a (2 ^ x.imm.toNat)).put x.a 2 a, 0))
  else if x.op = 15 then (if lfindM c (b.t.rg.get x.a.toNat) < 0 ∨ b.tk.getD (lfindM c (b.t.rg.get x.a.toNat)).toNat false = false then (b.go, 8) else ({ b with tk := b.tk.set (lfindM c (b.t.rg.get x.a.toNat)).toNat false }.go, 0))
  else if x.op = 8 then (b.go, 1) else if x.op = 9 then (b.go, 2) else ({ b with t := locM b.t x }, 0)
def runM (c : Cfg) (p : List Ins) : Nat → BM → BM × Int
  | 0, b => (b, -1)
  | n + 1, b => match p[b.t.pc]? with
    | none => (b, -1)
    | some x => if (stpM c b x).2 = 0 then runM c p n (stpM c b x).1 else stpM c b x
def GS.fin (s : GS) (t : Nat) (th : Thr) (l : List ObM) : GS := { s with T := s.T.set t th, O := s.O.set t (s.O.getD t [] ++ l) }
def GS.ev (s : GS) (l : List EvM) : GS := { s with E := s.E ++ l }
def GS.mem (s : GS) (d : List Int) (tk : List Bool) : GS := { s with d := d, tk := tk }
def txM (c : Cfg) (p : List Ins) (s : GS) (th : Thr) (t : Nat) (f : Int) (ad : List Int) : Option GS :=
  if f ≠ 0 then (if (3 ≤ f ∧ f ≤ 6) ∧ ad = [] then some (s.fin t ⟨endM p th.pc + 1, th.rg, f, decide (endM p th.pc + 1 = p.length)⟩ [⟨th.pc, 3, f⟩]) else none)
  else match runM c p p.length ⟨s.d, s.tk, { th with pc := th.pc + 1 }, [], [], [], ad⟩ with
    | (b, o) => if o = -1 ∨ b.ad ≠ [] then none
      else if o = 1 then some (((s.mem b.d b.tk).ev [⟨s.n, t, 3, 0, [], []⟩, ⟨s.n, t, 4, 0, b.r, b.w⟩]).fin t ⟨endM p th.pc + 1, b.t.rg, 1, decide (endM p th.pc + 1 = p.length)⟩ (b.o ++ [⟨th.pc, 3, 1⟩]))
      else some ((s.ev [⟨s.n, t, 3, 0, [], []⟩, ⟨s.n, t, 4, 0, b.r, []⟩]).fin t ⟨endM p th.pc + 1, th.rg, o, decide (endM p th.pc + 1 = p.length)⟩ [⟨th.pc, 3, o⟩])
def plE (c : Cfg) (n t : Nat) (k a : Int) : List EvM :=
  if c.strong then [⟨n, t, 3, 0, [], []⟩, ⟨n, t, 4, 0, if k = 1 then [a] else [], if k = 1 then [] else [a]⟩] else [⟨n, t, k, a, [], []⟩]
def Thr.nxt (th : Thr) (len : Nat) (r : Rg) : Thr := ⟨th.pc + 1, r, th.oc, decide (th.pc + 1 = len)⟩
def sgM (c : Cfg) (p : List Ins) (s : GS) (th : Thr) (t : Nat) (f : Int) (x : Ins) : Option GS :=
  if x.op = 12 ∨ x.op = 13 then
    (match adr th.rg (if x.op = 12 then x.b else x.a) x.imm with
    | a => if f ≠ 0 then (if f = 6 ∧ c.strong = true ∧ x.op = 13 ∧ a < c.words then some (s.fin t (th.nxt p.length th.rg) [⟨th.pc, 7, 6⟩]) else none)
      else if c.words ≤ a then some (s.fin t (th.nxt p.length (if x.op = 12 then th.rg.set x.a.toNat 0 else th.rg)) [⟨th.pc, 7, 7⟩])
      else if x.op = 12 then some ((s.ev (plE c s.n t 1 a)).fin t (th.nxt p.length (th.rg.set x.a.toNat (s.d.getD a.toNat 0))) [⟨th.pc, 4, s.d.getD a.toNat 0⟩])
      else some (((s.mem (s.d.set a.toNat (th.rg.get x.b.toNat)) s.tk).ev (plE c s.n t 2 a)).fin t (th.nxt p.length th.rg) [⟨th.pc, 5, th.rg.get x.b.toNat⟩]))
  else if f ≠ 0 then none
  else some (s.fin t { locM th x with dn := decide ((locM th x).pc = p.length) } (if x.op = 16 then [⟨th.pc, 6, 0⟩] else []))
def chM (c : Cfg) (ps : List (List Ins)) (s : GS) (ch : ChM) : Option GS :=
  if ch.t < 0 then none else match s.T[ch.t.toNat]?, ps[ch.t.toNat]? with
  | some th, some p => if th.dn then none else match p[th.pc]? with
    | some x => if x.op = 7 then txM c p s th ch.t.toNat ch.f ch.ad else if ch.ad = [] then sgM c p s th ch.t.toNat ch.f x else none
    | none => none
  | _, _ => none
def doM (c : Cfg) (ps : List (List Ins)) (s : GS) (ch : ChM) : Int × GS :=
  match chM c ps s ch with
  | some s' => (0, { s' with n := s.n + 1 })
  | none => (70, s)
def newM (c : Cfg) (ini : List Int) (ps : List (List Ins)) : GS :=
  ⟨ini, List.replicate (blocksM c).toNat false, ps.map fun p => ⟨0, ⟨0, 0, 0, 0, 0, 0, 0, 0⟩, 0, decide (p.length = 0)⟩, [], ps.map fun _ => [], 0⟩
end Go.Proofs.YtkieffpjjfebjaaGreatDoor
namespace Go.Proofs.YtkieffpjjfebjaaGreatDoor
open Go Go.RowKit
set_option maxRecDepth 10000
set_option maxHeartbeats 4000000
inductive AllV (K : Value → Prop) : List Value → Prop
  | nil : AllV K []
  | cons {x : Value} {l : List Value} (h : K x) (hl : AllV K l) : AllV K (x :: l)
theorem AllV.mem {K : Value → Prop} {l : List Value} (h : AllV K l) : ∀ v ∈ l, K v := by
  induction h with
  | nil => intro v hv; cases hv
  | cons h _ ih =>
    intro v hv
    rcases List.mem_cons.1 hv with rfl | hv
    · exact h
    · exact ih v hv
end Go.Proofs.YtkieffpjjfebjaaGreatDoor
namespace Go.Proofs.YtkieffpjjfebjaaGreatDoor
open Go Go.RowKit
set_option maxRecDepth 10000
def runG : List Ins → Nat → Int → Option Int
  | [], _, b => some b
  | x :: l, k, b => if oneX 0 b x = 0 then runG l (k + 1) (nextB x k b) else none
theorem runG_snoc (x : Ins) : ∀ (l : List Ins) (k : Nat) (b : Int), runG (l ++ [x]) k b = (runG l k b).bind fun b' => if oneX 0 b' x = 0 then some (nextB x (k + l.length) b') else none
  | [], k, b => by simp [runG]
  | y :: l, k, b => by
    simp only [List.cons_append, runG, List.length_cons]
    split
    · rw [runG_snoc x l, Nat.add_assoc, Nat.add_comm 1]
    · rfl
theorem check_run (p : List Ins) (hz : ∀ x ∈ p, iskips x = true → x.imm = 0) {b' : Int} (hb' : b' < 0) : ∀ (n k : Nat) (b : Int), n + k = p.length → PInv p k b → runG (p.drop k) k b = some b' → checkG (targetM p) (p.drop k) k b = (0, 0)
  | 0, k, b, hn, _, hr => by
    have : p.drop k = [] := List.drop_eq_nil_iff.2 (by omega)
    rw [this, runG, Option.some.injEq] at hr
    rw [this, checkG, if_neg (by omega)]
  | n + 1, k, b, hn, h, hr => by
    obtain ⟨x, hx⟩ : ∃ x, p[k]? = some x := ⟨_, List.getElem?_eq_getElem (by omega)⟩
    rw [drop_at hx, runG] at hr
    split at hr
    · rename_i h0
      have ho := oneX_ok h0
      have ht : targetM p k b x = 0 := by
        unfold targetM
        split
        · rename_i hs
          have hi := hz x (List.mem_of_getElem? hx) hs
          have h8 := skips_op hs
          rw [hi, if_neg (by omega)]
          split
          · rename_i hb
            rcases h.bb with hb1 | ⟨_, _, he⟩
            · omega
            · have := endL_ge (p.drop (k + 1)) (k + 1)
              rw [he, drop_at hx, endL]
              (repeat' split) <;> omega
          · rw [intoL_le _ _ _ _ (by simp)]
            rfl
        · rfl
      rw [drop_at hx, checkG, ht, if_neg (by simpa using h0)]
      exact check_run p hz hb' n (k + 1) _ (by omega) (h.step hx ho.1 ho.2.1) hr
    · cases hr
structure Mk (p : List Ins) (b : Int) : Prop where
  run : runG p 0 (-1) = some b
  zer : ∀ x ∈ p, iskips x = true → x.imm = 0
theorem Mk.nil : Mk [] (-1) := ⟨rfl, fun _ h => by cases h⟩
theorem Mk.snoc {p : List Ins} {b : Int} {x : Ins} (h : Mk p b) (ho : oneX 0 b x = 0) (hi : iskips x = true → x.imm = 0) : Mk (p ++ [x]) (nextB x p.length b) := by
  refine ⟨by rw [runG_snoc, h.run]; simp [ho], fun y hy hs => ?_⟩
  rcases List.mem_append.1 hy with hy | hy
  · exact h.zer y hy hs
  · obtain rfl := List.mem_singleton.1 hy
    exact hi hs
theorem Mk.ok {p : List Ins} {b : Int} (h : Mk p b) (hb : b < 0) (hl : p.length ≤ 64) : checkR p = (0, 0) := by
  rw [← checkP_R]
  unfold checkP
  rw [if_neg (by omega)]
  exact check_run p h.zer hb p.length 0 (-1) (by omega) (PInv.start p) h.run
def fits (o : Bool) (op : Int) : Prop :=
  (1 ≤ op ∧ op ≤ 6) ∨ (o = false ∧ (op = 7 ∨ op = 12 ∨ op = 13 ∨ op = 16 ∨ op = 17)) ∨ (o = true ∧ (op = 8 ∨ op = 9 ∨ op = 10 ∨ op = 11 ∨ op = 14 ∨ op = 15))
theorem fits_one {o : Bool} {b : Int} {x : Ins} (hf : fits o x.op) (hc : icheck x = 0) (hb : o = decide (0 ≤ b)) : oneX 0 b x = 0 := by
  unfold oneX
  have hp : iplace x = if x.op = 8 ∨ x.op = 9 ∨ x.op = 10 ∨ x.op = 11 ∨ x.op = 14 ∨ x.op = 15 then 1 else if x.op = 7 ∨ x.op = 12 ∨ x.op = 13 ∨ x.op = 16 ∨ x.op = 17 then 2 else 0 := by unfold iplace; rw [if_pos hc]
  rw [if_neg (by omega), hp]
  rcases hf with h | ⟨h0, h⟩ | ⟨h0, h⟩
  · (repeat' split) <;> omega
  · subst h0
    have hb' : ¬ 0 ≤ b := of_decide_eq_false hb.symm
    (repeat' split) <;> omega
  · subst h0
    have hb' : 0 ≤ b := of_decide_eq_true hb.symm
    (repeat' split) <;> omega
end Go.Proofs.YtkieffpjjfebjaaGreatDoor
namespace Go.Proofs.YtkieffpjjfebjaaGreatDoor
open Go Go.RowKit
set_option maxRecDepth 10000
set_option maxHeartbeats 4000000
abbrev encN (n : Nat) : List Value := [.int .i64 n]
structure PS where
  i : Nat
  o : Bool
  b : Int
  p : List Ins
  a : Option Addr
  cap : Nat
  D : Own
  js : List Nat
  a2 : Option Addr
  cap2 : Nat
  D2 : Own
abbrev rngP (heap : Bool) (x : Ins) : Prop := (0 ≤ x.imm ∧ x.imm ≤ 64) ∧ (x.op = 14 ∨ x.op = 15 → heap = true)
structure PI (heap : Bool) (n : Nat) (most : Int) (s : PS) : Prop where
  le : s.i ≤ n
  ob : s.o = decide (0 ≤ s.b)
  mkd : Mk s.p s.b
  bp : BufE Ins.enc 69 5 s.a s.cap s.p s.D
  bj : BufE encN 3 1 s.a2 s.cap2 s.js s.D2
  lp : s.p.length + 1 ≤ most
  lj : s.js.length ≤ s.p.length
  asc : s.js.Pairwise (· < ·)
  zer : ∀ j ∈ s.js, ∃ x, s.p[j]? = some x ∧ x.imm = 0
  rng : ∀ x ∈ s.p, rngP heap x
theorem PI.next {heap : Bool} {n : Nat} {most : Int} {s : PS} (h : PI heap n most s) (hi : s.i < n) (hl : (s.p.length : Int) + 1 < most) {y : Ins} (hf : fits s.o y.op) (hc : icheck y = 0) (hz : y.op = 4 ∨ y.op = 5 ∨ y.op = 6 → y.imm = 0) (hr : rngP heap y)
    {a : Option Addr} {cap : Nat} {D : Own} (hb : BufE Ins.enc 69 5 a cap (s.p ++ [y]) D) {o : Bool} (ho : o = if y.op = 7 then true else if y.op = 8 then false else s.o) :
    PI heap n most ⟨s.i + 1, o, nextB y s.p.length s.b, s.p ++ [y], a, cap, D, s.js, s.a2, s.cap2, s.D2⟩ := by
  refine ⟨by simp only; omega, ?_, h.mkd.snoc (fits_one hf hc h.ob) (fun hs => hz (skips_op hs).1), hb, h.bj, by simp; omega, ?_, h.asc, fun j hj => ?_, fun x hx => by
    rcases List.mem_append.1 hx with hx | hx
    · exact h.rng x hx
    · rw [List.mem_singleton.1 hx]; exact hr⟩
  · simp only
    rw [ho]
    unfold nextB
    split
    · exact (decide_eq_true (by omega)).symm
    · split
      · exact (decide_eq_false (by omega)).symm
      · exact h.ob
  · have := h.lj
    simp; omega
  · obtain ⟨x, hx, h0⟩ := h.zer j hj
    exact ⟨x, by rw [List.getElem?_append_left (List.getElem?_eq_some_iff.1 hx).1]; exact hx, h0⟩
theorem PI.commit {heap : Bool} {n : Nat} {most : Int} {s : PS} (h : PI heap n most s) (ho : s.o = true) : Mk (s.p ++ [⟨8, 0, 0, 0, 0⟩]) (nextB ⟨8, 0, 0, 0, 0⟩ s.p.length s.b) ∧ nextB ⟨8, 0, 0, 0, 0⟩ s.p.length s.b < 0 ∧ ∀ j ∈ s.js, ∃ x, (s.p ++ [⟨8, 0, 0, 0, 0⟩])[j]? = some x ∧ x.imm = 0 := by
  refine ⟨h.mkd.snoc (fits_one (o := s.o) (by rw [ho]; simp [fits]) rfl h.ob) (fun _ => rfl), by simp [nextB], fun j hj => ?_⟩
  obtain ⟨x, hx, h0⟩ := h.zer j hj
  exact ⟨x, by rw [List.getElem?_append_left (List.getElem?_eq_some_iff.1 hx).1]; exact hx, h0⟩
end Go.Proofs.YtkieffpjjfebjaaGreatDoor
namespace Go.Proofs.YtkieffpjjfebjaaGreatDoor
open Go
set_option maxRecDepth 10000
def placeM (a n : Int) : Int := IntKind.u64.wrap a % n
theorem wrapu_bd (a : Int) : 0 ≤ IntKind.u64.wrap a ∧ IntKind.u64.wrap a ≤ 18446744073709551615 := by
  unfold IntKind.wrap
  have h3 : ((2 : Int) ^ IntKind.u64.bits) = 18446744073709551616 := rfl
  simp only [h3, IntKind.signed, Bool.false_and, Bool.false_eq_true, if_false]
  omega
theorem place_bd (a : Int) {n : Int} (h : 0 < n) : 0 ≤ placeM a n ∧ placeM a n < n := ⟨Int.emod_nonneg _ (by omega), Int.emod_lt_of_pos _ h⟩
theorem sp_place (W0 : World) (own : Own) (a n : Int) (hn : 0 < n ∧ n ≤ 9223372036854775807) : Pure Tryz.prog W0 12 [.int .i64 a, .int .i64 n] own (.int .i64 (placeM a n)) := by
  refine pure_of (spec_of mixed low_kit_Place (by simp [ir_kit_Place]) ?_)
  have hw := wrapu_bd a
  have hp := place_bd a hn.1
  unfold placeM at hp
  repeat' ((try (conv => whnf)); first | (refine arw (k := .u64) (e := a) ?_) | (refine ari ?_ ?_; omega) | (refine aru ?_ ?_; omega) | (refine rem_i ?_ ?_; omega) | (exact Ent.refl) | (refine And.intro rfl ?_))
  all_goals exact ⟨ret1 rfl, by (repeat (first | exact Ent.refl | exact Ent.left | refine Ent.cons ?_ | refine Ent.app ?_))⟩
section
variable {P : Program} {W0 : World} {own : Own}
def PureE (P : Program) (W0 : World) (k : FuncId) (args : List Value) (own : Own) (Φ : Value → Prop) : Prop :=
  ∀ w, St W0 own w → Calls P k args.toArray w fun e w' => ∃ v, e = .returned v ∧ Φ v ∧ St W0 own w'
theorem call_e {k : FuncId} {args : List Value} {Φ : Value → Prop} {K : Value → Own → Prop} (h : PureE P W0 k args own Φ) (hk : ∀ v, Φ v → K v own) : CallT P W0 own k args K :=
  ⟨fun w hw => (h w hw).mono fun _ _ ⟨v, he, hv, hs⟩ => ⟨v, own, he, hs, hk v hv⟩⟩
end
end Go.Proofs.YtkieffpjjfebjaaGreatDoor
namespace Go.Proofs.YtkieffpjjfebjaaGreatDoor
open Go
set_option maxRecDepth 10000
set_option maxHeartbeats 4000000
structure PB where
  h : PH
  D : Own
abbrev PB.ok (x : PB) : Prop := BufE Ins.enc 69 5 x.h.a x.h.cap x.h.p x.D
abbrev ownL (l : List PB) : Own := (l.map PB.D).flatten
abbrev encU (n : Int) : List Value := [.int .u64 n]
abbrev scrC (c : Cfg) (i p k : Value) : Array Value := #[.int .i64 c.words, .int .i64 c.orecs, .int .i64 c.base, .int .i64 c.c0, .int .i64 c.c1, .int .i64 c.c2, .int .i64 c.c3, .int .i64 c.reads, .int .i64 c.writes, .int .i64 c.allocs, .int .i64 c.frees, .int .i64 c.clock, .bool c.strong, i, p, k]
structure IH where
  a : Option Addr
  cap : Nat
  l : List Int
abbrev IH.enc (h : IH) : List Value := [.slice h.a h.l.length h.cap]
theorem ownL_snoc (l : List PB) (x : PB) : ownL (l ++ [x]) = ownL l ++ x.D := by simp [ownL]
end Go.Proofs.YtkieffpjjfebjaaGreatDoor
namespace Go.Proofs.YtkieffpjjfebjaaGreatDoor
open Go
set_option maxRecDepth 10000
def stB (p : List Ins) : Nat → Int
  | 0 => -1
  | k + 1 => match p[k]? with
    | some x => nextB x k (stB p k)
    | none => stB p k
theorem stB_succ {p : List Ins} {k : Nat} {x : Ins} (hx : p[k]? = some x) : stB p (k + 1) = nextB x k (stB p k) := by
  simp only [stB, hx]
theorem ck_len {p : List Ins} (h : checkP p = (0, 0)) : p.length ≤ 64 := by
  unfold checkP at h
  split at h
  · simp at h
  · omega
theorem ck_step {p : List Ins} (h : checkP p = (0, 0)) : ∀ k, k ≤ p.length → PInv p k (stB p k) ∧ checkG (targetM p) (p.drop k) k (stB p k) = (0, 0)
  | 0, _ => by
    refine ⟨PInv.start p, ?_⟩
    unfold checkP at h
    split at h
    · simp at h
    · exact h
  | k + 1, hk => by
    obtain ⟨h1, h2⟩ := ck_step h k (by omega)
    obtain ⟨x, hx⟩ : ∃ x, p[k]? = some x := ⟨_, List.getElem?_eq_getElem (by omega)⟩
    rw [drop_at hx, checkG] at h2
    split at h2
    · rename_i h0
      simp only [Prod.mk.injEq] at h2
      exact absurd h2.2 h0
    · rename_i h0
      have ho := oneX_ok (by simpa using h0)
      rw [stB_succ hx]
      exact ⟨h1.step hx ho.1 ho.2.1, h2⟩
theorem ck_one {p : List Ins} (h : checkP p = (0, 0)) {k : Nat} {x : Ins} (hx : p[k]? = some x) : oneX (targetM p k (stB p k) x) (stB p k) x = 0 := by
  have hk := (List.getElem?_eq_some_iff.1 hx).1
  have h2 := (ck_step h k (by omega)).2
  rw [drop_at hx, checkG] at h2
  split at h2
  · rename_i h0
    simp only [Prod.mk.injEq] at h2
    exact absurd h2.2 h0
  · rename_i h0
    simpa using h0
theorem ck_end {p : List Ins} (h : checkP p = (0, 0)) : stB p p.length < 0 := by
  have h2 := (ck_step h p.length (Nat.le_refl _)).2
  rw [List.drop_length, checkG] at h2
  split at h2
  · simp at h2
  · omega
theorem ck_inv {p : List Ins} (h : checkP p = (0, 0)) {k : Nat} (hk : k ≤ p.length) : PInv p k (stB p k) := (ck_step h k hk).1
theorem ck_ins {p : List Ins} (h : checkP p = (0, 0)) {k : Nat} {x : Ins} (hx : p[k]? = some x) :
    icheck x = 0 ∧ (x.op = 7 → stB p k < 0) ∧ (x.op = 8 → 0 ≤ stB p k) ∧ targetM p k (stB p k) x = 0 ∧
      (x.op = 9 ∨ x.op = 10 ∨ x.op = 11 ∨ x.op = 14 ∨ x.op = 15 → 0 ≤ stB p k) := by
  have h0 := ck_one h hx
  have ho := oneX_ok h0
  refine ⟨ho.2.2.1, ho.1, ho.2.1, ho.2.2.2, fun hop => ?_⟩
  unfold oneX at h0
  rw [if_neg (by simpa using ho.2.2.1)] at h0
  split at h0
  · omega
  · split at h0
    · omega
    · rename_i h2
      have hp : iplace x = 1 := by unfold iplace; rw [if_pos ho.2.2.1, if_pos (by omega)]
      omega
theorem in_end {p : List Ins} (h : checkP p = (0, 0)) : ∀ (n k : Nat), n + k = p.length → 0 ≤ stB p k →
    ∃ c, endL (p.drop k) k = c ∧ k ≤ c ∧ c < p.length ∧ (∃ x, p[c]? = some x ∧ x.op = 8) ∧ stB p (c + 1) = -1 ∧ ∀ i, k ≤ i → i ≤ c → stB p i = stB p k ∧ endL (p.drop i) i = c ∧ (i < c → ∀ x, p[i]? = some x → x.op ≠ 7 ∧ x.op ≠ 8)
  | 0, k, hn, hb => by
    have hk : k = p.length := by omega
    have := ck_end h
    rw [← hk] at this
    omega
  | n + 1, k, hn, hb => by
    obtain ⟨x, hx⟩ : ∃ x, p[k]? = some x := ⟨_, List.getElem?_eq_getElem (by omega)⟩
    have hi := ck_ins h hx
    have h7 : x.op ≠ 7 := fun e => by have := hi.2.1 e; omega
    have hd : endL (p.drop k) k = if x.op = 8 then k else endL (p.drop (k + 1)) (k + 1) := by rw [drop_at hx, endL]
    by_cases h8 : x.op = 8
    · refine ⟨k, by rw [hd, if_pos h8], Nat.le_refl k, by omega, ⟨x, hx, h8⟩, ?_, fun i h1 h2 => ?_⟩
      · rw [stB_succ hx, nextB, if_neg h7, if_pos h8]
      · obtain rfl : i = k := by omega
        exact ⟨rfl, by rw [hd, if_pos h8], fun h => absurd h (by omega)⟩
    · have hs : stB p (k + 1) = stB p k := by rw [stB_succ hx, nextB, if_neg h7, if_neg h8]
      obtain ⟨c, hc, hkc, hcl, hc8, hc1, hall⟩ := in_end h n (k + 1) (by omega) (by rw [hs]; exact hb)
      refine ⟨c, by rw [hd, if_neg h8, hc], by omega, hcl, hc8, hc1, fun i h1 h2 => ?_⟩
      by_cases hik : i = k
      · subst hik
        refine ⟨rfl, by rw [hd, if_neg h8, hc], fun _ y hy => ?_⟩
        rw [hx] at hy
        obtain rfl := Option.some.inj hy
        exact ⟨h7, h8⟩
      · have := hall i (by omega) h2
        rw [hs] at this
        exact this
theorem of_begin {p : List Ins} (h : checkP p = (0, 0)) {k : Nat} {x : Ins} (hx : p[k]? = some x) (h7 : x.op = 7) :
    ∃ c, endM p k = c ∧ k < c ∧ c < p.length ∧ (∃ y, p[c]? = some y ∧ y.op = 8) ∧ stB p (c + 1) = -1 ∧ ∀ i, k < i → i ≤ c → stB p i = k ∧ endL (p.drop i) i = c ∧ (i < c → ∀ y, p[i]? = some y → y.op ≠ 7 ∧ y.op ≠ 8) := by
  have hk := (List.getElem?_eq_some_iff.1 hx).1
  have hs : stB p (k + 1) = k := by rw [stB_succ hx, nextB, if_pos h7]
  obtain ⟨c, h1, h2, h3, h4, h5, h6⟩ := in_end h (p.length - (k + 1)) (k + 1) (by omega) (by rw [hs]; omega)
  rw [hs] at h6
  exact ⟨c, h1, h2, h3, h4, h5, fun i hi => h6 i (by omega)⟩
def afterL (p : List Ins) (k : Nat) (x : Ins) : List Int :=
  if x.op = 4 then [k + 1 + x.imm] else if x.op = 5 ∨ x.op = 6 then [k + 1, k + 1 + x.imm] else if x.op = 9 then [(endM p k : Int) + 1] else [k + 1]
theorem intoL_no (len : Nat) : ∀ (l : List Ins) (j t : Nat), intoL len l j t = false → ∀ (i : Nat) (x : Ins), l[i]? = some x → j + i < t → x.op = 7 → endL (l.drop (i + 1)) (j + i + 1) < t ∨ len ≤ t
  | [], j, t, _, i, x, hx, _, _ => by simp at hx
  | y :: l, j, t, h, i, x, hx, hi, h7 => by
    unfold intoL at h
    rw [Bool.or_eq_false_iff, decide_eq_false_iff_not] at h
    cases i with
    | zero =>
      simp only [List.getElem?_cons_zero, Option.some.injEq] at hx
      subst hx
      simp only [Nat.add_zero, Nat.zero_add, List.drop_succ_cons, List.drop_zero]
      by_cases h1 : t ≤ endL l (j + 1)
      · right
        by_cases h2 : t + 1 ≤ len
        · exact absurd ⟨by omega, h7, h1, h2⟩ h.1
        · omega
      · left; omega
    | succ i =>
      have := intoL_no len l (j + 1) t h.2 i x (by simpa using hx) (by omega) h7
      simp only [List.drop_succ_cons]
      have e : j + (i + 1) + 1 = j + 1 + i + 1 := by omega
      rw [e]
      exact this
theorem iskips_of {x : Ins} (hc : icheck x = 0) (h : x.op = 4 ∨ x.op = 5 ∨ x.op = 6) : iskips x = true := by
  unfold iskips
  rw [decide_eq_true_iff]
  exact ⟨hc, h⟩
theorem after_ok {p : List Ins} (h : checkP p = (0, 0)) {k : Nat} {x : Ins} (hx : p[k]? = some x) : ∀ t ∈ afterL p k x, ∃ j : Nat, t = j ∧ k < j ∧ j ≤ p.length ∧
    (0 ≤ stB p k → x.op ≠ 8 → (x.op ≠ 9 → j ≤ endL (p.drop k) k) ∧ (x.op = 9 → j = endL (p.drop k) k + 1)) ∧
    (stB p k < 0 → ∀ (b : Nat) (y : Ins), k < b → p[b]? = some y → y.op = 7 → j ≤ b ∨ endM p b < j) := by
  have hk := (List.getElem?_eq_some_iff.1 hx).1
  have hi := ck_ins h hx
  have hin := fun hb => in_end h (p.length - k) k (by omega) hb
  have hdk : x.op ≠ 8 → endL (p.drop k) k = endL (p.drop (k + 1)) (k + 1) := fun h8 => by rw [drop_at hx, endL, if_neg h8]
  have step : ∃ j : Nat, ((k : Int) + 1) = j ∧ k < j ∧ j ≤ p.length ∧ (0 ≤ stB p k → x.op ≠ 8 → j ≤ endL (p.drop k) k) ∧
      (stB p k < 0 → ∀ (b : Nat) (y : Ins), k < b → p[b]? = some y → y.op = 7 → j ≤ b ∨ endM p b < j) := by
    refine ⟨k + 1, by omega, by omega, by omega, fun hb h8 => ?_, fun _ b y hb _ _ => .inl (by omega)⟩
    rw [hdk h8]
    exact (endL_ge _ _).1
  have skip : (x.op = 4 ∨ x.op = 5 ∨ x.op = 6) → ∃ j : Nat, ((k : Int) + 1 + x.imm) = j ∧ k < j ∧ j ≤ p.length ∧ (0 ≤ stB p k → x.op ≠ 8 → j ≤ endL (p.drop k) k) ∧
      (stB p k < 0 → ∀ (b : Nat) (y : Ins), k < b → p[b]? = some y → y.op = 7 → j ≤ b ∨ endM p b < j) := fun hop => by
    have hs := iskips_of hi.1 hop
    have hs2 := skips_op hs
    have ht := hi.2.2.2.1
    unfold targetM at ht
    rw [if_pos hs] at ht
    split at ht
    · omega
    · rename_i hlen
      refine ⟨k + 1 + x.imm.toNat, by omega, by omega, by omega, fun hb h8 => ?_, fun hb b y hkb hy h7 => ?_⟩
      · rw [if_pos hb] at ht
        split at ht
        · omega
        · rename_i he
          rcases (ck_inv h (by omega : k ≤ p.length)).bb with hb1 | ⟨_, _, hb3⟩
          · omega
          · rw [hb3] at he; omega
      · rw [if_neg (by omega)] at ht
        split at ht
        · omega
        · rename_i hno
          by_cases hjb : k + 1 + x.imm.toNat ≤ b
          · exact .inl hjb
          · right
            have hbl := (List.getElem?_eq_some_iff.1 hy).1
            have := intoL_no p.length (p.drop (k + 1)) (k + 1) (k + 1 + x.imm.toNat) (by simpa using hno) (b - (k + 1)) y (by rw [List.getElem?_drop, show k + 1 + (b - (k + 1)) = b by omega]; exact hy) (by omega) h7
            rw [List.drop_drop, show k + 1 + (b - (k + 1) + 1) = b + 1 by omega, show k + 1 + (b - (k + 1)) + 1 = b + 1 by omega] at this
            obtain ⟨c, hc, _, hcl, _⟩ := of_begin h hy h7
            have hce : endL (p.drop (b + 1)) (b + 1) = c := hc
            rw [hc]
            rw [hce] at this
            omega
  intro t ht
  unfold afterL at ht
  split at ht
  · rename_i h4
    obtain ⟨j, hj, h1, h2, h3, h5⟩ := skip (.inl h4)
    rw [List.mem_singleton.1 ht]
    exact ⟨j, hj, h1, h2, fun hb h8 => ⟨fun _ => h3 hb h8, fun h9 => by omega⟩, h5⟩
  · split at ht
    · rename_i h56
      rcases List.mem_cons.1 ht with rfl | ht
      · obtain ⟨j, hj, h1, h2, h3, h5⟩ := step
        exact ⟨j, hj, h1, h2, fun hb h8 => ⟨fun _ => h3 hb h8, fun h9 => by omega⟩, h5⟩
      · obtain ⟨j, hj, h1, h2, h3, h5⟩ := skip (.inr h56)
        rw [List.mem_singleton.1 ht]
        exact ⟨j, hj, h1, h2, fun hb h8 => ⟨fun _ => h3 hb h8, fun h9 => by omega⟩, h5⟩
    · split at ht
      · rename_i h9
        rw [List.mem_singleton.1 ht]
        have hb := hi.2.2.2.2 (.inl h9)
        obtain ⟨c, hc, hkc, hcl, _⟩ := hin hb
        have he : endM p k = c := by unfold endM; rw [← hdk (by omega), hc]
        rw [he]
        refine ⟨c + 1, by omega, by omega, by omega, fun _ _ => ⟨fun h => absurd h9 h, fun _ => by rw [hc]⟩, fun hb2 => by omega⟩
      · rename_i h9
        obtain ⟨j, hj, h1, h2, h3, h5⟩ := step
        rw [List.mem_singleton.1 ht]
        exact ⟨j, hj, h1, h2, fun hb h8 => ⟨fun _ => h3 hb h8, fun h => absurd h h9⟩, h5⟩
def commitM (p : List Ins) (k : Int) : Int := if (checkP p).2 = 0 ∧ 0 ≤ k then (match p[k.toNat]? with
  | some x => if x.op = 7 then endM p k.toNat else -1
  | none => -1) else -1
end Go.Proofs.YtkieffpjjfebjaaGreatDoor
namespace Go.Proofs.YtkieffpjjfebjaaGreatDoor
open Go
set_option maxRecDepth 10000
set_option maxHeartbeats 4000000
theorem checkP_zero {p : List Ins} : (checkP p).2 = 0 ↔ checkP p = (0, 0) := by
  refine ⟨fun h => ?_, fun h => by rw [h]⟩
  have key : ∀ (tgt : Nat → Int → Ins → Int) (l : List Ins) (k : Nat) (b : Int), (checkG tgt l k b).2 = 0 → checkG tgt l k b = (0, 0) := fun tgt l => by
    induction l with
    | nil =>
      intro k b
      simp only [checkG]
      split
      · intro h; simp at h
      · intro _; rfl
    | cons x l ih =>
      intro k b
      simp only [checkG]
      split
      · rename_i h0; intro h; exact absurd h h0
      · exact ih _ _
  unfold checkP at *
  split at h
  · simp at h
  · rename_i h64
    rw [if_neg h64]
    exact key _ _ _ _ h
section
variable {W0 : World} {own : Own} {a : Option Addr} {cap : Nat} {p : List Ins}
theorem sp_valid (hF : FormsAt W0) (hR : RdE Ins.enc 5 W0 own a p) : Pure Tryz.prog W0 123 [.slice a p.length cap] own (.bool (decide ((checkP p).2 = 0))) := by
  refine pure_of (spec_of mixed low_program_valid (by simp [ir_program_valid]) ?_)
  have hc := sp_pcheck (cap := cap) hF hR
  generalize checkP p = r at *
  repeat' ((try (conv => whnf)); first | (refine call_p hc ?_) | (apply sel; exact rfl) | (exact Ent.refl) | (refine And.intro rfl ?_))
  all_goals exact ⟨rfl, by (repeat (first | exact Ent.refl | exact Ent.left | refine Ent.cons ?_ | refine Ent.app ?_))⟩
theorem commitM_neg {k : Int} (h : ¬ (0 ≤ k ∧ k < p.length)) : commitM p k = -1 := by
  unfold commitM
  split
  · rename_i hc
    rw [List.getElem?_eq_none (by omega)]
  · rfl
theorem commitM_at {k : Nat} {x : Ins} (hx : p[k]? = some x) : commitM p k = if (checkP p).2 = 0 ∧ x.op = 7 then (endM p k : Int) else -1 := by
  unfold commitM
  rw [Int.toNat_natCast, hx]
  simp only
  (repeat' split) <;> first | rfl | omega
theorem sp_commit (hF : FormsAt W0) (hR : RdE Ins.enc 5 W0 own a p) (hl : p.length ≤ 1099511627776) (k : Int) : Pure Tryz.prog W0 93 [.slice a p.length cap, .int .i64 k] own (.int .i64 (commitM p k)) := by
  refine pure_of (spec_of mixed low_program_Commit (by simp [ir_program_Commit]) ?_)
  have hv := sp_valid (cap := cap) hF hR
  by_cases hk : 0 ≤ k ∧ k < p.length
  · obtain ⟨j, rfl⟩ := Int.eq_ofNat_of_zero_le hk.1
    obtain ⟨x, hx⟩ : ∃ x, p[j]? = some x := ⟨_, List.getElem?_eq_getElem (by omega)⟩
    have he := sp_end (cap := cap) hR hl j (by omega)
    rw [commitM_at hx]
    generalize (checkP p).2 = r at *
    repeat' ((try (conv => whnf)); first | (refine when_y ?_) | (refine when_tf ?_) | (refine br_t ?_) | (refine when_pn (by omega) ?_) | (refine call_p hv ?_) | (refine call_p he ?_) | ((with_reducible show Ld _ _ _ _); first | (refine ldE (k := 0) (RdE.ent hR ?_) hx ?_ rfl ?_; rotate_left; rfl; rotate_left; (solve | (repeat (first | exact Ent.refl | exact Ent.left | refine Ent.cons ?_ | refine Ent.app ?_))))) | ((with_reducible show IxS _ _ _ _ _); first | (refine ixE hR hx ?_ ?_; (first | rfl | omega))) | (refine when_ndf (fun hc => ?_) (fun hc => ?_)) | (refine br_d (fun hc => ?_) (fun hc => ?_)))
    all_goals (refine ⟨ret1 (vi ?_), by (repeat (first | exact Ent.refl | exact Ent.left | refine Ent.cons ?_ | refine Ent.app ?_))⟩; (repeat' split) <;> first | rfl | (exfalso; omega) | omega)
  · rw [commitM_neg hk]
    generalize (checkP p).2 = r at *
    repeat' ((try (conv => whnf)); first | (refine when_y ?_) | (refine when_tf ?_) | (refine br_t ?_) | (refine when_py (by omega) ?_) | (refine call_p hv ?_) | (refine when_df (fun hc => ?_) (fun hc => ?_)) | (refine when_ndf (fun hc => ?_) (fun hc => ?_)))
    all_goals first | exact ⟨rfl, by (repeat (first | exact Ent.refl | exact Ent.left | refine Ent.cons ?_ | refine Ent.app ?_))⟩ | (exfalso; omega)
end
end Go.Proofs.YtkieffpjjfebjaaGreatDoor
namespace Go.Proofs.YtkieffpjjfebjaaGreatDoor
open Go Go.ChangeShapes Go.WideShapes Go.ChangeAt Go.RowKit
section
variable {H : Type} {enc : TypeId × Value → H} {P : Program} {w : World} {spare : Nat → Bool} {held : Bool}
def fieldAt (P : Program) (t : TypeId) (i : Nat) : Option (Nat × TypeId) := match P.underlying t with
  | some (.struct fs) => (fs[i]?).map fun f => (f.offset, f.type)
  | _ => none
end
end Go.Proofs.YtkieffpjjfebjaaGreatDoor
