/- What the laws share, part 1. No condition. -/
import Derived.WalkKit
namespace Go.Proofs.YtllddgdmmfmpkaaGreatDoor
open Go
abbrev Fr := Nat → Value
def upd (f : Fr) (d : Nat) (v : Value) : Fr := fun t => bif Nat.beq t d then v else f t
def updO (f : Fr) (d : Option Nat) (v : Value) : Fr := match d with | some d => upd f d v | none => f
def ev (f : Fr) : Operand → Value
  | .tmp t => f t
  | .const v => v
  | .global g => .pointer (some ⟨g, 0, none⟩)
  | .func k => .func (.func k) #[] #[]
abbrev Own := List (Nat × (Obj → Prop))
structure St (W0 : World) (own : Own) (w : World) : Prop where
  os : w.os = W0.os
  tape : w.tape = W0.tape
  output : w.output = W0.output
  size : W0.heap.size ≤ w.heap.size
  base : ∀ b, b < W0.heap.size → w.heap[b]? = W0.heap[b]?
  fresh : ∀ e ∈ own, W0.heap.size ≤ e.1
  owns : ∀ e ∈ own, ∃ o, w.heap[e.1]? = some o ∧ e.2 o
  nodup : (own.map (·.1)).Nodup
def Kn (W0 : World) (own : Own) (φ : World → Prop) : Prop := ∀ w, St W0 own w → φ w
def Ent (W0 : World) (own own' : Own) : Prop := ∀ w, St W0 own w → St W0 own' w
theorem Ent.refl {W0 : World} {own : Own} : Ent W0 own own := fun _ h => h
theorem Ent.trans {W0 : World} {a b c : Own} (h : Ent W0 a b) (k : Ent W0 b c) : Ent W0 a c := fun w hw => k w (h w hw)
theorem Kn.ent {W0 : World} {own own' : Own} {φ : World → Prop} (h : Kn W0 own φ) (e : Ent W0 own' own) : Kn W0 own' φ := fun w hw => h w (e w hw)
theorem Ent.of_sub {W0 : World} {own own' : Own} (h : own'.Sublist own) : Ent W0 own own' := fun _ s =>
  ⟨s.os, s.tape, s.output, s.size, s.base, fun e he => s.fresh e (h.subset he), fun e he => s.owns e (h.subset he), (h.map _).nodup s.nodup⟩
theorem Ent.of_perm {W0 : World} {own own' : Own} (h : own.Perm own') : Ent W0 own own' := fun _ s =>
  ⟨s.os, s.tape, s.output, s.size, s.base, fun e he => s.fresh e (h.mem_iff.2 he), fun e he => s.owns e (h.mem_iff.2 he), ((h.map _).nodup_iff).1 s.nodup⟩
theorem Ent.drop {W0 : World} {e : Nat × (Obj → Prop)} {own : Own} : Ent W0 (e :: own) own := Ent.of_sub (List.sublist_cons_self e own)
theorem Ent.cons {W0 : World} {e : Nat × (Obj → Prop)} {own own' : Own} (h : Ent W0 own own') : Ent W0 (e :: own) own' := Ent.drop.trans h
theorem Ent.head {W0 : World} {b : Nat} {p q : Obj → Prop} {own : Own} (h : ∀ o, p o → q o) : Ent W0 ((b, p) :: own) ((b, q) :: own) := fun w s =>
  ⟨s.os, s.tape, s.output, s.size, s.base, fun e he => by
    rcases List.mem_cons.1 he with rfl | he
    · exact s.fresh (b, p) List.mem_cons_self
    · exact s.fresh e (List.mem_cons_of_mem _ he), fun e he => by
    rcases List.mem_cons.1 he with rfl | he
    · obtain ⟨o, ho, hp⟩ := s.owns (b, p) List.mem_cons_self
      exact ⟨o, ho, h o hp⟩
    · exact s.owns e (List.mem_cons_of_mem _ he), s.nodup⟩
theorem St.mem_size {W0 : World} {own : Own} {w : World} (s : St W0 own w) {e : Nat × (Obj → Prop)} (he : e ∈ own) : e.1 < w.heap.size := by
  obtain ⟨o, ho, _⟩ := s.owns e he
  exact (Array.getElem?_eq_some_iff.1 ho).1
theorem St.refl (W0 : World) : St W0 [] W0 := ⟨rfl, rfl, rfl, Nat.le_refl _, fun _ _ => rfl, by simp, by simp, by simp⟩
theorem St.drawn {W0 : World} {own : Own} {w : World} (s : St W0 own w) (n : Nat) : St W0 own { w with drawn := n } := ⟨s.os, s.tape, s.output, s.size, s.base, s.fresh, s.owns, s.nodup⟩
theorem St.push {W0 : World} {own : Own} {w : World} (s : St W0 own w) (o : Obj) {p : Obj → Prop} (hp : p o) : St W0 ((w.heap.size, p) :: own) { w with heap := w.heap.push o } := by
  refine ⟨s.os, s.tape, s.output, by simp; exact Nat.le_succ_of_le s.size, fun b hb => ?_, fun e he => ?_, fun e he => ?_, ?_⟩
  · have := s.size
    rw [← s.base b hb]
    simp only [Array.getElem?_push]
    rw [if_neg (by omega)]
  · rcases List.mem_cons.1 he with rfl | he
    · exact s.size
    · exact s.fresh e he
  · rcases List.mem_cons.1 he with rfl | he
    · exact ⟨o, by simp, hp⟩
    · obtain ⟨o', ho', hp'⟩ := s.owns e he
      have := s.mem_size he
      refine ⟨o', ?_, hp'⟩
      simp only [Array.getElem?_push]
      rw [if_neg (by omega)]
      exact ho'
  · rw [List.map_cons, List.nodup_cons]
    refine ⟨fun hm => ?_, s.nodup⟩
    obtain ⟨x, hx, he⟩ := List.mem_map.1 hm
    have := s.mem_size hx
    omega
inductive Up (b : Nat) (p q : Obj → Prop) : Own → Own → Prop
  | head {r : Own} : Up b p q ((b, p) :: r) ((b, q) :: r)
  | tail {e : Nat × (Obj → Prop)} {r r' : Own} (h : Up b p q r r') : Up b p q (e :: r) (e :: r')
theorem Up.keys {b : Nat} {p q : Obj → Prop} {own own' : Own} (h : Up b p q own own') : own'.map (·.1) = own.map (·.1) := by
  induction h with
  | head => rfl
  | tail _ ih => simp [ih]
theorem Up.mem {b : Nat} {p q : Obj → Prop} {own own' : Own} (h : Up b p q own own') : (b, p) ∈ own := by
  induction h with
  | head => exact List.mem_cons_self
  | tail _ ih => exact List.mem_cons_of_mem _ ih
theorem Up.mem' {b : Nat} {p q : Obj → Prop} {own own' : Own} (h : Up b p q own own') : ∀ e ∈ own', e = (b, q) ∨ e ∈ own := by
  induction h with
  | head => intro e he; exact (List.mem_cons.1 he).imp id (List.mem_cons_of_mem _)
  | tail _ ih =>
    intro e he
    rcases List.mem_cons.1 he with rfl | he
    · exact .inr List.mem_cons_self
    · rcases ih e he with h | h
      · exact .inl h
      · exact .inr (List.mem_cons_of_mem _ h)
theorem Up.other {b : Nat} {p q : Obj → Prop} {own own' : Own} (h : Up b p q own own') (hn : (own.map (·.1)).Nodup) : ∀ e ∈ own', e = (b, q) ∨ (e ∈ own ∧ e.1 ≠ b) := by
  induction h with
  | head =>
    intro e he
    rcases List.mem_cons.1 he with rfl | he
    · exact .inl rfl
    · refine .inr ⟨List.mem_cons_of_mem _ he, fun hb => ?_⟩
      rw [List.map_cons, List.nodup_cons] at hn
      exact hn.1 (List.mem_map.2 ⟨e, he, hb⟩)
  | tail h ih =>
    intro e he
    rw [List.map_cons, List.nodup_cons] at hn
    rcases List.mem_cons.1 he with rfl | he
    · refine .inr ⟨List.mem_cons_self, fun hb => hn.1 (List.mem_map.2 ⟨_, h.mem, hb.symm⟩)⟩
    · rcases ih hn.2 e he with h | ⟨h, h'⟩
      · exact .inl h
      · exact .inr ⟨List.mem_cons_of_mem _ h, h'⟩
theorem St.up {W0 : World} {own own' : Own} {w w' : World} {b : Nat} {p q : Obj → Prop} (s : St W0 own w) (hu : Up b p q own own')
    (hos : w'.os = w.os) (htape : w'.tape = w.tape) (hout : w'.output = w.output) (hsize : w.heap.size ≤ w'.heap.size)
    (hother : ∀ k, k < w.heap.size → k ≠ b → w'.heap[k]? = w.heap[k]?) (hb : ∃ o, w'.heap[b]? = some o ∧ q o) : St W0 own' w' := by
  have hf := s.fresh _ hu.mem
  refine ⟨hos.trans s.os, htape.trans s.tape, hout.trans s.output, Nat.le_trans s.size hsize, fun k hk => ?_, fun e he => ?_, fun e he => ?_, hu.keys ▸ s.nodup⟩
  · have h1 : b ≥ W0.heap.size := hf
    have h2 := s.size
    rw [hother k (by omega) (by omega), s.base k hk]
  · rcases hu.mem' e he with rfl | he
    · exact hf
    · exact s.fresh e he
  · rcases hu.other s.nodup e he with rfl | ⟨he, hne⟩
    · exact hb
    · obtain ⟨o, ho, hp⟩ := s.owns e he
      exact ⟨o, (hother _ (s.mem_size he) hne).trans ho, hp⟩
end Go.Proofs.YtllddgdmmfmpkaaGreatDoor
namespace Go.Proofs.YtllddgdmmfmpkaaGreatDoor
set_option maxRecDepth 10000
structure TM where
  d : Int       -- the word
  o : Int       -- its record
  ck : Int      -- the clock
  tk : Int      -- the next ticket
  sv : Int      -- the ticket that is served
  sl : List Int -- the slots
structure TO where
  pc : Nat
  k : Int
  v : Int
inductive Ph
  | idle
  | en1
  | en2 (rv : Int)
  | act (rv : Int)
  | rd1 (rv w : Int)
  | rd2 (rv w val : Int)
  | lk0 (rv : Int)
  | lk1 (rv w : Int)
  | tn0 (rv old : Int)
  | tn1 (rv old tk : Int)
  | chk (rv old tk : Int)
  | dec (rv old tk : Int)
  | wrt (rv old tk clk : Int)
  | rel (rv tk w clk : Int) (ok : Bool)
  | stm (rv tk clk : Int)
  | pas (rv tk : Int) (ok : Bool)
  | lev (rv : Int) (ok : Bool)
structure TS where
  pc : Nat
  r1 : Int
  r2 : Int
  oc : Int
  bg : Nat
  s1 : Int
  s2 : Int
  tr : Nat
  ct : Nat
  obs : List TO
  seen : List TO
  lg : Option Int
  ph : Ph
structure TE where
  ph : Int
  put : Int
def vrs (o : Int) : Int := o / 64
def hld (o : Int) : Int := o % 64 - 1
def endT (x : TS) (ok : Bool) : TS :=
  if ok then { x with ph := .idle, lg := none, obs := x.obs ++ x.seen ++ [⟨x.bg, 3, 1⟩], tr := 0, oc := 1, pc := x.bg + 5 }
  else if x.tr < 8 then { x with ph := .idle, lg := none, r1 := x.s1, r2 := x.s2, pc := x.bg }
  else { x with ph := .idle, lg := none, r1 := x.s1, r2 := x.s2, obs := x.obs ++ [⟨x.bg, 3, 5⟩], tr := 0, oc := 5, pc := x.bg + 5 }
def stepT (t : Nat) (m : TM) (x : TS) : TM × TS × TE :=
  match x.ph with
  | .idle => if x.pc % 6 = 0 then (m, { x with r2 := 1, pc := x.pc + 1 }, ⟨0, 0⟩)
    else ({ m with sl := m.sl.set t 1 }, { x with bg := x.pc, s1 := x.r1, s2 := x.r2, tr := x.tr + 1, ct := x.ct + 1, seen := [], lg := none, ph := .en1 }, ⟨2, 1⟩)
  | .en1 => (m, { x with ph := .en2 m.ck }, ⟨3, m.ck⟩)
  | .en2 rv => ({ m with sl := m.sl.set t (rv + 2) }, { x with ph := .act rv, pc := x.pc + 1 }, ⟨4, rv + 2⟩)
  | .act rv => if x.pc % 6 = 2 then (m, { x with ph := if hld m.o ≥ 0 ∨ vrs m.o > rv then .lev rv false else .rd1 rv m.o }, ⟨5, m.o⟩)
    else if x.pc % 6 = 3 then (m, { x with r1 := x.r1 + x.r2, pc := x.pc + 1 }, ⟨0, 0⟩)
    else if x.pc % 6 = 4 then (m, { x with lg := some x.r1, pc := x.pc + 1 }, ⟨0, 0⟩)
    else (m, { x with ph := .lk0 rv }, ⟨0, 0⟩)
  | .rd1 rv w => (m, { x with ph := .rd2 rv w m.d }, ⟨6, m.d⟩)
  | .rd2 rv w val => if m.o = w then (m, { x with ph := .act rv, r1 := val, seen := [⟨x.pc, 1, val⟩], pc := x.pc + 1 }, ⟨7, m.o⟩) else (m, { x with ph := .lev rv false }, ⟨7, m.o⟩)
  | .lk0 rv => (m, { x with ph := if hld m.o < 0 then .lk1 rv m.o else .lk0 rv }, ⟨11, m.o⟩)
  | .lk1 rv w => if m.o = w then ({ m with o := w + t + 1 }, { x with ph := .tn0 rv w }, ⟨12, w + t + 1⟩) else (m, { x with ph := .lk0 rv }, ⟨12, m.o⟩)
  | .tn0 rv old => ({ m with tk := m.tk + 1 }, { x with ph := .tn1 rv old m.tk }, ⟨13, m.tk + 1⟩)
  | .tn1 rv old tk => (m, { x with ph := if m.sv = tk then .chk rv old tk else .tn1 rv old tk }, ⟨14, m.sv⟩)
  | .chk rv old tk => (m, { x with ph := if vrs m.o > rv then .rel rv tk old 0 false else .dec rv old tk }, ⟨15, m.o⟩)
  | .dec rv old tk => (m, { x with ph := .wrt rv old tk m.ck }, ⟨16, m.ck⟩)
  | .wrt rv _ tk clk => ({ m with d := x.lg.getD 0 }, { x with ph := .rel rv tk ((clk + 1) * 64) clk true }, ⟨17, x.lg.getD 0⟩)
  | .rel rv tk w clk ok => ({ m with o := w }, { x with ph := if ok then .stm rv tk clk else .pas rv tk false }, ⟨18, w⟩)
  | .stm rv tk clk => ({ m with ck := clk + 1 }, { x with ph := .pas rv tk true }, ⟨19, clk + 1⟩)
  | .pas rv tk ok => ({ m with sv := tk + 1 }, { x with ph := .lev rv ok }, ⟨20, tk + 1⟩)
  | .lev _ ok => ({ m with sl := m.sl.set t 0 }, endT x ok, ⟨24, 0⟩)
end Go.Proofs.YtllddgdmmfmpkaaGreatDoor
namespace Go.Proofs.YtllddgdmmfmpkaaGreatDoor
set_option maxRecDepth 10000
def lockd : Ph → Bool
  | .tn0 .. | .tn1 .. | .chk .. | .dec .. | .wrt .. | .rel .. => true
  | _ => false
def inT : Ph → Option Int
  | .chk _ _ tk => some tk
  | .dec _ _ tk => some tk
  | .wrt _ _ tk _ => some tk
  | .rel _ tk _ _ _ => some tk
  | .stm _ tk _ => some tk
  | .pas _ tk _ => some tk
  | _ => none
def tick : Ph → Option Int
  | .tn1 _ _ tk => some tk
  | p => inT p
def wrO : Ph → Bool
  | .rel _ _ _ _ true => true
  | _ => false
def stO : Ph → Bool
  | .stm .. => true
  | _ => false
def KF (m : TM) (V k rv : Int) : Prop := k ≤ rv ∧ rv ≤ m.ck ∧ (V = k ∨ V > rv)
def TI (m : TM) (V : Int) (Mo : Nat) (x : TS) : Prop :=
  match x.ph with
  | .idle => True
  | .en1 => True
  | .en2 rv => rv ≤ m.ck
  | .act rv => rv ≤ m.ck ∧ (x.pc = x.bg + 1 ∨ ∃ k, KF m V k rv ∧ ((x.pc = x.bg + 2 ∧ x.r1 = 100 + k) ∨ (x.pc = x.bg + 3 ∧ x.r1 = 101 + k) ∨ (x.pc = x.bg + 4 ∧ x.lg = some (101 + k))))
  | .rd1 rv w => ∃ k, KF m V k rv ∧ w = 64 * k
  | .rd2 rv w val => ∃ k, KF m V k rv ∧ w = 64 * k ∧ (val = 100 + k ∨ V > k ∨ Mo = 1)
  | .lk0 rv => ∃ k, KF m V k rv ∧ x.lg = some (101 + k)
  | .lk1 rv w => (∃ k, KF m V k rv ∧ x.lg = some (101 + k)) ∧ ∃ j, w = 64 * j
  | .tn0 rv old => (∃ k, KF m V k rv ∧ x.lg = some (101 + k)) ∧ old = 64 * V
  | .tn1 rv old _ => (∃ k, KF m V k rv ∧ x.lg = some (101 + k)) ∧ old = 64 * V
  | .chk rv old _ => (∃ k, KF m V k rv ∧ x.lg = some (101 + k)) ∧ old = 64 * V
  | .dec _ _ _ => x.lg = some (101 + V)
  | .wrt _ _ _ clk => clk = m.ck ∧ x.lg = some (101 + m.ck)
  | .rel _ _ w clk ok => (ok = true ∧ clk = m.ck ∧ w = (m.ck + 1) * 64) ∨ (ok = false ∧ w = 64 * V)
  | .stm _ _ clk => clk = m.ck
  | .pas .. => True
  | .lev .. => True
def BB (R : Nat) (x : TS) : Prop := x.bg % 6 = 1 ∧ x.bg + 5 ≤ 6 * R ∧ x.r2 = 1 ∧ x.s2 = 1 ∧ 1 ≤ x.tr ∧ x.tr ≤ 8
def PI (R : Nat) (x : TS) : Prop :=
  match x.ph with
  | .idle => (x.pc % 6 = 0 ∧ x.pc ≤ 6 * R ∧ x.tr = 0) ∨ (x.pc % 6 = 1 ∧ x.pc < 6 * R ∧ x.r2 = 1 ∧ x.tr < 8)
  | .en1 => x.pc = x.bg ∧ BB R x
  | .en2 .. => x.pc = x.bg ∧ BB R x
  | .act .. => (x.pc = x.bg + 1 ∨ x.pc = x.bg + 2 ∨ x.pc = x.bg + 3 ∨ x.pc = x.bg + 4) ∧ BB R x
  | .rd1 .. => x.pc = x.bg + 1 ∧ BB R x
  | .rd2 .. => x.pc = x.bg + 1 ∧ BB R x
  | .lev .. => BB R x
  | _ => x.pc = x.bg + 4 ∧ BB R x
structure GI (R : Nat) (n : Nat) (m : TM) (X : Nat → TS) (V : Int) (Mo : Nat) : Prop where
  n16 : n ≤ 16
  lk : (m.o = 64 * V ∧ ∀ t, t < n → lockd (X t).ph = false) ∨ ∃ t, t < n ∧ lockd (X t).ph = true ∧ (∀ u, u < n → lockd (X u).ph = true → u = t) ∧ m.o = 64 * V + t + 1
  tkn : ∀ t, t < n → ∀ a, tick (X t).ph = some a → m.sv ≤ a ∧ a < m.tk
  tkd : ∀ t, t < n → ∀ u, u < n → ∀ a, tick (X t).ph = some a → tick (X u).ph = some a → t = u
  trn : ∀ t, t < n → ∀ a, inT (X t).ph = some a → a = m.sv
  svt : m.sv ≤ m.tk
  md : (Mo = 0 ∧ V = m.ck ∧ m.d = 100 + m.ck ∧ ∀ t, t < n → wrO (X t).ph = false ∧ stO (X t).ph = false) ∨
    (Mo = 1 ∧ V = m.ck ∧ m.d = 101 + m.ck ∧ ∃ t, t < n ∧ wrO (X t).ph = true) ∨ (Mo = 2 ∧ V = m.ck + 1 ∧ m.d = 101 + m.ck ∧ ∃ t, t < n ∧ stO (X t).ph = true)
  th : ∀ t, t < n → TI m V Mo (X t)
  pi : ∀ t, t < n → PI R (X t)
def setX (X : Nat → TS) (t : Nat) (x : TS) : Nat → TS := fun u => if u = t then x else X u
theorem setX_t {X : Nat → TS} {t : Nat} {x : TS} : setX X t x t = x := if_pos rfl
theorem setX_u {X : Nat → TS} {t u : Nat} {x : TS} (h : u ≠ t) : setX X t x u = X u := if_neg h
theorem inT_tick {p : Ph} {a : Int} (h : inT p = some a) : tick p = some a := by cases p <;> first | exact h | cases h
theorem wr_inT {p : Ph} (h : wrO p = true) : ∃ a, inT p = some a := by
  cases p <;> first | exact ⟨_, rfl⟩ | cases h
theorem st_inT {p : Ph} (h : stO p = true) : ∃ a, inT p = some a := by
  cases p <;> first | exact ⟨_, rfl⟩ | cases h
section
variable {R n t : Nat} {m m' : TM} {X : Nat → TS} {V : Int} {Mo : Nat} {x' : TS}
theorem GI.one (h : GI R n m X V Mo) (ht : t < n) {a : Int} (ha : inT (X t).ph = some a) {u : Nat} (hu : u < n) {b : Int} (hb : inT (X u).ph = some b) : u = t := by
  have h1 := h.trn t ht a ha
  have h2 := h.trn u hu b hb
  subst h1; subst h2
  exact (h.tkd t ht u hu _ (inT_tick ha) (inT_tick hb)).symm
theorem GI.mo0 (h : GI R n m X V Mo) (ht : t < n) {a : Int} (ha : inT (X t).ph = some a) (hw : wrO (X t).ph = false) (hs : stO (X t).ph = false) : Mo = 0 ∧ V = m.ck ∧ m.d = 100 + m.ck := by
  rcases h.md with ⟨h0, h1, h2, -⟩ | ⟨-, -, -, u, hu, hw2⟩ | ⟨-, -, -, u, hu, hs2⟩
  · exact ⟨h0, h1, h2⟩
  · obtain ⟨b, hb⟩ := wr_inT hw2
    rw [h.one ht ha hu hb, hw] at hw2
    cases hw2
  · obtain ⟨b, hb⟩ := st_inT hs2
    rw [h.one ht ha hu hb, hs] at hs2
    cases hs2
theorem GI.held (h : GI R n m X V Mo) (ht : t < n) (hl : lockd (X t).ph = true) : m.o = 64 * V + t + 1 ∧ ∀ u, u < n → lockd (X u).ph = true → u = t := by
  rcases h.lk with ⟨-, h2⟩ | ⟨u, hu, hl2, h3, h4⟩
  · rw [h2 t ht] at hl; cases hl
  · obtain rfl := h3 t ht hl
    exact ⟨h4, h3⟩
theorem GI.vrs (h : GI R n m X V Mo) : vrs m.o = V := by
  have := h.n16
  unfold Go.Proofs.YtllddgdmmfmpkaaGreatDoor.vrs
  rcases h.lk with ⟨h1, -⟩ | ⟨u, hu, -, -, h4⟩ <;> omega
theorem GI.free (h : GI R n m X V Mo) (hh : ¬ hld m.o ≥ 0) : m.o = 64 * V ∧ ∀ t, t < n → lockd (X t).ph = false := by
  have := h.n16
  unfold hld at hh
  rcases h.lk with h1 | ⟨u, hu, -, -, h4⟩
  · exact h1
  · omega
theorem GI.freeJ (h : GI R n m X V Mo) {j : Int} (hh : m.o = 64 * j) : j = V ∧ ∀ t, t < n → lockd (X t).ph = false := by
  have := h.n16
  rcases h.lk with ⟨h1, h2⟩ | ⟨u, hu, -, -, h4⟩
  · exact ⟨by omega, h2⟩
  · omega
theorem gi_same (h : GI R n m X V Mo) (ht : t < n) (e1 : m'.d = m.d) (e2 : m'.o = m.o) (e3 : m'.ck = m.ck) (e4 : m'.tk = m.tk) (e5 : m'.sv = m.sv)
    (hl : lockd x'.ph = lockd (X t).ph) (hk : tick x'.ph = tick (X t).ph) (hi : inT x'.ph = inT (X t).ph) (hw : wrO x'.ph = wrO (X t).ph) (hs : stO x'.ph = stO (X t).ph) (hx : TI m V Mo x') (hp : PI R x') : GI R n m' (setX X t x') V Mo := by
  have f1 : ∀ u, lockd (setX X t x' u).ph = lockd (X u).ph := fun u => by by_cases hu : u = t; (subst hu; rw [setX_t, hl]); rw [setX_u hu]
  have f2 : ∀ u, tick (setX X t x' u).ph = tick (X u).ph := fun u => by by_cases hu : u = t; (subst hu; rw [setX_t, hk]); rw [setX_u hu]
  have f3 : ∀ u, inT (setX X t x' u).ph = inT (X u).ph := fun u => by by_cases hu : u = t; (subst hu; rw [setX_t, hi]); rw [setX_u hu]
  have f4 : ∀ u, wrO (setX X t x' u).ph = wrO (X u).ph := fun u => by by_cases hu : u = t; (subst hu; rw [setX_t, hw]); rw [setX_u hu]
  have f5 : ∀ u, stO (setX X t x' u).ph = stO (X u).ph := fun u => by by_cases hu : u = t; (subst hu; rw [setX_t, hs]); rw [setX_u hu]
  have f6 : ∀ y, TI m V Mo y → TI m' V Mo y := fun y hy => by
    obtain ⟨d, o, ck, tk, sv, sl⟩ := m
    obtain ⟨d', o', ck', tk', sv', sl'⟩ := m'
    dsimp only at e1 e2 e3 e4 e5
    subst e1; subst e2; subst e3; subst e4; subst e5
    exact hy
  refine ⟨h.n16, ?_, ?_, ?_, ?_, by rw [e4, e5]; exact h.svt, ?_, ?_, ?_⟩
  · simp only [f1, e2]; exact h.lk
  · simp only [f2, e4, e5]; exact h.tkn
  · simp only [f2]; exact h.tkd
  · simp only [f3, e5]; exact h.trn
  · simp only [f4, f5, e3, e1]; exact h.md
  · intro u hu
    by_cases hut : u = t
    · subst hut; rw [setX_t]; exact f6 _ hx
    · rw [setX_u hut]; exact f6 _ (h.th u hu)
  · intro u hu
    by_cases hut : u = t
    · subst hut; rw [setX_t]; exact hp
    · rw [setX_u hut]; exact h.pi u hu
end
end Go.Proofs.YtllddgdmmfmpkaaGreatDoor
namespace Go.Proofs.YtllddgdmmfmpkaaGreatDoor
set_option maxRecDepth 10000
def Sc (m m' : TM) (e : TE) (Mo Mo' : Nat) : Prop :=
  (e.ph = 17 ∧ e.put = m'.d ∧ m'.ck = m.ck ∧ Mo' = 1) ∨ (e.ph = 19 ∧ m'.d = m.d ∧ m'.ck = m.ck + 1 ∧ Mo' = 0) ∨ (e.ph ≠ 17 ∧ e.ph ≠ 19 ∧ m'.d = m.d ∧ m'.ck = m.ck ∧ (Mo' = 0 ↔ Mo = 0))
section
variable {R n t : Nat} {m : TM} {X : Nat → TS} {V : Int} {Mo : Nat}
theorem gi_sc {m' : TM} {x' : TS} {e : TE} (h : GI R n m X V Mo) (ht : t < n) {x : TS} (hX : X t = x) (e1 : m'.d = m.d) (e2 : m'.o = m.o) (e3 : m'.ck = m.ck) (e4 : m'.tk = m.tk) (e5 : m'.sv = m.sv)
    (hl : lockd x'.ph = lockd x.ph) (hk : tick x'.ph = tick x.ph) (hi : inT x'.ph = inT x.ph) (hw : wrO x'.ph = wrO x.ph) (hs : stO x'.ph = stO x.ph) (h1 : e.ph ≠ 17) (h2 : e.ph ≠ 19) (hx : TI m V Mo x') (hp : PI R x') :
    ∃ V' Mo', GI R n m' (setX X t x') V' Mo' ∧ Sc m m' e Mo Mo' := by
  subst hX
  exact ⟨V, Mo, gi_same h ht e1 e2 e3 e4 e5 hl hk hi hw hs hx hp, .inr (.inr ⟨h1, h2, e1, e3, Iff.rfl⟩)⟩
theorem GI.others (h : GI R n m X V Mo) (ht : t < n) {a : Int} (ha : inT (X t).ph = some a) {u : Nat} (hu : u < n) (hut : u ≠ t) : inT (X u).ph = none ∧ wrO (X u).ph = false ∧ stO (X u).ph = false := by
  have h1 : inT (X u).ph = none := by
    cases hb : inT (X u).ph with
    | none => rfl
    | some b => exact absurd (h.one ht ha hu hb) hut
  refine ⟨h1, ?_, ?_⟩
  · cases hw : wrO (X u).ph with
    | false => rfl
    | true => obtain ⟨b, hb⟩ := wr_inT hw; rw [h1] at hb; cases hb
  · cases hw : stO (X u).ph with
    | false => rfl
    | true => obtain ⟨b, hb⟩ := st_inT hw; rw [h1] at hb; cases hb
theorem gi_idle (h : GI R n m X V Mo) (ht : t < n) {x : TS} (hX : X t = x) (hp : x.ph = .idle) (hd : x.pc ≠ 6 * R) : ∃ V' Mo', GI R n (stepT t m x).1 (setX X t (stepT t m x).2.1) V' Mo' ∧ Sc m (stepT t m x).1 (stepT t m x).2.2 Mo Mo' := by
  have hI := h.pi t ht
  obtain ⟨pc, r1, r2, oc, bg, s1, s2, tr, ct, obs, seen, lg, ph⟩ := x
  dsimp only at hp hd
  subst hp
  rw [hX] at hI
  have hI : (pc % 6 = 0 ∧ pc ≤ 6 * R ∧ tr = 0) ∨ (pc % 6 = 1 ∧ pc < 6 * R ∧ r2 = 1 ∧ tr < 8) := hI
  dsimp only [stepT]
  split
  · exact gi_sc h ht hX rfl rfl rfl rfl rfl rfl rfl rfl rfl rfl (by simp) (by simp) trivial (.inr (by dsimp only; omega))
  · exact gi_sc h ht hX rfl rfl rfl rfl rfl rfl rfl rfl rfl rfl (by simp) (by simp) trivial ⟨rfl, by unfold BB; dsimp only; omega⟩
theorem gi_enter (h : GI R n m X V Mo) (ht : t < n) {x : TS} (hX : X t = x) (hp : x.ph = .en1 ∨ ∃ rv, x.ph = .en2 rv) : ∃ V' Mo', GI R n (stepT t m x).1 (setX X t (stepT t m x).2.1) V' Mo' ∧ Sc m (stepT t m x).1 (stepT t m x).2.2 Mo Mo' := by
  have hI := h.pi t ht
  have hT := h.th t ht
  rw [hX] at hI hT
  obtain ⟨pc, r1, r2, oc, bg, s1, s2, tr, ct, obs, seen, lg, ph⟩ := x
  rcases hp with rfl | ⟨rv, rfl⟩
  · have hI : pc = bg ∧ BB R _ := hI
    dsimp only [stepT]
    exact gi_sc h ht hX rfl rfl rfl rfl rfl rfl rfl rfl rfl rfl (by simp) (by simp) (Int.le_refl _) hI
  · obtain ⟨hI, hB⟩ : pc = bg ∧ BB R _ := hI
    have hT : rv ≤ m.ck := hT
    dsimp only [stepT]
    exact gi_sc h ht hX rfl rfl rfl rfl rfl rfl rfl rfl rfl rfl (by simp) (by simp) ⟨hT, .inl (by dsimp only; omega)⟩ ⟨.inl (by dsimp only; omega), hB⟩
theorem gi_act (h : GI R n m X V Mo) (ht : t < n) {x : TS} (hX : X t = x) {rv : Int} (hp : x.ph = .act rv) : ∃ V' Mo', GI R n (stepT t m x).1 (setX X t (stepT t m x).2.1) V' Mo' ∧ Sc m (stepT t m x).1 (stepT t m x).2.2 Mo Mo' := by
  have hI := h.pi t ht
  have hT := h.th t ht
  have hv := h.vrs
  have hfr := h.free
  rw [hX] at hI hT
  obtain ⟨pc, r1, r2, oc, bg, s1, s2, tr, ct, obs, seen, lg, ph⟩ := x
  dsimp only at hp
  subst hp
  obtain ⟨hI, hB⟩ : (pc = bg + 1 ∨ pc = bg + 2 ∨ pc = bg + 3 ∨ pc = bg + 4) ∧ BB R _ := hI
  obtain ⟨hrv, hT⟩ : rv ≤ m.ck ∧ (pc = bg + 1 ∨ ∃ k, KF m V k rv ∧ ((pc = bg + 2 ∧ r1 = 100 + k) ∨ (pc = bg + 3 ∧ r1 = 101 + k) ∨ (pc = bg + 4 ∧ lg = some (101 + k)))) := hT
  have hB' := hB
  unfold BB at hB
  dsimp only at hB
  dsimp only [stepT]
  by_cases c2 : pc % 6 = 2
  · rw [if_pos c2]
    by_cases c : hld m.o ≥ 0 ∨ vrs m.o > rv
    · rw [if_pos c]
      exact gi_sc h ht hX rfl rfl rfl rfl rfl rfl rfl rfl rfl rfl (by simp) (by simp) trivial hB'
    · rw [if_neg c]
      have ho := (hfr (fun h => c (.inl h))).1
      exact gi_sc h ht hX rfl rfl rfl rfl rfl rfl rfl rfl rfl rfl (by simp) (by simp) ⟨V, ⟨by omega, hrv, .inl rfl⟩, ho⟩ ⟨by dsimp only; omega, hB'⟩
  · rw [if_neg c2]
    obtain ⟨k, hk, hT⟩ := hT.resolve_left (by omega)
    by_cases c3 : pc % 6 = 3
    · rw [if_pos c3]
      exact gi_sc h ht hX rfl rfl rfl rfl rfl rfl rfl rfl rfl rfl (by simp) (by simp) ⟨hrv, .inr ⟨k, hk, .inr (.inl (by dsimp only; omega))⟩⟩ ⟨by dsimp only; omega, hB'⟩
    · rw [if_neg c3]
      by_cases c4 : pc % 6 = 4
      · rw [if_pos c4]
        have hr : r1 = 101 + k := by rcases hT with hT | hT | hT <;> omega
        exact gi_sc h ht hX rfl rfl rfl rfl rfl rfl rfl rfl rfl rfl (by simp) (by simp) ⟨hrv, .inr ⟨k, hk, .inr (.inr ⟨by dsimp only; omega, by dsimp only; rw [hr]⟩)⟩⟩ ⟨by dsimp only; omega, hB'⟩
      · rw [if_neg c4]
        have hl : lg = some (101 + k) := by
          rcases hT with hT | hT | hT
          · omega
          · omega
          · exact hT.2
        exact gi_sc h ht hX rfl rfl rfl rfl rfl rfl rfl rfl rfl rfl (by simp) (by simp) ⟨k, hk, hl⟩ ⟨by dsimp only; omega, hB'⟩
end
end Go.Proofs.YtllddgdmmfmpkaaGreatDoor
namespace Go.Proofs.YtllddgdmmfmpkaaGreatDoor
set_option maxRecDepth 10000
theorem all_set {n t : Nat} {X : Nat → TS} {x' : TS} {P : Nat → TS → Prop} (h1 : P t x') (h2 : ∀ u, u < n → u ≠ t → P u (X u)) : ∀ u, u < n → P u (setX X t x' u) := fun u hu => by
  by_cases hut : u = t
  · subst hut; rw [setX_t]; exact h1
  · rw [setX_u hut]; exact h2 u hu hut
theorem ti_ck {m m' : TM} {V : Int} {Mo : Nat} {y : TS} (e : m'.ck = m.ck) (h : TI m V Mo y) : TI m' V Mo y := by
  obtain ⟨d, o, ck, tk, sv, sl⟩ := m
  obtain ⟨d', o', ck', tk', sv', sl'⟩ := m'
  dsimp only at e
  subst e
  exact h
theorem ti_mo {m : TM} {V : Int} {y : TS} (h : TI m V 0 y) : TI m V 1 y := by
  obtain ⟨pc, r1, r2, oc, bg, s1, s2, tr, ct, obs, seen, lg, ph⟩ := y
  cases ph <;> first | exact h | (obtain ⟨k, h1, h2, h3⟩ := h; exact ⟨k, h1, h2, .inr (.inr rfl)⟩)
theorem kf_up {m m' : TM} {V V' k rv : Int} (h : KF m V k rv) (hv : V' = m.ck + 1) (hc : m.ck ≤ m'.ck) : KF m' V' k rv ∧ V' > k := by
  unfold KF at *
  omega
theorem ti_ver {m m' : TM} {V V' : Int} {Mo Mo' : Nat} {y : TS} (h : TI m V Mo y) (hl : lockd y.ph = false) (hi : inT y.ph = none) (hv : V' = m.ck + 1) (hc : m'.ck = m.ck) : TI m' V' Mo' y := by
  obtain ⟨pc, r1, r2, oc, bg, s1, s2, tr, ct, obs, seen, lg, ph⟩ := y
  have hc' : m.ck ≤ m'.ck := by omega
  cases ph with
  | idle => trivial
  | en1 => trivial
  | en2 rv => have h : rv ≤ m.ck := h; exact (by omega : rv ≤ m'.ck)
  | act rv =>
    obtain ⟨h1, h2⟩ := h
    refine ⟨by omega, h2.imp id fun ⟨k, hk, h⟩ => ⟨k, (kf_up hk hv hc').1, h⟩⟩
  | rd1 rv w => obtain ⟨k, hk, h⟩ := h; exact ⟨k, (kf_up hk hv hc').1, h⟩
  | rd2 rv w val => obtain ⟨k, hk, h, -⟩ := h; exact ⟨k, (kf_up hk hv hc').1, h, .inr (.inl (kf_up hk hv hc').2)⟩
  | lk0 rv => obtain ⟨k, hk, h⟩ := h; exact ⟨k, (kf_up hk hv hc').1, h⟩
  | lk1 rv w => obtain ⟨⟨k, hk, h⟩, h2⟩ := h; exact ⟨⟨k, (kf_up hk hv hc').1, h⟩, h2⟩
  | pas => trivial
  | lev => trivial
  | tn0 => cases hl
  | tn1 => cases hl
  | chk => cases hl
  | dec => cases hl
  | wrt => cases hl
  | rel => cases hl
  | stm => cases hi
theorem kf_ck {m m' : TM} {V k rv : Int} (h : KF m V k rv) (hc : m.ck ≤ m'.ck) : KF m' V k rv := by
  unfold KF at *
  omega
theorem ti_stm {m m' : TM} {V : Int} {y : TS} (h : TI m V 2 y) (hi : inT y.ph = none) (hc : m.ck ≤ m'.ck) : TI m' V 0 y := by
  obtain ⟨pc, r1, r2, oc, bg, s1, s2, tr, ct, obs, seen, lg, ph⟩ := y
  cases ph with
  | idle => trivial
  | en1 => trivial
  | en2 rv => have h : rv ≤ m.ck := h; exact (by omega : rv ≤ m'.ck)
  | act rv =>
    obtain ⟨h1, h2⟩ := h
    refine ⟨by omega, h2.imp id fun ⟨k, hk, h⟩ => ⟨k, kf_ck hk hc, h⟩⟩
  | rd1 rv w => obtain ⟨k, hk, h⟩ := h; exact ⟨k, kf_ck hk hc, h⟩
  | rd2 rv w val => obtain ⟨k, hk, h, h2⟩ := h; exact ⟨k, kf_ck hk hc, h, by omega⟩
  | lk0 rv => obtain ⟨k, hk, h⟩ := h; exact ⟨k, kf_ck hk hc, h⟩
  | lk1 rv w => obtain ⟨⟨k, hk, h⟩, h2⟩ := h; exact ⟨⟨k, kf_ck hk hc, h⟩, h2⟩
  | tn0 rv old => obtain ⟨⟨k, hk, h⟩, h2⟩ := h; exact ⟨⟨k, kf_ck hk hc, h⟩, h2⟩
  | tn1 rv old tk => obtain ⟨⟨k, hk, h⟩, h2⟩ := h; exact ⟨⟨k, kf_ck hk hc, h⟩, h2⟩
  | pas => trivial
  | lev => trivial
  | chk => cases hi
  | dec => cases hi
  | wrt => cases hi
  | rel => cases hi
  | stm => cases hi
section
variable {R n t : Nat} {m : TM} {X : Nat → TS} {V : Int} {Mo : Nat}
theorem gi_rd1 (h : GI R n m X V Mo) (ht : t < n) {x : TS} (hX : X t = x) {rv w : Int} (hp : x.ph = .rd1 rv w) : ∃ V' Mo', GI R n (stepT t m x).1 (setX X t (stepT t m x).2.1) V' Mo' ∧ Sc m (stepT t m x).1 (stepT t m x).2.2 Mo Mo' := by
  have hI := h.pi t ht
  have hT := h.th t ht
  have hmd := h.md
  rw [hX] at hI hT
  obtain ⟨pc, r1, r2, oc, bg, s1, s2, tr, ct, obs, seen, lg, ph⟩ := x
  dsimp only at hp
  subst hp
  obtain ⟨k, hk, hw⟩ : ∃ k, KF m V k rv ∧ w = 64 * k := hT
  dsimp only [stepT]
  refine gi_sc h ht hX rfl rfl rfl rfl rfl rfl rfl rfl rfl rfl (by simp) (by simp) ⟨k, hk, hw, ?_⟩ hI
  unfold KF at hk
  rcases hmd with ⟨h0, h1, h2, -⟩ | ⟨h0, -⟩ | ⟨h0, h1, h2, -⟩
  · omega
  · exact .inr (.inr h0)
  · omega
theorem gi_rd2 (h : GI R n m X V Mo) (ht : t < n) {x : TS} (hX : X t = x) {rv w val : Int} (hp : x.ph = .rd2 rv w val) : ∃ V' Mo', GI R n (stepT t m x).1 (setX X t (stepT t m x).2.1) V' Mo' ∧ Sc m (stepT t m x).1 (stepT t m x).2.2 Mo Mo' := by
  have hI := h.pi t ht
  have hT := h.th t ht
  have hmd := h.md
  rw [hX] at hI hT
  obtain ⟨pc, r1, r2, oc, bg, s1, s2, tr, ct, obs, seen, lg, ph⟩ := x
  dsimp only at hp
  subst hp
  obtain ⟨hI, hB⟩ : pc = bg + 1 ∧ BB R _ := hI
  obtain ⟨k, hk, hw, hv⟩ : ∃ k, KF m V k rv ∧ w = 64 * k ∧ (val = 100 + k ∨ V > k ∨ Mo = 1) := hT
  have hrv : rv ≤ m.ck := hk.2.1
  dsimp only [stepT]
  by_cases c : m.o = w
  · rw [if_pos c]
    obtain ⟨e, hfr⟩ := h.freeJ (c.trans hw)
    have hval : val = 100 + k := by
      rcases hv with hv | hv | hv
      · exact hv
      · omega
      · subst hv
        rcases hmd with ⟨h0, -⟩ | ⟨-, -, -, u, hu, hwu⟩ | ⟨h0, -⟩
        · cases h0
        · have := hfr u hu
          revert this hwu
          cases (X u).ph <;> intro a b <;> first | cases a | cases b
        · cases h0
    exact gi_sc h ht hX rfl rfl rfl rfl rfl rfl rfl rfl rfl rfl (by simp) (by simp) ⟨hrv, .inr ⟨k, hk, .inl ⟨by dsimp only; omega, hval⟩⟩⟩ ⟨by dsimp only; omega, hB⟩
  · rw [if_neg c]
    exact gi_sc h ht hX rfl rfl rfl rfl rfl rfl rfl rfl rfl rfl (by simp) (by simp) trivial hB
theorem gi_lk0 (h : GI R n m X V Mo) (ht : t < n) {x : TS} (hX : X t = x) {rv : Int} (hp : x.ph = .lk0 rv) : ∃ V' Mo', GI R n (stepT t m x).1 (setX X t (stepT t m x).2.1) V' Mo' ∧ Sc m (stepT t m x).1 (stepT t m x).2.2 Mo Mo' := by
  have hI := h.pi t ht
  have hT := h.th t ht
  rw [hX] at hI hT
  obtain ⟨pc, r1, r2, oc, bg, s1, s2, tr, ct, obs, seen, lg, ph⟩ := x
  dsimp only at hp
  subst hp
  dsimp only [stepT]
  by_cases c : hld m.o < 0
  · rw [if_pos c]
    exact gi_sc h ht hX rfl rfl rfl rfl rfl rfl rfl rfl rfl rfl (by simp) (by simp) ⟨hT, V, (h.free (by omega)).1⟩ hI
  · rw [if_neg c]
    exact gi_sc h ht hX rfl rfl rfl rfl rfl rfl rfl rfl rfl rfl (by simp) (by simp) hT hI
theorem gi_lk1 (h : GI R n m X V Mo) (ht : t < n) {x : TS} (hX : X t = x) {rv w : Int} (hp : x.ph = .lk1 rv w) : ∃ V' Mo', GI R n (stepT t m x).1 (setX X t (stepT t m x).2.1) V' Mo' ∧ Sc m (stepT t m x).1 (stepT t m x).2.2 Mo Mo' := by
  have hI := h.pi t ht
  have hT := h.th t ht
  rw [hX] at hI hT
  obtain ⟨pc, r1, r2, oc, bg, s1, s2, tr, ct, obs, seen, lg, ph⟩ := x
  dsimp only at hp
  subst hp
  obtain ⟨hT, j, hj⟩ : (∃ k, KF m V k rv ∧ lg = some (101 + k)) ∧ ∃ j, w = 64 * j := hT
  dsimp only [stepT]
  by_cases c : m.o = w
  · rw [if_pos c]
    obtain ⟨rfl, hfr⟩ := h.freeJ (c.trans hj)
    refine ⟨j, Mo, ⟨h.n16, .inr ⟨t, ht, by rw [setX_t]; rfl, all_set (P := fun u y => lockd y.ph = true → u = t) (fun _ => rfl) fun u hu hut hl => (by rw [hfr u hu] at hl; cases hl), (by show w + t + 1 = 64 * j + t + 1; omega)⟩, ?_, ?_, ?_, h.svt, ?_, ?_, ?_⟩, .inr (.inr ⟨by simp, by simp, rfl, rfl, Iff.rfl⟩)⟩
    · exact all_set (P := fun u y => ∀ a, tick y.ph = some a → m.sv ≤ a ∧ a < m.tk) (fun a ha => by cases ha) fun u hu _ => h.tkn u hu
    · exact all_set (P := fun v y => ∀ u, u < n → ∀ a, tick y.ph = some a → tick (setX X t _ u).ph = some a → v = u) (fun u _ a ha => by cases ha) fun v hv hvt => all_set (P := fun u y => ∀ a, tick (X v).ph = some a → tick y.ph = some a → v = u) (fun a _ ha => by cases ha) fun u hu _ => h.tkd v hv u hu
    · exact all_set (P := fun u y => ∀ a, inT y.ph = some a → a = m.sv) (fun a ha => by cases ha) fun u hu _ => h.trn u hu
    · rcases h.md with ⟨h0, h1, h2, h3⟩ | ⟨h0, h1, h2, u, hu, hwu⟩ | ⟨h0, h1, h2, u, hu, hwu⟩
      · exact .inl ⟨h0, h1, h2, all_set (P := fun u y => wrO y.ph = false ∧ stO y.ph = false) ⟨rfl, rfl⟩ fun u hu _ => h3 u hu⟩
      · refine .inr (.inl ⟨h0, h1, h2, u, hu, ?_⟩)
        rw [setX_u (fun e => by subst e; rw [hX] at hwu; cases hwu)]; exact hwu
      · refine .inr (.inr ⟨h0, h1, h2, u, hu, ?_⟩)
        rw [setX_u (fun e => by subst e; rw [hX] at hwu; cases hwu)]; exact hwu
    · exact all_set (P := fun _ y => TI _ _ _ y) ⟨hT, hj⟩ fun u hu _ => ti_ck rfl (h.th u hu)
    · exact all_set (P := fun _ y => PI R y) hI fun u hu _ => h.pi u hu
  · rw [if_neg c]
    exact gi_sc h ht hX rfl rfl rfl rfl rfl rfl rfl rfl rfl rfl (by simp) (by simp) hT hI
end
end Go.Proofs.YtllddgdmmfmpkaaGreatDoor
namespace Go.Proofs.YtllddgdmmfmpkaaGreatDoor
set_option maxRecDepth 10000
section
variable {R n t : Nat} {m : TM} {X : Nat → TS} {V : Int} {Mo : Nat}
theorem gi_tick {m' : TM} {x' : TS} {e : TE} (h : GI R n m X V Mo) (ht : t < n) {x : TS} (hX : X t = x) (e1 : m'.d = m.d) (e2 : m'.o = m.o) (e3 : m'.ck = m.ck)
    (hl : lockd x'.ph = lockd x.ph) (hw : wrO x'.ph = wrO x.ph) (hs : stO x'.ph = stO x.ph) (h1 : e.ph ≠ 17) (h2 : e.ph ≠ 19) (hx : TI m V Mo x') (hp : PI R x')
    (k1 : ∀ u, u < n → u ≠ t → ∀ a, tick (X u).ph = some a → m'.sv ≤ a ∧ a < m'.tk) (k2 : ∀ a, tick x'.ph = some a → m'.sv ≤ a ∧ a < m'.tk ∧ ∀ u, u < n → u ≠ t → tick (X u).ph ≠ some a) (k3 : ∀ u, u < n → u ≠ t → ∀ a, inT (X u).ph = some a → a = m'.sv) (k4 : ∀ a, inT x'.ph = some a → a = m'.sv) (k5 : m'.sv ≤ m'.tk) :
    ∃ V' Mo', GI R n m' (setX X t x') V' Mo' ∧ Sc m m' e Mo Mo' := by
  have f1 : ∀ u, lockd (setX X t x' u).ph = lockd (X u).ph := fun u => by by_cases hu : u = t; (subst hu; rw [setX_t, hl, hX]); rw [setX_u hu]
  have f4 : ∀ u, wrO (setX X t x' u).ph = wrO (X u).ph := fun u => by by_cases hu : u = t; (subst hu; rw [setX_t, hw, hX]); rw [setX_u hu]
  have f5 : ∀ u, stO (setX X t x' u).ph = stO (X u).ph := fun u => by by_cases hu : u = t; (subst hu; rw [setX_t, hs, hX]); rw [setX_u hu]
  refine ⟨V, Mo, ⟨h.n16, ?_, ?_, ?_, ?_, k5, ?_, ?_, ?_⟩, .inr (.inr ⟨h1, h2, e1, e3, Iff.rfl⟩)⟩
  · simp only [f1, e2]; exact h.lk
  · exact all_set (P := fun _ y => ∀ a, tick y.ph = some a → m'.sv ≤ a ∧ a < m'.tk) (fun a ha => ⟨(k2 a ha).1, (k2 a ha).2.1⟩) k1
  · refine all_set (P := fun v y => ∀ u, u < n → ∀ a, tick y.ph = some a → tick (setX X t x' u).ph = some a → v = u) ?_ ?_
    · exact all_set (P := fun u y => ∀ a, tick x'.ph = some a → tick y.ph = some a → t = u) (fun _ _ _ => rfl) fun u hu hut a ha hb => absurd hb ((k2 a ha).2.2 u hu hut)
    · intro v hv hvt
      exact all_set (P := fun u y => ∀ a, tick (X v).ph = some a → tick y.ph = some a → v = u) (fun a ha hb => absurd ha ((k2 a hb).2.2 v hv hvt)) fun u hu _ => h.tkd v hv u hu
  · exact all_set (P := fun _ y => ∀ a, inT y.ph = some a → a = m'.sv) k4 k3
  · simp only [f4, f5, e3, e1]; exact h.md
  · exact all_set (P := fun _ y => TI m' V Mo y) (ti_ck e3 hx) fun u hu _ => ti_ck e3 (h.th u hu)
  · exact all_set (P := fun _ y => PI R y) hp fun u hu _ => h.pi u hu
theorem gi_tn0 (h : GI R n m X V Mo) (ht : t < n) {x : TS} (hX : X t = x) {rv old : Int} (hp : x.ph = .tn0 rv old) : ∃ V' Mo', GI R n (stepT t m x).1 (setX X t (stepT t m x).2.1) V' Mo' ∧ Sc m (stepT t m x).1 (stepT t m x).2.2 Mo Mo' := by
  have hI := h.pi t ht
  have hT := h.th t ht
  have hsv := h.svt
  rw [hX] at hI hT
  obtain ⟨pc, r1, r2, oc, bg, s1, s2, tr, ct, obs, seen, lg, ph⟩ := x
  dsimp only at hp
  subst hp
  dsimp only [stepT]
  refine gi_tick h ht hX rfl rfl rfl rfl rfl rfl (by simp) (by simp) hT hI (fun u hu _ a ha => ?_) (fun a ha => ?_) (fun u hu _ => h.trn u hu) (fun a ha => by cases ha) ?_
  · have := h.tkn u hu a ha; dsimp only; omega
  · obtain rfl : m.tk = a := Option.some.inj ha
    refine ⟨hsv, (by dsimp only; omega), fun u hu _ hb => ?_⟩
    have := h.tkn u hu _ hb
    omega
  · dsimp only; omega
theorem gi_tn1 (h : GI R n m X V Mo) (ht : t < n) {x : TS} (hX : X t = x) {rv old tk : Int} (hp : x.ph = .tn1 rv old tk) : ∃ V' Mo', GI R n (stepT t m x).1 (setX X t (stepT t m x).2.1) V' Mo' ∧ Sc m (stepT t m x).1 (stepT t m x).2.2 Mo Mo' := by
  have hI := h.pi t ht
  have hT := h.th t ht
  have h1 := h.tkn t ht
  have h2 := h.tkd t ht
  rw [hX] at hI hT h1 h2
  obtain ⟨pc, r1, r2, oc, bg, s1, s2, tr, ct, obs, seen, lg, ph⟩ := x
  dsimp only at hp
  subst hp
  dsimp only [stepT]
  by_cases c : m.sv = tk
  · rw [if_pos c]
    refine gi_tick h ht hX rfl rfl rfl rfl rfl rfl (by simp) (by simp) hT hI (fun u hu _ => h.tkn u hu) (fun a ha => ?_) (fun u hu _ => h.trn u hu) (fun a ha => ?_) h.svt
    · exact ⟨(h1 a ha).1, (h1 a ha).2, fun u hu hut hb => hut (h2 u hu a ha hb).symm⟩
    · obtain rfl : tk = a := Option.some.inj ha
      exact c.symm
  · rw [if_neg c]
    exact gi_sc h ht hX rfl rfl rfl rfl rfl rfl rfl rfl rfl rfl (by simp) (by simp) hT hI
theorem gi_chk (h : GI R n m X V Mo) (ht : t < n) {x : TS} (hX : X t = x) {rv old tk : Int} (hp : x.ph = .chk rv old tk) : ∃ V' Mo', GI R n (stepT t m x).1 (setX X t (stepT t m x).2.1) V' Mo' ∧ Sc m (stepT t m x).1 (stepT t m x).2.2 Mo Mo' := by
  have hI := h.pi t ht
  have hT := h.th t ht
  have hv := h.vrs
  rw [hX] at hI hT
  obtain ⟨pc, r1, r2, oc, bg, s1, s2, tr, ct, obs, seen, lg, ph⟩ := x
  dsimp only at hp
  subst hp
  obtain ⟨⟨k, hk, hl⟩, ho⟩ : (∃ k, KF m V k rv ∧ lg = some (101 + k)) ∧ old = 64 * V := hT
  dsimp only [stepT]
  rw [hv]
  by_cases c : V > rv
  · rw [if_pos c]
    exact gi_sc h ht hX rfl rfl rfl rfl rfl rfl rfl rfl rfl rfl (by simp) (by simp) (.inr ⟨rfl, ho⟩) hI
  · rw [if_neg c]
    unfold KF at hk
    exact gi_sc h ht hX rfl rfl rfl rfl rfl rfl rfl rfl rfl rfl (by simp) (by simp) (show lg = some (101 + V) by rw [hl, show k = V by omega]) hI
theorem gi_dec (h : GI R n m X V Mo) (ht : t < n) {x : TS} (hX : X t = x) {rv old tk : Int} (hp : x.ph = .dec rv old tk) : ∃ V' Mo', GI R n (stepT t m x).1 (setX X t (stepT t m x).2.1) V' Mo' ∧ Sc m (stepT t m x).1 (stepT t m x).2.2 Mo Mo' := by
  have hI := h.pi t ht
  have hT := h.th t ht
  have h0 := h.mo0 ht (a := tk)
  rw [hX] at hI hT h0
  obtain ⟨pc, r1, r2, oc, bg, s1, s2, tr, ct, obs, seen, lg, ph⟩ := x
  dsimp only at hp
  subst hp
  obtain ⟨-, hV, -⟩ := h0 rfl rfl rfl
  have hT : lg = some (101 + V) := hT
  dsimp only [stepT]
  exact gi_sc h ht hX rfl rfl rfl rfl rfl rfl rfl rfl rfl rfl (by simp) (by simp) ⟨rfl, by rw [← hV]; exact hT⟩ hI
theorem gi_wrt (h : GI R n m X V Mo) (ht : t < n) {x : TS} (hX : X t = x) {rv old tk clk : Int} (hp : x.ph = .wrt rv old tk clk) : ∃ V' Mo', GI R n (stepT t m x).1 (setX X t (stepT t m x).2.1) V' Mo' ∧ Sc m (stepT t m x).1 (stepT t m x).2.2 Mo Mo' := by
  have hI := h.pi t ht
  have hT := h.th t ht
  have h0 := h.mo0 ht (a := tk)
  have hh := h.held ht
  have h1 := h.tkn t ht
  have h2 := h.tkd t ht
  have h3 := h.trn t ht
  rw [hX] at hI hT h0 hh h1 h2 h3
  obtain ⟨pc, r1, r2, oc, bg, s1, s2, tr, ct, obs, seen, lg, ph⟩ := x
  dsimp only at hp
  subst hp
  obtain ⟨rfl, hV, hd⟩ := h0 rfl rfl rfl
  obtain ⟨ho, hu⟩ := hh rfl
  obtain ⟨rfl, hl⟩ : clk = m.ck ∧ lg = some (101 + m.ck) := hT
  subst hl
  dsimp only [stepT, Option.getD]
  refine ⟨V, 1, ⟨h.n16, .inr ⟨t, ht, by rw [setX_t]; rfl, all_set (P := fun u y => lockd y.ph = true → u = t) (fun _ => rfl) fun u hu' _ hl => hu u hu' hl, ho⟩, ?_, ?_, ?_, h.svt, ?_, ?_, ?_⟩, .inl ⟨rfl, rfl, rfl, rfl⟩⟩
  · exact all_set (P := fun _ y => ∀ a, tick y.ph = some a → m.sv ≤ a ∧ a < m.tk) h1 fun u hu _ => h.tkn u hu
  · exact all_set (P := fun v y => ∀ u, u < n → ∀ a, tick y.ph = some a → tick (setX X t _ u).ph = some a → v = u) (all_set (P := fun u y => ∀ a, some tk = some a → tick y.ph = some a → t = u) (fun _ _ _ => rfl) fun u hu _ => h2 u hu) fun v hv hvt => all_set (P := fun u y => ∀ a, tick (X v).ph = some a → tick y.ph = some a → v = u) (fun a ha hb => (h2 v hv a hb ha).symm) fun u hu _ => h.tkd v hv u hu
  · exact all_set (P := fun _ y => ∀ a, inT y.ph = some a → a = m.sv) h3 fun u hu _ => h.trn u hu
  · exact .inr (.inl ⟨rfl, hV, rfl, t, ht, by rw [setX_t]; rfl⟩)
  · exact all_set (P := fun _ y => TI _ _ _ y) (.inl ⟨rfl, rfl, rfl⟩) fun u hu _ => ti_mo (ti_ck rfl (h.th u hu))
  · exact all_set (P := fun _ y => PI R y) hI fun u hu _ => h.pi u hu
theorem gi_rel (h : GI R n m X V Mo) (ht : t < n) {x : TS} (hX : X t = x) {rv tk w clk : Int} {ok : Bool} (hp : x.ph = .rel rv tk w clk ok) : ∃ V' Mo', GI R n (stepT t m x).1 (setX X t (stepT t m x).2.1) V' Mo' ∧ Sc m (stepT t m x).1 (stepT t m x).2.2 Mo Mo' := by
  have hI := h.pi t ht
  have hT := h.th t ht
  have h0 := h.mo0 ht (a := tk)
  have hot := fun u hu hut => h.others ht (a := tk) (by rw [hX, hp]; rfl) (u := u) hu hut
  have hh := h.held ht
  have h1 := h.tkn t ht
  have h2 := h.tkd t ht
  have h3 := h.trn t ht
  rw [hX] at hI hT h0 hh h1 h2 h3
  obtain ⟨pc, r1, r2, oc, bg, s1, s2, tr, ct, obs, seen, lg, ph⟩ := x
  dsimp only at hp
  subst hp
  obtain ⟨ho, hu⟩ := hh rfl
  have hnl : ∀ u, u < n → u ≠ t → lockd (X u).ph = false := fun u hun hut => by
    cases hl : lockd (X u).ph with
    | false => rfl
    | true => exact absurd (hu u hun hl) hut
  have k1 : ∀ p : TS, tick p.ph = some tk → ∀ u, u < n → ∀ a, tick (setX X t p u).ph = some a → m.sv ≤ a ∧ a < m.tk := fun p hp => all_set (P := fun _ y => ∀ a, tick y.ph = some a → m.sv ≤ a ∧ a < m.tk) (by rw [hp]; exact h1) fun u hu _ => h.tkn u hu
  have k2 : ∀ p : TS, tick p.ph = some tk → ∀ v, v < n → ∀ u, u < n → ∀ a, tick (setX X t p v).ph = some a → tick (setX X t p u).ph = some a → v = u := fun p hp =>
    all_set (P := fun v y => ∀ u, u < n → ∀ a, tick y.ph = some a → tick (setX X t p u).ph = some a → v = u) (by rw [hp]; exact all_set (P := fun u y => ∀ a, some tk = some a → tick y.ph = some a → t = u) (fun _ _ _ => rfl) fun u hu _ => h2 u hu) fun v hv hvt => all_set (P := fun u y => ∀ a, tick (X v).ph = some a → tick y.ph = some a → v = u) (by rw [hp]; exact fun a ha hb => (h2 v hv a hb ha).symm) fun u hu _ => h.tkd v hv u hu
  have k3 : ∀ p : TS, inT p.ph = some tk → ∀ u, u < n → ∀ a, inT (setX X t p u).ph = some a → a = m.sv := fun p hp => all_set (P := fun _ y => ∀ a, inT y.ph = some a → a = m.sv) (by rw [hp]; exact h3) fun u hu _ => h.trn u hu
  have hT : (ok = true ∧ clk = m.ck ∧ w = (m.ck + 1) * 64) ∨ (ok = false ∧ w = 64 * V) := hT
  rcases hT with ⟨rfl, rfl, rfl⟩ | ⟨rfl, rfl⟩
  · obtain ⟨hV, hd⟩ : V = m.ck ∧ m.d = 101 + m.ck := by
      rcases h.md with ⟨-, -, -, h3⟩ | ⟨-, h1, h2, -⟩ | ⟨-, -, -, u, hu, hs⟩
      · have := (h3 t ht).1; rw [hX] at this; cases this
      · exact ⟨h1, h2⟩
      · by_cases hut : u = t
        · subst hut; rw [hX] at hs; cases hs
        · rw [(hot u hu hut).2.2] at hs; cases hs
    dsimp only [stepT]
    rw [if_pos rfl]
    refine ⟨m.ck + 1, 2, ⟨h.n16, .inl ⟨by dsimp only; omega, all_set (P := fun _ y => lockd y.ph = false) rfl hnl⟩, k1 _ rfl, k2 _ rfl, k3 _ rfl, h.svt, ?_, ?_, ?_⟩, .inr (.inr ⟨by simp, by simp, rfl, rfl, ?_⟩)⟩
    · exact .inr (.inr ⟨rfl, rfl, hd, t, ht, by rw [setX_t]; rfl⟩)
    · exact all_set (P := fun _ y => TI _ _ _ y) rfl fun u hu hut => ti_ver (h.th u hu) (hnl u hu hut) (hot u hu hut).1 rfl rfl
    · exact all_set (P := fun _ y => PI R y) hI fun u hu _ => h.pi u hu
    · rcases h.md with ⟨-, -, -, h3⟩ | ⟨e, -⟩ | ⟨e, -⟩
      · have := (h3 t ht).1; rw [hX] at this; cases this
      · rw [e]; simp
      · rw [e]
  · obtain ⟨rfl, hV, hd⟩ := h0 rfl rfl rfl
    dsimp only [stepT]
    rw [if_neg (by simp)]
    refine ⟨V, 0, ⟨h.n16, .inl ⟨rfl, all_set (P := fun _ y => lockd y.ph = false) rfl hnl⟩, k1 _ rfl, k2 _ rfl, k3 _ rfl, h.svt, ?_, ?_, ?_⟩, .inr (.inr ⟨by simp, by simp, rfl, rfl, Iff.rfl⟩)⟩
    · exact .inl ⟨rfl, hV, hd, all_set (P := fun _ y => wrO y.ph = false ∧ stO y.ph = false) ⟨rfl, rfl⟩ fun u hu hut => (hot u hu hut).2⟩
    · exact all_set (P := fun _ y => TI _ _ _ y) trivial fun u hu _ => ti_ck rfl (h.th u hu)
    · exact all_set (P := fun _ y => PI R y) hI fun u hu _ => h.pi u hu
theorem gi_stm (h : GI R n m X V Mo) (ht : t < n) {x : TS} (hX : X t = x) {rv tk clk : Int} (hp : x.ph = .stm rv tk clk) : ∃ V' Mo', GI R n (stepT t m x).1 (setX X t (stepT t m x).2.1) V' Mo' ∧ Sc m (stepT t m x).1 (stepT t m x).2.2 Mo Mo' := by
  have hI := h.pi t ht
  have hT := h.th t ht
  have hot := fun u hu hut => h.others ht (a := tk) (by rw [hX, hp]; rfl) (u := u) hu hut
  have h1 := h.tkn t ht
  have h2 := h.tkd t ht
  have h3 := h.trn t ht
  rw [hX] at hI hT h1 h2 h3
  obtain ⟨pc, r1, r2, oc, bg, s1, s2, tr, ct, obs, seen, lg, ph⟩ := x
  dsimp only at hp
  subst hp
  have hT : clk = m.ck := hT
  subst hT
  obtain ⟨rfl, hV, hd⟩ : Mo = 2 ∧ V = m.ck + 1 ∧ m.d = 101 + m.ck := by
    rcases h.md with ⟨-, -, -, h3⟩ | ⟨-, -, -, u, hu, hs⟩ | ⟨e, h1, h2, -⟩
    · have := (h3 t ht).2; rw [hX] at this; cases this
    · by_cases hut : u = t
      · subst hut; rw [hX] at hs; cases hs
      · rw [(hot u hu hut).2.1] at hs; cases hs
    · exact ⟨e, h1, h2⟩
  have hlk := h.lk
  dsimp only [stepT]
  refine ⟨V, 0, ⟨h.n16, ?_, ?_, ?_, ?_, h.svt, ?_, ?_, ?_⟩, .inr (.inl ⟨rfl, rfl, rfl, rfl⟩)⟩
  · rcases hlk with ⟨a1, a2⟩ | ⟨u, hu, a1, a2, a3⟩
    · exact .inl ⟨a1, all_set (P := fun _ y => lockd y.ph = false) rfl fun u hu _ => a2 u hu⟩
    · have hut : u ≠ t := fun e => by subst e; rw [hX] at a1; cases a1
      exact .inr ⟨u, hu, by rw [setX_u hut]; exact a1, all_set (P := fun v y => lockd y.ph = true → v = u) (fun a => by cases a) fun v hv _ => a2 v hv, a3⟩
  · exact all_set (P := fun _ y => ∀ a, tick y.ph = some a → m.sv ≤ a ∧ a < m.tk) h1 fun u hu _ => h.tkn u hu
  · exact all_set (P := fun v y => ∀ u, u < n → ∀ a, tick y.ph = some a → tick (setX X t _ u).ph = some a → v = u) (all_set (P := fun u y => ∀ a, some tk = some a → tick y.ph = some a → t = u) (fun _ _ _ => rfl) fun u hu _ => h2 u hu) fun v hv hvt => all_set (P := fun u y => ∀ a, tick (X v).ph = some a → tick y.ph = some a → v = u) (fun a ha hb => (h2 v hv a hb ha).symm) fun u hu _ => h.tkd v hv u hu
  · exact all_set (P := fun _ y => ∀ a, inT y.ph = some a → a = m.sv) h3 fun u hu _ => h.trn u hu
  · exact .inl ⟨rfl, hV, by dsimp only; omega, all_set (P := fun _ y => wrO y.ph = false ∧ stO y.ph = false) ⟨rfl, rfl⟩ fun u hu hut => (hot u hu hut).2⟩
  · exact all_set (P := fun _ y => TI _ _ _ y) trivial fun u hu hut => ti_stm (h.th u hu) (hot u hu hut).1 (by dsimp only; omega)
  · exact all_set (P := fun _ y => PI R y) hI fun u hu _ => h.pi u hu
theorem gi_pas (h : GI R n m X V Mo) (ht : t < n) {x : TS} (hX : X t = x) {rv tk : Int} {ok : Bool} (hp : x.ph = .pas rv tk ok) : ∃ V' Mo', GI R n (stepT t m x).1 (setX X t (stepT t m x).2.1) V' Mo' ∧ Sc m (stepT t m x).1 (stepT t m x).2.2 Mo Mo' := by
  have hI := h.pi t ht
  have hot := fun u hu hut => h.others ht (a := tk) (by rw [hX, hp]; rfl) (u := u) hu hut
  have h1 := h.tkn t ht tk
  have h2 := fun u hu => h.tkd t ht u hu tk
  have h3 := h.trn t ht tk
  rw [hX] at hI h1 h2 h3
  obtain ⟨pc, r1, r2, oc, bg, s1, s2, tr, ct, obs, seen, lg, ph⟩ := x
  dsimp only at hp
  subst hp
  have h1 := h1 rfl
  have h3 : tk = m.sv := h3 rfl
  dsimp only [stepT]
  refine gi_tick h ht hX rfl rfl rfl rfl rfl rfl (by simp) (by simp) trivial hI.2 (fun u hu hut a ha => ?_) (fun a ha => by cases ha) (fun u hu hut a ha => ?_) (fun a ha => by cases ha) (by dsimp only; omega)
  · have h4 := h.tkn u hu a ha
    have : a ≠ tk := fun e => by subst e; exact hut (h2 u hu rfl ha).symm
    dsimp only
    omega
  · rw [(hot u hu hut).1] at ha; cases ha
theorem gi_lev (h : GI R n m X V Mo) (ht : t < n) {x : TS} (hX : X t = x) {rv : Int} {ok : Bool} (hp : x.ph = .lev rv ok) : ∃ V' Mo', GI R n (stepT t m x).1 (setX X t (stepT t m x).2.1) V' Mo' ∧ Sc m (stepT t m x).1 (stepT t m x).2.2 Mo Mo' := by
  have hI := h.pi t ht
  rw [hX] at hI
  obtain ⟨pc, r1, r2, oc, bg, s1, s2, tr, ct, obs, seen, lg, ph⟩ := x
  dsimp only at hp
  subst hp
  have hI : BB R _ := hI
  unfold BB at hI
  dsimp only at hI
  dsimp only [stepT]
  unfold endT
  dsimp only
  cases ok with
  | true =>
    rw [if_pos rfl]
    exact gi_sc h ht hX rfl rfl rfl rfl rfl rfl rfl rfl rfl rfl (by simp) (by simp) trivial (.inl (by dsimp only; omega))
  | false =>
    rw [if_neg (by simp)]
    by_cases c : tr < 8
    · rw [if_pos c]
      exact gi_sc h ht hX rfl rfl rfl rfl rfl rfl rfl rfl rfl rfl (by simp) (by simp) trivial (.inr (by dsimp only; omega))
    · rw [if_neg c]
      exact gi_sc h ht hX rfl rfl rfl rfl rfl rfl rfl rfl rfl rfl (by simp) (by simp) trivial (.inl (by dsimp only; omega))
theorem gi_step (h : GI R n m X V Mo) (ht : t < n) (hd : (X t).ph = .idle → (X t).pc ≠ 6 * R) : ∃ V' Mo', GI R n (stepT t m (X t)).1 (setX X t (stepT t m (X t)).2.1) V' Mo' ∧ Sc m (stepT t m (X t)).1 (stepT t m (X t)).2.2 Mo Mo' := by
  cases hp : (X t).ph with
  | idle => exact gi_idle h ht rfl hp (hd hp)
  | en1 => exact gi_enter h ht rfl (.inl hp)
  | en2 rv => exact gi_enter h ht rfl (.inr ⟨rv, hp⟩)
  | act rv => exact gi_act h ht rfl hp
  | rd1 => exact gi_rd1 h ht rfl hp
  | rd2 => exact gi_rd2 h ht rfl hp
  | lk0 => exact gi_lk0 h ht rfl hp
  | lk1 => exact gi_lk1 h ht rfl hp
  | tn0 => exact gi_tn0 h ht rfl hp
  | tn1 => exact gi_tn1 h ht rfl hp
  | chk => exact gi_chk h ht rfl hp
  | dec => exact gi_dec h ht rfl hp
  | wrt => exact gi_wrt h ht rfl hp
  | rel => exact gi_rel h ht rfl hp
  | stm => exact gi_stm h ht rfl hp
  | pas => exact gi_pas h ht rfl hp
  | lev => exact gi_lev h ht rfl hp
end
end Go.Proofs.YtllddgdmmfmpkaaGreatDoor
namespace Go.Proofs.YtllddgdmmfmpkaaGreatDoor
set_option maxRecDepth 10000
def cmt : List TO → Nat
  | [] => 0
  | o :: l => (if o.k = 3 ∧ o.v = 1 then 1 else 0) + cmt l
theorem cmt_app (a b : List TO) : cmt (a ++ b) = cmt a + cmt b := by
  induction a with
  | nil => simp [cmt]
  | cons o l ih => simp only [List.cons_append, cmt, ih]; omega
theorem cmt_seen {l : List TO} (h : ∀ o ∈ l, o.k = 1) : cmt l = 0 := by
  induction l with
  | nil => rfl
  | cons o l ih =>
    have h1 := h o (List.mem_cons_self ..)
    rw [cmt, ih fun o ho => h o (List.mem_cons_of_mem _ ho), if_neg (by omega)]
def pend : Ph → Nat
  | .pas _ _ true => 1
  | .lev _ true => 1
  | _ => 0
def cntT (x : TS) : Nat := cmt x.obs + pend x.ph
def SI (x : TS) : Prop := ∀ o ∈ x.seen, o.k = 1
def sumN (f : Nat → Nat) : Nat → Nat
  | 0 => 0
  | n + 1 => sumN f n + f n
theorem sumN_congr {f g : Nat → Nat} {n : Nat} (h : ∀ t, t < n → f t = g t) : sumN f n = sumN g n := by
  induction n with
  | zero => rfl
  | succ n ih => rw [sumN, sumN, ih fun t ht => h t (by omega), h n (by omega)]
theorem sumN_le {f g : Nat → Nat} {n : Nat} (h : ∀ t, t < n → f t ≤ g t) : sumN f n ≤ sumN g n := by
  induction n with
  | zero => exact Nat.le_refl _
  | succ n ih => exact Nat.add_le_add (ih fun t ht => h t (by omega)) (h n (by omega))
theorem sumN_one {f : Nat → Nat} {n : Nat} : sumN (fun t => f t + 1) n = sumN f n + n := by
  induction n with
  | zero => rfl
  | succ n ih => rw [sumN, sumN, ih]; omega
theorem sumN_set {X : Nat → TS} {t : Nat} {x' : TS} (g : TS → Nat) {n : Nat} (ht : t < n) : sumN (fun u => g (setX X t x' u)) n + g (X t) = sumN (fun u => g (X u)) n + g x' := by
  induction n with
  | zero => omega
  | succ n ih =>
    rw [sumN, sumN]
    by_cases h : t = n
    · subst h
      have : sumN (fun u => g (setX X t x' u)) t = sumN (fun u => g (X u)) t := sumN_congr fun u hu => by show g (setX X t x' u) = g (X u); rw [setX_u (by omega)]
      rw [setX_t]
      omega
    · have := ih (by omega)
      rw [setX_u (by omega : n ≠ t)]
      omega
section
variable {R n t : Nat} {m : TM} {X : Nat → TS} {V : Int} {Mo : Nat}
theorem si_step (x : TS) (h : SI x) : SI (stepT t m x).2.1 := by
  obtain ⟨pc, r1, r2, oc, bg, s1, s2, tr, ct, obs, seen, lg, ph⟩ := x
  cases ph with
  | rd2 rv w val =>
    dsimp only [stepT]
    split
    · intro o ho; rw [List.mem_singleton] at ho; subst ho; rfl
    · exact h
  | lev rv ok =>
    dsimp only [stepT]; unfold endT; dsimp only
    split
    · exact h
    · split
      · exact h
      · exact h
  | idle =>
    dsimp only [stepT]
    split
    · exact h
    · intro o ho; cases ho
  | act rv => dsimp only [stepT]; split; exact h; split; exact h; split; exact h; exact h
  | lk1 rv w => dsimp only [stepT]; split; exact h; exact h
  | _ => exact h
theorem cnt_step (x : TS) (h : SI x) (hT : TI m V Mo x) : (cntT (stepT t m x).2.1 : Int) + m.ck = cntT x + (stepT t m x).1.ck := by
  obtain ⟨pc, r1, r2, oc, bg, s1, s2, tr, ct, obs, seen, lg, ph⟩ := x
  cases ph with
  | lev rv ok =>
    dsimp only [stepT]; unfold endT; dsimp only
    cases ok with
    | true =>
      rw [if_pos rfl]
      simp only [cntT, cmt_app, cmt_seen h, pend, cmt]
      simp
    | false =>
      rw [if_neg (by simp)]
      split
      · rfl
      · simp only [cntT, cmt_app, pend, cmt]; simp
  | stm rv tk clk =>
    have hT : clk = m.ck := hT
    subst hT
    simp only [stepT, cntT, pend]; omega
  | act rv => dsimp only [stepT]; split; (dsimp only; split <;> rfl); split; rfl; split; rfl; rfl
  | rd2 rv w val => dsimp only [stepT]; split <;> rfl
  | idle => dsimp only [stepT]; split <;> rfl
  | lk0 rv => dsimp only [stepT]; split <;> rfl
  | lk1 rv w => dsimp only [stepT]; split <;> rfl
  | tn1 rv old tk => dsimp only [stepT]; split <;> rfl
  | chk rv old tk => dsimp only [stepT]; split <;> rfl
  | rel rv tk w clk ok => cases ok <;> rfl
  | pas rv tk ok => cases ok <;> rfl
  | _ => rfl
end
end Go.Proofs.YtllddgdmmfmpkaaGreatDoor
