/- What the laws share, part 18. No condition. -/
import Derived.Lib.SlicesCompact
import Derived.Test.YtllddgdmmfmpkaaGreatDoorY17
namespace Go.Proofs.YtllddgdmmfmpkaaGreatDoor
open Go
set_option maxRecDepth 10000
structure MS where
  d : List Int
  o : List Int
  ck : Int
  tk : Int
  sv : Int
  sl : List Int
  hd : List Int
  nx : List Int
abbrev MS.L (m : MS) : List (List Int) := [m.d, m.o, [m.ck], [m.tk], [m.sv], m.sl, m.hd, m.nx]
structure AcM where
  k : Int
  c : Int
  i : Int
  got : Int
  put : Int
  dn : Bool
abbrev AcM.enc (a : AcM) : List Value := [.int .i64 a.k, .int .i64 a.c, .int .i64 a.i, .int .u64 a.got, .int .u64 a.put, .bool a.dn]
abbrev AcM.v (a : AcM) : Value := .agg #[.int .i64 a.k, .int .i64 a.c, .int .i64 a.i, .int .u64 a.got, .int .u64 a.put, .bool a.dn]
def acz : AcM := ⟨0, 0, 0, 0, 0, false⟩
def acL (c i v : Int) : AcM := ⟨1, c, i, v, v, true⟩
def acS (c i old v : Int) : AcM := ⟨2, c, i, old, v, true⟩
def acW (c i old v : Int) (ok : Bool) : AcM := ⟨3, c, i, old, if ok then v else old, ok⟩
def acA (c i old v : Int) : AcM := ⟨4, c, i, old, wrapu (old + v), true⟩
structure StM where
  t : Int
  ph : Int
  at' : Int
  ac : AcM
abbrev StM.enc (s : StM) : List Value := .int .i64 s.t :: .int .i64 s.ph :: .int .i64 s.at' :: s.ac.enc
def verO (o : Int) : Int := o / 64
def hldO (o : Int) : Int := o % 64 - 1
inductive Ko
  | en (code : Int)
  | tk (v : Int)
  | wr (a v : Int)
inductive AP
  | idle
  | loc (k : Ko)
  | ent (n : Nat)
  | rd (n : Nat) (bf vl : Int)
  | lk (seen : Int) (ld : Bool)
  | tn (tk : Bool)
  | ck (l : List Int)
  | dc
  | wr (a v : List Int)
  | rl (o w : List Int)
  | sp
  | ps
  | lv
structure AT where
  st : Int
  code : Int
  rv : Int
  set : List Int
  ad : List Int
  vl : List Int
  seen : List Int
  addr : Int
  val : Int
  oc : List Int
  old : List Int
  ck : Int
  dn : Bool
  tk : Int
  ph : AP
def AT.new : AT := ⟨0, 0, 0, [], [], [], [], 0, 0, [], [], 0, false, 0, .idle⟩
def AT.sto (x : AT) : Bool := decide (x.code = 1 ∧ x.ad ≠ [])
def srtU (l : List Int) : List Int := Go.Lib.compact (l.mergeSort fun x y => decide (x ≤ y))
def AT.endA (c : Cfg) (x : AT) (code : Int) : AT :=
  if code = 1 ∧ x.ad ≠ [] then { x with code := code, oc := srtU (x.ad.map (orecM c)), old := [], ph := .lk 0 false } else { x with code := code, ph := .tn false }
def AT.undo (x : AT) (code : Int) : AT := { x with code := code, ph := .lv }
def putM (cap : Int) (ad vl : List Int) (a v : Int) : Option (List Int × List Int) := match ad.idxOf? a with
  | some n => some (ad, vl.set n v)
  | none => if (ad.length : Int) = cap then none else some (ad ++ [a], vl ++ [v])
def getM (ad vl : List Int) (a : Int) : Option Int := match ad.idxOf? a with
  | some n => vl[n]?
  | none => none
def AT.kont (c : Cfg) (x : AT) : Ko → AT
  | .en code => x.endA c code
  | .tk v => { x with val := v }
  | .wr a v => if c.words ≤ a then x.endA c 7 else match putM c.writes x.ad x.vl a v with
    | some (ad, vl) => { x with ad := ad, vl := vl }
    | none => x.undo 3
def AT.read (c : Cfg) (x : AT) (a : Int) : AT := if c.words ≤ a then { x with ph := .loc (.en 7) } else match getM x.ad x.vl a with
  | some v => { x with ph := .loc (.tk v) }
  | none => { x with ph := .rd 0 0 0, addr := a }
def AT.rest (x : AT) : AT := if x.oc = [] then { x with ph := .ps } else { x with ph := .rl x.oc x.old }
def addS (cap : Int) (l : List Int) (o : Int) : Option (List Int) := if o ∈ l then some l else if (l.length : Int) ≥ cap then none else some (l ++ [o])
def stepA (c : Cfg) (t : Int) (m : MS) (x : AT) : MS × AT × AcM × Int :=
  match x.ph with
  | .idle => (m, x, acz, 0)
  | .loc k => (m, { x with ph := .idle }.kont c k, acz, 0)
  | .ent n => if n = 0 then ({ m with sl := m.sl.set t.toNat 1 }, { x with ph := .ent 1 }, acS 6 t (m.sl.getD t.toNat 0) 1, 2)
    else if n = 1 then (m, { x with rv := m.ck, ph := .ent 2 }, acL 3 0 m.ck, 3)
    else ({ m with sl := m.sl.set t.toNat (wrapu (x.rv + 2)) }, { x with ph := .idle }, acS 6 t (m.sl.getD t.toNat 0) (wrapu (x.rv + 2)), 4)
  | .rd n b v => if n = 0 then (match m.o.getD (orecM c x.addr).toNat 0 with
      | w => (m, if hldO w ≥ 0 ∨ verO w > x.rv then x.undo 9 else { x with ph := .rd 1 w 0 }, acL 2 (orecM c x.addr) w, 5))
    else if n = 1 then (match m.d.getD x.addr.toNat 0 with
      | v => (m, { x with ph := .rd 2 b v }, acL 1 x.addr v, 6))
    else match m.o.getD (orecM c x.addr).toNat 0 with
      | w => (m, if w ≠ b then x.undo 9 else match addS c.reads x.set (orecM c x.addr) with
        | none => { x with seen := addI x.seen x.addr }.undo 3
        | some s => { x with seen := addI x.seen x.addr, set := s, val := v, ph := .idle }, acL 2 (orecM c x.addr) w, 7)
  | .lk s ld => match x.oc.getD x.old.length 0 with
    | o => match m.o.getD o.toNat 0 with
      | w => if ld = false then (m, { x with ph := .lk w (decide (hldO w < 0)) }, acL 2 o w, 11)
        else if w = s then ({ m with o := m.o.set o.toNat (wrapu (s + t + 1)) }, { x with old := x.old ++ [s], ph := if x.old.length + 1 = x.oc.length then .tn false else .lk s false }, acW 2 o w (wrapu (s + t + 1)) true, 12)
        else (m, { x with ph := .lk s false }, acW 2 o w (wrapu (s + t + 1)) false, 12)
  | .tn b => if b = false then ({ m with tk := wrapu (m.tk + 1) }, { x with tk := m.tk, ph := .tn true }, acA 4 0 m.tk 1, 13) else (m, if m.sv = x.tk then (if x.set = [] then { x with ph := .dc } else { x with ph := .ck x.set }) else x, acL 5 0 m.sv, 14)
  | .ck l => match l.headD 0 with
    | o => match m.o.getD o.toNat 0 with
      | w => (m, if verO w > x.rv then { x with code := 9 }.rest else if l.tail = [] then { x with ph := .dc } else { x with ph := .ck l.tail }, acL 2 o w, 15)
  | .dc => (m, if x.sto ∧ m.ck ≥ c.clock then { x with ck := m.ck, code := 6 }.rest else if x.sto then { x with ck := m.ck, dn := true, ph := .wr x.ad x.vl } else { x with ck := m.ck, dn := true }.rest, acL 3 0 m.ck, 16)
  | .wr a v => ({ m with d := m.d.set (a.headD 0).toNat (v.headD 0) }, if a.tail = [] then { x with ph := .rl x.oc (x.oc.map fun _ => (x.ck + 1) * 64) } else { x with ph := .wr a.tail v.tail }, acS 1 (a.headD 0) (m.d.getD (a.headD 0).toNat 0) (v.headD 0), 17)
  | .rl o w => ({ m with o := m.o.set (o.headD 0).toNat (w.headD 0) }, if o.tail = [] then { x with ph := if x.dn ∧ x.sto then .sp else .ps } else { x with ph := .rl o.tail w.tail }, acS 2 (o.headD 0) (m.o.getD (o.headD 0).toNat 0) (w.headD 0), 18)
  | .sp => ({ m with ck := wrapu (x.ck + 1) }, { x with ph := .ps }, acS 3 0 m.ck (wrapu (x.ck + 1)), 19)
  | .ps => ({ m with sv := wrapu (x.tk + 1) }, { x with ph := .lv }, acS 5 0 m.sv (wrapu (x.tk + 1)), 20)
  | .lv => ({ m with sl := m.sl.set t.toNat 0 }, { x with ph := .idle, st := 2 }, acS 6 t (m.sl.getD t.toNat 0) 0, 24)
section
variable {c : Cfg} {t : Int} {m : MS} {x : AT}
theorem stA_ent2 (h : x.ph = .ent 2) : stepA c t m x = ({ m with sl := m.sl.set t.toNat (wrapu (x.rv + 2)) }, { x with ph := .idle }, acS 6 t (m.sl.getD t.toNat 0) (wrapu (x.rv + 2)), 4) := by unfold stepA; simp only [h]; try rfl
theorem stA_rd0 {b v : Int} (h : x.ph = .rd 0 b v) : stepA c t m x = (m, if hldO (m.o.getD (orecM c x.addr).toNat 0) ≥ 0 ∨ verO (m.o.getD (orecM c x.addr).toNat 0) > x.rv then x.undo 9 else { x with ph := .rd 1 (m.o.getD (orecM c x.addr).toNat 0) 0 }, acL 2 (orecM c x.addr) (m.o.getD (orecM c x.addr).toNat 0), 5) := by unfold stepA; simp only [h]; try rfl
theorem stA_rd2 {b v : Int} (h : x.ph = .rd 2 b v) : stepA c t m x = (m, if m.o.getD (orecM c x.addr).toNat 0 ≠ b then x.undo 9 else match addS c.reads x.set (orecM c x.addr) with
      | none => { x with seen := addI x.seen x.addr }.undo 3
      | some s => { x with seen := addI x.seen x.addr, set := s, val := v, ph := .idle }, acL 2 (orecM c x.addr) (m.o.getD (orecM c x.addr).toNat 0), 7) := by unfold stepA; simp only [h]; try rfl
theorem stA_lk {s : Int} {ld : Bool} (h : x.ph = .lk s ld) : stepA c t m x = (if ld = false then (m, { x with ph := .lk (m.o.getD (x.oc.getD x.old.length 0).toNat 0) (decide (hldO (m.o.getD (x.oc.getD x.old.length 0).toNat 0) < 0)) }, acL 2 (x.oc.getD x.old.length 0) (m.o.getD (x.oc.getD x.old.length 0).toNat 0), 11)
        else if m.o.getD (x.oc.getD x.old.length 0).toNat 0 = s then ({ m with o := m.o.set (x.oc.getD x.old.length 0).toNat (wrapu (s + t + 1)) }, { x with old := x.old ++ [s], ph := if x.old.length + 1 = x.oc.length then .tn false else .lk s false }, acW 2 (x.oc.getD x.old.length 0) (m.o.getD (x.oc.getD x.old.length 0).toNat 0) (wrapu (s + t + 1)) true, 12)
        else (m, { x with ph := .lk s false }, acW 2 (x.oc.getD x.old.length 0) (m.o.getD (x.oc.getD x.old.length 0).toNat 0) (wrapu (s + t + 1)) false, 12)) := by unfold stepA; simp only [h]; try rfl
theorem stA_tn0 (h : x.ph = .tn false) : stepA c t m x = ({ m with tk := wrapu (m.tk + 1) }, { x with tk := m.tk, ph := .tn true }, acA 4 0 m.tk 1, 13) := by unfold stepA; simp only [h]; try rfl
theorem stA_tn1 (h : x.ph = .tn true) : stepA c t m x = (m, if m.sv = x.tk then (if x.set = [] then { x with ph := .dc } else { x with ph := .ck x.set }) else x, acL 5 0 m.sv, 14) := by unfold stepA; simp only [h]; try rfl
theorem stA_ck {l : List Int} (h : x.ph = .ck l) : stepA c t m x = (m, if verO (m.o.getD (l.headD 0).toNat 0) > x.rv then { x with code := 9 }.rest else if l.tail = [] then { x with ph := .dc } else { x with ph := .ck l.tail }, acL 2 (l.headD 0) (m.o.getD (l.headD 0).toNat 0), 15) := by unfold stepA; simp only [h]; try rfl
theorem stA_dc (h : x.ph = .dc) : stepA c t m x = (m, if x.sto ∧ m.ck ≥ c.clock then { x with ck := m.ck, code := 6 }.rest else if x.sto then { x with ck := m.ck, dn := true, ph := .wr x.ad x.vl } else { x with ck := m.ck, dn := true }.rest, acL 3 0 m.ck, 16) := by unfold stepA; simp only [h]; try rfl
end
structure FT where
  ld : Bool
  lim : Int
  nx : Nat
structure GT where
  th : Thr
  at' : Option AT
  bg : Nat
  sv : Rg
  tr : Nat
  seen : List ObM
  fn : Option FT
  obs : List ObM
  ct : Nat
def GT.to (x : GT) (n pc : Nat) : GT := { x with th := { x.th with pc := pc, dn := decide (pc = n) } }
def AT.busy (a : AT) : Bool := match a.ph with
  | .idle => false
  | _ => true
def GT.endG (p : List Ins) (x : GT) (a : AT) : GT :=
  let x1 : GT := if a.code = 1 then { x with at' := none, obs := x.obs ++ x.seen } else { x with at' := none, th := { x.th with rg := x.sv } }
  if a.code = 9 ∧ (x.tr : Int) < ((p[x.bg]?).map (·.imm)).getD 0 then x1.to p.length x.bg
  else ({ x1 with tr := 0, th := { x1.th with oc := if a.code = 9 then 5 else a.code }, obs := x1.obs ++ [⟨x.bg, 3, if a.code = 9 then 5 else a.code⟩] } : GT).to p.length (endM p x.bg + 1)
def GT.ans (p : List Ins) (x : GT) (a : AT) (i : Ins) : GT :=
  if a.st = 2 then x.endG p a
  else if i.op = 10 then ({ x with at' := some a, th := { x.th with rg := x.th.rg.set i.a.toNat a.val }, seen := x.seen ++ [⟨x.th.pc, 1, a.val⟩] } : GT).to p.length (x.th.pc + 1)
  else ({ x with at' := some a } : GT).to p.length (x.th.pc + 1)
section
variable {p : List Ins} {x : GT} {a : AT} {i : Ins}
theorem ans_e (h : a.st = 2) : x.ans p a i = x.endG p a := if_pos h
theorem ans_n (h : a.st ≠ 2) (h1 : i.op ≠ 10) : x.ans p a i = ({ x with at' := some a } : GT).to p.length (x.th.pc + 1) := by unfold GT.ans; rw [if_neg h, if_neg h1]
theorem ans_r (h : a.st ≠ 2) (h1 : i.op = 10) : x.ans p a i = ({ x with at' := some a, th := { x.th with rg := x.th.rg.set i.a.toNat a.val }, seen := x.seen ++ [⟨x.th.pc, 1, a.val⟩] } : GT).to p.length (x.th.pc + 1) := by unfold GT.ans; rw [if_neg h, if_pos h1]
end
section
variable {p : List Ins} {x : GT} {a : AT}
theorem end_c (h : a.code = 1) : x.endG p a = ({ x with at' := none, obs := x.obs ++ x.seen ++ [⟨x.bg, 3, 1⟩], tr := 0, th := { x.th with oc := 1 } } : GT).to p.length (endM p x.bg + 1) := by
  unfold GT.endG
  rw [if_pos h, if_neg (fun hc => absurd (h.symm.trans hc.1) (by decide)), if_neg (fun hc => absurd (h.symm.trans hc) (by decide)), h]
theorem end_r (h : a.code = 9) (hr : (x.tr : Int) < ((p[x.bg]?).map (·.imm)).getD 0) : x.endG p a = ({ x with at' := none, th := { x.th with rg := x.sv } } : GT).to p.length x.bg := by
  unfold GT.endG
  rw [if_neg (fun hc => absurd (h.symm.trans hc) (by decide)), if_pos ⟨h, hr⟩]
theorem end_n (h : a.code = 9) (hr : ¬ (x.tr : Int) < ((p[x.bg]?).map (·.imm)).getD 0) : x.endG p a = ({ x with at' := none, th := { x.th with rg := x.sv, oc := 5 }, tr := 0, obs := x.obs ++ [⟨x.bg, 3, 5⟩] } : GT).to p.length (endM p x.bg + 1) := by
  unfold GT.endG
  rw [if_neg (fun hc => absurd (h.symm.trans hc) (by decide)), if_neg (fun hc => hr hc.2), if_pos h]
end
def evA (c : Cfg) (t : Int) (a : AT) (ph : Int) : List EvM :=
  if ph = 3 then [⟨0, t, 3, 0, [], []⟩] else if ph = 16 ∧ a.dn = true then [⟨0, t, 4, 0, a.seen, if a.code = 1 then a.ad.filter fun x => decide (x < c.words) else []⟩] else []
def advG (c : Cfg) (p : List Ins) (t : Int) (m : MS) (x : GT) (a : AT) (i : Ins) : MS × GT × StM × List EvM :=
  match stepA c t m a with
  | (m', a', ac, ph) => (m', if a'.busy then { x with at' := some a' } else x.ans p a' i, ⟨t, ph, x.ct, ac⟩, evA c t a' ph)
def reqA (c : Cfg) (r : Rg) (a : AT) (i : Ins) : AT :=
  if i.op = 10 then a.read c (adr r i.b i.imm) else if i.op = 11 then { a with ph := .loc (.wr (adr r i.a i.imm) (r.get i.b.toNat)) }
  else if i.op = 8 then { a with ph := .loc (.en 1) } else { a with ph := .loc (.en 2) }
def exeG (c : Cfg) (p : List Ins) (t : Int) (m : MS) (x : GT) (i : Ins) : MS × GT × StM × List EvM :=
  if i.op = 7 then advG c p t m { x with bg := x.th.pc, sv := x.th.rg, tr := x.tr + 1, seen := [], ct := x.ct + 1 } { AT.new with st := 1, ph := .ent 0 } i
  else if 8 ≤ i.op ∧ i.op ≤ 11 then (match x.at' with
    | some a => advG c p t m x (reqA c x.th.rg a i) i
    | none => (m, x, ⟨t, 0, 0, acz⟩, []))
  else (m, { x with th := { locM x.th i with dn := decide ((locM x.th i).pc = p.length) } }, ⟨t, 0, if x.at'.isSome then x.ct else 0, acz⟩, [])
def stepG (c : Cfg) (p : List Ins) (t : Int) (m : MS) (x : GT) : MS × GT × StM × List EvM :=
  match p[x.th.pc]? with
  | none => (m, x, ⟨t, 0, 0, acz⟩, [])
  | some i => match x.at' with
    | some a => if a.busy then advG c p t m x a i else exeG c p t m x i
    | none => exeG c p t m x i
end Go.Proofs.YtllddgdmmfmpkaaGreatDoor
namespace Go.Proofs.YtllddgdmmfmpkaaGreatDoor
open Go
set_option maxRecDepth 10000
def part : List Ins := [⟨1, 2, 0, 0, 1⟩, ⟨7, 0, 0, 0, 8⟩, ⟨10, 1, 0, 0, 0⟩, ⟨3, 1, 1, 2, 0⟩, ⟨11, 0, 1, 0, 0⟩, ⟨8, 0, 0, 0, 0⟩]
def codeT : Nat → List Ins
  | 0 => []
  | n + 1 => part ++ codeT n
theorem code_len : ∀ R, (codeT R).length = 6 * R
  | 0 => rfl
  | R + 1 => by rw [codeT, List.length_append, code_len R]; simp only [part, List.length_cons, List.length_nil]; omega
theorem code_drop : ∀ (q R : Nat), (codeT (q + R)).drop (6 * q) = codeT R
  | 0, R => by rw [Nat.zero_add]; rfl
  | q + 1, R => by
    rw [show q + 1 + R = q + R + 1 by omega, codeT, show 6 * (q + 1) = part.length + 6 * q by simp only [part, List.length_cons, List.length_nil]; omega, ← List.drop_drop, List.drop_left]
    exact code_drop q R
theorem code_cut {R k : Nat} (h : k < 6 * R) : ∃ R', (codeT R).drop k = part.drop (k % 6) ++ codeT R' := by
  have h1 : k = 6 * (k / 6) + k % 6 := (Nat.div_add_mod k 6).symm
  have h2 : k % 6 < 6 := Nat.mod_lt _ (by omega)
  obtain ⟨R', hR⟩ : ∃ R', R = k / 6 + (R' + 1) := ⟨R - k / 6 - 1, by omega⟩
  refine ⟨R', ?_⟩
  have h3 : (codeT R).drop k = ((codeT R).drop (6 * (k / 6))).drop (k % 6) := by rw [List.drop_drop, ← h1]
  rw [h3, hR, code_drop, codeT, List.drop_append_of_le_length (by simp only [part, List.length_cons, List.length_nil]; omega)]
theorem code_at {R k : Nat} (h : k < 6 * R) : (codeT R)[k]? = part[k % 6]? := by
  obtain ⟨R', hR⟩ := code_cut h
  have h2 : k % 6 < 6 := Nat.mod_lt _ (by omega)
  have := congrArg (fun l => l[0]?) hR
  simp only [List.getElem?_drop, Nat.add_zero] at this
  rw [this, List.getElem?_append_left (by simp only [List.length_drop, part, List.length_cons, List.length_nil]; omega), List.getElem?_drop, Nat.add_zero]
theorem code_end {R b : Nat} (hb : b % 6 = 1) (h : b + 5 ≤ 6 * R) : endM (codeT R) b = b + 4 := by
  obtain ⟨R', hR⟩ := code_cut (R := R) (k := b + 1) (by omega)
  unfold endM
  rw [hR, show (b + 1) % 6 = 2 by omega]
  show (if (10 : Int) = 8 then _ else _) = _
  rw [if_neg (by decide)]
  show (if (3 : Int) = 8 then _ else _) = _
  rw [if_neg (by decide)]
  show (if (11 : Int) = 8 then _ else _) = _
  rw [if_neg (by decide)]
  show (if (8 : Int) = 8 then _ else _) = _
  rw [if_pos rfl]
def cfT (o : Nat) : Cfg := ⟨2, o, 0, 0, 0, 0, 0, 2, 2, 0, 0, 1000, false⟩
def memT (oc : Nat) (m : TM) : MS := ⟨[m.d, 7], m.o :: List.replicate (oc - 1) 0, m.ck, m.tk, m.sv, m.sl, [0, 0, 0, 0], []⟩
def obT (o : TO) : ObM := ⟨o.pc, o.k, o.v⟩
def rgT (r1 r2 : Int) : Rg := ⟨0, r1, r2, 0, 0, 0, 0, 0⟩
def aB (rv : Int) : AT := { AT.new with st := 1, rv := rv }
def aR (rv v : Int) : AT := { aB rv with set := [0], seen := [0], val := v }
def aL (rv v l : Int) : AT := { aR rv v with ad := [0], vl := [l] }
def aK (rv v l : Int) (old : List Int) (tk : Int) (p : AP) : AT := { aL rv v l with code := 1, oc := [0], old := old, tk := tk, ph := p }
def RA (x : TS) (a : AT) : Prop :=
  match x.ph with
  | .idle => False
  | .en1 => x.seen = [] ∧ a = { aB 0 with ph := .ent 1 }
  | .en2 rv => x.seen = [] ∧ a = { aB rv with ph := .ent 2 }
  | .act rv => (x.pc = x.bg + 1 ∧ x.seen = [] ∧ a = aB rv) ∨ ((x.pc = x.bg + 2 ∨ x.pc = x.bg + 3) ∧ ∃ v, a = aR rv v) ∨ (x.pc = x.bg + 4 ∧ ∃ v l, x.lg = some l ∧ a = aL rv v l)
  | .rd1 rv w => x.seen = [] ∧ a = { aB rv with ph := .rd 1 w 0 }
  | .rd2 rv w val => x.seen = [] ∧ a = { aB rv with ph := .rd 2 w val }
  | .lk0 rv => ∃ v l s, x.lg = some l ∧ a = aK rv v l [] 0 (.lk s false)
  | .lk1 rv w => ∃ v l, x.lg = some l ∧ a = aK rv v l [] 0 (.lk w true)
  | .tn0 rv old => ∃ v l, x.lg = some l ∧ a = aK rv v l [old] 0 (.tn false)
  | .tn1 rv old tk => ∃ v l, x.lg = some l ∧ a = aK rv v l [old] tk (.tn true)
  | .chk rv old tk => ∃ v l, x.lg = some l ∧ a = aK rv v l [old] tk (.ck [0])
  | .dec rv old tk => ∃ v l, x.lg = some l ∧ a = aK rv v l [old] tk .dc
  | .wrt rv old tk clk => ∃ v l, x.lg = some l ∧ a = { aK rv v l [old] tk (.wr [0] [l]) with ck := clk, dn := true }
  | .rel _ tk w clk ok => ∃ a' : AT, a = { a' with code := if ok then 1 else 9, st := 1, ad := [0], tk := tk, ph := .rl [0] [w], ck := if ok then clk else 0, dn := ok }
  | .stm _ tk clk => ∃ a' : AT, a = { a' with code := 1, st := 1, tk := tk, ck := clk, ph := .sp }
  | .pas _ tk ok => ∃ a' : AT, a = { a' with code := if ok then 1 else 9, st := 1, tk := tk, ph := .ps }
  | .lev _ ok => ∃ a' : AT, a = { a' with code := if ok then 1 else 9, st := 1, ph := .lv }
structure RT (R : Nat) (x : TS) (g : GT) : Prop where
  th : g.th = ⟨x.pc, rgT x.r1 x.r2, x.oc, decide (x.pc = 6 * R)⟩
  bg : g.bg = x.bg
  sv : g.sv = rgT x.s1 x.s2
  tr : g.tr = x.tr
  seen : g.seen = x.seen.map obT
  fn : g.fn = none
  obs : g.obs = x.obs.map obT
  ct : g.ct = x.ct
  le : x.pc ≤ 6 * R
  at' : match x.ph with
    | .idle => g.at' = none
    | _ => ∃ a, g.at' = some a ∧ RA x a
theorem orec0 {oc : Nat} (h1 : 1 ≤ oc) (h2 : oc ≤ 3) : orecM (cfT oc) 0 = 0 := by
  have h3 : oc = 1 ∨ oc = 2 ∨ oc = 3 := by omega
  rcases h3 with rfl | rfl | rfl <;> decide
theorem srt0 : srtU [0] = [0] := by unfold srtU; rw [List.mergeSort_singleton]; rfl
theorem wru {e : Int} (h : RB e) : wrapu e = e := wrap_u64 (by unfold RB at h; omega) (by unfold RB at h; omega)
section
variable {R oc n t : Nat} {m : TM} {x : TS} {g : GT}
def RS (R oc : Nat) (t : Nat) (m : TM) (x : TS) (g : GT) : Prop := ∃ g' s ev, stepG (cfT oc) (codeT R) t (memT oc m) g = (memT oc (stepT t m x).1, g', s, ev) ∧ RT R (stepT t m x).2.1 g' ∧ s.ph = (stepT t m x).2.2.ph ∧ s.ac.put = (stepT t m x).2.2.put
theorem rs_adv {a : AT} {i : Ins} {m' : TM} {x' : TS} {e : TE} {ac : AcM} {a' : AT} (hi : (codeT R)[g.th.pc]? = some i) (ha : g.at' = some a) (hb : a.busy = true) (hs : stepT t m x = (m', x', e)) (hA : stepA (cfT oc) t (memT oc m) a = (memT oc m', a', ac, e.ph)) (hput : ac.put = e.put)
    (hr : RT R x' (if a'.busy then { g with at' := some a' } else g.ans (codeT R) a' i)) : RS R oc t m x g := by
  unfold RS
  rw [hs]
  refine ⟨_, ⟨t, e.ph, g.ct, ac⟩, evA (cfT oc) t a' e.ph, ?_, hr, rfl, hput⟩
  unfold stepG
  rw [hi, ha]
  dsimp only
  rw [hb, if_pos rfl]
  unfold advG
  rw [hA]
theorem rs_b {a : AT} {i : Ins} {m' : TM} {x' : TS} {e : TE} {ac : AcM} (a' : AT) (hi : (codeT R)[g.th.pc]? = some i) (ha : g.at' = some a) (hb : a.busy = true) (hs : stepT t m x = (m', x', e)) (hA : stepA (cfT oc) t (memT oc m) a = (memT oc m', a', ac, e.ph)) (hput : ac.put = e.put)
    (hb' : a'.busy = true) (hr : RT R x' { g with at' := some a' }) : RS R oc t m x g := rs_adv hi ha hb hs hA hput (by rw [hb', if_pos rfl]; exact hr)
theorem rs_n {a : AT} {i : Ins} {m' : TM} {x' : TS} {e : TE} {ac : AcM} (a' : AT) (hi : (codeT R)[g.th.pc]? = some i) (ha : g.at' = some a) (hb : a.busy = true) (hs : stepT t m x = (m', x', e)) (hA : stepA (cfT oc) t (memT oc m) a = (memT oc m', a', ac, e.ph)) (hput : ac.put = e.put)
    (hb' : a'.busy = false) (hr : RT R x' (g.ans (codeT R) a' i)) : RS R oc t m x g := rs_adv hi ha hb hs hA hput (by rw [hb', if_neg (by decide)]; exact hr)
theorem RT.keep (h : RT R x g) {x' : TS} {a : AT} (e1 : x'.pc = x.pc) (e2 : x'.r1 = x.r1) (e3 : x'.r2 = x.r2) (e4 : x'.oc = x.oc) (e5 : x'.bg = x.bg) (e6 : x'.s1 = x.s1) (e7 : x'.s2 = x.s2) (e8 : x'.tr = x.tr) (e9 : x'.seen = x.seen) (e10 : x'.obs = x.obs) (e11 : x'.ct = x.ct) (hn : x'.ph ≠ .idle) (ha : RA x' a) :
    RT R x' { g with at' := some a } := by
  refine ⟨by rw [e1, e2, e3, e4]; exact h.th, by rw [e5]; exact h.bg, by rw [e6, e7]; exact h.sv, by rw [e8]; exact h.tr, by rw [e9]; exact h.seen, h.fn, by rw [e10]; exact h.obs, by rw [e11]; exact h.ct, by rw [e1]; exact h.le, ?_⟩
  cases hp : x'.ph <;> first | exact absurd hp hn | exact ⟨a, rfl, ha⟩
theorem adr0 (r1 r2 : Int) : adr (rgT r1 r2) 0 0 = 0 := by
  show wrapu (0 + wrapu 0) = 0
  rw [show wrapu 0 = 0 from wrap_u64 (by omega) (by omega)]
  exact wrap_u64 (by omega) (by omega)
theorem code_i (hB : BB R x) (j : Nat) (hj : j < 5) : (codeT R)[x.bg + j]? = part[1 + j]? := by
  unfold BB at hB
  rw [code_at (by omega), show (x.bg + j) % 6 = 1 + j by omega]
theorem rs_x {i : Ins} {m' : TM} {x' : TS} {e : TE} {g' : GT} {s : StM} {ev : List EvM} (hi : (codeT R)[g.th.pc]? = some i) (hna : g.at' = none ∨ ∃ a, g.at' = some a ∧ a.busy = false) (hs : stepT t m x = (m', x', e))
    (hE : exeG (cfT oc) (codeT R) t (memT oc m) g i = (memT oc m', g', s, ev)) (h1 : s.ph = e.ph) (h2 : s.ac.put = e.put) (hr : RT R x' g') : RS R oc t m x g := by
  unfold RS
  rw [hs]
  refine ⟨g', s, ev, ?_, hr, h1, h2⟩
  unfold stepG
  rw [hi]
  rcases hna with hn | ⟨a, hn, hb⟩
  · rw [hn]; exact hE
  · rw [hn]; dsimp only; rw [hb, if_neg (by decide)]; exact hE
theorem rs_q {i : Ins} {m' : TM} {x' : TS} {e : TE} {ac : AcM} {a a1 : AT} (a' : AT) (hi : (codeT R)[g.th.pc]? = some i) (ha : g.at' = some a) (hb : a.busy = false) (hs : stepT t m x = (m', x', e)) (hop : 8 ≤ i.op ∧ i.op ≤ 11) (hq : reqA (cfT oc) g.th.rg a i = a1)
    (hA : stepA (cfT oc) t (memT oc m) a1 = (memT oc m', a', ac, e.ph)) (hput : ac.put = e.put) (hr : RT R x' (if a'.busy then { g with at' := some a' } else g.ans (codeT R) a' i)) : RS R oc t m x g := by
  refine rs_x (s := ⟨t, e.ph, g.ct, ac⟩) (ev := evA (cfT oc) t a' e.ph) hi (.inr ⟨a, ha, hb⟩) hs ?_ rfl hput hr
  unfold exeG
  rw [if_neg (by omega), if_pos hop, ha]
  dsimp only
  unfold advG
  rw [hq, hA]
theorem rs_qb {i : Ins} {m' : TM} {x' : TS} {e : TE} {ac : AcM} {a a1 : AT} (a' : AT) (hi : (codeT R)[g.th.pc]? = some i) (ha : g.at' = some a) (hb : a.busy = false) (hs : stepT t m x = (m', x', e)) (hop : 8 ≤ i.op ∧ i.op ≤ 11) (hq : reqA (cfT oc) g.th.rg a i = a1)
    (hA : stepA (cfT oc) t (memT oc m) a1 = (memT oc m', a', ac, e.ph)) (hput : ac.put = e.put) (hb' : a'.busy = true) (hr : RT R x' { g with at' := some a' }) : RS R oc t m x g := rs_q a' hi ha hb hs hop hq hA hput (by rw [hb', if_pos rfl]; exact hr)
theorem rs_x1 {i : Ins} {m' : TM} {x' : TS} {e : TE} {g' : GT} (hi : (codeT R)[g.th.pc]? = some i) (hna : g.at' = none ∨ ∃ a, g.at' = some a ∧ a.busy = false) (hs : stepT t m x = (m', x', e)) (h7 : i.op ≠ 7) (hop : ¬ (8 ≤ i.op ∧ i.op ≤ 11)) (hm : m' = m)
    (hE : { g with th := { locM g.th i with dn := decide ((locM g.th i).pc = (codeT R).length) } } = g') (h1 : 0 = e.ph) (h2 : 0 = e.put) (hr : RT R x' g') : RS R oc t m x g := by
  subst hm
  refine rs_x (s := ⟨t, 0, if g.at'.isSome then g.ct else 0, acz⟩) (ev := []) hi hna hs ?_ h1 h2 hr
  unfold exeG
  rw [if_neg h7, if_neg hop, hE]
theorem step_rt (hoc : 1 ≤ oc ∧ oc ≤ 3) (h : RT R x g) {V : Int} {Mo K : Nat} {X : Nat → TS} (hG : GI R n m X V Mo) (hm : MI n K m) (hK : K ≤ 300) (ht : t < n) (hx : X t = x) (hr : RI K x) (hd : x.pc ≠ 6 * R) : RS R oc t m x g := by
  obtain ⟨b1, b2, b3, b4, b5, b6, b7, b8, -, -⟩ := hG.nums hm hK
  have hp := hG.pi t ht
  have hT := hG.th t ht
  rw [hx] at hp hT
  have o0 := orec0 hoc.1 hoc.2
  have hsl : t < m.sl.length := by rw [hm.sl]; exact ht
  have hth := h.th
  have hat := h.at'
  have hph := hr.ph
  have one : RB 1 := ⟨by omega, by omega⟩
  have zero : RB 0 := ⟨by omega, by omega⟩
  cases hxp : x.ph with
  | en1 =>
    rw [hxp] at hat hph
    obtain ⟨a, ha, hA⟩ := hat
    unfold RA at hA
    rw [hxp] at hA
    obtain ⟨hsn, rfl⟩ := hA
    unfold PI at hp
    rw [hxp] at hp
    obtain ⟨hpc, hB⟩ := hp
    unfold BB at hB
    have hi : (codeT R)[g.th.pc]? = some ⟨7, 0, 0, 0, 8⟩ := by rw [hth]; show (codeT R)[x.pc]? = _; rw [code_at (by omega), show x.pc % 6 = 1 by omega]; rfl
    exact rs_b (m' := m) (x' := { x with ph := .en2 m.ck }) (e := ⟨3, m.ck⟩) { aB m.ck with ph := .ent 2 } hi ha rfl (by unfold stepT; rw [hxp]) rfl rfl rfl
      (h.keep rfl rfl rfl rfl rfl rfl rfl rfl rfl rfl rfl (fun e => by cases e) ⟨hsn, rfl⟩)
  | en2 rv =>
    rw [hxp] at hat hph
    obtain ⟨a, ha, hA⟩ := hat
    unfold RA at hA
    rw [hxp] at hA
    obtain ⟨hsn, rfl⟩ := hA
    unfold PI at hp
    rw [hxp] at hp
    obtain ⟨hpc, hB⟩ := hp
    have hi : (codeT R)[g.th.pc]? = some ⟨7, 0, 0, 0, 8⟩ := by rw [hth]; show (codeT R)[x.pc]? = _; rw [hpc]; exact code_i hB 0 (by omega)
    unfold BB at hB
    have hw : wrapu (rv + 2) = rv + 2 := wrap_u64 (by unfold RP RB at hph; omega) (by unfold RP RB at hph; omega)
    refine rs_n (m' := { m with sl := m.sl.set t (rv + 2) }) (x' := { x with ph := .act rv, pc := x.pc + 1 }) (e := ⟨4, rv + 2⟩) (aB rv) hi ha rfl (ac := acS 6 t (m.sl.getD t 0) (rv + 2)) (by unfold stepT; rw [hxp]) ?_ rfl rfl ?_
    · rw [stA_ent2 rfl, show ({ aB rv with ph := .ent 2 } : AT).rv = rv from rfl, hw]; rfl
    · rw [ans_n (show ¬ (1 : Int) = 2 by decide) (show ¬ (7 : Int) = 10 by decide)]
      refine ⟨?_, h.bg, h.sv, h.tr, h.seen, h.fn, h.obs, h.ct, (by show x.pc + 1 ≤ _; omega), _, rfl, .inl ⟨?_, hsn, rfl⟩⟩
      · show (⟨g.th.pc + 1, g.th.rg, g.th.oc, decide (g.th.pc + 1 = _)⟩ : Thr) = _
        rw [hth, code_len]
      · show x.pc + 1 = x.bg + _; omega
  | rd1 rv w =>
    rw [hxp] at hat hph
    obtain ⟨a, ha, hA⟩ := hat
    unfold RA at hA
    rw [hxp] at hA
    obtain ⟨hsn, rfl⟩ := hA
    unfold PI at hp
    rw [hxp] at hp
    obtain ⟨hpc, hB⟩ := hp
    have hi : (codeT R)[g.th.pc]? = some ⟨10, 1, 0, 0, 0⟩ := by rw [hth]; show (codeT R)[x.pc]? = _; rw [hpc]; exact code_i hB 1 (by omega)
    exact rs_b (m' := m) (x' := { x with ph := .rd2 rv w m.d }) (e := ⟨6, m.d⟩) { aB rv with ph := .rd 2 w m.d } hi ha rfl (by unfold stepT; rw [hxp]) rfl rfl rfl
      (h.keep rfl rfl rfl rfl rfl rfl rfl rfl rfl rfl rfl (fun e => by cases e) ⟨hsn, rfl⟩)
  | rd2 rv w val =>
    rw [hxp] at hat hph
    obtain ⟨a, ha, hA⟩ := hat
    unfold RA at hA
    rw [hxp] at hA
    obtain ⟨hsn, rfl⟩ := hA
    unfold PI at hp
    rw [hxp] at hp
    obtain ⟨hpc, hB⟩ := hp
    have hi : (codeT R)[g.th.pc]? = some ⟨10, 1, 0, 0, 0⟩ := by rw [hth]; show (codeT R)[x.pc]? = _; rw [hpc]; exact code_i hB 1 (by omega)
    unfold BB at hB
    have hA : ∀ a', (if m.o ≠ w then { aB rv with ph := .rd 2 w val }.undo 9 else aR rv val) = a' → stepA (cfT oc) t (memT oc m) { aB rv with ph := .rd 2 w val } = (memT oc m, a', acL 2 0 m.o, 7) := fun a' e => by
      rw [← e, stA_rd2 rfl, show ({ aB rv with ph := .rd 2 w val } : AT).addr = 0 from rfl, o0]
      rfl
    by_cases hw : m.o = w
    · refine rs_n (m' := m) (x' := { x with ph := .act rv, r1 := val, seen := [⟨x.pc, 1, val⟩], pc := x.pc + 1 }) (e := ⟨7, m.o⟩) (aR rv val) hi ha rfl (by unfold stepT; rw [hxp]; dsimp only; rw [if_pos hw]) (hA _ (by rw [if_neg (by simpa using hw)])) rfl rfl ?_
      rw [ans_r (show ¬ (1 : Int) = 2 by decide) rfl]
      refine ⟨?_, h.bg, h.sv, h.tr, ?_, h.fn, h.obs, h.ct, (by show x.pc + 1 ≤ _; omega), _, rfl, .inr (.inl ⟨.inl ?_, _, rfl⟩)⟩
      · show (⟨g.th.pc + 1, g.th.rg.set 1 val, g.th.oc, decide (g.th.pc + 1 = _)⟩ : Thr) = _
        rw [hth, code_len]; rfl
      · show g.seen ++ [⟨g.th.pc, 1, val⟩] = _
        rw [h.seen, hsn, hth]; rfl
      · show x.pc + 1 = x.bg + _; omega
    · exact rs_b (m' := m) (x' := { x with ph := .lev rv false }) (e := ⟨7, m.o⟩) ({ aB rv with ph := .rd 2 w val }.undo 9) hi ha rfl (by unfold stepT; rw [hxp]; dsimp only; rw [if_neg hw]) (hA _ (if_pos hw)) rfl rfl
        (h.keep rfl rfl rfl rfl rfl rfl rfl rfl rfl rfl rfl (fun e => by cases e) ⟨_, rfl⟩)
  | lk0 rv =>
    rw [hxp] at hat hph
    obtain ⟨a, ha, hA⟩ := hat
    unfold RA at hA
    rw [hxp] at hA
    obtain ⟨v, l, s, hlg, rfl⟩ := hA
    unfold PI at hp
    rw [hxp] at hp
    obtain ⟨hpc, hB⟩ := hp
    have hi : (codeT R)[g.th.pc]? = some ⟨8, 0, 0, 0, 0⟩ := by rw [hth]; show (codeT R)[x.pc]? = _; rw [hpc]; exact code_i hB 4 (by omega)
    by_cases hh : hld m.o < 0
    · exact rs_b (m' := m) (x' := { x with ph := .lk1 rv m.o }) (e := ⟨11, m.o⟩) (aK rv v l [] 0 (.lk m.o true)) hi ha rfl (by unfold stepT; rw [hxp]; dsimp only; rw [if_pos hh]) (by rw [stA_lk rfl, if_pos rfl, show (decide (hldO ((memT oc m).o.getD ((aK rv v l [] 0 (.lk s false)).oc.getD (aK rv v l [] 0 (.lk s false)).old.length 0).toNat 0) < 0)) = true from decide_eq_true hh]; rfl) rfl rfl
        (h.keep rfl rfl rfl rfl rfl rfl rfl rfl rfl rfl rfl (fun e => by cases e) ⟨v, l, hlg, rfl⟩)
    · exact rs_b (m' := m) (x' := { x with ph := .lk0 rv }) (e := ⟨11, m.o⟩) (aK rv v l [] 0 (.lk m.o false)) hi ha rfl (by unfold stepT; rw [hxp]; dsimp only; rw [if_neg hh]) (by rw [stA_lk rfl, if_pos rfl, show (decide (hldO ((memT oc m).o.getD ((aK rv v l [] 0 (.lk s false)).oc.getD (aK rv v l [] 0 (.lk s false)).old.length 0).toNat 0) < 0)) = false from decide_eq_false hh]; rfl) rfl rfl
        (h.keep rfl rfl rfl rfl rfl rfl rfl rfl rfl rfl rfl (fun e => by cases e) ⟨v, l, _, hlg, rfl⟩)
  | lk1 rv w =>
    rw [hxp] at hat hph
    obtain ⟨a, ha, hA⟩ := hat
    unfold RA at hA
    rw [hxp] at hA
    obtain ⟨v, l, hlg, rfl⟩ := hA
    unfold PI at hp
    rw [hxp] at hp
    obtain ⟨hpc, hB⟩ := hp
    have hi : (codeT R)[g.th.pc]? = some ⟨8, 0, 0, 0, 0⟩ := by rw [hth]; show (codeT R)[x.pc]? = _; rw [hpc]; exact code_i hB 4 (by omega)
    have hn16 := hG.n16
    have hw : wrapu (w + t + 1) = w + t + 1 := wrap_u64 (by unfold RP RB at hph; omega) (by unfold RP RB at hph; omega)
    by_cases hh : m.o = w
    · exact rs_b (m' := { m with o := w + t + 1 }) (x' := { x with ph := .tn0 rv w }) (e := ⟨12, w + t + 1⟩) (ac := acW 2 0 m.o (w + t + 1) true) (aK rv v l [w] 0 (.tn false)) hi ha rfl (by unfold stepT; rw [hxp]; dsimp only; rw [if_pos hh]) (by rw [stA_lk rfl, if_neg (by decide), if_pos, hw] <;> first | rfl | exact hh) rfl rfl
        (h.keep rfl rfl rfl rfl rfl rfl rfl rfl rfl rfl rfl (fun e => by cases e) ⟨v, l, hlg, rfl⟩)
    · exact rs_b (m' := m) (x' := { x with ph := .lk0 rv }) (e := ⟨12, m.o⟩) (ac := acW 2 0 m.o (w + t + 1) false) (aK rv v l [] 0 (.lk w false)) hi ha rfl (by unfold stepT; rw [hxp]; dsimp only; rw [if_neg hh]) (by rw [stA_lk rfl, if_neg (by decide), if_neg, hw] <;> first | rfl | exact hh) rfl rfl
        (h.keep rfl rfl rfl rfl rfl rfl rfl rfl rfl rfl rfl (fun e => by cases e) ⟨v, l, _, hlg, rfl⟩)
  | tn0 rv old =>
    rw [hxp] at hat hph
    obtain ⟨a, ha, hA⟩ := hat
    unfold RA at hA
    rw [hxp] at hA
    obtain ⟨v, l, hlg, rfl⟩ := hA
    unfold PI at hp
    rw [hxp] at hp
    obtain ⟨hpc, hB⟩ := hp
    have hi : (codeT R)[g.th.pc]? = some ⟨8, 0, 0, 0, 0⟩ := by rw [hth]; show (codeT R)[x.pc]? = _; rw [hpc]; exact code_i hB 4 (by omega)
    exact rs_b (m' := { m with tk := m.tk + 1 }) (x' := { x with ph := .tn1 rv old m.tk }) (e := ⟨13, m.tk + 1⟩) (ac := acA 4 0 m.tk 1) (aK rv v l [old] m.tk (.tn true)) hi ha rfl (by unfold stepT; rw [hxp]) (by rw [stA_tn0 rfl, show (memT oc m).tk = m.tk from rfl, wru b6]; rfl) (wru b6) rfl
        (h.keep rfl rfl rfl rfl rfl rfl rfl rfl rfl rfl rfl (fun e => by cases e) ⟨v, l, hlg, rfl⟩)
  | tn1 rv old tk =>
    rw [hxp] at hat hph
    obtain ⟨a, ha, hA⟩ := hat
    unfold RA at hA
    rw [hxp] at hA
    obtain ⟨v, l, hlg, rfl⟩ := hA
    unfold PI at hp
    rw [hxp] at hp
    obtain ⟨hpc, hB⟩ := hp
    have hi : (codeT R)[g.th.pc]? = some ⟨8, 0, 0, 0, 0⟩ := by rw [hth]; show (codeT R)[x.pc]? = _; rw [hpc]; exact code_i hB 4 (by omega)
    by_cases hh : m.sv = tk
    · exact rs_b (m' := m) (x' := { x with ph := .chk rv old tk }) (e := ⟨14, m.sv⟩) (aK rv v l [old] tk (.ck [0])) hi ha rfl (by unfold stepT; rw [hxp]; dsimp only; rw [if_pos hh]) (by rw [stA_tn1 rfl, if_pos] <;> first | rfl | exact hh) rfl rfl
        (h.keep rfl rfl rfl rfl rfl rfl rfl rfl rfl rfl rfl (fun e => by cases e) ⟨v, l, hlg, rfl⟩)
    · exact rs_b (m' := m) (x' := { x with ph := .tn1 rv old tk }) (e := ⟨14, m.sv⟩) (aK rv v l [old] tk (.tn true)) hi ha rfl (by unfold stepT; rw [hxp]; dsimp only; rw [if_neg hh]) (by rw [stA_tn1 rfl, if_neg] <;> first | rfl | exact hh) rfl rfl
        (h.keep rfl rfl rfl rfl rfl rfl rfl rfl rfl rfl rfl (fun e => by cases e) ⟨v, l, hlg, rfl⟩)
  | chk rv old tk =>
    rw [hxp] at hat hph
    obtain ⟨a, ha, hA⟩ := hat
    unfold RA at hA
    rw [hxp] at hA
    obtain ⟨v, l, hlg, rfl⟩ := hA
    unfold PI at hp
    rw [hxp] at hp
    obtain ⟨hpc, hB⟩ := hp
    have hi : (codeT R)[g.th.pc]? = some ⟨8, 0, 0, 0, 0⟩ := by rw [hth]; show (codeT R)[x.pc]? = _; rw [hpc]; exact code_i hB 4 (by omega)
    by_cases hh : vrs m.o > rv
    · exact rs_b (m' := m) (x' := { x with ph := .rel rv tk old 0 false }) (e := ⟨15, m.o⟩) { aK rv v l [old] tk (.rl [0] [old]) with code := 9 } hi ha rfl (by unfold stepT; rw [hxp]; dsimp only; rw [if_pos hh]) (by rw [stA_ck rfl, if_pos] <;> first | rfl | exact hh) rfl rfl
        (h.keep rfl rfl rfl rfl rfl rfl rfl rfl rfl rfl rfl (fun e => by cases e) ⟨aK rv v l [old] tk .idle, rfl⟩)
    · exact rs_b (m' := m) (x' := { x with ph := .dec rv old tk }) (e := ⟨15, m.o⟩) (aK rv v l [old] tk .dc) hi ha rfl (by unfold stepT; rw [hxp]; dsimp only; rw [if_neg hh]) (by rw [stA_ck rfl, if_neg] <;> first | rfl | exact hh) rfl rfl
        (h.keep rfl rfl rfl rfl rfl rfl rfl rfl rfl rfl rfl (fun e => by cases e) ⟨v, l, hlg, rfl⟩)
  | dec rv old tk =>
    rw [hxp] at hat hph
    obtain ⟨a, ha, hA⟩ := hat
    unfold RA at hA
    rw [hxp] at hA
    obtain ⟨v, l, hlg, rfl⟩ := hA
    unfold PI at hp
    rw [hxp] at hp
    obtain ⟨hpc, hB⟩ := hp
    have hi : (codeT R)[g.th.pc]? = some ⟨8, 0, 0, 0, 0⟩ := by rw [hth]; show (codeT R)[x.pc]? = _; rw [hpc]; exact code_i hB 4 (by omega)
    have hck : ¬ (1000 ≤ m.ck) := by have := hm.c1; omega
    exact rs_b (m' := m) (x' := { x with ph := .wrt rv old tk m.ck }) (e := ⟨16, m.ck⟩) { aK rv v l [old] tk (.wr [0] [l]) with ck := m.ck, dn := true } hi ha rfl (by unfold stepT; rw [hxp]) (by rw [stA_dc rfl, if_neg] <;> first | rfl | exact fun hc => hck hc.2) rfl rfl
        (h.keep rfl rfl rfl rfl rfl rfl rfl rfl rfl rfl rfl (fun e => by cases e) ⟨v, l, hlg, rfl⟩)
  | wrt rv old tk clk =>
    rw [hxp] at hat hph
    obtain ⟨a, ha, hA⟩ := hat
    unfold RA at hA
    rw [hxp] at hA
    obtain ⟨v, l, hlg, rfl⟩ := hA
    unfold PI at hp
    rw [hxp] at hp
    obtain ⟨hpc, hB⟩ := hp
    have hi : (codeT R)[g.th.pc]? = some ⟨8, 0, 0, 0, 0⟩ := by rw [hth]; show (codeT R)[x.pc]? = _; rw [hpc]; exact code_i hB 4 (by omega)
    exact rs_b (m' := { m with d := l }) (x' := { x with ph := .rel rv tk ((clk + 1) * 64) clk true }) (e := ⟨17, l⟩) { aK rv v l [old] tk (.rl [0] [(clk + 1) * 64]) with ck := clk, dn := true } hi ha rfl (by unfold stepT; rw [hxp, hlg]; rfl) rfl rfl rfl
        (h.keep rfl rfl rfl rfl rfl rfl rfl rfl rfl rfl rfl (fun e => by cases e) ⟨aK rv v l [old] tk .idle, rfl⟩)
  | rel rv tk w clk ok =>
    rw [hxp] at hat hph
    obtain ⟨a, ha, hA⟩ := hat
    unfold RA at hA
    rw [hxp] at hA
    obtain ⟨a', rfl⟩ := hA
    unfold PI at hp
    rw [hxp] at hp
    obtain ⟨hpc, hB⟩ := hp
    have hi : (codeT R)[g.th.pc]? = some ⟨8, 0, 0, 0, 0⟩ := by rw [hth]; show (codeT R)[x.pc]? = _; rw [hpc]; exact code_i hB 4 (by omega)
    cases ok with
    | true =>
      exact rs_b (m' := { m with o := w }) (x' := { x with ph := .stm rv tk clk }) (e := ⟨18, w⟩) { a' with code := 1, st := 1, ad := [0], tk := tk, ph := .sp, ck := clk, dn := true } hi ha rfl (by unfold stepT; rw [hxp]; rfl) rfl rfl rfl
        (h.keep rfl rfl rfl rfl rfl rfl rfl rfl rfl rfl rfl (fun e => by cases e) ⟨({ a' with code := 1, st := 1, ad := [0], tk := tk, ph := .sp, ck := clk, dn := true } : AT), rfl⟩)
    | false =>
      exact rs_b (m' := { m with o := w }) (x' := { x with ph := .pas rv tk false }) (e := ⟨18, w⟩) { a' with code := 9, st := 1, ad := [0], tk := tk, ph := .ps, ck := 0, dn := false } hi ha rfl (by unfold stepT; rw [hxp]; rfl) rfl rfl rfl
        (h.keep rfl rfl rfl rfl rfl rfl rfl rfl rfl rfl rfl (fun e => by cases e) ⟨({ a' with code := 9, st := 1, ad := [0], tk := tk, ph := .ps, ck := 0, dn := false } : AT), rfl⟩)
  | stm rv tk clk =>
    rw [hxp] at hat hph
    obtain ⟨a, ha, hA⟩ := hat
    unfold RA at hA
    rw [hxp] at hA
    obtain ⟨a', rfl⟩ := hA
    unfold PI at hp
    rw [hxp] at hp
    obtain ⟨hpc, hB⟩ := hp
    have hi : (codeT R)[g.th.pc]? = some ⟨8, 0, 0, 0, 0⟩ := by rw [hth]; show (codeT R)[x.pc]? = _; rw [hpc]; exact code_i hB 4 (by omega)
    have hcl : clk = m.ck := by unfold TI at hT; rw [hxp] at hT; exact hT
    subst hcl
    exact rs_b (m' := { m with ck := m.ck + 1 }) (x' := { x with ph := .pas rv tk true }) (e := ⟨19, m.ck + 1⟩) (ac := acS 3 0 m.ck (m.ck + 1)) { a' with code := 1, st := 1, tk := tk, ck := m.ck, ph := .ps } hi ha rfl (by unfold stepT; rw [hxp]) (by show (({ memT oc m with ck := wrapu (m.ck + 1) } : MS), _, acS 3 0 m.ck (wrapu (m.ck + 1)), _) = _; rw [wru b8]; rfl) rfl rfl
        (h.keep rfl rfl rfl rfl rfl rfl rfl rfl rfl rfl rfl (fun e => by cases e) ⟨({ a' with code := 1, st := 1, tk := tk, ck := m.ck, ph := .ps } : AT), rfl⟩)
  | pas rv tk ok =>
    rw [hxp] at hat hph
    obtain ⟨a, ha, hA⟩ := hat
    unfold RA at hA
    rw [hxp] at hA
    obtain ⟨a', rfl⟩ := hA
    unfold PI at hp
    rw [hxp] at hp
    obtain ⟨hpc, hB⟩ := hp
    have hi : (codeT R)[g.th.pc]? = some ⟨8, 0, 0, 0, 0⟩ := by rw [hth]; show (codeT R)[x.pc]? = _; rw [hpc]; exact code_i hB 4 (by omega)
    have hw : wrapu (tk + 1) = tk + 1 := wrap_u64 (by unfold RP RB at hph; omega) (by unfold RP RB at hph; omega)
    exact rs_b (m' := { m with sv := tk + 1 }) (x' := { x with ph := .lev rv ok }) (e := ⟨20, tk + 1⟩) (ac := acS 5 0 m.sv (tk + 1)) { a' with code := if ok then 1 else 9, st := 1, tk := tk, ph := .lv } hi ha rfl (by unfold stepT; rw [hxp]) (by show (({ memT oc m with sv := wrapu (tk + 1) } : MS), _, acS 5 0 m.sv (wrapu (tk + 1)), _) = _; rw [hw]; rfl) rfl rfl
        (h.keep rfl rfl rfl rfl rfl rfl rfl rfl rfl rfl rfl (fun e => by cases e) ⟨({ a' with code := if ok then 1 else 9, st := 1, tk := tk, ph := .lv } : AT), rfl⟩)
  | lev rv ok =>
    rw [hxp] at hat hph
    obtain ⟨a, ha, hA⟩ := hat
    unfold RA at hA
    rw [hxp] at hA
    obtain ⟨a', rfl⟩ := hA
    unfold PI at hp
    rw [hxp] at hp
    have hB : BB R x := hp
    obtain ⟨i, hi⟩ : ∃ i, (codeT R)[g.th.pc]? = some i := ⟨_, List.getElem?_eq_getElem (by rw [hth, code_len]; have := h.le; show x.pc < _; omega)⟩
    have hbi : (codeT R)[x.bg]? = some ⟨7, 0, 0, 0, 8⟩ := code_i hB 0 (by omega)
    have hce : endM (codeT R) x.bg = x.bg + 4 := by unfold BB at hB; exact code_end hB.1 hB.2.1
    have hb1 : x.bg + 5 ≤ 6 * R := by unfold BB at hB; exact hB.2.1
    refine rs_n (m' := { m with sl := m.sl.set t 0 }) (x' := endT x ok) (e := ⟨24, 0⟩) { a' with code := if ok then 1 else 9, st := 2, ph := .idle } hi ha rfl (by unfold stepT; rw [hxp]) rfl rfl rfl ?_
    rw [ans_e rfl]
    unfold endT
    have him : ((codeT R)[g.bg]?.map (·.imm)).getD 0 = 8 := by rw [h.bg, hbi]; rfl
    cases ok with
    | true =>
      rw [if_pos rfl, end_c rfl, h.bg, hce]
      refine ⟨?_, rfl, h.sv, rfl, h.seen, h.fn, ?_, h.ct, hb1, rfl⟩
      · show (⟨x.bg + 4 + 1, g.th.rg, 1, decide (x.bg + 4 + 1 = (codeT R).length)⟩ : Thr) = _
        rw [hth, code_len]
      · show g.obs ++ g.seen ++ [⟨x.bg, 3, 1⟩] = _
        rw [h.obs, h.seen, List.map_append, List.map_append]; rfl
    | false =>
      rw [if_neg (show ¬ false = true by decide)]
      by_cases htr : x.tr < 8
      · rw [if_pos htr, end_r rfl (by rw [him, h.tr]; omega), h.bg]
        refine ⟨?_, rfl, h.sv, h.tr, h.seen, h.fn, h.obs, h.ct, (by show x.bg ≤ _; omega), rfl⟩
        show (⟨x.bg, g.sv, g.th.oc, decide (x.bg = (codeT R).length)⟩ : Thr) = _
        rw [hth, code_len, h.sv]
      · rw [if_neg htr, end_n rfl (by rw [him, h.tr]; omega), h.bg, hce]
        refine ⟨?_, rfl, h.sv, rfl, h.seen, h.fn, ?_, h.ct, hb1, rfl⟩
        · show (⟨x.bg + 4 + 1, g.sv, 5, decide (x.bg + 4 + 1 = (codeT R).length)⟩ : Thr) = _
          rw [code_len, h.sv]
        · show g.obs ++ [⟨x.bg, 3, 5⟩] = _
          rw [h.obs, List.map_append]; rfl
  | idle =>
    rw [hxp] at hat
    have hle := h.le
    by_cases h0 : x.pc % 6 = 0
    · have hi : (codeT R)[g.th.pc]? = some ⟨1, 2, 0, 0, 1⟩ := by rw [hth]; show (codeT R)[x.pc]? = _; rw [code_at (by omega), h0]; rfl
      refine rs_x1 (m' := m) (x' := { x with r2 := 1, pc := x.pc + 1 }) (e := ⟨0, 0⟩) hi (.inl hat) (by unfold stepT; rw [hxp]; dsimp only; rw [if_pos h0]) (by decide) (by decide) rfl rfl rfl rfl ?_
      refine ⟨?_, h.bg, h.sv, h.tr, h.seen, h.fn, h.obs, h.ct, (by show x.pc + 1 ≤ _; omega), ?_⟩
      · rw [hth, code_len]; rfl
      · dsimp only; rw [hxp]; exact hat
    · have h1 : x.pc % 6 = 1 := by
        unfold PI at hp; rw [hxp] at hp; rcases hp with hp | hp
        · omega
        · exact hp.1
      have hi : (codeT R)[g.th.pc]? = some ⟨7, 0, 0, 0, 8⟩ := by rw [hth]; show (codeT R)[x.pc]? = _; rw [code_at (by omega), h1]; rfl
      refine rs_x (m' := { m with sl := m.sl.set t 1 }) (x' := { x with bg := x.pc, s1 := x.r1, s2 := x.r2, tr := x.tr + 1, ct := x.ct + 1, seen := [], lg := none, ph := .en1 }) (e := ⟨2, 1⟩) hi (.inl hat) (by unfold stepT; rw [hxp]; dsimp only; rw [if_neg h0]) (by unfold exeG; rw [if_pos rfl]; rfl) rfl rfl ?_
      refine ⟨hth, ?_, ?_, ?_, rfl, h.fn, h.obs, ?_, hle, _, rfl, rfl, rfl⟩
      · show g.th.pc = _; rw [hth]
      · show g.th.rg = _; rw [hth]
      · show g.tr + 1 = _; rw [h.tr]
      · show g.ct + 1 = _; rw [h.ct]
  | act rv =>
    rw [hxp] at hat hph
    obtain ⟨a, ha, hA⟩ := hat
    unfold RA at hA
    rw [hxp] at hA
    unfold PI at hp
    rw [hxp] at hp
    obtain ⟨-, hB⟩ := hp
    have hbg : x.bg % 6 = 1 := by unfold BB at hB; exact hB.1
    have hb1 : x.bg + 5 ≤ 6 * R := by unfold BB at hB; exact hB.2.1
    have hsT : stepT t m x = if x.pc % 6 = 2 then (m, { x with ph := if hld m.o ≥ 0 ∨ vrs m.o > rv then .lev rv false else .rd1 rv m.o }, ⟨5, m.o⟩)
      else if x.pc % 6 = 3 then (m, { x with r1 := x.r1 + x.r2, pc := x.pc + 1 }, ⟨0, 0⟩)
      else if x.pc % 6 = 4 then (m, { x with lg := some x.r1, pc := x.pc + 1 }, ⟨0, 0⟩)
      else (m, { x with ph := .lk0 rv }, ⟨0, 0⟩) := by unfold stepT; rw [hxp]
    rcases hA with ⟨hpc, hsn, rfl⟩ | ⟨hpc | hpc, v, rfl⟩ | ⟨hpc, v, l, hlg, rfl⟩
    · have hi : (codeT R)[g.th.pc]? = some ⟨10, 1, 0, 0, 0⟩ := by rw [hth]; show (codeT R)[x.pc]? = _; rw [hpc]; exact code_i hB 1 (by omega)
      have hq : reqA (cfT oc) g.th.rg (aB rv) ⟨10, 1, 0, 0, 0⟩ = { aB rv with ph := .rd 0 0 0 } := by
        unfold reqA
        rw [if_pos rfl, hth]
        show (aB rv).read _ (adr (rgT x.r1 x.r2) 0 0) = _
        rw [adr0]; rfl
      rw [if_pos (by omega)] at hsT
      by_cases hc : hld m.o ≥ 0 ∨ vrs m.o > rv
      · rw [if_pos hc] at hsT
        exact rs_qb ({ aB rv with ph := .rd 0 0 0 }.undo 9) (ac := acL 2 0 m.o) hi ha rfl hsT ⟨by decide, by decide⟩ hq (by rw [stA_rd0 rfl, show ({ aB rv with ph := .rd 0 0 0 } : AT).addr = 0 from rfl, o0, if_pos] <;> first | rfl | exact hc) rfl rfl
          (h.keep rfl rfl rfl rfl rfl rfl rfl rfl rfl rfl rfl (fun e => by cases e) ⟨_, rfl⟩)
      · rw [if_neg hc] at hsT
        exact rs_qb { aB rv with ph := .rd 1 m.o 0 } (ac := acL 2 0 m.o) hi ha rfl hsT ⟨by decide, by decide⟩ hq (by rw [stA_rd0 rfl, show ({ aB rv with ph := .rd 0 0 0 } : AT).addr = 0 from rfl, o0, if_neg] <;> first | rfl | exact hc) rfl rfl
          (h.keep rfl rfl rfl rfl rfl rfl rfl rfl rfl rfl rfl (fun e => by cases e) ⟨hsn, rfl⟩)
    · have hi : (codeT R)[g.th.pc]? = some ⟨3, 1, 1, 2, 0⟩ := by rw [hth]; show (codeT R)[x.pc]? = _; rw [hpc]; exact code_i hB 2 (by omega)
      rw [if_neg (by omega), if_pos (by omega)] at hsT
      have hw : wrapu (x.r1 + x.r2) = x.r1 + x.r2 := wrap_u64 (by have := hr.r1; have := hr.r2; unfold RB at *; omega) (by have := hr.r1; have := hr.r2; unfold RB at *; omega)
      refine rs_x1 hi (.inr ⟨_, ha, rfl⟩) hsT (by decide) (by decide) rfl rfl rfl rfl ?_
      refine ⟨?_, h.bg, h.sv, h.tr, h.seen, h.fn, h.obs, h.ct, (by show x.pc + 1 ≤ _; omega), ?_⟩
      · rw [hth, code_len]
        show (⟨x.pc + 1, ⟨0, wrapu (x.r1 + x.r2), x.r2, 0, 0, 0, 0, 0⟩, x.oc, _⟩ : Thr) = _
        rw [hw]; rfl
      · dsimp only; rw [hxp]; exact ⟨_, ha, .inr (.inl ⟨.inr (by show x.pc + 1 = x.bg + 3; omega), v, rfl⟩)⟩
    · have hi : (codeT R)[g.th.pc]? = some ⟨11, 0, 1, 0, 0⟩ := by rw [hth]; show (codeT R)[x.pc]? = _; rw [hpc]; exact code_i hB 3 (by omega)
      rw [if_neg (by omega), if_neg (by omega), if_pos (by omega)] at hsT
      have hq : reqA (cfT oc) g.th.rg (aR rv v) ⟨11, 0, 1, 0, 0⟩ = { aR rv v with ph := .loc (.wr 0 x.r1) } := by
        unfold reqA
        rw [if_neg (by decide), if_pos rfl, hth]
        show ({ aR rv v with ph := .loc (.wr (adr (rgT x.r1 x.r2) 0 0) x.r1) } : AT) = _
        rw [adr0]
      refine rs_q (aL rv v x.r1) (ac := acz) hi ha rfl hsT ⟨by decide, by decide⟩ hq rfl rfl ?_
      rw [show (aL rv v x.r1).busy = false from rfl, if_neg (by decide), ans_n (show ¬ (1 : Int) = 2 by decide) (show ¬ (11 : Int) = 10 by decide)]
      refine ⟨?_, h.bg, h.sv, h.tr, h.seen, h.fn, h.obs, h.ct, (by show x.pc + 1 ≤ _; omega), ?_⟩
      · show (⟨g.th.pc + 1, g.th.rg, g.th.oc, decide (g.th.pc + 1 = _)⟩ : Thr) = _
        rw [hth, code_len]
      · dsimp only; rw [hxp]; exact ⟨_, rfl, .inr (.inr ⟨by show x.pc + 1 = x.bg + 4; omega, v, x.r1, rfl, rfl⟩)⟩
    · have hi : (codeT R)[g.th.pc]? = some ⟨8, 0, 0, 0, 0⟩ := by rw [hth]; show (codeT R)[x.pc]? = _; rw [hpc]; exact code_i hB 4 (by omega)
      rw [if_neg (by omega), if_neg (by omega), if_neg (by omega)] at hsT
      refine rs_qb (aK rv v l [] 0 (.lk 0 false)) (ac := acz) hi ha rfl hsT ⟨by decide, by decide⟩ rfl ?_ rfl rfl ?_
      · show (memT oc m, AT.endA (cfT oc) _ 1, acz, (0 : Int)) = _
        unfold AT.endA
        rw [if_pos ⟨rfl, by show ([0] : List Int) ≠ []; decide⟩]
        show (_, ({ aL rv v l with code := 1, oc := srtU [orecM (cfT oc) 0], old := [], ph := .lk 0 false } : AT), _) = _
        rw [o0, srt0]; rfl
      · exact h.keep rfl rfl rfl rfl rfl rfl rfl rfl rfl rfl rfl (fun e => by cases e) ⟨v, l, _, hlg, rfl⟩
end
end Go.Proofs.YtllddgdmmfmpkaaGreatDoor
namespace Go.Proofs.YtllddgdmmfmpkaaGreatDoor
open Go
set_option maxRecDepth 10000
theorem nd_le : ∀ (n : Nat) (l : List Int), l.Nodup → (∀ x ∈ l, 0 ≤ x ∧ x < n) → l.length ≤ n
  | 0, [], _, _ => Nat.le_refl _
  | 0, x :: l, _, h => by have := h x List.mem_cons_self; omega
  | n + 1, l, hn, h => by
    have h1 : (l.erase (n : Int)).length ≤ n := nd_le n _ (hn.erase _) fun x hx => by
      have := (List.Nodup.mem_erase_iff hn).1 hx
      have h2 := h x this.2
      have h3 : x ≠ (n : Int) := this.1
      omega
    have h4 := List.length_erase (a := (n : Int)) (l := l)
    split at h4 <;> omega
def hmP (P : Nat) (a : Int) : Nat := a.toNat % P * 5 % P
structure LI (P : Nat) (ix ad : List Int) : Prop where
  p0 : 0 < P
  len : ix.length = P
  rng : ∀ (k : Nat) (v : Int), ix[k]? = some v → v = -1 ∨ (0 ≤ v ∧ v < ad.length)
  hit : ∀ (n : Nat) (a : Int), ad[n]? = some a → ∃ d : Nat, ix[(hmP P a + d) % P]? = some (n : Int) ∧ ∀ e, e < d → ∀ v : Int, ix[(hmP P a + e) % P]? = some v → 0 ≤ v
  inj : ∀ (j k : Nat) (v : Int), ix[j]? = some v → ix[k]? = some v → 0 ≤ v → j = k
  nd : ad.Nodup
  room : ad.length < P
def stopL (P : Nat) (ix ad : List Int) (a : Int) (d : Nat) : Prop := ∀ v, ix[(hmP P a + d) % P]? = some v → v < 0 ∨ ad[v.toNat]? = some a
section
variable {P : Nat} {ix ad : List Int}
theorem LI.at (h : LI P ix ad) (k : Nat) : ∃ v, ix[k % P]? = some v :=
  ⟨_, List.getElem?_eq_getElem (by rw [h.len]; exact Nat.mod_lt _ h.p0)⟩
theorem LI.empty (h : LI P ix ad) : ∃ k, k < P ∧ ix[k]? = some (-1) := by
  by_cases hc : ∃ k, k < P ∧ ix[k]? = some (-1)
  · exact hc
  · exfalso
    have h1 : ix.Nodup := by
      rw [List.Nodup, List.pairwise_iff_getElem]
      intro i j hi hj hij he
      have e1 : ix[i]? = some ix[i] := List.getElem?_eq_getElem hi
      have e2 : ix[j]? = some ix[i] := by rw [he]; exact List.getElem?_eq_getElem hj
      rcases h.rng i _ e1 with e | ⟨e, -⟩
      · rw [e] at e1; exact hc ⟨i, by rw [← h.len]; exact hi, e1⟩
      · have := h.inj i j _ e1 e2 e; omega
    have h2 := nd_le ad.length ix h1 fun x hx => by
      obtain ⟨i, hi, rfl⟩ := List.getElem_of_mem hx
      have e1 : ix[i]? = some ix[i] := List.getElem?_eq_getElem hi
      rcases h.rng i _ e1 with e | e
      · rw [e] at e1; exact absurd ⟨i, by rw [← h.len]; exact hi, e1⟩ hc
      · exact e
    have := h.room
    have := h.len
    omega
theorem LI.find (h : LI P ix ad) (a : Int) : ∃ D, stopL P ix ad a D ∧ ∀ e, e < D → ∃ v, ix[(hmP P a + e) % P]? = some v ∧ 0 ≤ v ∧ ad[v.toNat]? ≠ some a := by
  obtain ⟨k, hk, hk1⟩ := h.empty
  have hh : hmP P a < P := Nat.mod_lt _ h.p0
  have h0 : stopL P ix ad a (k + P - hmP P a) := by
    intro v hv
    rw [show hmP P a + (k + P - hmP P a) = k + P by omega, Nat.add_mod_right, Nat.mod_eq_of_lt hk, hk1] at hv
    left
    have := Option.some.inj hv
    omega
  obtain ⟨D, h1, h2⟩ := least_of (p := stopL P ix ad a) _ h0
  refine ⟨D, h1, fun e he => ?_⟩
  obtain ⟨v, hv⟩ := h.at (hmP P a + e)
  refine ⟨v, hv, ?_⟩
  by_cases hc : 0 ≤ v ∧ ad[v.toNat]? ≠ some a
  · exact hc
  · exfalso
    have : stopL P ix ad a e := by
      intro v' hv'
      rw [hv] at hv'
      obtain rfl := Option.some.inj hv'
      by_cases hn : v < 0
      · exact .inl hn
      · right
        by_cases he2 : ad[v.toNat]? = some a
        · exact he2
        · exact absurd ⟨by omega, he2⟩ hc
    have := h2 e this
    omega
theorem LI.found (h : LI P ix ad) {a : Int} {D : Nat} (h1 : stopL P ix ad a D) (h2 : ∀ e, e < D → ∃ v, ix[(hmP P a + e) % P]? = some v ∧ 0 ≤ v ∧ ad[v.toNat]? ≠ some a) :
    ∃ v, ix[(hmP P a + D) % P]? = some v ∧ match ad.idxOf? a with
      | some n => v = n
      | none => v = -1 := by
  obtain ⟨v, hv⟩ := h.at (hmP P a + D)
  refine ⟨v, hv, ?_⟩
  cases hx : ad.idxOf? a with
  | some n =>
    show v = n
    have hn : ad[n]? = some a := by
      have := List.findIdx?_eq_some_iff_getElem.1 hx
      obtain ⟨hlt, hb, -⟩ := this
      rw [List.getElem?_eq_getElem hlt]
      simpa using hb
    obtain ⟨d, hd, hd2⟩ := h.hit n a hn
    rcases Nat.lt_trichotomy d D with hlt | rfl | hgt
    · obtain ⟨v', hv', hp, hne⟩ := h2 d hlt
      rw [hd] at hv'
      obtain rfl := Option.some.inj hv'
      exact absurd hn (by simpa using hne)
    · rw [hv] at hd; exact Option.some.inj hd
    · have h0 := hd2 D hgt v hv
      rcases h1 v hv with hc | hc
      · omega
      · -- the entry found has the same address
        have hvn : v.toNat = n := by
          have hl1 := (List.getElem?_eq_some_iff.1 hc)
          have hl2 := (List.getElem?_eq_some_iff.1 hn)
          obtain ⟨l1, e1⟩ := hl1
          obtain ⟨l2, e2⟩ := hl2
          have := List.pairwise_iff_getElem.1 h.nd
          rcases Nat.lt_trichotomy v.toNat n with q | q | q
          · exact absurd (e1.trans e2.symm) (this _ _ l1 l2 q)
          · exact q
          · exact absurd (e2.trans e1.symm) (this _ _ l2 l1 q)
        omega
  | none =>
    show v = -1
    rcases h.rng _ v hv with e | ⟨e, -⟩
    · exact e
    · exfalso
      rcases h1 v hv with hc | hc
      · omega
      · have : a ∈ ad := List.mem_of_getElem? hc
        have h3 := List.findIdx?_eq_none_iff.1 hx a this
        simp at h3
theorem LI.put (h : LI P ix ad) {a : Int} {D : Nat} (h1 : ix[(hmP P a + D) % P]? = some (-1)) (h2 : ∀ e, e < D → ∃ v, ix[(hmP P a + e) % P]? = some v ∧ 0 ≤ v ∧ ad[v.toNat]? ≠ some a) (ha : a ∉ ad) (hr : ad.length + 1 < P) :
    LI P (ix.set ((hmP P a + D) % P) ad.length) (ad ++ [a]) := by
  have hk : (hmP P a + D) % P < ix.length := by rw [h.len]; exact Nat.mod_lt _ h.p0
  generalize hK : (hmP P a + D) % P = K at *
  have hset : ∀ (j : Nat) (v : Int), (ix.set K (ad.length : Int))[j]? = some v → (j = K ∧ v = ad.length) ∨ (j ≠ K ∧ ix[j]? = some v) := fun j v hv => by
    rw [List.getElem?_set] at hv
    split at hv
    · rename_i he
      left
      exact ⟨he.symm, (Option.some.inj hv).symm⟩
    · rename_i he
      exact .inr ⟨fun e => he e.symm, hv⟩
  have hsetn : ∀ (j : Nat) (v : Int), j ≠ K → ix[j]? = some v → (ix.set K (ad.length : Int))[j]? = some v := fun j v hj hv => by
    rw [List.getElem?_set, if_neg (fun e => hj e.symm)]; exact hv
  refine ⟨h.p0, by rw [List.length_set]; exact h.len, fun k v hv => ?_, fun n b hn => ?_, fun i j v hi hj h0 => ?_, ?_, by rw [List.length_append, List.length_singleton]; exact hr⟩
  · rcases hset k v hv with ⟨-, e⟩ | ⟨-, e⟩
    · right; rw [List.length_append, List.length_singleton]; omega
    · rcases h.rng k v e with e | e
      · exact .inl e
      · right; rw [List.length_append, List.length_singleton]; omega
  · by_cases hlt : n < ad.length
    · rw [List.getElem?_append_left hlt] at hn
      obtain ⟨d, hd, hd2⟩ := h.hit n b hn
      refine ⟨d, hsetn _ _ (fun e => ?_) hd, fun e he v hv => ?_⟩
      · rw [e, h1] at hd
        have := Option.some.inj hd
        omega
      · rcases hset _ v hv with ⟨-, e2⟩ | ⟨-, e2⟩
        · omega
        · exact hd2 e he v e2
    · have hn2 : n = ad.length := by
        have := (List.getElem?_eq_some_iff.1 hn).1
        rw [List.length_append, List.length_singleton] at this
        omega
      subst hn2
      rw [List.getElem?_append_right (Nat.le_refl _), Nat.sub_self] at hn
      obtain rfl : a = b := Option.some.inj hn
      refine ⟨D, by rw [hK, List.getElem?_set, if_pos rfl, if_pos hk], fun e he v hv => ?_⟩
      obtain ⟨v', hv', h0, -⟩ := h2 e he
      rcases hset _ v hv with ⟨-, e2⟩ | ⟨-, e2⟩
      · omega
      · rw [hv'] at e2
        have := Option.some.inj e2
        omega
  · rcases hset i v hi with ⟨e1, e2⟩ | ⟨e1, e2⟩
    · rcases hset j v hj with ⟨f1, f2⟩ | ⟨f1, f2⟩
      · omega
      · rcases h.rng j v f2 with e | e <;> omega
    · rcases hset j v hj with ⟨f1, f2⟩ | ⟨f1, f2⟩
      · rcases h.rng i v e2 with e | e <;> omega
      · exact h.inj i j v e2 f2 h0
  · rw [List.nodup_append]
    refine ⟨h.nd, by simp, fun x hx y hy => ?_⟩
    rw [List.mem_singleton] at hy
    subst hy
    exact fun e => ha (e ▸ hx)
end
theorem LI.new {P : Nat} (hP : 0 < P) : LI P (List.replicate P (-1)) [] :=
  ⟨hP, List.length_replicate, fun k v hv => .inl (by rw [List.getElem?_replicate] at hv; split at hv; exact (Option.some.inj hv).symm; cases hv), fun n a hn => (by simp at hn), fun j k v hj _ h0 => (by
    rw [List.getElem?_replicate] at hj; split at hj
    · have := Option.some.inj hj; omega
    · cases hj), List.nodup_nil, hP⟩
end Go.Proofs.YtllddgdmmfmpkaaGreatDoor
