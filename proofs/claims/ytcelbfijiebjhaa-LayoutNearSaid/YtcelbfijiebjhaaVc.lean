/- Part c: regions, code, and that what they ask is enough for a call. No condition. -/
import Derived.Test.YtcelbfijiebjhaaVb
import Derived.Deep.QuietTactic
namespace Go.Proofs.Ytcelbfijiebjhaa
open Go

section
variable {P : Program} {W0 : World} {f : Fr} {own : Own} {K K' : Value → Own → Prop}

theorem binInt_mono {op : BinOp} {k k' : IntKind} {m n : Int} {K K' : Value → Prop} (hk : ∀ v, K v → K' v) (h : binInt op k m k' n K) : binInt op k m k' n K' := by
  cases op <;> simp only [binInt] at h ⊢
  case add | sub | mul => obtain ⟨rfl, g⟩ := h.h; exact .mk ⟨hk _ g.h⟩
  case quo | rem => obtain ⟨rfl, g⟩ := h.h; exact .mk ⟨g.h.1, hk _ g.h.2⟩
  case shl | shr => exact ⟨h.h.1, hk _ h.h.2⟩
  all_goals (obtain ⟨rfl, g⟩ := h.h; exact .mk (hk _ g))
theorem binInt_fix {op : BinOp} {k k' : IntKind} {m n : Int} {K : Value → Prop} (h : binInt op k m k' n K) : ∃ v, K v ∧ binInt op k m k' n (fun v' => v' = v) := by
  cases op <;> simp only [binInt] at h ⊢
  case add | sub | mul => obtain ⟨rfl, g⟩ := h.h; exact ⟨_, g.h, .mk ⟨rfl⟩⟩
  case quo | rem => obtain ⟨rfl, g⟩ := h.h; exact ⟨_, g.h.2, .mk ⟨g.h.1, rfl⟩⟩
  case shl | shr => exact ⟨_, h.h.2, ⟨h.h.1, rfl⟩⟩
  all_goals (obtain ⟨rfl, g⟩ := h.h; exact ⟨_, g, .mk rfl⟩)

theorem Bld_mono : ∀ (l : List (Nat × Nat × Operand)) (cs : List Value) {K K' : List Value → Prop}, (∀ cs, K cs → K' cs) → Bld f l cs K → Bld f l cs K'
  | [], cs, K, K', hk, h => hk cs h
  | (off, sz, x) :: l, cs, K, K', hk, h => by
    rw [Bld_cons] at h ⊢
    split at h
    · split at h
      · exact Bld_mono l _ hk h
      · exact h.elim
    · rename_i v hne
      have h' := Mv.h (K := fun v => (match Nat.beq sz 1 with | true => Bld f l (cs.set off v) K | false => False)) h
      refine Mv.mk ?_
      split at h'
      · rename_i hb; rw [hb]; exact Bld_mono l _ hk h'
      · exact h'.elim
theorem Bld_fix : ∀ (l : List (Nat × Nat × Operand)) (cs : List Value) {K : List Value → Prop}, Bld f l cs K → ∃ c', K c' ∧ Bld f l cs (fun x => x = c')
  | [], cs, K, h => ⟨cs, h, rfl⟩
  | (off, sz, x) :: l, cs, K, h => by
    rw [Bld_cons] at h
    split at h
    · rename_i vs hx
      split at h
      · rename_i hb
        obtain ⟨c', h1, h2⟩ := Bld_fix l _ h
        refine ⟨c', h1, ?_⟩
        rw [Bld_cons, hx]
        simp only [hb]
        exact h2
      · exact h.elim
    · rename_i v hne
      have h' := Mv.h (K := fun v => (match Nat.beq sz 1 with | true => Bld f l (cs.set off v) K | false => False)) h
      split at h'
      · rename_i hb
        obtain ⟨c', h1, h2⟩ := Bld_fix l _ h'
        refine ⟨c', h1, ?_⟩
        rw [Bld_cons]
        split
        · rename_i vs hx; exact (hne vs hx).elim
        · refine Mv.mk ?_
          rw [hb]
          exact h2
      · exact h'.elim

theorem XO_mono {io : IOp} (hk : ∀ v own, K v own → K' v own) (h : XO P W0 f own io K) : XO P W0 f own io K' := by
  cases io <;> simp only [XO] at h ⊢
  case mov => exact .mk (hk _ _ h.h)
  case pick => split at h <;> first | exact .mk (hk _ _ h.h) | exact h.elim
  case bin => split at h <;> first | exact binInt_mono (fun v => hk v own) h | exact h.elim
  case beq => split at h <;> first | exact hk _ _ h | exact h.elim
  case not => split at h <;> first | exact hk _ _ h | exact h.elim
  case neg => split at h <;> first | exact ⟨hk _ _ h.h⟩ | exact h.elim
  case conv => split at h <;> first | exact ⟨hk _ _ h.h⟩ | exact h.elim
  case fad => split at h <;> first | exact hk _ _ h | exact h.elim
  case fld => split at h <;> first | (obtain ⟨v, hv, h⟩ := h.h; exact ⟨v, hv, hk _ _ h⟩) | exact h.elim
  case fldN => split at h <;> first | exact ⟨hk _ _ h.h⟩ | exact h.elim
  case ixs => split at h <;> first | (obtain ⟨v, h1, h2, h⟩ := h.h; exact ⟨v, h1, h2, hk _ _ h⟩) | exact h.elim
  case ixa => split at h <;> first | (obtain ⟨v, h1, h2, h⟩ := h.h; exact ⟨v, h1, h2, hk _ _ h⟩) | exact h.elim
  case idx => split at h <;> first | (obtain ⟨j, h1, h2, h⟩ := h.h; obtain ⟨v, hv, h⟩ := h.h; exact ⟨j, h1, h2, v, hv, hk _ _ h⟩) | exact h.elim
  case idxN => split at h <;> first | (obtain ⟨j, h1, h2, h⟩ := h.h; exact ⟨j, h1, h2, ⟨hk _ _ h.h⟩⟩) | exact h.elim
  case ld => split at h <;> first | (obtain ⟨v, hv, h⟩ := h.h; exact ⟨v, hv, hk _ _ h⟩) | exact h.elim
  case ldN => split at h <;> first | (obtain ⟨v, hl, hv, h⟩ := h.h; exact ⟨v, hl, hv, hk _ _ h⟩) | exact h.elim
  case st => split at h <;> first | (obtain ⟨h1, o', h2, h⟩ := h.h.h; exact .mk ⟨h1, o', h2, hk _ _ h⟩) | exact h.elim
  case stN => split at h <;> first | (obtain ⟨h0, ⟨h1, o', h2, h⟩⟩ := h; exact ⟨h0, ⟨h1, o', h2, hk _ _ h⟩⟩) | exact h.elim
  case box => split at h <;> first | exact ⟨fun b hb => hk _ _ (h.h b hb)⟩ | exact .mk ⟨fun b hb => hk _ _ (h.h.h b hb)⟩
  case new => split at h <;> exact ⟨fun b hb => hk _ _ (h.h b hb)⟩
  case ext => split at h <;> first | (obtain ⟨v, hv, h⟩ := h.h; exact ⟨v, hv, hk _ _ h⟩) | exact h.elim
  case len => split at h <;> first | exact hk _ _ h | exact h.elim
  case lens => split at h <;> first | exact hk _ _ h | exact h.elim
  case nilc => split at h <;> first | exact hk _ _ h | exact h.elim
  case mm => split at h <;> first | exact ⟨hk _ _ h.h⟩ | exact h.elim
  case bld => exact Bld_mono _ _ (fun cs h => hk _ _ h) h
  case blds => exact Bld_mono _ _ (fun cs h => ⟨fun b hb => hk _ _ (h.h b hb)⟩) h
  case call => exact ⟨fun w hw => (h.h w hw).mono fun e w' ⟨v, o', he, hs, h⟩ => ⟨v, o', he, hs, hk _ _ h⟩⟩

theorem XO_fix {io : IOp} (hr : roOp io = true) (h : XO P W0 f own io K) : ∃ v, K v own ∧ XO P W0 f own io (fun v' _ => v' = v) := by
  cases io <;> simp only [XO] at h ⊢ <;> (try simp [roOp] at hr)
  case mov => exact ⟨_, h.h, .mk rfl⟩
  case pick => split at h <;> first | exact ⟨_, h.h, .mk rfl⟩ | exact h.elim
  case bin => split at h <;> first | exact binInt_fix h | exact h.elim
  case beq => split at h <;> first | exact ⟨_, h, rfl⟩ | exact h.elim
  case not => split at h <;> first | exact ⟨_, h, rfl⟩ | exact h.elim
  case neg => split at h <;> first | exact ⟨_, h.h, ⟨rfl⟩⟩ | exact h.elim
  case conv => split at h <;> first | exact ⟨_, h.h, ⟨rfl⟩⟩ | exact h.elim
  case fad => split at h <;> first | exact ⟨_, h, rfl⟩ | exact h.elim
  case fld => split at h <;> first | (obtain ⟨v, hv, h⟩ := h.h; exact ⟨_, h, ⟨v, hv, rfl⟩⟩) | exact h.elim
  case fldN => split at h <;> first | exact ⟨_, h.h, ⟨rfl⟩⟩ | exact h.elim
  case ixs => split at h <;> first | (obtain ⟨v, h1, h2, h⟩ := h.h; exact ⟨_, h, ⟨v, h1, h2, rfl⟩⟩) | exact h.elim
  case ixa => split at h <;> first | (obtain ⟨v, h1, h2, h⟩ := h.h; exact ⟨_, h, ⟨v, h1, h2, rfl⟩⟩) | exact h.elim
  case idx => split at h <;> first | (obtain ⟨j, h1, h2, h⟩ := h.h; obtain ⟨v, hv, h⟩ := h.h; exact ⟨_, h, ⟨j, h1, h2, ⟨v, hv, rfl⟩⟩⟩) | exact h.elim
  case idxN => split at h <;> first | (obtain ⟨j, h1, h2, h⟩ := h.h; exact ⟨_, h.h, ⟨j, h1, h2, ⟨rfl⟩⟩⟩) | exact h.elim
  case ld => split at h <;> first | (obtain ⟨v, hv, h⟩ := h.h; exact ⟨_, h, ⟨v, hv, rfl⟩⟩) | exact h.elim
  case ldN => split at h <;> first | (obtain ⟨v, hl, hv, h⟩ := h.h; exact ⟨_, h, ⟨v, hl, hv, rfl⟩⟩) | exact h.elim
  case ext => split at h <;> first | (obtain ⟨v, hv, h⟩ := h.h; exact ⟨_, h, ⟨v, hv, rfl⟩⟩) | exact h.elim
  case len => split at h <;> first | exact ⟨_, h, rfl⟩ | exact h.elim
  case lens => split at h <;> first | exact ⟨_, h, rfl⟩ | exact h.elim
  case nilc => split at h <;> first | exact ⟨_, h, rfl⟩ | exact h.elim
  case mm => split at h <;> first | exact ⟨_, h.h, ⟨rfl⟩⟩ | exact h.elim
  case bld =>
    obtain ⟨c', h1, h2⟩ := Bld_fix _ _ h
    exact ⟨_, h1, Bld_mono _ _ (fun cs hc => by rw [hc]) h2⟩

/-- An operation that leaves the world alone yields one value in every world of the class. -/
theorem XO_quiet {o : Oper} {io : IOp} (hl : lowOp P o.op = io) (hr : roOp io = true) (h : XO P W0 f own io K) :
    ∃ v, K v own ∧ ∀ w, St W0 own w → (execOp (ev f) o).run P w = .ok (.value v) w := by
  obtain ⟨v, hk, hx⟩ := XO_fix hr h
  refine ⟨v, hk, fun w hw => ?_⟩
  rcases XO_sound hl hw hx with ⟨v', hr', rfl⟩ | ⟨h0, _⟩
  · exact hr'
  · rw [hr] at h0; cases h0
end

/- REGIONS -/

/-- Operations one behind the other. (Typed by the recursor itself: so the kernel and the elaborator lay it open to the same form.) -/
noncomputable def XR (P : Program) (W0 : World) (l : List IOpr) : (Fr → Own → Prop) → Fr → Own → Prop :=
  List.rec (motive := fun _ => (Fr → Own → Prop) → Fr → Own → Prop) (fun K f own => K f own) (fun o _ ih K f own => match o with
    | ⟨d, op, none⟩ => XO P W0 f own op fun v own' => ih K (updO f d v) own'
    | ⟨d, op, some (g, b)⟩ => match f g with
      | .bool c => When c b
          (XO P W0 (upd f g (.bool b)) own op fun v own' => ih K (updO (upd f g (.bool b)) d v) own')
          (ih K (updO (upd f g (.bool (!b))) d undef) own)
      | _ => ih K (updO f d undef) own) l
theorem XR_nil {P : Program} {W0 : World} {K : Fr → Own → Prop} {f : Fr} {own : Own} : XR P W0 [] K f own = K f own := rfl
theorem XR_none {P : Program} {W0 : World} {d : Option Nat} {op : IOp} {r : List IOpr} {K : Fr → Own → Prop} {f : Fr} {own : Own} :
    XR P W0 (⟨d, op, none⟩ :: r) K f own = XO P W0 f own op fun v own' => XR P W0 r K (updO f d v) own' := rfl
theorem XR_some {P : Program} {W0 : World} {d : Option Nat} {op : IOp} {g : Nat} {b : Bool} {r : List IOpr} {K : Fr → Own → Prop} {f : Fr} {own : Own} :
    XR P W0 (⟨d, op, some (g, b)⟩ :: r) K f own = match f g with
      | .bool c => When c b
          (XO P W0 (upd f g (.bool b)) own op fun v own' => XR P W0 r K (updO (upd f g (.bool b)) d v) own')
          (XR P W0 r K (updO (upd f g (.bool (!b))) d undef) own)
      | _ => XR P W0 r K (updO f d undef) own := rfl

/-- A call that hands back one value in every world of the class. -/
structure CallQ (P : Program) (W0 : World) (own : Own) (k : FuncId) (args : List Value) (K : Value → Prop) : Prop where
  h : ∃ v, (∀ w, St W0 own w → Calls P k args.toArray w fun e w' => e = .returned v ∧ St W0 own w') ∧ K v

/-- An operation of a region that draws its order. -/
def XQ (P : Program) (W0 : World) (f : Fr) (own : Own) (op : IOp) (K : Value → Prop) : Prop :=
  match op with
  | .call k args => CallQ P W0 own k (args.map (ev f)) K
  | op => match roOp op with
    | true => XO P W0 f own op fun v _ => K v
    | false => False

noncomputable def XD (P : Program) (W0 : World) (l : List IOpr) : (Fr → Prop) → Fr → Own → Prop :=
  List.rec (motive := fun _ => (Fr → Prop) → Fr → Own → Prop) (fun K f _ => K f) (fun o _ ih K f own => match o with
    | ⟨d, op, none⟩ => XQ P W0 f own op fun v => ih K (updO f d v) own
    | ⟨d, op, some (g, b)⟩ => match f g with
      | .bool c => When c b
          (XQ P W0 (upd f g (.bool b)) own op fun v => ih K (updO (upd f g (.bool b)) d v) own)
          (ih K (updO (upd f g (.bool (!b))) d undef) own)
      | _ => ih K (updO f d undef) own) l
theorem XD_nil {P : Program} {W0 : World} {K : Fr → Prop} {f : Fr} {own : Own} : XD P W0 [] K f own = K f := rfl
theorem XD_none {P : Program} {W0 : World} {d : Option Nat} {op : IOp} {r : List IOpr} {K : Fr → Prop} {f : Fr} {own : Own} :
    XD P W0 (⟨d, op, none⟩ :: r) K f own = XQ P W0 f own op fun v => XD P W0 r K (updO f d v) own := rfl
theorem XD_some {P : Program} {W0 : World} {d : Option Nat} {op : IOp} {g : Nat} {b : Bool} {r : List IOpr} {K : Fr → Prop} {f : Fr} {own : Own} :
    XD P W0 (⟨d, op, some (g, b)⟩ :: r) K f own = match f g with
      | .bool c => When c b
          (XQ P W0 (upd f g (.bool b)) own op fun v => XD P W0 r K (updO (upd f g (.bool b)) d v) own)
          (XD P W0 r K (updO (upd f g (.bool (!b))) d undef) own)
      | _ => XD P W0 r K (updO f d undef) own := rfl

/-- The frame of an activation. -/
structure Rel (n : Nat) (a : Act) (f : Fr) : Prop where
  size : a.tmps.size = n
  get : ∀ t, a.tmps.getD t undef = f t
  defers : a.defers = []

theorem upd_same {f : Fr} {g : Nat} {v : Value} (h : f g = v) : upd f g v = f := by
  funext t
  unfold upd
  cases e : Nat.beq t g
  · rfl
  · rw [Nat.beq_eq] at e
    subst e
    simp [h]

theorem Rel.put {n : Nat} {a : Act} {f : Fr} (h : Rel n a f) {d : Option Nat} (hd : ∀ t, d = some t → t < n) (v : Value) : Rel n (a.put d v) (updO f d v) := by
  cases d with
  | none => exact h
  | some d =>
    have hd := hd d rfl
    refine ⟨by simp [Act.put, h.size], fun t => ?_, h.defers⟩
    simp only [Act.put, updO, upd]
    cases e : Nat.beq t d
    · have hne : t ≠ d := fun e' => by subst e'; simp at e
      simp only [cond_false]
      rw [← h.get t]
      simp only [Array.getD_eq_getD_getElem?]
      rw [Array.getElem?_setIfInBounds_ne (fun h => hne h.symm)]
    · rw [Nat.beq_eq] at e
      subst e
      simp [Array.getD_eq_getD_getElem?, h.size, hd]

/-- The guard as it is lowered. -/
def lowOprOk (ops : Array Oper) (n : Nat) (o : Oper) : Bool :=
  (match o.dst with | some d => decide (d < n) | none => true) &&
  (match o.guard with | some (j, _) => ((ops[j]?).bind (·.dst)).isSome && decide (((ops[j]?).bind (·.dst)).getD n < n) | none => true)

theorem wanted_low {ops : Array Oper} {n : Nat} {o : Oper} {a : Act} {f : Fr} (hr : Rel n a f) (hok : lowOprOk ops n o = true) (P : Program) :
    Region.wanted o (yielded ops a.tmps) = match (lowOpr P ops o).guard with
      | none => true
      | some (g, b) => match f g with | .bool c => c == b | _ => false := by
  unfold Region.wanted lowOpr lowOprOk at *
  cases hg : o.guard with
  | none => simp
  | some jb =>
    obtain ⟨j, b⟩ := jb
    simp only [hg, Bool.and_eq_true, decide_eq_true_eq] at hok
    obtain ⟨_, h1, h2⟩ := hok
    obtain ⟨d, hd⟩ := Option.isSome_iff_exists.1 h1
    simp only [hd, Option.getD_some] at h2
    simp only [hd]
    unfold yielded
    simp only [hd, Option.bind_some]
    have hget := hr.get d
    rw [Array.getD_eq_getD_getElem?] at hget
    rw [← hr.size] at h2
    rw [Array.getElem?_eq_getElem h2] at hget ⊢
    simp only [Option.getD_some] at hget
    rw [← hget]
    cases a.tmps[d] <;> simp

theorem XR_sound {P : Program} {W0 : World} {ops : Array Oper} {n : Nat} {Q : Exit → Act → World → Prop} {K : Fr → Own → Prop}
    (hQ : ∀ f own a w, Rel n a f → St W0 own w → K f own → Q .normal a w) : ∀ (l : List Oper) (f : Fr) (own : Own) (a : Act) (w : World), l.all (lowOprOk ops n) = true →
    Rel n a f → St W0 own w → XR P W0 (l.map (lowOpr P ops)) K f own → wpList P ops Q l a w
  | [], f, own, a, w, _, hr, hs, h => hQ f own a w hr hs h
  | o :: l, f, own, a, w, hok, hr, hs, h => by
    simp only [List.all_cons, Bool.and_eq_true] at hok
    obtain ⟨hok, hokl⟩ := hok
    have hd : ∀ t, o.dst = some t → t < n := fun t ht => by
      unfold lowOprOk at hok
      simp only [ht, Bool.and_eq_true, decide_eq_true_eq] at hok
      exact hok.1
    have hw := wanted_low hr hok P
    have ih := fun f own a w => XR_sound (P := P) (ops := ops) hQ l f own a w hokl
    unfold wpList
    rw [List.map_cons, show lowOpr P ops o = ⟨o.dst, lowOp P o.op, (lowOpr P ops o).guard⟩ from rfl] at h
    generalize (lowOpr P ops o).guard = gd at h hw
    cases gd with
    | none =>
      simp only [XR_none] at h hw
      rw [if_pos hw]
      exact .inl ((XO_sound rfl hs h).wp hr.get hs fun v own' w' hs' hk => ih _ _ _ _ (hr.put hd v) hs' hk)
    | some gb =>
      obtain ⟨g, b⟩ := gb
      simp only [XR_some] at h hw
      rw [hw]
      cases hfg : f g with
      | bool c =>
        rw [hfg] at h
        simp only at h
        by_cases hcb : c = b
        · subst hcb
          have hsame := upd_same hfg
          have hy := h.y rfl
          rw [hsame] at hy
          simp only [beq_self_eq_true, if_true]
          exact .inl ((XO_sound rfl hs hy).wp hr.get hs fun v own' w' hs' hk => ih _ _ _ _ (hr.put hd v) hs' hk)
        · have hcb' : c = !b := by cases c <;> cases b <;> simp_all
          have hn := h.n hcb'
          rw [← hcb', upd_same hfg] at hn
          have hne : (c == b) = false := by simpa using hcb
          simp only [hne, Bool.false_eq_true, if_false]
          exact ih _ _ _ _ (hr.put hd undef) hs hn
      | _ =>
        rw [hfg] at h
        simp only [Bool.false_eq_true, if_false] at h ⊢
        exact ih _ _ _ _ (hr.put hd undef) hs h

theorem XQ_sound {P : Program} {W0 : World} {own : Own} {f : Fr} {a : Act} {o : Oper} {K : Value → Prop} (hf : ∀ t, a.tmps.getD t undef = f t) (hx : XQ P W0 f own (lowOp P o.op) K) :
    ∃ v, (∀ w, St W0 own w → o.quietAt P a (St W0 own) w v) ∧ K v := by
  have ro : ∀ io, lowOp P o.op = io → roOp io = true → XO P W0 f own io (fun v _ => K v) → ∃ v, (∀ w, St W0 own w → o.quietAt P a (St W0 own) w v) ∧ K v := by
    intro io hio hro hx
    obtain ⟨v, hk, hv⟩ := XO_quiet hio hro hx
    refine ⟨v, fun w hw => ?_, hk⟩
    unfold Oper.quietAt
    rw [ev_eq hf, hv w hw]
    exact ⟨rfl, rfl⟩
  unfold XQ at hx
  split at hx
  · rename_i k args hio
    obtain ⟨v, hc, hk⟩ := hx.h
    refine ⟨v, fun w hw => ?_, hk⟩
    unfold Oper.quietAt
    rw [ev_eq hf, lowOp_call_run hio]
    exact ⟨rfl, hc w hw⟩
  · split at hx
    · exact ro _ rfl (by assumption) hx
    · exact hx.elim

theorem XD_sound {P : Program} {W0 : World} {own : Own} {ops : Array Oper} {n : Nat} {Q : Exit → Act → World → Prop} {K : Fr → Prop}
    (hQ : ∀ f a w, Rel n a f → St W0 own w → K f → Q .normal a w) : ∀ (l : List Oper) (f : Fr) (a : Act), l.all (lowOprOk ops n) = true →
    Rel n a f → XD P W0 (l.map (lowOpr P ops)) K f own → wpQuiet P ops (St W0 own) (fun a' => ∀ w', St W0 own w' → Q .normal a' w') l a
  | [], f, a, _, hr, h => fun w hw => hQ f a w hr hw h
  | o :: l, f, a, hok, hr, h => by
    simp only [List.all_cons, Bool.and_eq_true] at hok
    obtain ⟨hok, hokl⟩ := hok
    have hd : ∀ t, o.dst = some t → t < n := fun t ht => by
      unfold lowOprOk at hok
      simp only [ht, Bool.and_eq_true, decide_eq_true_eq] at hok
      exact hok.1
    have hw := wanted_low hr hok P
    have ih := fun f a => XD_sound (P := P) (ops := ops) hQ l f a hokl
    unfold wpQuiet
    rw [List.map_cons, show lowOpr P ops o = ⟨o.dst, lowOp P o.op, (lowOpr P ops o).guard⟩ from rfl] at h
    generalize (lowOpr P ops o).guard = gd at h hw
    cases gd with
    | none =>
      simp only [XD_none] at h hw
      rw [if_pos hw]
      obtain ⟨v, hv, hk⟩ := XQ_sound hr.get h
      exact ⟨v, hv, ih _ _ (hr.put hd v) hk⟩
    | some gb =>
      obtain ⟨g, b⟩ := gb
      simp only [XD_some] at h hw
      rw [hw]
      cases hfg : f g with
      | bool c =>
        rw [hfg] at h
        simp only at h
        by_cases hcb : c = b
        · subst hcb
          have hsame := upd_same hfg
          have hy := h.y rfl
          rw [hsame] at hy
          simp only [beq_self_eq_true, if_true]
          obtain ⟨v, hv, hk⟩ := XQ_sound hr.get hy
          exact ⟨v, hv, ih _ _ (hr.put hd v) hk⟩
        · have hcb' : c = !b := by cases c <;> cases b <;> simp_all
          have hn := h.n hcb'
          rw [← hcb', upd_same hfg] at hn
          have hne : (c == b) = false := by simpa using hcb
          simp only [hne, Bool.false_eq_true, if_false]
          exact ih _ _ (hr.put hd undef) hn
      | _ =>
        rw [hfg] at h
        simp only [Bool.false_eq_true, if_false] at h ⊢
        exact ih _ _ (hr.put hd undef) h

end Go.Proofs.Ytcelbfijiebjhaa
