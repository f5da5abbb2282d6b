/- What the laws of this seat share, part 7: contracts of the functions, plain laws, and the rules of their proofs. No condition. -/
import Derived.Deep.QuietTactic
import Derived.Test.YtiimndcifcoofaaGreatDoorZ6
namespace Go.Proofs.YtiimndcifcoofaaGreatDoor
open Go
section
variable {P : Program} {W0 : World} {f : Fr} {own : Own} {K K' : Value → Own → Prop}
theorem binInt_mono {op : BinOp} {k k' : IntKind} {m n : Int} {K K' : Value → Prop} (hk : ∀ v, K v → K' v) (h : binInt op k m k' n K) : binInt op k m k' n K' := by
  cases op <;> simp only [binInt] at h ⊢
  case add | sub | mul => obtain ⟨rfl, g⟩ := h.h; exact .mk ⟨hk _ g.h⟩
  case quo | rem => obtain ⟨rfl, g⟩ := h.h; exact .mk ⟨g.h.1, hk _ g.h.2⟩
  case shl | shr => exact ⟨h.h.1, hk _ h.h.2⟩
  case and | or | xor | andNot => obtain ⟨rfl, g⟩ := h.h; exact .mk ⟨hk _ g.h⟩
  all_goals (obtain ⟨rfl, g⟩ := h.h; exact .mk (hk _ g))
theorem binInt_fix {op : BinOp} {k k' : IntKind} {m n : Int} {K : Value → Prop} (h : binInt op k m k' n K) : ∃ v, K v ∧ binInt op k m k' n (fun v' => v' = v) := by
  cases op <;> simp only [binInt] at h ⊢
  case add | sub | mul => obtain ⟨rfl, g⟩ := h.h; exact ⟨_, g.h, .mk ⟨rfl⟩⟩
  case quo | rem => obtain ⟨rfl, g⟩ := h.h; exact ⟨_, g.h.2, .mk ⟨g.h.1, rfl⟩⟩
  case shl | shr => exact ⟨_, h.h.2, ⟨h.h.1, rfl⟩⟩
  case and | or | xor | andNot => obtain ⟨rfl, g⟩ := h.h; exact ⟨_, g.h, .mk ⟨rfl⟩⟩
  all_goals (obtain ⟨rfl, g⟩ := h.h; exact ⟨_, g, .mk rfl⟩)
theorem Bld_mono : ∀ (l : List (Nat × Nat × Operand)) (cs : List Value) {K K' : List Value → Prop}, (∀ cs, K cs → K' cs) → Bld f l cs K → Bld f l cs K'
  | [], cs, K, K', hk, h => hk cs h
  | (off, sz, x) :: l, cs, K, K', hk, h => by
    rw [Bld_cons] at h ⊢
    split at h
    · split at h
      · exact Bld_mono l _ hk h
      · exact h.elim
    · rename_i v hne
      have h' := Mv.h (K := fun v => (match Nat.beq sz 1 with | true => Bld f l (cs.set off v) K | false => False)) h
      refine Mv.mk ?_
      split at h'
      · rename_i hb; first | exact Bld_mono l _ hk h' | (rw [hb]; exact Bld_mono l _ hk h')
      · exact h'.elim
theorem Bld_fix : ∀ (l : List (Nat × Nat × Operand)) (cs : List Value) {K : List Value → Prop}, Bld f l cs K → ∃ c', K c' ∧ Bld f l cs (fun x => x = c')
  | [], cs, K, h => ⟨cs, h, rfl⟩
  | (off, sz, x) :: l, cs, K, h => by
    rw [Bld_cons] at h
    split at h
    · rename_i vs hx
      split at h
      · rename_i hb
        obtain ⟨c', h1, h2⟩ := Bld_fix l _ h
        refine ⟨c', h1, ?_⟩
        rw [Bld_cons, hx]
        simp only [hb]
        exact h2
      · exact h.elim
    · rename_i v hne
      have h' := Mv.h (K := fun v => (match Nat.beq sz 1 with | true => Bld f l (cs.set off v) K | false => False)) h
      split at h'
      · rename_i hb
        obtain ⟨c', h1, h2⟩ := Bld_fix l _ h'
        refine ⟨c', h1, ?_⟩
        rw [Bld_cons]
        split
        · rename_i vs hx; exact (hne vs hx).elim
        · refine Mv.mk ?_
          rw [hb]
          exact h2
      · exact h'.elim
theorem XO_mono {io : IOp} (hk : ∀ v own, K v own → K' v own) (h : XO P W0 f own io K) : XO P W0 f own io K' := by
  cases io <;> simp only [XO] at h ⊢
  case mov => exact .mk (hk _ _ h.h)
  case pick => split at h <;> first | exact .mk (hk _ _ h.h) | exact h.elim
  case bin => split at h <;> first | exact binInt_mono (fun v => hk v own) h | exact h.elim
  case beq => split at h <;> first | exact hk _ _ h | exact h.elim
  case not => split at h <;> first | exact hk _ _ h | exact h.elim
  case sbin => split at h <;> first | (unfold binStr at h ⊢; split <;> simp_all) | exact h.elim
  case fbin => split at h <;> first | exact ⟨hk _ _ h.h⟩ | exact h.elim
  case flt => split at h <;> first | exact ⟨fun r hr => hk _ _ (h.h.1 r hr), fun hn r hr => hk _ _ (h.h.2 hn r hr)⟩ | exact h.elim
  case i2f => split at h <;> first | exact hk _ _ h | exact h.elim
  case f2i => split at h <;> first | (obtain ⟨n, hn, h⟩ := h.h; exact ⟨n, hn, hk _ _ h⟩) | exact h.elim
  case fbits => split at h <;> first | exact hk _ _ h | exact h.elim
  case ffrom => split at h <;> first | exact hk _ _ h | exact h.elim
  case fpk => split at h <;> first | exact hk _ _ h | exact h.elim
  case neg => split at h <;> first | exact ⟨hk _ _ h.h⟩ | exact h.elim
  case conv => split at h <;> first | exact ⟨hk _ _ h.h⟩ | exact h.elim
  case fad => split at h <;> first | exact hk _ _ h | exact h.elim
  case fld => split at h <;> first | (obtain ⟨v, hv, h⟩ := h.h; exact ⟨v, hv, hk _ _ h⟩) | exact h.elim
  case fldN => split at h <;> first | exact ⟨hk _ _ h.h⟩ | exact h.elim
  case ixs => split at h <;> first | (obtain ⟨v, b, o, h1, h2, h3, h⟩ := h.h; exact ⟨v, b, o, h1, h2, h3, hk _ _ h⟩) | exact h.elim
  case sls => split at h <;> first | (obtain ⟨l, r, m, h1, h2, h3, h4, h5, h6, h7, h⟩ := h.h; exact ⟨l, r, m, h1, h2, h3, h4, h5, h6, h7, hk _ _ h⟩) | exact h.elim
  case sslc => split at h <;> first | (obtain ⟨l, r, h1, h2, h3, h4, h⟩ := h.h; exact ⟨l, r, h1, h2, h3, h4, hk _ _ h⟩) | exact h.elim
  case sidx => split at h <;> first | (obtain ⟨j, b, h1, h2, h⟩ := h.h; exact ⟨j, b, h1, h2, hk _ _ h⟩) | exact h.elim
  case scat => split at h <;> first | exact ⟨h.h.1, hk _ _ h.h.2⟩ | exact h.elim
  case ibs => split at h <;> first | exact hk _ _ h | exact h.elim
  case capb => split at h <;> first | exact hk _ _ h | exact h.elim
  case nilq => split at h <;> first | exact hk _ _ h | exact h.elim
  case nifc => split at h <;> first | exact hk _ _ h | exact h.elim
  case iter => split at h <;> first | exact ⟨fun b hb hl => hk _ _ (h.h b hb hl)⟩ | exact h.elim
  case next => split at h <;> first | (obtain ⟨s, pos, h1, h2, h3⟩ := h.h; exact ⟨s, pos, h1, fun hl => (let ⟨o', a, b⟩ := h2 hl; ⟨o', a, hk _ _ b⟩), fun hl => hk _ _ (h3 hl)⟩) | exact h.elim
  case ageq => split at h <;> first | (obtain ⟨r, h1, h⟩ := h.h; exact ⟨r, h1, hk _ _ h⟩) | exact h.elim
  case mkm => exact ⟨fun b hb => hk _ _ (h.h b hb)⟩
  case mlk => split at h <;> first | exact hk _ _ h | (obtain ⟨l, r, h1, h2, h⟩ := h.h; exact ⟨l, r, h1, h2, hk _ _ h⟩) | exact h.elim
  case mup => split at h <;> first | (obtain ⟨l, o', h1, h2, h⟩ := h.h; exact ⟨l, o', h1, h2, hk _ _ h⟩) | exact h.elim
  case mkf => exact hk _ _ h
  case mk => split at h <;> first | (obtain ⟨l, c, h1, h2, h3, h4, h⟩ := h.h; exact ⟨l, c, h1, h2, h3, h4, fun b hb => hk _ _ (h b hb)⟩) | exact h.elim
  case app => split at h <;> first | (obtain ⟨cs, ys, h1, h2, h3, h4, h5, h6, h7, h8, h9⟩ := h.h; exact ⟨cs, ys, h1, h2, h3, h4, h5, h6, h7, fun hl => (let ⟨o', a, b⟩ := h8 hl; ⟨o', a, hk _ _ b⟩), fun hl => ⟨(h9 hl).1, fun b c' hb hc => (let ⟨o', a, b⟩ := (h9 hl).2 b c' hb hc; ⟨o', a, hk _ _ b⟩)⟩⟩) | exact h.elim
  case appz => split at h <;> first | (obtain ⟨h1, h2, m', h3, h4, h5, h6⟩ := h.h; exact ⟨h1, h2, m', h3, h4, h5, fun b c' hb hc => hk _ _ (h6 b c' hb hc)⟩) | exact h.elim
  case clr => split at h <;> first | (obtain ⟨h1, o', h2, h3⟩ := h.h; exact ⟨h1, o', h2, hk _ _ h3⟩) | exact hk _ _ h | exact h.elim
  case callv => split at h <;> first | exact ⟨h.h.1, ⟨fun w hw => (h.h.2.h w hw).mono fun e w' ⟨v, o', he, hs, h⟩ => ⟨v, o', he, hs, hk _ _ h⟩⟩⟩ | exact ⟨fun w hw => (h.h w hw).imp fun k h => h.imp fun t h => h.imp fun a h => h.imp fun b h => ⟨h.1, h.2.mono fun e w' ⟨v, o', he, hs, h⟩ => ⟨v, o', he, hs, hk _ _ h⟩⟩⟩ | exact h.elim
  case ixa => split at h <;> first | (obtain ⟨v, h1, h2, h⟩ := h.h; exact ⟨v, h1, h2, hk _ _ h⟩) | exact h.elim
  case idx => split at h <;> first | (obtain ⟨j, h1, h2, h⟩ := h.h; obtain ⟨v, hv, h⟩ := h.h; exact ⟨j, h1, h2, v, hv, hk _ _ h⟩) | exact h.elim
  case idxN => split at h <;> first | (obtain ⟨j, h1, h2, h⟩ := h.h; exact ⟨j, h1, h2, ⟨hk _ _ h.h⟩⟩) | exact h.elim
  case ld => split at h <;> first | (obtain ⟨v, hv, h⟩ := h.h; exact ⟨v, hv, hk _ _ h⟩) | exact h.elim
  case ldN => split at h <;> first | (obtain ⟨v, hl, hv, h⟩ := h.h; exact ⟨v, hl, hv, hk _ _ h⟩) | exact h.elim
  case st => split at h <;> first | (obtain ⟨h1, o', h2, h⟩ := h.h.h; exact .mk ⟨h1, o', h2, hk _ _ h⟩) | exact h.elim
  case stN => split at h <;> first | (obtain ⟨h0, ⟨h1, o', h2, h⟩⟩ := h; exact ⟨h0, ⟨h1, o', h2, hk _ _ h⟩⟩) | exact h.elim
  case box => split at h <;> first | exact ⟨fun b hb hl => hk _ _ (h.h b hb hl)⟩ | exact .mk ⟨fun b hb hl => hk _ _ (h.h.h b hb hl)⟩
  case new => split at h <;> exact ⟨fun b hb hl => hk _ _ (h.h b hb hl)⟩
  case ext => split at h <;> first | (obtain ⟨v, hv, h⟩ := h.h; exact ⟨v, hv, hk _ _ h⟩) | exact h.elim
  case len => split at h <;> first | exact hk _ _ h | exact h.elim
  case lens => split at h <;> first | exact hk _ _ h | exact h.elim
  case nilc => split at h <;> first | exact hk _ _ h | exact h.elim
  case mm => split at h <;> first | exact ⟨hk _ _ h.h⟩ | exact h.elim
  case bld => exact Bld_mono _ _ (fun cs h => hk _ _ h) h
  case blds => exact Bld_mono _ _ (fun cs h => ⟨fun b hb hl => hk _ _ (h.h b hb hl)⟩) h
  case call => exact ⟨fun w hw => (h.h w hw).mono fun e w' ⟨v, o', he, hs, h⟩ => ⟨v, o', he, hs, hk _ _ h⟩⟩
theorem XO_fix {io : IOp} (hr : roOp io = true) (h : XO P W0 f own io K) : ∃ v, K v own ∧ XO P W0 f own io (fun v' _ => v' = v) := by
  cases io <;> simp only [XO] at h ⊢ <;> (try simp [roOp] at hr)
  case mov => exact ⟨_, h.h, .mk rfl⟩
  case pick => split at h <;> first | exact ⟨_, h.h, .mk rfl⟩ | exact h.elim
  case bin => split at h <;> first | exact binInt_fix h | exact h.elim
  case beq => split at h <;> first | exact ⟨_, h, rfl⟩ | exact h.elim
  case not => split at h <;> first | exact ⟨_, h, rfl⟩ | exact h.elim
  case sbin => split at h <;> first | (unfold binStr at h ⊢; split at h <;> first | exact ⟨_, h, rfl⟩ | exact h.elim) | exact h.elim
  case fbin => split at h <;> first | exact ⟨_, h.h, ⟨rfl⟩⟩ | exact h.elim
  case i2f => split at h <;> first | exact ⟨_, h, rfl⟩ | exact h.elim
  case f2i => split at h <;> first | (obtain ⟨n, hn, h⟩ := h.h; exact ⟨_, h, ⟨n, hn, rfl⟩⟩) | exact h.elim
  case fbits => split at h <;> first | exact ⟨_, h, rfl⟩ | exact h.elim
  case ffrom => split at h <;> first | exact ⟨_, h, rfl⟩ | exact h.elim
  case fpk => split at h <;> first | exact ⟨_, h, rfl⟩ | exact h.elim
  case neg => split at h <;> first | exact ⟨_, h.h, ⟨rfl⟩⟩ | exact h.elim
  case conv => split at h <;> first | exact ⟨_, h.h, ⟨rfl⟩⟩ | exact h.elim
  case fad => split at h <;> first | exact ⟨_, h, rfl⟩ | exact h.elim
  case fld => split at h <;> first | (obtain ⟨v, hv, h⟩ := h.h; exact ⟨_, h, ⟨v, hv, rfl⟩⟩) | exact h.elim
  case fldN => split at h <;> first | exact ⟨_, h.h, ⟨rfl⟩⟩ | exact h.elim
  case ixs => split at h <;> first | (obtain ⟨v, b, o, h1, h2, h3, h⟩ := h.h; exact ⟨_, h, ⟨v, b, o, h1, h2, h3, rfl⟩⟩) | exact h.elim
  case sls => split at h <;> first | (obtain ⟨l, r, m, h1, h2, h3, h4, h5, h6, h7, h⟩ := h.h; exact ⟨_, h, ⟨l, r, m, h1, h2, h3, h4, h5, h6, h7, rfl⟩⟩) | exact h.elim
  case sslc => split at h <;> first | (obtain ⟨l, r, h1, h2, h3, h4, h⟩ := h.h; exact ⟨_, h, ⟨l, r, h1, h2, h3, h4, rfl⟩⟩) | exact h.elim
  case sidx => split at h <;> first | (obtain ⟨j, b, h1, h2, h⟩ := h.h; exact ⟨_, h, ⟨j, b, h1, h2, rfl⟩⟩) | exact h.elim
  case scat => split at h <;> first | exact ⟨_, h.h.2, ⟨h.h.1, rfl⟩⟩ | exact h.elim
  case ibs => split at h <;> first | exact ⟨_, h, rfl⟩ | exact h.elim
  case capb => split at h <;> first | exact ⟨_, h, rfl⟩ | exact h.elim
  case nilq => split at h <;> first | exact ⟨_, h, rfl⟩ | exact h.elim
  case nifc => split at h <;> first | exact ⟨_, h, rfl⟩ | exact h.elim
  case ageq => split at h <;> first | (obtain ⟨r, h1, h⟩ := h.h; exact ⟨_, h, ⟨r, h1, rfl⟩⟩) | exact h.elim
  case mlk => split at h <;> first | exact ⟨_, h, rfl⟩ | (obtain ⟨l, r, h1, h2, h⟩ := h.h; exact ⟨_, h, ⟨l, r, h1, h2, rfl⟩⟩) | exact h.elim
  case mkf => exact ⟨_, h, rfl⟩
  case ixa => split at h <;> first | (obtain ⟨v, h1, h2, h⟩ := h.h; exact ⟨_, h, ⟨v, h1, h2, rfl⟩⟩) | exact h.elim
  case idx => split at h <;> first | (obtain ⟨j, h1, h2, h⟩ := h.h; obtain ⟨v, hv, h⟩ := h.h; exact ⟨_, h, ⟨j, h1, h2, ⟨v, hv, rfl⟩⟩⟩) | exact h.elim
  case idxN => split at h <;> first | (obtain ⟨j, h1, h2, h⟩ := h.h; exact ⟨_, h.h, ⟨j, h1, h2, ⟨rfl⟩⟩⟩) | exact h.elim
  case ld => split at h <;> first | (obtain ⟨v, hv, h⟩ := h.h; exact ⟨_, h, ⟨v, hv, rfl⟩⟩) | exact h.elim
  case ldN => split at h <;> first | (obtain ⟨v, hl, hv, h⟩ := h.h; exact ⟨_, h, ⟨v, hl, hv, rfl⟩⟩) | exact h.elim
  case ext => split at h <;> first | (obtain ⟨v, hv, h⟩ := h.h; exact ⟨_, h, ⟨v, hv, rfl⟩⟩) | exact h.elim
  case len => split at h <;> first | exact ⟨_, h, rfl⟩ | exact h.elim
  case lens => split at h <;> first | exact ⟨_, h, rfl⟩ | exact h.elim
  case nilc => split at h <;> first | exact ⟨_, h, rfl⟩ | exact h.elim
  case mm => split at h <;> first | exact ⟨_, h.h, ⟨rfl⟩⟩ | exact h.elim
  case bld =>
    obtain ⟨c', h1, h2⟩ := Bld_fix _ _ h
    exact ⟨_, h1, Bld_mono _ _ (fun cs hc => by rw [hc]) h2⟩
end
/- REGIONS -/
/-- Operations one behind the other. (Typed by the recursor itself: so the kernel and the elaborator lay it open to the same form.) -/
noncomputable def XR (P : Program) (W0 : World) (l : List IOpr) : (Fr → Own → Prop) → Fr → Own → Prop :=
  List.rec (motive := fun _ => (Fr → Own → Prop) → Fr → Own → Prop) (fun K f own => K f own) (fun o _ ih K f own => match o with
    | ⟨d, op, none⟩ => XO P W0 f own op fun v own' => ih K (updO f d v) own'
    | ⟨d, op, some (g, b)⟩ => match f g with
      | .bool c => When c b
          (XO P W0 (upd f g (.bool b)) own op fun v own' => ih K (updO (upd f g (.bool b)) d v) own')
          (ih K (updO (upd f g (.bool (!b))) d undef) own)
      | _ => ih K (updO f d undef) own) l
theorem XR_none {P : Program} {W0 : World} {d : Option Nat} {op : IOp} {r : List IOpr} {K : Fr → Own → Prop} {f : Fr} {own : Own} :
    XR P W0 (⟨d, op, none⟩ :: r) K f own = XO P W0 f own op fun v own' => XR P W0 r K (updO f d v) own' := rfl
theorem XR_some {P : Program} {W0 : World} {d : Option Nat} {op : IOp} {g : Nat} {b : Bool} {r : List IOpr} {K : Fr → Own → Prop} {f : Fr} {own : Own} :
    XR P W0 (⟨d, op, some (g, b)⟩ :: r) K f own = match f g with
      | .bool c => When c b
          (XO P W0 (upd f g (.bool b)) own op fun v own' => XR P W0 r K (updO (upd f g (.bool b)) d v) own')
          (XR P W0 r K (updO (upd f g (.bool (!b))) d undef) own)
      | _ => XR P W0 r K (updO f d undef) own := rfl
/-- A call that hands back one value in every world of the class, and of the class with blocks added. -/
structure CallQ (P : Program) (W0 : World) (own : Own) (k : FuncId) (args : List Value) (K : Value → Prop) : Prop where
  h : ∃ v, (∀ ex w, St W0 (ex ++ own) w → Calls P k args.toArray w fun e w' => e = .returned v ∧ St W0 (ex ++ own) w') ∧ K v
/-- An operation of a region that draws its order, which leaves the class alone. -/
def XQ (P : Program) (W0 : World) (f : Fr) (own : Own) (op : IOp) (K : Value → Prop) : Prop :=
  match op with
  | .call k args => CallQ P W0 own k (args.map (ev f)) K
  | op => match roOp op with
    | true => XO P W0 f own op fun v _ => K v
    | false => False
/-- A guard. -/
def XG (gd : Option (Nat × Bool)) (f : Fr) (Y N : Fr → Prop) : Prop :=
  match gd with
  | none => Y f
  | some (g, b) => match f g with
    | .bool c => When c b (Y (upd f g (.bool b))) (N (upd f g (.bool (!b))))
    | _ => N f
/-- The orders of a region that draws its order, as far as they differ. -/
inductive DT
  | done
  | f (o : IOpr) (r : DT)
  | m (o : IOpr) (r : DT)
  | both (a b : DT)
  | tt
  | bad
structure Both (A B : Prop) : Prop where
  l : A
  r : B
noncomputable def XD (P : Program) (W0 : World) (t : DT) : (Fr → Own → Prop) → Fr → Own → Prop :=
  DT.rec (motive := fun _ => (Fr → Own → Prop) → Fr → Own → Prop) (fun K f own => K f own)
    (fun o _ ih K f own => XG o.guard f (fun f => XQ P W0 f own o.op fun v => ih K (updO f o.dst v) own) (fun f => ih K (updO f o.dst undef) own))
    (fun o _ ih K f own => XG o.guard f (fun f => XO P W0 f own o.op fun v own' => ih K (updO f o.dst v) own') (fun f => ih K (updO f o.dst undef) own))
    (fun _ _ a b K f own => Both (a K f own) (b K f own))
    (fun _ _ _ => True) (fun _ _ _ => False) t
theorem XD_f {P : Program} {W0 : World} {o : IOpr} {r : DT} {K : Fr → Own → Prop} {f : Fr} {own : Own} :
    XD P W0 (.f o r) K f own = XG o.guard f (fun f => XQ P W0 f own o.op fun v => XD P W0 r K (updO f o.dst v) own) (fun f => XD P W0 r K (updO f o.dst undef) own) := rfl
theorem XD_m {P : Program} {W0 : World} {o : IOpr} {r : DT} {K : Fr → Own → Prop} {f : Fr} {own : Own} :
    XD P W0 (.m o r) K f own = XG o.guard f (fun f => XO P W0 f own o.op fun v own' => XD P W0 r K (updO f o.dst v) own') (fun f => XD P W0 r K (updO f o.dst undef) own) := rfl
/-- The frame of an activation. -/
structure Rel (n : Nat) (ds : List Deferred) (a : Act) (f : Fr) : Prop where
  size : a.tmps.size = n
  get : ∀ t, a.tmps.getD t undef = f t
  defers : a.defers = ds
theorem upd_same {f : Fr} {g : Nat} {v : Value} (h : f g = v) : upd f g v = f := by
  funext t
  unfold upd
  cases e : Nat.beq t g
  · rfl
  · rw [Nat.beq_eq] at e
    subst e
    simp [h]
theorem Rel.put {ds : List Deferred} {n : Nat} {a : Act} {f : Fr} (h : Rel n ds a f) {d : Option Nat} (hd : ∀ t, d = some t → t < n) (v : Value) : Rel n ds (a.put d v) (updO f d v) := by
  cases d with
  | none => exact h
  | some d =>
    have hd := hd d rfl
    refine ⟨by simp [Act.put, h.size], fun t => ?_, h.defers⟩
    simp only [Act.put, updO, upd]
    cases e : Nat.beq t d
    · have hne : t ≠ d := fun e' => by subst e'; simp at e
      simp only [cond_false]
      rw [← h.get t]
      simp only [Array.getD_eq_getD_getElem?]
      rw [Array.getElem?_setIfInBounds_ne (fun h => hne h.symm)]
    · rw [Nat.beq_eq] at e
      subst e
      simp [Array.getD_eq_getD_getElem?, h.size, hd]
/-- The guard as it is lowered. -/
def lowOprOk (ops : Array Oper) (n : Nat) (o : Oper) : Bool :=
  (match o.dst with | some d => decide (d < n) | none => true) &&
  (match o.guard with | some (j, _) => ((ops[j]?).bind (·.dst)).isSome && decide (((ops[j]?).bind (·.dst)).getD n < n) | none => true)
theorem wanted_low {ds : List Deferred} {ops : Array Oper} {n : Nat} {o : Oper} {a : Act} {f : Fr} (hr : Rel n ds a f) (hok : lowOprOk ops n o = true) (P : Program) :
    Region.wanted o (yielded ops a.tmps) = match (lowOpr P ops o).guard with
      | none => true
      | some (g, b) => match f g with | .bool c => c == b | _ => false := by
  unfold Region.wanted lowOpr lowOprOk at *
  cases hg : o.guard with
  | none => simp
  | some jb =>
    obtain ⟨j, b⟩ := jb
    simp only [hg, Bool.and_eq_true, decide_eq_true_eq] at hok
    obtain ⟨_, h1, h2⟩ := hok
    obtain ⟨d, hd⟩ := Option.isSome_iff_exists.1 h1
    simp only [hd, Option.getD_some] at h2
    simp only [hd]
    unfold yielded
    simp only [hd, Option.bind_some]
    have hget := hr.get d
    rw [Array.getD_eq_getD_getElem?] at hget
    rw [← hr.size] at h2
    rw [Array.getElem?_eq_getElem h2] at hget ⊢
    simp only [Option.getD_some] at hget
    rw [← hget]
    cases a.tmps[d] <;> simp
theorem Does.wpIn {P : Program} {a : Act} {f : Fr} {o : Oper} {w : World} {own : Own} {W0 : World} {K : Value → Own → Prop} {ro : Bool} {next : Act → World → Prop} {Q : Exit → Act → World → Prop} {r : Option Nat} {m : Nat}
    (hf : ∀ t, a.tmps.getD t undef = f t) (hS : St W0 own w) (h : Does P f o w own W0 K ro) (hn : ∀ v own' w', St W0 own' w' → K v own' → next (a.put o.dst v) w') : o.wpIn (WF r) m P a w next Q := by
  unfold Oper.wpIn
  refine ⟨fun _ _ => trivial, ?_⟩
  rw [ev_eq hf]
  rcases h with ⟨v, hr, hk⟩ | ⟨_, ⟨v, w', own', hr, hs, hk⟩ | ⟨w', own', hr, hs, hk⟩ | ⟨k, args, hr, hc⟩ | ⟨l, k, tmps, assign, body, hr, hc⟩⟩
  all_goals rw [semAt_WF (fun d w' e => by rw [hr] at e; cases e) (fun x w' e => by rw [hr] at e; cases e), hr]
  · exact hn _ _ _ hS hk
  · exact hn _ _ _ hs hk
  · exact hn _ _ _ hs hk
  · rw [Oper.uponIn_enter]
    have hc' := hc.h w hS
    simp only [Array.toArray_toList] at hc'
    refine ⟨fun h => (by cases h), callsIn_WF (hc'.mono fun e w' h => ?_)⟩
    obtain ⟨v, own', rfl, hs, hk⟩ := h
    exact hn _ _ _ hs hk
  · rw [Oper.uponIn_round]
    refine ⟨fun h => (by cases h), roundIn_WF (hc.mono fun e w' h => ?_)⟩
    obtain ⟨v, own', rfl, hs, hk⟩ := h
    exact hn _ _ _ hs hk
theorem XR_sound {ds : List Deferred} {P : Program} {W0 : World} {ops : Array Oper} {n : Nat} {Q : Exit → Act → World → Prop} {K : Fr → Own → Prop} {r : Option Nat} {m : Nat}
    (hQ : ∀ f own a w, Rel n ds a f → St W0 own w → K f own → Q .normal a w) : ∀ (l : List Oper) (f : Fr) (own : Own) (a : Act) (w : World), l.all (lowOprOk ops n) = true →
    Rel n ds a f → St W0 own w → XR P W0 (l.map (lowOpr P ops)) K f own → wpListIn (WF r) m P ops Q l a w
  | [], f, own, a, w, _, hr, hs, h => hQ f own a w hr hs h
  | o :: l, f, own, a, w, hok, hr, hs, h => by
    simp only [List.all_cons, Bool.and_eq_true] at hok
    obtain ⟨hok, hokl⟩ := hok
    have hd : ∀ t, o.dst = some t → t < n := fun t ht => by
      unfold lowOprOk at hok
      simp only [ht, Bool.and_eq_true, decide_eq_true_eq] at hok
      exact hok.1
    have hw := wanted_low hr hok P
    have ih := fun f own a w => XR_sound (P := P) (ops := ops) (r := r) (m := m) hQ l f own a w hokl
    unfold wpListIn
    rw [List.map_cons, show lowOpr P ops o = ⟨o.dst, lowOp P o.op, (lowOpr P ops o).guard⟩ from rfl] at h
    generalize (lowOpr P ops o).guard = gd at h hw
    cases gd with
    | none =>
      simp only [XR_none] at h hw
      rw [if_pos hw]
      exact ((XO_sound rfl hs h).wpIn hr.get hs fun v own' w' hs' hk => ih _ _ _ _ (hr.put hd v) hs' hk)
    | some gb =>
      obtain ⟨g, b⟩ := gb
      simp only [XR_some] at h hw
      rw [hw]
      cases hfg : f g with
      | bool c =>
        rw [hfg] at h
        simp only at h
        by_cases hcb : c = b
        · subst hcb
          have hsame := upd_same hfg
          have hy := h.y rfl
          rw [hsame] at hy
          simp only [beq_self_eq_true, if_true]
          exact ((XO_sound rfl hs hy).wpIn hr.get hs fun v own' w' hs' hk => ih _ _ _ _ (hr.put hd v) hs' hk)
        · have hcb' : c = !b := by cases c <;> cases b <;> simp_all
          have hn := h.n hcb'
          rw [← hcb', upd_same hfg] at hn
          have hne : (c == b) = false := by simpa using hcb
          simp only [hne, Bool.false_eq_true, if_false]
          exact ⟨fun _ _ => trivial, ih _ _ _ _ (hr.put hd undef) hs hn⟩
      | _ =>
        rw [hfg] at h
        simp only [Bool.false_eq_true, if_false] at h ⊢
        exact ⟨fun _ _ => trivial, ih _ _ _ _ (hr.put hd undef) hs h⟩
theorem XG_sound {ds : List Deferred} {ops : Array Oper} {n : Nat} {o : Oper} {a : Act} {f : Fr} (hr : Rel n ds a f) (hok : lowOprOk ops n o = true) {P : Program} {Y N : Fr → Prop} (h : XG (lowOpr P ops o).guard f Y N) :
    (Region.wanted o (yielded ops a.tmps) = true ∧ Y f) ∨ (Region.wanted o (yielded ops a.tmps) = false ∧ N f) := by
  have hw := wanted_low hr hok P
  generalize (lowOpr P ops o).guard = gd at h hw
  cases gd with
  | none => exact .inl ⟨hw, h⟩
  | some gb =>
    obtain ⟨g, b⟩ := gb
    simp only [XG] at h hw
    cases hfg : f g with
    | bool c =>
      rw [hfg] at h hw
      simp only at h hw
      by_cases hcb : c = b
      · subst hcb
        have hy := h.y rfl
        rw [upd_same hfg] at hy
        exact .inl ⟨by simpa using hw, hy⟩
      · have hcb' : c = !b := by cases c <;> cases b <;> simp_all
        have hn := h.n hcb'
        rw [← hcb', upd_same hfg] at hn
        exact .inr ⟨by rw [hw]; simpa using hcb, hn⟩
    | _ => rw [hfg] at h hw; exact .inr ⟨hw, h⟩
/-- What does not look at the world. -/
def tlOp (io : IOp) : Bool := roOp io && (match io with | .ld _ | .ldN _ _ | .mlk _ _ _ _ _ => false | _ => true)
theorem XO_tl {P : Program} {W0 W1 : World} {f : Fr} {own own1 : Own} {io : IOp} {Φ : Value → Prop} (ht : tlOp io = true) (h : XO P W0 f own io (fun v _ => Φ v)) : XO P W1 f own1 io (fun v _ => Φ v) := by
  cases io <;> first | exact h | (simp [tlOp, roOp] at ht)
theorem XQ_sound {P : Program} {W0 : World} {own : Own} {f : Fr} {a : Act} {o : Oper} {K : Value → Prop} (hf : ∀ t, a.tmps.getD t undef = f t) (hx : XQ P W0 f own (lowOp P o.op) K) :
    ∃ v, K v ∧ ∀ own', (tlOp (lowOp P o.op) = true ∨ ∃ ex, own' = ex ++ own) → ∀ w, St W0 own' w → GoesTo P (fun u w' => u = v ∧ St W0 own' w') ((execOp a.eval o).run P w) := by
  have ro : ∀ io, lowOp P o.op = io → roOp io = true → XO P W0 f own io (fun v _ => K v) →
      ∃ v, K v ∧ ∀ own', (tlOp io = true ∨ ∃ ex, own' = ex ++ own) → ∀ w, St W0 own' w → GoesTo P (fun u w' => u = v ∧ St W0 own' w') ((execOp a.eval o).run P w) := by
    intro io hio hro hx
    obtain ⟨v, hk, hv⟩ := XO_fix hro hx
    refine ⟨v, hk, fun own' hV w hw => ?_⟩
    have hrun : (execOp (ev f) o).run P w = .ok (.value v) w := by
      rcases hV with ht | ⟨ex, rfl⟩
      · rcases XO_sound hio hw (XO_tl ht hv : XO P W0 f own' io (fun v' _ => v' = v)) with ⟨v', hr', rfl⟩ | ⟨h0, _⟩
        · exact hr'
        · rw [hro] at h0; cases h0
      · have hw' : St W0 own w := Ent.of_sub (List.sublist_append_right ex own) w hw
        rcases XO_sound hio hw' hv with ⟨v', hr', rfl⟩ | ⟨h0, _⟩
        · exact hr'
        · rw [hro] at h0; cases h0
    rw [ev_eq hf, hrun]
    exact ⟨rfl, hw⟩
  unfold XQ at hx
  split at hx
  · rename_i k args hio
    obtain ⟨v, hc, hk⟩ := hx.h
    refine ⟨v, hk, fun own' hV w hw => ?_⟩
    rcases hV with ht | ⟨ex, rfl⟩
    · rw [hio] at ht; cases ht
    · rw [ev_eq hf, lowOp_call_run hio]
      exact (hc ex w hw).mono fun e w' ⟨he, hs⟩ => ⟨v, he, rfl, hs⟩
  · split at hx
    · exact ro _ rfl (by assumption) hx
    · exact hx.elim
theorem Does.goes {P : Program} {W0 : World} {f : Fr} {own : Own} {a : Act} {o : Oper} {w : World} {K : Value → Own → Prop} {ro : Bool} (hf : ∀ t, a.tmps.getD t undef = f t) (hS : St W0 own w) (h : Does P f o w own W0 K ro) :
    GoesTo P (fun u w' => ∃ own', St W0 own' w' ∧ K u own') ((execOp a.eval o).run P w) := by
  rw [ev_eq hf]
  rcases h with ⟨v, hr, hk⟩ | ⟨_, ⟨v, w', own', hr, hs, hk⟩ | ⟨w', own', hr, hs, hk⟩ | ⟨k, args, hr, hc⟩ | ⟨l, k, tmps, assign, body, hr, hc⟩⟩
  · rw [hr]; exact ⟨_, hS, hk⟩
  · rw [hr]; exact ⟨_, hs, hk⟩
  · rw [hr]; exact ⟨_, hs, hk⟩
  · rw [hr]
    have hc' := hc.h w hS
    simp only [Array.toArray_toList] at hc'
    exact hc'.mono fun e w' ⟨v, own', he, hs, hk⟩ => ⟨v, he, own', hs, hk⟩
  · rw [hr]
    exact hc.mono fun e w' ⟨v, own', he, hs, hk⟩ => ⟨v, he, own', hs, hk⟩
/-- An operation that adds a block. -/
def newOp : IOp → Bool
  | .new _ _ | .box _ _ => true
  | .blds _ _ _ _ => true
  | .mk _ _ _ _ _ _ => true
  | .mkm => true
  | _ => false
theorem XO_new {P : Program} {W0 : World} {f : Fr} {own : Own} {io : IOp} {K : Value → Own → Prop} (hn : newOp io = true) (h : XO P W0 f own io K) : XO P W0 f own io (fun v own' => K v own' ∧ ∃ e, own' = e :: own) := by
  cases io <;> simp only [XO] at h ⊢ <;> (try simp [newOp] at hn)
  case box => split at h <;> first | exact ⟨fun b hb hl => ⟨h.h b hb hl, _, rfl⟩⟩ | exact .mk ⟨fun b hb hl => ⟨h.h.h b hb hl, _, rfl⟩⟩
  case new => split at h <;> exact ⟨fun b hb hl => ⟨h.h b hb hl, _, rfl⟩⟩
  case blds => exact Bld_mono _ _ (fun cs h => ⟨fun b hb hl => ⟨h.h b hb hl, _, rfl⟩⟩) h
  case mk => split at h <;> first | (obtain ⟨l, c, h1, h2, h3, h4, h⟩ := h.h; exact ⟨l, c, h1, h2, h3, h4, fun b hb => ⟨h b hb, _, rfl⟩⟩) | exact h.elim
  case mkm => exact ⟨fun b hb => ⟨h.h b hb, _, rfl⟩⟩
/-- What an operation does to the class: 'mv': the functions that do not leave it alone. -/
def kdOp (mv : List Nat) (io : IOp) : Kd :=
  match io with
  | .call k _ => if mv.contains k then .m else .f
  | io => if roOp io then .f else if newOp io then .n else .m
def kdAt (P : Program) (ops : Array Oper) (mv : List Nat) (i : Nat) : Kd :=
  match ops[i]? with
  | some o => kdOp mv (lowOp P o.op)
  | none => .f
/-- An operation that may be taken now. -/
def fOk (P : Program) (ops : Array Oper) (mv : List Nat) (listed : Array Bool) (k : Nat) : Bool :=
  match ops[k]? with
  | some o => (match kdOp mv (lowOp P o.op) with | .f => true | _ => false) && Region.free .any ops listed k &&
      (tlOp (lowOp P o.op) || (List.range ops.size).all fun j => match kdAt P ops mv j with | .m => listed.getD j false || waitsT .any ops 3 j k | _ => true)
  | none => false
def brs (P : Program) (ops : Array Oper) (mv : List Nat) (rec' : Nat → DT) : List Nat → DT
  | [] => .tt
  | k :: r =>
    let x := match kdAt P ops mv k with
      | .f => (match ops[k]? with
        | some o => .f (lowOpr P ops o) (rec' k)
        | none => .bad)
      | _ => match ops[k]? with
        | some o => .m (lowOpr P ops o) (rec' k)
        | none => .bad
    match r with
    | [] => x
    | _ => .both x (brs P ops mv rec' r)
def lowD (P : Program) (ops : Array Oper) (mv : List Nat) : Nat → Array Bool → DT
  | 0, listed => match Region.ready .any ops listed with
    | [] => .done
    | _ => .bad
  | g + 1, listed => match (Region.ready .any ops listed).find? (fOk P ops mv listed) with
    | some k => match ops[k]? with
      | some o => .f (lowOpr P ops o) (lowD P ops mv g (listed.setIfInBounds k true))
      | none => .bad
    | none => match Region.ready .any ops listed with
      | [] => .done
      | rd => brs P ops mv (fun k => lowD P ops mv g (listed.setIfInBounds k true)) rd
theorem brs_spec {P : Program} {W0 : World} {ops : Array Oper} {mv : List Nat} {rec' : Nat → DT} {K : Fr → Own → Prop} {f : Fr} {own : Own} : ∀ (l : List Nat), XD P W0 (brs P ops mv rec' l) K f own →
    ∀ k ∈ l, ∃ o, ops[k]? = some o ∧ match kdAt P ops mv k with
      | .f => XD P W0 (.f (lowOpr P ops o) (rec' k)) K f own
      | _ => XD P W0 (.m (lowOpr P ops o) (rec' k)) K f own
  | [], _, k, hk => by cases hk
  | k0 :: r, h, k, hk => by
    have hx : XD P W0 (match kdAt P ops mv k0 with
      | .f => (match ops[k0]? with
        | some o => .f (lowOpr P ops o) (rec' k0)
        | none => .bad)
      | _ => match ops[k0]? with
        | some o => .m (lowOpr P ops o) (rec' k0)
        | none => .bad) K f own ∧ (r ≠ [] → XD P W0 (brs P ops mv rec' r) K f own) := by
      unfold brs at h
      cases r with
      | nil => exact ⟨h, fun h => absurd rfl h⟩
      | cons a r => exact ⟨Both.l (A := XD P W0 _ K f own) (B := XD P W0 _ K f own) h, fun _ => Both.r (A := XD P W0 _ K f own) (B := XD P W0 _ K f own) h⟩
    rcases List.mem_cons.1 hk with rfl | hk
    · have h1 := hx.1
      cases ho : ops[k]? with
      | none => rw [ho] at h1; cases hkd : kdAt P ops mv k <;> rw [hkd] at h1 <;> exact h1.elim
      | some o =>
        rw [ho] at h1
        refine ⟨o, rfl, ?_⟩
        cases hkd : kdAt P ops mv k <;> rw [hkd] at h1 <;> exact h1
    · exact brs_spec r (hx.2 (fun e => by subst e; cases hk)) k hk
theorem XD_sound {ds : List Deferred} {P : Program} {W0 : World} {ops : Array Oper} {mv : List Nat} {n : Nat} {Q : Act → Own → Prop} {K : Fr → Own → Prop} (hsel : Region.noSelect ops = true) (hok : ops.toList.all (lowOprOk ops n) = true)
    (hQ : ∀ f own a, Rel n ds a f → K f own → Q a own) : ∀ (g : Nat) (listed : Array Bool) (f : Fr) (a : Act) (own : Own), Closed .any ops listed → Rel n ds a f →
    XD P W0 (lowD P ops mv g listed) K f own → wpG P .any ops W0 (kdAt P ops mv) Q g listed a own
  | 0, listed, f, a, own, _, hr, h => by
    unfold lowD at h
    split at h
    · rename_i hrd; exact ⟨hrd, hQ _ _ _ hr h⟩
    · exact h.elim
  | g + 1, listed, f, a, own, inv, hr, h => by
    have okAt : ∀ (k : Nat) (o : Oper), ops[k]? = some o → lowOprOk ops n o = true := fun k o ho => by
      rw [List.all_eq_true] at hok
      exact hok o (by rw [← Array.getElem?_toList] at ho; exact List.mem_of_getElem? ho)
    have dstAt : ∀ (k : Nat) (o : Oper), ops[k]? = some o → ∀ t, o.dst = some t → t < n := fun k o ho t ht => by
      have := okAt k o ho
      unfold lowOprOk at this
      simp only [ht, Bool.and_eq_true, decide_eq_true_eq] at this
      exact this.1
    unfold lowD at h
    split at h
    · rename_i k hk
      have hkr := List.mem_of_find?_eq_some hk
      have hf := List.find?_some hk
      split at h
      · rename_i o ho
        unfold fOk at hf
        simp only [ho, Bool.and_eq_true, Bool.or_eq_true] at hf
        obtain ⟨⟨hkd, hfree⟩, htl⟩ := hf
        have hkf : kdAt P ops mv k = .f := by
          unfold kdAt
          simp only [ho]
          cases hh : kdOp mv (lowOp P o.op) <;> rw [hh] at hkd <;> first | rfl | cases hkd
        have first := fun (v : Value) (hy : Yields P ops W0 (fun own' => tlOp (lowOp P o.op) = true ∨ ∃ ex, own' = ex ++ own) o v a) (H : wpG P .any ops W0 (kdAt P ops mv) Q g (listed.setIfInBounds k true) (a.put o.dst v) own) =>
          wpG_first (tl := tlOp (lowOp P o.op)) (g := 3) ho hkf (Region.noSelect_spec hsel) _ (fun e own' hV => hV.imp id (fun ⟨ex, he⟩ => ⟨e :: ex, by rw [he]; rfl⟩)) (fun ht _ => .inl ht) g listed a own inv (fun ht j oj hj hm => by
            rcases htl with h | h
            · rw [h] at ht; cases ht
            · rw [List.all_eq_true] at h
              have := h j (List.mem_range.2 (Array.getElem?_eq_some_iff.1 hj).1)
              rw [hm] at this
              simpa only [Bool.or_eq_true] using this) (Region.free_spec ho hfree) hkr hy (.inr ⟨[], rfl⟩) H
        rw [XD_f] at h
        rcases XG_sound hr (okAt k o ho) h with ⟨hw, hx⟩ | ⟨hw, hx⟩
        · obtain ⟨v, hk', hv⟩ := XQ_sound hr.get hx
          exact first v (.inl ⟨hw, hv⟩) (XD_sound hsel hok hQ g _ _ _ own (inv.set hkr) (hr.put (dstAt k o ho) v) hk')
        · exact first undef (.inr ⟨hw, rfl⟩) (XD_sound hsel hok hQ g _ _ _ own (inv.set hkr) (hr.put (dstAt k o ho) undef) hx)
      · exact h.elim
    · split at h
      · rename_i hrd
        exact ⟨fun _ => hQ _ _ _ hr h, fun i hi => by rw [hrd] at hi; cases hi⟩
      · rename_i hne
        refine ⟨fun h0 => absurd h0 hne, fun i hi => ?_⟩
        obtain ⟨o, ho, hx⟩ := brs_spec _ h i hi
        have hkk : kdAt P ops mv i = kdOp mv (lowOp P o.op) := by unfold kdAt; simp only [ho]
        unfold gStep
        simp only [ho]
        cases hkd' : kdAt P ops mv i with
        | f =>
          rw [hkd'] at hx
          simp only at hx
          rw [XD_f] at hx
          rcases XG_sound hr (okAt i o ho) hx with ⟨hw, hx⟩ | ⟨hw, hx⟩
          · simp only [hw, if_true]
            intro w hs
            obtain ⟨v, hk', hv⟩ := XQ_sound hr.get hx
            refine (hv own (.inr ⟨[], rfl⟩) w hs).mono fun u w' ⟨hu, hs'⟩ => ?_
            subst hu
            exact ⟨hs', XD_sound hsel hok hQ g _ _ _ own (inv.set hi) (hr.put (dstAt i o ho) u) hk'⟩
          · simp only [hw, Bool.false_eq_true, if_false]
            exact XD_sound hsel hok hQ g _ _ _ own (inv.set hi) (hr.put (dstAt i o ho) undef) hx
        | n =>
          rw [hkd'] at hx
          simp only at hx
          rw [XD_m] at hx
          rcases XG_sound hr (okAt i o ho) hx with ⟨hw, hx⟩ | ⟨hw, hx⟩
          · simp only [hw, if_true]
            intro w hs
            have hnew : newOp (lowOp P o.op) = true := by
              rw [hkk] at hkd'
              unfold kdOp at hkd'
              split at hkd'
              · split at hkd' <;> cases hkd'
              · split at hkd'
                · cases hkd'
                · split at hkd'
                  · assumption
                  · cases hkd'
            refine (Does.goes hr.get hs (XO_sound rfl hs (XO_new hnew hx))).mono fun u w' ⟨own', hs', hk', e, he⟩ => ?_
            subst he
            exact ⟨e, hs', XD_sound hsel hok hQ g _ _ _ _ (inv.set hi) (hr.put (dstAt i o ho) u) hk'⟩
          · simp only [hw, Bool.false_eq_true, if_false]
            exact XD_sound hsel hok hQ g _ _ _ own (inv.set hi) (hr.put (dstAt i o ho) undef) hx
        | m =>
          rw [hkd'] at hx
          simp only at hx
          rw [XD_m] at hx
          rcases XG_sound hr (okAt i o ho) hx with ⟨hw, hx⟩ | ⟨hw, hx⟩
          · simp only [hw, if_true]
            intro w hs
            exact (Does.goes hr.get hs (XO_sound rfl hs hx)).mono fun u w' ⟨own', hs', hk'⟩ => ⟨own', hs', XD_sound hsel hok hQ g _ _ _ _ (inv.set hi) (hr.put (dstAt i o ho) u) hk'⟩
          · simp only [hw, Bool.false_eq_true, if_false]
            exact XD_sound hsel hok hQ g _ _ _ own (inv.set hi) (hr.put (dstAt i o ho) undef) hx
end Go.Proofs.YtiimndcifcoofaaGreatDoor
namespace Go.Proofs.YtiimndcifcoofaaGreatDoor
open Go
inductive IC
  | skip
  | region (ops : List IOpr)
  | draw (t : DT)
  | seq (a b : IC)
  | cut (a b : IC)
  | cond (c : Operand) (a b : IC)
  | block (id : Nat) (b : IC)
  | loop (mask : Nat) (b : IC)
  | exit (id : Nat)
  | ret
  | bad
def setB (m d : Nat) : Nat := m ||| 2 ^ d
def hasB (m d : Nat) : Bool := Nat.beq (Nat.land (Nat.shiftRight m d) 1) 1
def asgOps : List IOpr → Nat → Nat
  | [], m => m
  | o :: r, m => asgOps r (match o.dst with | some d => setB m d | none => m)
def asgD : DT → Nat → Nat
  | .f o r, m | .m o r, m => asgD r (match o.dst with | some d => setB m d | none => m)
  | .both a b, m => asgD b (asgD a m)
  | _, m => m
/-- The slots that a piece of code may write. -/
def asg : IC → Nat → Nat
  | .region ops, m => asgOps ops m
  | .draw t, m => asgD t m
  | .seq a b, m | .cut a b, m | .cond _ a b, m => asg b (asg a m)
  | .block _ b, m => asg b m
  | .loop k _, m => m ||| k
  | _, m => m
/-- The lowering. -/
def lowC (P : Program) (mv : List Nat) (n : Nat) : Code → IC
  | .skip => .skip
  | .region _ ops d => if ops.toList.all (lowOprOk ops n) then
      (if d then (if Region.noSelect ops then .draw (lowD P ops mv ops.size (Array.replicate ops.size false)) else .bad) else .region (ops.toList.map (lowOpr P ops))) else .bad
  | .seq a b => .seq (lowC P mv n a) (lowC P mv n b)
  | .cond c a b => .cond c (lowC P mv n a) (lowC P mv n b)
  | .block id b => .block id (lowC P mv n b)
  | .loop b => let b' := lowC P mv n b; .loop (asg b' 0) b'
  | .exit id => .exit id
  | .ret => .ret
  | _ => .bad
/-- A code without its cuts. -/
def strip : IC → IC
  | .seq a b | .cut a b => .seq (strip a) (strip b)
  | .cond c a b => .cond c (strip a) (strip b)
  | .block id b => .block id (strip b)
  | .loop m b => .loop m (strip b)
  | c => c
abbrev Post := Exit → Fr → Own → Prop
def thenQ (next : Fr → Own → Prop) (Q : Post) : Post := fun e f own => match e with
  | .normal => next f own
  | e => Q e f own
def blockQ (id : Nat) (Q : Post) : Post := fun e f own => match e with
  | .exit id' => (match Nat.beq id' id with | true => Q .normal f own | false => Q (.exit id') f own)
  | e => Q e f own
/-- A loop: what holds at its head, with a number that each round lowers. -/
structure LoopT (P : Program) (W0 : World) (code : IC) (mask : Nat) (body : Post → Fr → Own → Prop) (Q : Post) (f : Fr) (own : Own) : Prop where
  h : ∃ I : Nat → Fr → Own → Prop, (∃ n o2, Ent W0 own o2 ∧ I n f o2) ∧ ∀ n f own, I n f own → body (thenQ (fun f' own' => ∃ m o2, m < n ∧ Ent W0 own' o2 ∧ I m f' o2) Q) f own
/-- A place where a proof may sum up. -/
structure CutT (P : Program) (W0 : World) (ca cb : IC) (a b : Post → Fr → Own → Prop) (Q : Post) (f : Fr) (own : Own) : Prop where
  h : a (thenQ (fun f' own' => ∃ o2, Ent W0 own' o2 ∧ b Q f' o2) Q) f own
noncomputable def XS (P : Program) (W0 : World) (c : IC) : Post → Fr → Own → Prop :=
  IC.rec (motive := fun _ => Post → Fr → Own → Prop)
    (fun Q f own => Q .normal f own)
    (fun ops Q f own => XR P W0 ops (Q .normal) f own)
    (fun t Q f own => XD P W0 t (Q .normal) f own)
    (fun _ _ a b Q f own => a (thenQ (b Q) Q) f own)
    (fun ca cb a b Q f own => CutT P W0 ca cb a b Q f own)
    (fun c _ _ a b Q f own => match ev f c with
      | .bool t => Br t (a Q f own) (b Q f own)
      | _ => False)
    (fun id _ b Q f own => b (blockQ id Q) f own)
    (fun mask cb b Q f own => LoopT P W0 cb mask b Q f own)
    (fun id Q f own => Q (.exit id) f own)
    (fun Q f own => Q .ret f own)
    (fun _ _ _ => False) c
theorem XS_cond {P : Program} {W0 : World} {c : Operand} {a b : IC} {Q : Post} {f : Fr} {own : Own} : XS P W0 (.cond c a b) Q f own = match ev f c with
    | .bool t => Br t (XS P W0 a Q f own) (XS P W0 b Q f own)
    | _ => False := rfl
section mono
variable {P : Program} {W0 : World}
theorem XR_mono {K K' : Fr → Own → Prop} (hk : ∀ f own, K f own → K' f own) : ∀ (l : List IOpr) (f : Fr) (own : Own), XR P W0 l K f own → XR P W0 l K' f own
  | [], f, own, h => hk f own h
  | ⟨d, op, none⟩ :: l, f, own, h => XO_mono (fun _ _ h => XR_mono hk l _ _ h) h
  | ⟨d, op, some (g, b)⟩ :: l, f, own, h => by
      simp only [XR_some] at h ⊢
      have ih := XR_mono hk l
      split at h
      · exact ⟨fun e => XO_mono (fun v own' h => ih _ _ h) (h.y e), fun e => ih _ _ (h.n e)⟩
      · exact ih _ _ h
theorem XQ_mono {f : Fr} {own : Own} {op : IOp} {K K' : Value → Prop} (hk : ∀ v, K v → K' v) (h : XQ P W0 f own op K) : XQ P W0 f own op K' := by
  unfold XQ at h ⊢
  split at h
  · obtain ⟨v, hc, h⟩ := h.h; exact ⟨v, hc, hk v h⟩
  · split at h
    · exact XO_mono (fun v _ h => hk v h) h
    · exact h.elim
theorem XG_mono {gd : Option (Nat × Bool)} {f : Fr} {Y Y' N N' : Fr → Prop} (hy : ∀ f, Y f → Y' f) (hn : ∀ f, N f → N' f) (h : XG gd f Y N) : XG gd f Y' N' := by
  unfold XG at h ⊢
  split
  · exact hy _ h
  · simp only at h
    split
    · rename_i hc; rw [hc] at h; exact ⟨fun e => hy _ (h.y e), fun e => hn _ (h.n e)⟩
    · rename_i hc; split at h
      · rename_i hc'; exact absurd hc' (hc _)
      · exact hn _ h
theorem XD_mono {K K' : Fr → Own → Prop} (hk : ∀ f own, K f own → K' f own) : ∀ (t : DT) (f : Fr) (own : Own), XD P W0 t K f own → XD P W0 t K' f own
  | .done, f, own, h => hk f own h
  | .f o r, f, own, h => by
    rw [XD_f] at h ⊢
    exact XG_mono (fun f h => XQ_mono (fun _ h => XD_mono hk r _ _ h) h) (fun f h => XD_mono hk r _ _ h) h
  | .m o r, f, own, h => by
    rw [XD_m] at h ⊢
    exact XG_mono (fun f h => XO_mono (fun _ _ h => XD_mono hk r _ _ h) h) (fun f h => XD_mono hk r _ _ h) h
  | .both a b, f, own, h => ⟨XD_mono hk a f own (Both.l (A := XD P W0 a K f own) (B := XD P W0 b K f own) h), XD_mono hk b f own (Both.r (A := XD P W0 a K f own) (B := XD P W0 b K f own) h)⟩
  | .tt, _, _, h => h
  | .bad, _, _, h => h.elim
theorem thenQ_mono {n n' : Fr → Own → Prop} {Q Q' : Post} (hn : ∀ f own, n f own → n' f own) (hq : ∀ e f own, Q e f own → Q' e f own) : ∀ e f own, thenQ n Q e f own → thenQ n' Q' e f own := by
  intro e f own h
  cases e <;> first | exact hn _ _ h | exact hq _ _ _ h
theorem blockQ_mono {id : Nat} {Q Q' : Post} (hq : ∀ e f own, Q e f own → Q' e f own) : ∀ e f own, blockQ id Q e f own → blockQ id Q' e f own := by
  intro e f own h
  cases e <;> simp only [blockQ] at h ⊢
  case exit => split <;> rename_i hc <;> rw [hc] at h <;> exact hq _ _ _ h
  all_goals exact hq _ _ _ h
theorem XS_mono : ∀ (c : IC) (Q Q' : Post), (∀ e f own, Q e f own → Q' e f own) → ∀ (f : Fr) (own : Own), XS P W0 c Q f own → XS P W0 c Q' f own
  | .skip, Q, Q', hq, f, own, h => hq _ _ _ h
  | .region ops, Q, Q', hq, f, own, h => XR_mono (hq .normal) ops f own h
  | .draw ops, Q, Q', hq, f, own, h => XD_mono (hq .normal) ops f own h
  | .seq a b, Q, Q', hq, f, own, h => XS_mono a _ _ (thenQ_mono (fun f own h => XS_mono b Q Q' hq f own h) hq) f own h
  | .cut a b, Q, Q', hq, f, own, h => ⟨XS_mono a _ _ (thenQ_mono (fun f own ⟨o2, he, h⟩ => ⟨o2, he, XS_mono b Q Q' hq f o2 h⟩) hq) f own h.h⟩
  | .cond c a b, Q, Q', hq, f, own, h => by
    simp only [XS_cond] at h ⊢
    split at h
    · exact ⟨fun e => XS_mono a Q Q' hq f own (h.y e), fun e => XS_mono b Q Q' hq f own (h.n e)⟩
    · exact h.elim
  | .block id b, Q, Q', hq, f, own, h => XS_mono b _ _ (blockQ_mono hq) f own h
  | .loop mask b, Q, Q', hq, f, own, h => by
    obtain ⟨I, h0, h1⟩ := h.h
    exact ⟨I, h0, fun n f own hI => XS_mono b _ _ (thenQ_mono (fun _ _ h => h) hq) f own (h1 n f own hI)⟩
  | .exit id, Q, Q', hq, f, own, h => hq _ _ _ h
  | .ret, Q, Q', hq, f, own, h => hq _ _ _ h
  | .bad, _, _, _, _, _, h => h.elim
end mono
theorem least_of {p : Nat → Prop} : ∀ n, p n → ∃ m, p m ∧ ∀ k, p k → m ≤ k := by
  intro n
  induction n using Nat.strongRecOn with
  | _ n ih =>
    intro hn
    by_cases h : ∃ k, k < n ∧ p k
    · obtain ⟨k, hk, hp⟩ := h
      exact ih k hk hp
    · exact ⟨n, hn, fun k hk => Nat.le_of_not_lt fun hlt => h ⟨k, hlt, hk⟩⟩
/-- A loop by a number that each round lowers. -/
theorem wp_loop_num {P : Program} {r : Option Nat} {m : Nat} {c : Code} {Q : Exit → Act → World → Prop} {a : Act} {w : World} (I : Nat → Act → World → Prop) (h0 : ∃ n, I n a w)
    (round : ∀ n a w, I n a w → c.wpIn (WF r) m P (Exit.then (fun a' w' => ∃ m, m < n ∧ I m a' w') Q) a w) : (Code.loop c).wpIn (WF r) m P Q a w := by
  have hex : ∀ a w, ∃ m0 : Nat, (∃ n, I n a w) → I m0 a w ∧ ∀ k, I k a w → m0 ≤ k := fun a w => by
    by_cases h : ∃ n, I n a w
    · obtain ⟨n, hn⟩ := h
      obtain ⟨m0, hm⟩ := least_of (p := fun n => I n a w) n hn
      exact ⟨m0, fun _ => hm⟩
    · exact ⟨0, fun h' => (h h').elim⟩
  refine wpIn_loop (fun a w => ∃ n, I n a w) (fun a w => Classical.choose (hex a w)) h0 ?_
  intro a w h
  refine wpIn_mono (round _ a w (Classical.choose_spec (hex a w) h).1) ?_
  intro e a' w' q
  cases e with
  | normal =>
    obtain ⟨m, hm, hI⟩ := q
    have h' : ∃ n, I n a' w' := ⟨m, hI⟩
    exact ⟨h', Nat.lt_of_le_of_lt ((Classical.choose_spec (hex a' w') h').2 m hI) hm⟩
  | _ => exact q
/-- What is asked of the code is enough. -/
theorem XS_sound {ds : List Deferred} {P : Program} {W0 : World} {mv : List Nat} {n : Nat} {r : Option Nat} {m : Nat} (hm : P.follows .mixedOrders = true) : ∀ (ic : IC) (c : Code), lowC P mv n c = strip ic → ∀ (Q : Post) (Q' : Exit → Act → World → Prop),
    (∀ e f own a w, Rel n ds a f → St W0 own w → Q e f own → Q' e a w) → ∀ (f : Fr) (own : Own) (a : Act) (w : World), Rel n ds a f → St W0 own w → XS P W0 ic Q f own → c.wpIn (WF r) m P Q' a w
  | ic, .skip, hl, Q, Q', hq, f, own, a, w, hr, hs, h => by
    cases ic <;> simp only [lowC, strip] at hl <;> (try exact IC.noConfusion hl)
    exact wpIn_skip (hq _ _ _ _ _ hr hs h)
  | ic, .region id ops d, hl, Q, Q', hq, f, own, a, w, hr, hs, h => by
    unfold lowC at hl
    split at hl
    · rename_i hok
      cases d with
      | true =>
        simp only [if_true] at hl
        split at hl
        · rename_i hB
          cases ic <;> simp only [strip] at hl <;> (try exact IC.noConfusion hl)
          injection hl with hl
          subst hl
          exact wpIn_region_any hm (wpAny_of_G (Q := fun a own => ∀ w, St W0 own w → Q' .normal a w) (fun a own w hs h => h w hs) _ _ a own _ (hs.drawn _)
            (XD_sound (Q := fun a own => ∀ w, St W0 own w → Q' .normal a w) hB hok (fun f own a hr h w hs => hq _ f own a w hr hs h) _ _ f a own Closed.start hr h))
        · cases ic <;> simp only [strip] at hl <;> (try exact IC.noConfusion hl)
          exact h.elim
      | false =>
        simp only [Bool.false_eq_true, if_false] at hl
        cases ic <;> simp only [strip] at hl <;> (try exact IC.noConfusion hl)
        injection hl with hl
        subst hl
        exact wpIn_region_list (XR_sound (fun f own a w hr hs h => hq _ f own a w hr hs h) ops.toList f own a w hok hr hs h)
    · cases ic <;> simp only [strip] at hl <;> (try exact IC.noConfusion hl)
      exact h.elim
  | ic, .seq x y, hl, Q, Q', hq, f, own, a, w, hr, hs, h => by
    cases ic <;> simp only [lowC, strip] at hl <;> (try exact IC.noConfusion hl)
    case seq ia ib =>
      injection hl with h1 h2
      refine wpIn_seq (XS_sound hm ia x h1 _ _ ?_ f own a w hr hs h)
      intro e f own a w hr hs h
      cases e with
      | normal => exact XS_sound hm ib y h2 Q Q' hq f own a w hr hs h
      | _ => exact hq _ _ _ _ _ hr hs h
    case cut ia ib =>
      injection hl with h1 h2
      refine wpIn_seq (XS_sound hm ia x h1 _ _ ?_ f own a w hr hs h.h)
      intro e f own a w hr hs h
      cases e with
      | normal =>
        obtain ⟨o2, he, h⟩ := h
        exact XS_sound hm ib y h2 Q Q' hq f o2 a w hr (he w hs) h
      | _ => exact hq _ _ _ _ _ hr hs h
  | ic, .cond c x y, hl, Q, Q', hq, f, own, a, w, hr, hs, h => by
    cases ic <;> simp only [lowC, strip] at hl <;> (try exact IC.noConfusion hl)
    case cond c' ia ib =>
    injection hl with h0 h1 h2
    subst h0
    simp only [XS_cond] at h
    split at h
    · rename_i t ht
      refine wpIn_cond_split (t := t) (by rw [ev_eq hr.get]; exact ht) (fun e => ?_) (fun e => ?_)
      · exact XS_sound hm ia x h1 Q Q' hq f own a w hr hs (h.y e)
      · exact XS_sound hm ib y h2 Q Q' hq f own a w hr hs (h.n e)
    · exact h.elim
  | ic, .block id b, hl, Q, Q', hq, f, own, a, w, hr, hs, h => by
    cases ic <;> simp only [lowC, strip] at hl <;> (try exact IC.noConfusion hl)
    case block id' ib =>
    injection hl with h0 h1
    subst h0
    refine wpIn_block (XS_sound hm ib b h1 _ _ ?_ f own a w hr hs h)
    intro e f own a w hr hs h
    cases e with
    | exit id' =>
      simp only [blockQ, Exit.inBlock] at h ⊢
      split at h
      · rename_i hc; rw [if_pos (Nat.eq_of_beq_eq_true hc)]; exact hq _ _ _ _ _ hr hs h
      · rename_i hc; rw [if_neg (Nat.ne_of_beq_eq_false hc)]; exact hq _ _ _ _ _ hr hs h
    | _ => exact hq _ _ _ _ _ hr hs h
  | ic, .loop b, hl, Q, Q', hq, f, own, a, w, hr, hs, h => by
    cases ic <;> simp only [lowC, strip] at hl <;> (try exact IC.noConfusion hl)
    case loop m ib =>
    injection hl with _ hb
    obtain ⟨I, ⟨n0, o2, he, h0⟩, h1⟩ := h.h
    refine wp_loop_num (fun k a w => ∃ f own, Rel n ds a f ∧ St W0 own w ∧ I k f own) ⟨n0, f, o2, hr, he w hs, h0⟩ ?_
    rintro k a w ⟨f, own, hr, hs, hI⟩
    refine XS_sound hm ib b hb _ _ ?_ f own a w hr hs (h1 k f own hI)
    intro e f own a w hr hs h
    cases e with
    | normal =>
      obtain ⟨m, o2, hm, he, hI⟩ := h
      exact ⟨m, hm, f, o2, hr, he w hs, hI⟩
    | _ => exact hq _ _ _ _ _ hr hs h
  | ic, .exit id, hl, Q, Q', hq, f, own, a, w, hr, hs, h => by
    cases ic <;> simp only [lowC, strip] at hl <;> (try exact IC.noConfusion hl)
    injection hl with hl
    subst hl
    exact wpIn_exit (hq _ _ _ _ _ hr hs h)
  | ic, .ret, hl, Q, Q', hq, f, own, a, w, hr, hs, h => by
    cases ic <;> simp only [lowC, strip] at hl <;> (try exact IC.noConfusion hl)
    exact wpIn_ret (hq _ _ _ _ _ hr hs h)
  | ic, .rangeFunc .., hl, _, _, _, _, _, _, _, _, _, h => by cases ic <;> simp only [lowC, strip] at hl <;> first | exact IC.noConfusion hl | exact h.elim
  | ic, .scope .., hl, _, _, _, _, _, _, _, _, _, h => by cases ic <;> simp only [lowC, strip] at hl <;> first | exact IC.noConfusion hl | exact h.elim
  | ic, .label .., hl, _, _, _, _, _, _, _, _, _, h => by cases ic <;> simp only [lowC, strip] at hl <;> first | exact IC.noConfusion hl | exact h.elim
  | ic, .goto .., hl, _, _, _, _, _, _, _, _, _, h => by cases ic <;> simp only [lowC, strip] at hl <;> first | exact IC.noConfusion hl | exact h.elim
  | ic, .refuse .., hl, _, _, _, _, _, _, _, _, _, h => by cases ic <;> simp only [lowC, strip] at hl <;> first | exact IC.noConfusion hl | exact h.elim
/- A CALL -/
inductive IRes
  | tmp (t : Nat)
  | cell (a : Nat)
  | cellN (a n : Nat)
  | bad
def lowRes (P : Program) : ResultVar → IRes
  | .tmp t => .tmp t
  | .cell a t => match aggT P t, szT P t with
    | some true, some n => .cellN a n
    | some false, some _ => .cell a
    | _, _ => .bad
/-- A function, lowered. -/
structure IFn where
  n : Nat
  body : IC
  res : List IRes
def lowFn (P : Program) (mv : List Nat) (k : FuncId) : Option IFn :=
  match P.funcs[k]? with
  | some fn => match fn.body with
    | some c => some ⟨fn.ntmps, lowC P mv fn.ntmps c, fn.results.toList.map (lowRes P)⟩
    | none => none
  | none => none
/-- The results, one behind the other. -/
noncomputable def XRes (W0 : World) (f : Fr) (own : Own) (l : List IRes) : (List Value → Prop) → Prop :=
  List.rec (motive := fun _ => (List Value → Prop) → Prop) (fun K => K []) (fun r _ ih K => match r with
    | .tmp t => Mv (f t) fun v => ih fun vs => K (v :: vs)
    | .cell a => match f a with
      | .pointer (some a) => Ld W0 own a fun v => ih fun vs => K (v :: vs)
      | _ => False
    | .cellN a n => match f a with
      | .pointer (some a) => LdN W0 own a n fun v => ih fun vs => K (.agg v :: vs)
      | _ => False
    | .bad => False) l
theorem XRes_cell {W0 : World} {f : Fr} {own : Own} {a : Nat} {r : List IRes} {K : List Value → Prop} : XRes W0 f own (.cell a :: r) K = match f a with
      | .pointer (some a) => Ld W0 own a fun v => XRes W0 f own r fun vs => K (v :: vs)
      | _ => False := rfl
theorem XRes_cellN {W0 : World} {f : Fr} {own : Own} {a n : Nat} {r : List IRes} {K : List Value → Prop} : XRes W0 f own (.cellN a n :: r) K = match f a with
      | .pointer (some a) => LdN W0 own a n fun v => XRes W0 f own r fun vs => K (.agg v :: vs)
      | _ => False := rfl
def resV : List Value → Value
  | [v] => v
  | vs => .tuple vs.toArray
/-- What holds behind the call. -/
def retQ (W0 : World) (res : List IRes) (K : Value → Own → Prop) : Post := fun e f own => match e with
  | .ret | .normal => XRes W0 f own res fun vs => K (resV vs) own
  | _ => False
def initF (args : List Value) : Fr := fun t => args.getD t undef
/-- WHAT A CALL DOES: from every world of a class it returns a value, in a world of another. -/
def Spec (P : Program) (W0 : World) (k : FuncId) (args : List Value) (own : Own) (R : Value → Own → Prop) : Prop :=
  ∀ w, St W0 own w → Calls P k args.toArray w fun e w' => ∃ v own', e = .returned v ∧ St W0 own' w' ∧ R v own'
def resOne (a : Act) : ResultVar → Sem Value
  | .tmp t => pure (a.tmps.getD t undef)
  | .cell x t => do loadVar t (← asAddr (a.tmps.getD x undef))
theorem XRes_sound {P : Program} {W0 : World} {f : Fr} {own : Own} {a : Act} {w : World} (hf : ∀ t, a.tmps.getD t undef = f t) (hs : St W0 own w) :
    ∀ (l : List ResultVar) (K : List Value → Prop), XRes W0 f own (l.map (lowRes P)) K → ∃ vs, (l.mapM (resOne a)).run P w = .ok vs w ∧ K vs
  | [], K, h => ⟨[], by simp, h⟩
  | r :: l, K, h => by
    have hone : ∀ (u : Value) (K' : List Value → Prop), (resOne a r).run P w = .ok u w → XRes W0 f own (l.map (lowRes P)) (fun vs => K' (u :: vs)) → ∃ vs, ((r :: l).mapM (resOne a)).run P w = .ok vs w ∧ K' vs := by
      intro u K' hu h
      obtain ⟨vs, hr, hk⟩ := XRes_sound hf hs l _ h
      exact ⟨u :: vs, by simp [List.mapM_cons, hu, hr], hk⟩
    cases r with
    | tmp t => exact hone (f t) K (by simp only [resOne, hf, Sem.run_pure]) (Mv.h (K := fun v => XRes W0 f own (l.map (lowRes P)) fun vs => K (v :: vs)) h)
    | cell x t =>
      simp only [List.map_cons, lowRes] at h
      split at h
      · rename_i n ha hn
        simp only [XRes_cellN] at h
        split at h
        · rename_i ad hx
          obtain ⟨us, hlen, hv, h⟩ := h.h
          exact hone _ K (by simp only [resOne, hf, hx, asAddr]; simp [loadVar, aggT_run ha, szT_run hn, run_loadCells (vs := us.toList) hlen (hv w hs)]) h
        · exact h.elim
      · rename_i n ha hn
        simp only [XRes_cell] at h
        split at h
        · rename_i ad hx
          obtain ⟨u, hv, h⟩ := h.h
          have hv' := hv w hs
          exact hone u K (by simp only [resOne, hf, hx, asAddr]; simp [loadVar, aggT_run ha, hv']) h
        · exact h.elim
      · exact h.elim
theorem results_sound {P : Program} {W0 : World} {f : Fr} {own : Own} {a : Act} {w : World} {fn : Func} {K : Value → Prop} (hf : ∀ t, a.tmps.getD t undef = f t) (hs : St W0 own w)
    (h : XRes W0 f own (fn.results.toList.map (lowRes P)) fun vs => K (resV vs)) : ∃ v, (results fn a.tmps).run P w = .ok v w ∧ K v := by
  obtain ⟨vs, hr, hk⟩ := XRes_sound hf hs _ _ h
  refine ⟨resV vs, ?_, hk⟩
  have he : results fn a.tmps = (do
      let vs ← fn.results.mapM (resOne a)
      pure (if h : vs.size = 1 then vs[0] else .tuple vs)) := rfl
  rw [he, ← Array.toArray_toList (xs := fn.results), List.mapM_toArray]
  simp only [Sem.run_bind, Sem.run_map, hr, Result.andThen_ok, Sem.run_pure]
  congr 1
  match vs with
  | [] => rfl
  | [v] => rfl
  | _ :: _ :: _ => rfl
/-- A FUNCTION MEETS ITS SPECIFICATION if what its lowered code asks is answered. -/
theorem spec_of {P : Program} {W0 : World} {mv : List Nat} {k : FuncId} {fn : IFn} {args : List Value} {own : Own} {R : Value → Own → Prop} (hm : P.follows .mixedOrders = true)
    (hl : lowFn P mv k = some { fn with body := strip fn.body }) (hlen : args.length ≤ fn.n) (h : XS P W0 fn.body (retQ W0 fn.res R) (initF args) own) : Spec P W0 k args own R := by
  intro w hw
  unfold lowFn at hl
  split at hl
  · rename_i f hf
    split at hl
    · rename_i c hc
      simp only [Option.some.injEq, IFn.mk.injEq] at hl
      obtain ⟨h1, h2, h3⟩ := hl
      refine calls_of_wp hf hc ?_
      refine (wpIn_wide (n := 0)).1 ?_
      rw [← h3] at h
      refine XS_sound (ds := []) (r := none) (m := 0) hm fn.body c h2 (retQ W0 (f.results.toList.map (lowRes P)) R) _ ?_ (initF args) own _ w ?_ hw h
      · intro e f' own' a' w' hr hs hq
        cases e <;> first | exact hq.elim | skip
        all_goals
          obtain ⟨v, hv, hk⟩ := results_sound (fn := f) (K := fun v => R v own') hr.get hs hq
          exact ⟨hr.defers, v, hv, v, own', rfl, hs, hk⟩
      · rw [← h1] at hlen
        refine ⟨by simp; omega, fun t => ?_, rfl⟩
        simp only [initF, Array.getD_eq_getD_getElem?, List.getD_eq_getElem?_getD, Array.getElem?_append, List.getElem?_toArray, List.size_toArray, Array.getElem?_replicate]
        split
        · rfl
        · rename_i hge
          rw [List.getElem?_eq_none (by omega)]
          split <;> rfl
    · cases hl
  · cases hl
end Go.Proofs.YtiimndcifcoofaaGreatDoor
namespace Go.Proofs.YtiimndcifcoofaaGreatDoor
open Go
/- SLOTS THAT STAY -/
def agree (m : Nat) (f f' : Fr) : Prop := ∀ t, hasB m t = false → f' t = f t
theorem agree.refl {m : Nat} {f : Fr} : agree m f f := fun _ _ => rfl
theorem agree.trans {m : Nat} {f g h : Fr} (a : agree m f g) (b : agree m g h) : agree m f h := fun t ht => (b t ht).trans (a t ht)
theorem agree.upd {m : Nat} {f : Fr} {d : Nat} {v : Value} (hd : hasB m d = true) : agree m f (upd f d v) := by
  intro t ht
  unfold Go.Proofs.YtiimndcifcoofaaGreatDoor.upd
  cases e : Nat.beq t d
  · rfl
  · rw [Nat.beq_eq] at e; subst e; rw [hd] at ht; cases ht
theorem agree.updO {m : Nat} {f : Fr} {d : Option Nat} {v : Value} (hd : ∀ t, d = some t → hasB m t = true) : agree m f (updO f d v) := by
  cases d with
  | none => exact agree.refl
  | some d => exact agree.upd (hd d rfl)
def asgInOps (m : Nat) : List IOpr → Bool
  | [] => true
  | o :: r => (match o.dst with | some d => hasB m d | none => true) && asgInOps m r
def asgInD (m : Nat) : DT → Bool
  | .f o r | .m o r => (match o.dst with | some d => hasB m d | none => true) && asgInD m r
  | .both a b => asgInD m a && asgInD m b
  | _ => true
def asgIn (m : Nat) : IC → Bool
  | .region ops => asgInOps m ops
  | .draw t => asgInD m t
  | .seq a b | .cut a b | .cond _ a b => asgIn m a && asgIn m b
  | .block _ b | .loop _ b => asgIn m b
  | _ => true
section frame
variable {P : Program} {W0 : World} {m : Nat}
theorem asgInOps_dst {o : IOpr} {r : List IOpr} (h : asgInOps m (o :: r) = true) : (∀ t, o.dst = some t → hasB m t = true) ∧ asgInOps m r = true := by
  simp only [asgInOps, Bool.and_eq_true] at h
  refine ⟨fun t ht => ?_, h.2⟩
  rw [ht] at h
  exact h.1
theorem XR_frame {K : Fr → Own → Prop} : ∀ (l : List IOpr) (f : Fr) (own : Own), asgInOps m l = true → XR P W0 l K f own → XR P W0 l (fun f' own' => K f' own' ∧ agree m f f') f own
  | [], f, own, _, h => ⟨h, agree.refl⟩
  | ⟨d, op, gd⟩ :: l, f, own, hm, h => by
    obtain ⟨hd, hl⟩ := asgInOps_dst hm
    simp only at hd
    have ih : ∀ f1 own1, agree m f f1 → XR P W0 l K f1 own1 → XR P W0 l (fun f' own' => K f' own' ∧ agree m f f') f1 own1 := fun f1 own1 ha h1 =>
      XR_mono (fun f' own' hk => ⟨hk.1, ha.trans hk.2⟩) l f1 own1 (XR_frame l f1 own1 hl h1)
    cases gd with
    | none => exact XO_mono (fun v own' h => ih _ _ (agree.updO hd) h) h
    | some gb =>
      obtain ⟨g, b⟩ := gb
      simp only [XR_some] at h ⊢
      split at h
      · rename_i c hc
        refine ⟨fun e => ?_, fun e => ?_⟩
        · have hs : upd f g (.bool b) = f := upd_same (by rw [hc, e])
          have h' := h.y e
          rw [hs] at h' ⊢
          exact XO_mono (fun v own' h => ih _ _ (agree.updO hd) h) h'
        · have hs : upd f g (.bool (!b)) = f := upd_same (by rw [hc, e])
          have h' := h.n e
          rw [hs] at h' ⊢
          exact ih _ _ (agree.updO hd) h'
      · exact ih _ _ (agree.updO hd) h
theorem XG_frame {gd : Option (Nat × Bool)} {f : Fr} {Y Y' N N' : Fr → Prop} (hy : ∀ f1, agree m f f1 → Y f1 → Y' f1) (hn : ∀ f1, agree m f f1 → N f1 → N' f1) (h : XG gd f Y N) : XG gd f Y' N' := by
  unfold XG at h ⊢
  split
  · exact hy _ agree.refl h
  · rename_i g b
    simp only at h
    split
    · rename_i c hc
      rw [hc] at h
      refine ⟨fun e => ?_, fun e => ?_⟩
      · have hs : upd f g (.bool b) = f := upd_same (by rw [hc, e])
        have h' := h.y e
        rw [hs] at h' ⊢
        exact hy _ agree.refl h'
      · have hs : upd f g (.bool (!b)) = f := upd_same (by rw [hc, e])
        have h' := h.n e
        rw [hs] at h' ⊢
        exact hn _ agree.refl h'
    · rename_i hc; split at h
      · rename_i hc'; exact absurd hc' (hc _)
      · exact hn _ agree.refl h
theorem XD_frame {K : Fr → Own → Prop} : ∀ (t : DT) (f : Fr) (own : Own), asgInD m t = true → XD P W0 t K f own → XD P W0 t (fun f' own' => K f' own' ∧ agree m f f') f own
  | .done, f, own, _, h => ⟨h, agree.refl⟩
  | .f o r, f, own, hm, h => by
    simp only [asgInD, Bool.and_eq_true] at hm
    have hd : ∀ t, o.dst = some t → hasB m t = true := fun t ht => by have := hm.1; rw [ht] at this; exact this
    have ih : ∀ f1 own1, agree m f f1 → XD P W0 r K f1 own1 → XD P W0 r (fun f' own' => K f' own' ∧ agree m f f') f1 own1 := fun f1 own1 ha h1 =>
      XD_mono (fun f' own' hk => ⟨hk.1, ha.trans hk.2⟩) r f1 own1 (XD_frame r f1 own1 hm.2 h1)
    rw [XD_f] at h ⊢
    exact XG_frame (fun f1 ha h => XQ_mono (fun v h => ih _ _ (ha.trans (agree.updO hd)) h) h) (fun f1 ha h => ih _ _ (ha.trans (agree.updO hd)) h) h
  | .m o r, f, own, hm, h => by
    simp only [asgInD, Bool.and_eq_true] at hm
    have hd : ∀ t, o.dst = some t → hasB m t = true := fun t ht => by have := hm.1; rw [ht] at this; exact this
    have ih : ∀ f1 own1, agree m f f1 → XD P W0 r K f1 own1 → XD P W0 r (fun f' own' => K f' own' ∧ agree m f f') f1 own1 := fun f1 own1 ha h1 =>
      XD_mono (fun f' own' hk => ⟨hk.1, ha.trans hk.2⟩) r f1 own1 (XD_frame r f1 own1 hm.2 h1)
    rw [XD_m] at h ⊢
    exact XG_frame (fun f1 ha h => XO_mono (fun v own' h => ih _ _ (ha.trans (agree.updO hd)) h) h) (fun f1 ha h => ih _ _ (ha.trans (agree.updO hd)) h) h
  | .both a b, f, own, hm, h => by
    simp only [asgInD, Bool.and_eq_true] at hm
    exact ⟨XD_frame a f own hm.1 (Both.l (A := XD P W0 a K f own) (B := XD P W0 b K f own) h), XD_frame b f own hm.2 (Both.r (A := XD P W0 a K f own) (B := XD P W0 b K f own) h)⟩
  | .tt, _, _, _, h => h
  | .bad, _, _, _, h => h.elim
theorem XS_frame : ∀ (c : IC) (Q : Post) (f : Fr) (own : Own), asgIn m c = true → XS P W0 c Q f own → XS P W0 c (fun e f' own' => Q e f' own' ∧ agree m f f') f own
  | .skip, Q, f, own, _, h => ⟨h, agree.refl⟩
  | .region ops, Q, f, own, hm, h => XR_frame ops f own hm h
  | .draw ops, Q, f, own, hm, h => XD_frame ops f own hm h
  | .seq a b, Q, f, own, hm, h => by
    simp only [asgIn, Bool.and_eq_true] at hm
    refine XS_mono a _ _ ?_ f own (XS_frame a _ f own hm.1 h)
    intro e f' own' h'
    cases e with
    | normal => exact XS_mono b _ _ (fun e f2 o2 hk => ⟨hk.1, h'.2.trans hk.2⟩) f' own' (XS_frame b Q f' own' hm.2 h'.1)
    | _ => exact h'
  | .cut a b, Q, f, own, hm, h => by
    simp only [asgIn, Bool.and_eq_true] at hm
    refine ⟨XS_mono a _ _ ?_ f own (XS_frame a _ f own hm.1 h.h)⟩
    intro e f' own' h'
    cases e with
    | normal =>
      obtain ⟨⟨o2, he, hb⟩, ha⟩ := h'
      exact ⟨o2, he, XS_mono b _ _ (fun e f2 o2 hk => ⟨hk.1, ha.trans hk.2⟩) f' o2 (XS_frame b Q f' o2 hm.2 hb)⟩
    | _ => exact h'
  | .cond c a b, Q, f, own, hm, h => by
    simp only [asgIn, Bool.and_eq_true] at hm
    simp only [XS_cond] at h ⊢
    split at h
    · exact ⟨fun e => XS_frame a Q f own hm.1 (h.y e), fun e => XS_frame b Q f own hm.2 (h.n e)⟩
    · exact h.elim
  | .block id b, Q, f, own, hm, h => by
    refine XS_mono b _ _ ?_ f own (XS_frame b _ f own hm h)
    intro e f' own' h'
    cases e <;> simp only [blockQ] at h' ⊢
    case exit => split <;> rename_i hc <;> rw [hc] at h' <;> exact h'
    all_goals exact h'
  | .loop k b, Q, f, own, hm, h => by
    obtain ⟨I, ⟨n0, o0, he0, h0⟩, h1⟩ := h.h
    refine ⟨fun n f' own' => I n f' own' ∧ agree m f f', ⟨n0, o0, he0, h0, agree.refl⟩, fun n f' own' hI => ?_⟩
    refine XS_mono b _ _ ?_ f' own' (XS_frame b _ f' own' hm (h1 n f' own' hI.1))
    intro e f2 o2 h'
    cases e with
    | normal =>
      obtain ⟨⟨k, o3, hk, he, hI3⟩, ha⟩ := h'
      exact ⟨k, o3, hk, he, hI3, hI.2.trans ha⟩
    | _ => exact ⟨h'.1, hI.2.trans h'.2⟩
  | .exit _, Q, f, own, _, h => ⟨h, agree.refl⟩
  | .ret, Q, f, own, _, h => ⟨h, agree.refl⟩
  | .bad, _, _, _, _, h => h.elim
end frame
/- LOOPS AND CUTS -/
def look : List (Nat × Value) → Nat → Value → Value
  | [], _, d => d
  | (s, v) :: r, t, d => bif Nat.beq t s then v else look r t d
def mixF (m : Nat) (L : List (Nat × Value)) (junk f : Fr) : Fr := fun t => bif hasB m t then look L t (junk t) else f t
noncomputable def matchF (L : List (Nat × Value)) (f : Fr) : Prop :=
  List.rec (motive := fun _ => Prop) True (fun sv _ ih => f sv.1 = sv.2 ∧ ih) L
theorem look_match : ∀ (L : List (Nat × Value)) (f : Fr) (t : Nat), matchF L f → look L t (f t) = f t
  | [], f, t, _ => rfl
  | (s, v) :: r, f, t, h => by
    unfold look
    cases e : Nat.beq t s
    · exact look_match r f t h.2
    · rw [Nat.beq_eq] at e; subst e; exact h.1.symm
theorem mix_eq {m : Nat} {L : List (Nat × Value)} {f f' : Fr} (ha : agree m f f') (hl : matchF L f') : mixF m L f' f = f' := by
  funext t
  unfold mixF
  cases e : hasB m t
  · exact (ha t e).symm
  · exact look_match L f' t hl
section rules
variable {P : Program} {W0 : World} {own : Own} {f : Fr}
theorem loop_i {mask : Nat} {b : IC} {Q : Post} {σ : Type} (L : σ → List (Nat × Value)) (O : σ → Own) (I : σ → Prop) (μ : σ → Nat) (s0 : σ) (h0 : I s0) (hf : matchF (L s0) f) (ho : Ent W0 own (O s0))
    (hm : asgIn mask b = true)
    (step : ∀ s junk, I s → XS P W0 b (thenQ (fun f' own' => ∃ s', I s' ∧ μ s' < μ s ∧ matchF (L s') f' ∧ Ent W0 own' (O s')) Q) (mixF mask (L s) junk f) (O s)) :
    LoopT P W0 b mask (XS P W0 b) Q f own := by
  refine ⟨fun n f' own' => ∃ s junk, I s ∧ μ s = n ∧ f' = mixF mask (L s) junk f ∧ own' = O s, ⟨μ s0, O s0, ho, s0, f, h0, rfl, (mix_eq agree.refl hf).symm, rfl⟩, ?_⟩
  rintro n f' own' ⟨s, junk, hI, rfl, rfl, rfl⟩
  refine XS_mono b _ _ ?_ _ _ (XS_frame b _ _ _ hm (step s junk hI))
  intro e f2 o2 h
  cases e with
  | normal =>
    obtain ⟨⟨s', hI', hlt, hmt, he⟩, ha⟩ := h
    have ha' : agree mask f f2 := fun t ht => (ha t ht).trans (by simp [mixF, ht])
    exact ⟨μ s', O s', hlt, he, s', f2, hI', rfl, (mix_eq ha' hmt).symm, rfl⟩
  | _ => exact h.1
/-- A loop that leaves the blocks alone. -/
theorem loop_c {mask : Nat} {b : IC} {Q : Post} {σ : Type} (L : σ → List (Nat × Value)) (I : σ → Prop) (μ : σ → Nat) (s0 : σ) (h0 : I s0) (hf : matchF (L s0) f) (hm : asgIn mask b = true)
    (step : ∀ s junk, I s → XS P W0 b (thenQ (fun f' own' => ∃ s', I s' ∧ μ s' < μ s ∧ matchF (L s') f' ∧ Ent W0 own' own) Q) (mixF mask (L s) junk f) own) :
    LoopT P W0 b mask (XS P W0 b) Q f own := loop_i L (fun _ => own) I μ s0 h0 hf Ent.refl hm step
/-- So many rounds at most, each gone through. -/
noncomputable def Rounds (body : Post → Fr → Own → Prop) (Q : Post) (n : Nat) : Fr → Own → Prop :=
  Nat.rec (motive := fun _ => Fr → Own → Prop) (fun _ _ => False) (fun _ ih f own => body (thenQ ih Q) f own) n
theorem loop_r {mask : Nat} {b : IC} {Q : Post} (n : Nat) (h : Rounds (XS P W0 b) Q n f own) : LoopT P W0 b mask (XS P W0 b) Q f own := by
  refine ⟨fun k f' own' => Rounds (XS P W0 b) Q k f' own', ⟨n, own, Ent.refl, h⟩, fun k f' own' hI => ?_⟩
  cases k with
  | zero => exact hI.elim
  | succ k =>
    refine XS_mono b _ _ ?_ f' own' hI
    intro e f2 o2 h'
    cases e with
    | normal => exact ⟨k, o2, Nat.lt_succ_self k, Ent.refl, h'⟩
    | _ => exact h'
/-- A cut at which nothing is summed up. -/
theorem cut_n {a b : IC} {Q : Post} (h : XS P W0 a (thenQ (XS P W0 b Q) Q) f own) : CutT P W0 a b (XS P W0 a) (XS P W0 b) Q f own := by
  refine ⟨XS_mono a _ _ ?_ f own h⟩
  intro e f' own' h
  cases e with
  | normal => exact ⟨own', Ent.refl, h⟩
  | _ => exact h
/- INTEGERS -/
theorem wrap_i64 {e : Int} (h1 : -9223372036854775808 ≤ e) (h2 : e ≤ 9223372036854775807) : IntKind.i64.wrap e = e := by
  unfold IntKind.wrap
  have h3 : ((2 : Int) ^ IntKind.i64.bits) = 18446744073709551616 := rfl
  have h4 : ((2 : Int) ^ (IntKind.i64.bits - 1)) = 9223372036854775808 := rfl
  simp only [h3, h4, IntKind.signed, Bool.true_and, decide_eq_true_eq]
  split <;> omega
theorem wrap_u64 {e : Int} (h1 : 0 ≤ e) (h2 : e ≤ 18446744073709551615) : IntKind.u64.wrap e = e := by
  unfold IntKind.wrap
  have h3 : ((2 : Int) ^ IntKind.u64.bits) = 18446744073709551616 := rfl
  simp only [h3, IntKind.signed, Bool.false_and, Bool.false_eq_true, if_false]
  omega
theorem ari {e : Int} {K : Int → Prop} (h1 : -9223372036854775808 ≤ e ∧ e ≤ 9223372036854775807) (h : K e) : Arith .i64 e K := ⟨by rw [wrap_i64 h1.1 h1.2]; exact h⟩
theorem aru {e : Int} {K : Int → Prop} (h1 : 0 ≤ e ∧ e ≤ 18446744073709551615) (h : K e) : Arith .u64 e K := ⟨by rw [wrap_u64 h1.1 h1.2]; exact h⟩
theorem arw {k : IntKind} {e : Int} {K : Int → Prop} (h : K (k.wrap e)) : Arith k e K := ⟨h⟩
theorem mm_min {a b : Int} {K : Int → Prop} (h : K (min a b)) : MM false a b K := ⟨h⟩
theorem mm_max {a b : Int} {K : Int → Prop} (h : K (max a b)) : MM true a b K := ⟨h⟩
theorem quo_i {m n : Int} {K : Int → Prop} (h1 : 0 ≤ m ∧ 0 < n ∧ m ≤ 9223372036854775807) (h : K (m / n)) : Quo .i64 m n K := by
  refine ⟨by omega, ?_⟩
  have e : m.tdiv n = m / n := Int.tdiv_eq_ediv_of_nonneg h1.1
  have h2 : 0 ≤ m / n := Int.ediv_nonneg h1.1 (by omega)
  have h3 : m / n ≤ m := Int.ediv_le_self _ h1.1
  rw [e, wrap_i64 (by omega) (by omega)]
  exact h
theorem rem_i {m n : Int} {K : Int → Prop} (h1 : 0 ≤ m ∧ 0 < n) (h : K (m % n)) : Rem m n K := by
  refine ⟨by omega, ?_⟩
  rw [Int.tmod_eq_emod_of_nonneg h1.1]
  exact h
theorem shl_i {m n : Int} {K : Int → Prop} (h1 : 0 ≤ n ∧ n ≤ 64) (h2 : -9223372036854775808 ≤ m * 2 ^ n.toNat ∧ m * 2 ^ n.toNat ≤ 9223372036854775807) (h : K (m * 2 ^ n.toNat)) : Shl .i64 m n K := by
  refine ⟨h1.1, ?_⟩
  have e : min n.toNat IntKind.i64.bits = n.toNat := by simp only [IntKind.bits]; omega
  rw [e, wrap_i64 h2.1 h2.2]
  exact h
theorem shl_l {m n : Int} {K : Int → Prop} (k : Nat) (c : Int) (hn : n = (k : Int)) (hc : (2 : Int) ^ k = c) (hk : k ≤ 64) (h2 : -9223372036854775808 ≤ m * c ∧ m * c ≤ 9223372036854775807) (h : K (m * c)) : Shl .i64 m n K := by
  subst hn; subst hc
  exact shl_i ⟨by omega, by omega⟩ (by simpa using h2) (by simpa using h)
theorem shl0 {m : Int} {K : Int → Prop} (h2 : -9223372036854775808 ≤ m ∧ m ≤ 9223372036854775807) (h : K m) : Shl .i64 m 0 K := shl_l 0 1 rfl rfl (by omega) (by simpa using h2) (by simpa using h)
theorem shl1 {m : Int} {K : Int → Prop} (h2 : -9223372036854775808 ≤ m * 2 ∧ m * 2 ≤ 9223372036854775807) (h : K (m * 2)) : Shl .i64 m 1 K := shl_l 1 2 rfl rfl (by omega) h2 h
theorem shl2 {m : Int} {K : Int → Prop} (h2 : -9223372036854775808 ≤ m * 4 ∧ m * 4 ≤ 9223372036854775807) (h : K (m * 4)) : Shl .i64 m 2 K := shl_l 2 4 rfl rfl (by omega) h2 h
theorem shl3 {m : Int} {K : Int → Prop} (h2 : -9223372036854775808 ≤ m * 8 ∧ m * 8 ≤ 9223372036854775807) (h : K (m * 8)) : Shl .i64 m 3 K := shl_l 3 8 rfl rfl (by omega) h2 h
/- INDICES, SELECTIONS, BRANCHES -/
theorem ixj {n : Nat} {K : Nat → Prop} (j : Nat) (hj : j < n) (h : K j) : Idx (j : Int) n K := ⟨j, rfl, hj, h⟩
theorem ixn {i : Int} {n : Nat} {K : Nat → Prop} (h1 : 0 ≤ i ∧ i < n) (h : K i.toNat) : Idx i n K := ⟨i.toNat, by omega, by omega, h⟩
theorem ix0 {n : Nat} {K : Nat → Prop} (hj : Nat.blt 0 n = true) (h : K 0) : Idx 0 n K := ⟨0, rfl, by simpa using hj, h⟩
theorem ix1 {n : Nat} {K : Nat → Prop} (hj : Nat.blt 1 n = true) (h : K 1) : Idx 1 n K := ⟨1, rfl, by simpa using hj, h⟩
theorem ix2 {n : Nat} {K : Nat → Prop} (hj : Nat.blt 2 n = true) (h : K 2) : Idx 2 n K := ⟨2, rfl, by simpa using hj, h⟩
theorem ix3 {n : Nat} {K : Nat → Prop} (hj : Nat.blt 3 n = true) (h : K 3) : Idx 3 n K := ⟨3, rfl, by simpa using hj, h⟩
theorem ix4 {n : Nat} {K : Nat → Prop} (hj : Nat.blt 4 n = true) (h : K 4) : Idx 4 n K := ⟨4, rfl, by simpa using hj, h⟩
theorem ixs_j {b o sz n j : Nat} {K : Addr → Prop} (hj : j < n) (h : K ⟨b, o + j * sz, none⟩) : IxS (some ⟨b, o, none⟩) sz (j : Int) n K := ⟨j, b, o, rfl, hj, rfl, h⟩
theorem ixs_n {b o sz n : Nat} {i : Int} {K : Addr → Prop} (hj : 0 ≤ i ∧ i < n) (h : K ⟨b, o + i.toNat * sz, none⟩) : IxS (some ⟨b, o, none⟩) sz i n K := ⟨i.toNat, b, o, by omega, by omega, rfl, h⟩
theorem ixs0 {b o sz n : Nat} {K : Addr → Prop} (hj : Nat.blt 0 n = true) (h : K ⟨b, o, none⟩) : IxS (some ⟨b, o, none⟩) sz 0 n K := ⟨0, b, o, rfl, by simpa using hj, rfl, by simpa using h⟩
theorem ixs1 {b o sz n : Nat} {K : Addr → Prop} (hj : Nat.blt 1 n = true) (h : K ⟨b, o + sz, none⟩) : IxS (some ⟨b, o, none⟩) sz 1 n K := ⟨1, b, o, rfl, by simpa using hj, rfl, by simpa using h⟩
theorem ixs2 {b o sz n : Nat} {K : Addr → Prop} (hj : Nat.blt 2 n = true) (h : K ⟨b, o + 2 * sz, none⟩) : IxS (some ⟨b, o, none⟩) sz 2 n K := ⟨2, b, o, rfl, by simpa using hj, rfl, by simpa using h⟩
theorem eq_yes {ks : List Nat} {xs ys : List Value} {K : Bool → Prop} (he : eqC ks xs ys = some true) (h : K true) : EqT ks xs ys K := ⟨true, he, h⟩
theorem sel {o : Option Value} {K : Value → Prop} (v : Value) (hv : o = some v) (h : K v) : Sel o K := ⟨v, hv, h⟩
theorem when_y {b : Bool} {Ky Kn : Prop} (h : Ky) : When b b Ky Kn := ⟨fun _ => h, fun e => by cases b <;> cases e⟩
theorem when_tf {Ky Kn : Prop} (h : Kn) : When true false Ky Kn := ⟨fun e => (by cases e), fun _ => h⟩
theorem when_ft {Ky Kn : Prop} (h : Kn) : When false true Ky Kn := ⟨fun e => (by cases e), fun _ => h⟩
theorem when_dt {p : Prop} [Decidable p] {Ky Kn : Prop} (hy : p → Ky) (hn : ¬p → Kn) : When (decide p) true Ky Kn := ⟨fun e => hy (of_decide_eq_true e), fun e => hn (of_decide_eq_false e)⟩
theorem when_df {p : Prop} [Decidable p] {Ky Kn : Prop} (hy : ¬p → Ky) (hn : p → Kn) : When (decide p) false Ky Kn := ⟨fun e => hy (of_decide_eq_false e), fun e => hn (of_decide_eq_true e)⟩
theorem when_ndt {p : Prop} [Decidable p] {Ky Kn : Prop} (hy : ¬p → Ky) (hn : p → Kn) : When (!decide p) true Ky Kn := ⟨fun e => hy (by simpa using e), fun e => hn (by simpa using e)⟩
theorem when_ndf {p : Prop} [Decidable p] {Ky Kn : Prop} (hy : p → Ky) (hn : ¬p → Kn) : When (!decide p) false Ky Kn := ⟨fun e => hy (by simpa using e), fun e => hn (by simpa using e)⟩
theorem br_t {Ky Kn : Prop} (h : Ky) : Br true Ky Kn := ⟨fun _ => h, fun e => by cases e⟩
theorem br_f {Ky Kn : Prop} (h : Kn) : Br false Ky Kn := ⟨fun e => (by cases e), fun _ => h⟩
theorem br_d {p : Prop} [Decidable p] {Ky Kn : Prop} (hy : p → Ky) (hn : ¬p → Kn) : Br (decide p) Ky Kn := ⟨fun e => hy (of_decide_eq_true e), fun e => hn (of_decide_eq_false e)⟩
theorem br_nd {p : Prop} [Decidable p] {Ky Kn : Prop} (hy : ¬p → Ky) (hn : p → Kn) : Br (!decide p) Ky Kn := ⟨fun e => hy (by simpa using e), fun e => hn (by simpa using e)⟩
theorem br_py {p : Prop} [Decidable p] {Ky Kn : Prop} (hp : p) (h : Ky) : Br (decide p) Ky Kn := br_d (fun _ => h) (fun hn => absurd hp hn)
theorem br_pn {p : Prop} [Decidable p] {Ky Kn : Prop} (hp : ¬p) (h : Kn) : Br (decide p) Ky Kn := br_d (fun hy => absurd hy hp) (fun _ => h)
theorem when_py {p : Prop} [Decidable p] {b : Bool} {Ky Kn : Prop} (hp : p) (h : When true b Ky Kn) : When (decide p) b Ky Kn := by rw [decide_eq_true hp]; exact h
theorem when_pn {p : Prop} [Decidable p] {b : Bool} {Ky Kn : Prop} (hp : ¬p) (h : When false b Ky Kn) : When (decide p) b Ky Kn := by rw [decide_eq_false hp]; exact h
theorem when_npy {p : Prop} [Decidable p] {b : Bool} {Ky Kn : Prop} (hp : p) (h : When false b Ky Kn) : When (!decide p) b Ky Kn := by rw [decide_eq_true hp]; exact h
theorem when_npn {p : Prop} [Decidable p] {b : Bool} {Ky Kn : Prop} (hp : ¬p) (h : When true b Ky Kn) : When (!decide p) b Ky Kn := by rw [decide_eq_false hp]; exact h
theorem br_npy {p : Prop} [Decidable p] {Ky Kn : Prop} (hp : p) (h : Kn) : Br (!decide p) Ky Kn := by rw [decide_eq_true hp]; exact br_f h
theorem br_npn {p : Prop} [Decidable p] {Ky Kn : Prop} (hp : ¬p) (h : Ky) : Br (!decide p) Ky Kn := by rw [decide_eq_false hp]; exact br_t h
/- FLOATS -/
/- MEMORY -/
theorem new_i {o : Obj} {K : Nat → Own → Prop} (h : ∀ b, W0.heap.size ≤ b → K b ((b, (· = o)) :: own)) : New W0 own o K := ⟨fun b hb _ => h b hb⟩
/-- The same, and the block is behind all that are listed. -/
theorem new_lt {o : Obj} {K : Nat → Own → Prop} (h : ∀ b, W0.heap.size ≤ b → (∀ e ∈ own, e.1 < b) → K b ((b, (· = o)) :: own)) : New W0 own o K := ⟨h⟩
theorem kn_cell {b off : Nat} {cs : Array Value} {T : TypeId} {fz : Nat × Nat} {v : Value} (hm : (b, fun o => o = Obj.cells cs T fz) ∈ own) (hv : cs.toList[off]? = some v) : Kn W0 own (fun w => w.cell? ⟨b, off, none⟩ = some v) := by
  intro w hw
  obtain ⟨o, ho, rfl⟩ := hw.owns _ hm
  simp only [World.cell?, ho]
  rw [Array.getElem?_toList] at hv
  simpa using hv
theorem ld_own {b off : Nat} {cs : Array Value} {T : TypeId} {fz : Nat × Nat} {K : Value → Prop} (v : Value) (hm : (b, fun o => o = Obj.cells cs T fz) ∈ own) (hv : cs.toList[off]? = some v) (h : K v) :
    Ld W0 own ⟨b, off, none⟩ K := ⟨v, kn_cell hm hv, h⟩
theorem ldN_own {b off n : Nat} {cs : Array Value} {T : TypeId} {fz : Nat × Nat} {K : Array Value → Prop} (vs : List Value) (hm : (b, fun o => o = Obj.cells cs T fz) ∈ own) (hv : (cs.toList.drop off).take n = vs) (hl : vs.length = n) (h : K vs.toArray) :
    LdN W0 own ⟨b, off, none⟩ n K := by
  refine ⟨vs.toArray, by simpa using hl, fun w hw j hj => ?_, h⟩
  rw [addr_add]
  have hj' : j < vs.length := by omega
  refine (kn_cell (v := vs[j]) hm ?_ w hw).trans (by simp [hj'])
  subst hv
  rw [List.getElem?_eq_some_iff]
  simp only [List.length_take, List.length_drop] at hj'
  exact ⟨by omega, by simp [List.getElem_take, List.getElem_drop]⟩
theorem ldN_all {b n : Nat} {cs : Array Value} {T : TypeId} {fz : Nat × Nat} {K : Array Value → Prop} (hm : (b, fun o => o = Obj.cells cs T fz) ∈ own) (hl : cs.toList.length = n) (h : K cs) :
    LdN W0 own ⟨b, 0, none⟩ n K := by
  refine ⟨cs, hl, fun w hw j hj => ?_, h⟩
  rw [addr_add, Nat.zero_add]
  have hj' : j < cs.toList.length := by omega
  exact (kn_cell (v := cs.toList[j]) hm (List.getElem?_eq_getElem hj') w hw).trans (List.getElem?_eq_getElem hj').symm
theorem ld_kn {a : Addr} {K : Value → Prop} {v : Value} (hv : Kn W0 own (fun w => w.cell? a = some v)) (h : K v) : Ld W0 own a K := ⟨v, hv, h⟩
/-- Equality of lists, told cell by cell. -/
inductive Lis : List Value → List Value → Prop
  | nil : Lis [] []
  | cons {a : Value} {l l' : List Value} (h : Lis l l') : Lis (a :: l) (a :: l')
theorem Lis.eq {l l' : List Value} (h : Lis l l') : l' = l := by
  induction h with
  | nil => rfl
  | cons _ ih => rw [ih]
/-- One cell set, told cell by cell. -/
inductive SetAt : List Value → Nat → Value → List Value → Prop
  | here {a v : Value} {l l' : List Value} (h : Lis l l') : SetAt (a :: l) 0 v (v :: l')
  | there {a v : Value} {n : Nat} {l l' : List Value} (h : SetAt l n v l') : SetAt (a :: l) (n + 1) v (a :: l')
theorem SetAt.eq {l l' : List Value} {n : Nat} {v : Value} (h : SetAt l n v l') : n < l.length ∧ l' = l.set n v := by
  induction h with
  | here h => exact ⟨by simp, by rw [h.eq]; rfl⟩
  | there _ ih => exact ⟨by simp only [List.length_cons]; omega, by rw [ih.2]; rfl⟩
/-- So many cells set. -/
inductive PutAt : List Value → Nat → List Value → List Value → Prop
  | done {l l' : List Value} (h : Lis l l') : PutAt l 0 [] l'
  | put {a v : Value} {l vs l' : List Value} (h : PutAt l 0 vs l') : PutAt (a :: l) 0 (v :: vs) (v :: l')
  | skip {a : Value} {n : Nat} {l vs l' : List Value} (h : PutAt l n vs l') : PutAt (a :: l) (n + 1) vs (a :: l')
theorem PutAt.eq {l l' : List Value} {n : Nat} {vs : List Value} (h : PutAt l n vs l') : n + vs.length ≤ l.length ∧ l' = l.take n ++ vs ++ l.drop (n + vs.length) := by
  induction h with
  | done h => exact ⟨by simp, by simp [h.eq]⟩
  | put _ ih => exact ⟨by simp only [List.length_cons]; omega, by rw [ih.2]; simp⟩
  | skip _ ih =>
    refine ⟨by simp only [List.length_cons]; omega, ?_⟩
    rw [ih.2]
    rename_i n _ vs _ _
    have e : n + 1 + vs.length = (n + vs.length) + 1 := by omega
    simp [e]
theorem st_own {b off : Nat} {cs : Array Value} {cs' : List Value} {T : TypeId} {v : Value} {K : Own → Prop} {own' : Own}
    (hu : Up b (fun o => o = Obj.cells cs T (0, 0)) (fun o => o = Obj.cells cs'.toArray T (0, 0)) own own') (hset : SetAt cs.toList off v cs') (h1 : oneC v = true) (h : K own') : StT W0 own ⟨b, off, none⟩ v K := by
  obtain ⟨hoff, rfl⟩ := hset.eq
  refine ⟨h1, own', fun w hw => ?_, h⟩
  obtain ⟨o, ho, rfl⟩ := hw.owns _ hu.mem
  have hoff' : off < cs.size := by simpa using hoff
  refine ⟨by simp [World.cell?, ho, hoff'], by simp [World.frozen?, ho], hw.up hu rfl rfl rfl (by simp [World.setCell]) (fun k _ hne => ?_) ⟨_, ?_, rfl⟩⟩
  · rw [setCell_heap, if_neg (fun e => hne e.symm)]
  · rw [setCell_heap, if_pos rfl, ho]
    simp only [Option.map_some, Option.isSome_none, Bool.false_eq_true, if_false]
    congr 2
    rw [← Array.toList_inj]
    simp
theorem setN_eq {b : Nat} {T : TypeId} : ∀ (vs : List Value) (j : Nat) (w : World) (off : Nat) (cs : List Value), w.heap[b]? = some (.cells cs.toArray T (0, 0)) → off + j + vs.length ≤ cs.length →
    (setN w ⟨b, off, none⟩ j vs).heap[b]? = some (.cells (cs.take (off + j) ++ vs ++ cs.drop (off + j + vs.length)).toArray T (0, 0)) ∧ (∀ k, k ≠ b → (setN w ⟨b, off, none⟩ j vs).heap[k]? = w.heap[k]?) ∧
      (setN w ⟨b, off, none⟩ j vs).heap.size = w.heap.size ∧ (setN w ⟨b, off, none⟩ j vs).os = w.os ∧ (setN w ⟨b, off, none⟩ j vs).tape = w.tape ∧ (setN w ⟨b, off, none⟩ j vs).output = w.output
  | [], j, w, off, cs, h, hl => ⟨by simpa [setN] using h, fun _ _ => rfl, rfl, rfl, rfl, rfl⟩
  | v :: vs, j, w, off, cs, h, hl => by
    simp only [List.length_cons] at hl
    have h1 : (w.setCell ⟨b, off + j, none⟩ v).heap[b]? = some (.cells (cs.set (off + j) v).toArray T (0, 0)) := by
      rw [setCell_heap, if_pos rfl, h]
      simp
    have ih := setN_eq vs (j + 1) (w.setCell ⟨b, off + j, none⟩ v) off (cs.set (off + j) v) h1 (by simp; omega)
    simp only [setN, addr_add]
    refine ⟨?_, fun k hk => (ih.2.1 k hk).trans (by rw [setCell_heap, if_neg (fun e => hk e.symm)]), ih.2.2.1.trans (by simp [World.setCell]), ih.2.2.2.1, ih.2.2.2.2.1, ih.2.2.2.2.2⟩
    rw [ih.1]
    congr 3
    have e1 : off + (j + 1) = off + j + 1 := by omega
    rw [e1, List.take_set, List.drop_set_of_lt (by omega), List.take_succ_eq_append_getElem (by omega)]
    have e2 : (List.take (off + j) cs ++ [cs[off + j]]).set (off + j) v = List.take (off + j) cs ++ [v] := by
      rw [List.set_append_right _ _ (by simp; omega)]
      have : off + j - (List.take (off + j) cs).length = 0 := by simp; omega
      rw [this]
      rfl
    rw [e2]
    simp [Nat.add_assoc, Nat.add_comm 1]
theorem stN_own {b off : Nat} {cs : Array Value} {cs' : List Value} {T : TypeId} {vs : List Value} {K : Own → Prop} {own' : Own}
    (hu : Up b (fun o => o = Obj.cells cs T (0, 0)) (fun o => o = Obj.cells cs'.toArray T (0, 0)) own own') (hput : PutAt cs.toList off vs cs') (h1 : vs.all oneC = true)
    (h : K own') : StN W0 own ⟨b, off, none⟩ vs K := by
  obtain ⟨hoff, rfl⟩ := hput.eq
  refine ⟨by simpa using h1, own', fun w hw => ?_, h⟩
  obtain ⟨o, ho, rfl⟩ := hw.owns _ hu.mem
  have hoff' : off + vs.length ≤ cs.size := by simpa using hoff
  have hs := setN_eq (T := T) vs 0 w off cs.toList (by simpa using ho) (by simpa using hoff)
  refine ⟨fun j hj => ?_, hw.up hu hs.2.2.2.1 hs.2.2.2.2.1 hs.2.2.2.2.2 (by rw [hs.2.2.1]; exact Nat.le_refl _) (fun k _ hne => hs.2.1 k hne) ⟨_, by simpa using hs.1, rfl⟩⟩
  rw [addr_add]
  have hlt : off + j < cs.size := by omega
  exact ⟨by simp [World.cell?, ho, hlt], by simp [World.frozen?, ho]⟩
/- RESULTS -/
theorem vi {k : IntKind} {a b : Int} (h : a = b) : Value.int k a = .int k b := by rw [h]
theorem vb {a b : Bool} (h : a = b) : Value.bool a = .bool b := by rw [h]
theorem ret1 {a a' : Value} (h1 : a = a') : resV [a] = a' := h1
theorem ret2 {a b a' b' : Value} (h1 : a = a') (h2 : b = b') : resV [a, b] = .tuple #[a', b'] := by rw [h1, h2]; rfl
theorem dd {p q : Prop} [Decidable p] [Decidable q] (h : p ↔ q) : decide p = decide q := decide_eq_decide.2 h
theorem df {q : Prop} [Decidable q] (h : ¬q) : false = decide q := (decide_eq_false h).symm
theorem dt {q : Prop} [Decidable q] (h : q) : true = decide q := (decide_eq_true h).symm
/- CALLS -/
/-- A call that leaves the class as it is. -/
def Pure (P : Program) (W0 : World) (k : FuncId) (args : List Value) (own : Own) (v : Value) : Prop :=
  ∀ w, St W0 own w → Calls P k args.toArray w fun e w' => e = .returned v ∧ St W0 own w'
theorem pure_of {k : FuncId} {args : List Value} {v : Value} (h : Spec P W0 k args own fun v' own' => v' = v ∧ Ent W0 own' own) : Pure P W0 k args own v := fun w hw =>
  (h w hw).mono fun _ w' ⟨_, _, he, hs, hv, hE⟩ => ⟨by rw [he, hv], hE w' hs⟩
theorem call_p {k : FuncId} {args : List Value} {v : Value} {K : Value → Own → Prop} (h : Pure P W0 k args own v) (hk : K v own) : CallT P W0 own k args K :=
  ⟨fun w hw => (h w hw).mono fun _ _ ⟨he, hs⟩ => ⟨v, own, he, hs, hk⟩⟩
theorem call_q {k : FuncId} {args : List Value} {v : Value} {K : Value → Prop} (h : ∀ own', Pure P W0 k args own' v) (hk : K v) : CallQ P W0 own k args K := ⟨v, fun ex w hw => h (ex ++ own) w hw, hk⟩
theorem call_s {k : FuncId} {args : List Value} {R K : Value → Own → Prop} (h : Spec P W0 k args own R) (hk : ∀ v own', R v own' → K v own') : CallT P W0 own k args K :=
  ⟨fun w hw => (h w hw).mono fun _ _ ⟨v, own', he, hs, hr⟩ => ⟨v, own', he, hs, hk _ _ hr⟩⟩
end rules
end Go.Proofs.YtiimndcifcoofaaGreatDoor
namespace Go.Proofs.YtiimndcifcoofaaGreatDoor
open Go
def ab : Option Addr → Nat
  | some a => a.block
  | none => 0
def ao : Option Addr → Nat
  | some a => a.off
  | none => 0
section ent
variable {W0 : World} {own : Own}
theorem Ent.left {D r : Own} : Ent W0 (D ++ r) D := Ent.of_sub (List.sublist_append_left D r)
theorem Ent.right {D r : Own} : Ent W0 (D ++ r) r := Ent.of_sub (List.sublist_append_right D r)
theorem Ent.app {A own' : Own} (h : Ent W0 own own') : Ent W0 (A ++ own) own' := Ent.right.trans h
theorem Ent.none : Ent W0 own [] := Ent.of_sub (List.nil_sublist own)
/-- A part of a list of owned blocks, and the list around it. -/
inductive At (D : Own) : Own → (Own → Own) → Prop
  | head {r : Own} : At D (D ++ r) (fun X => X ++ r)
  | tail {e : Nat × (Obj → Prop)} {r : Own} {C : Own → Own} (h : At D r C) : At D (e :: r) (fun X => e :: C X)
  | skip {A r : Own} {C : Own → Own} (h : At D r C) : At D (A ++ r) (fun X => A ++ C X)
theorem At.perm {D own : Own} {C : Own → Own} (h : At D own C) : ∃ r, own.Perm (D ++ r) ∧ ∀ X, (C X).Perm (X ++ r) := by
  induction h with
  | head => exact ⟨_, List.Perm.refl _, fun _ => List.Perm.refl _⟩
  | @tail e r C h ih =>
    obtain ⟨r', h1, h2⟩ := ih
    exact ⟨e :: r', (h1.cons e).trans List.perm_middle.symm, fun X => ((h2 X).cons e).trans List.perm_middle.symm⟩
  | @skip A r C h ih =>
    obtain ⟨r', h1, h2⟩ := ih
    have sw : ∀ X : Own, (A ++ (X ++ r')).Perm (X ++ (A ++ r')) := fun X => by
      rw [← List.append_assoc, ← List.append_assoc]
      exact List.perm_append_comm.append_right r'
    exact ⟨A ++ r', (h1.append_left A).trans (sw D), fun X => ((h2 X).append_left A).trans (sw X)⟩
theorem At.ent {D own : Own} {C : Own → Own} (h : At D own C) {e : Nat × (Obj → Prop)} : Ent W0 (e :: own) (C [e]) := by
  obtain ⟨r, h1, h2⟩ := h.perm
  refine (Ent.of_perm (h1.cons e)).trans ((Ent.of_sub (List.Sublist.cons_cons e (List.sublist_append_right D r))).trans (Ent.of_perm (h2 [e]).symm))
theorem At.self {D own : Own} {C : Own → Own} (h : At D own C) : Ent W0 own D := by
  obtain ⟨r, h1, _⟩ := h.perm
  exact (Ent.of_perm h1).trans Ent.left
theorem At.same {D own : Own} {C : Own → Own} (h : At D own C) : C D = own := by
  induction h with
  | head => rfl
  | tail _ ih => exact congrArg _ ih
  | skip _ ih => exact congrArg _ ih
theorem Up.app {b : Nat} {p q : Obj → Prop} {r r' : Own} (h : Up b p q r r') : ∀ A : Own, Up b p q (A ++ r) (A ++ r')
  | [] => h
  | _ :: A => Up.tail (Up.app h A)
theorem At.up {b : Nat} {p : Obj → Prop} {own : Own} {C : Own → Own} (h : At [(b, p)] own C) (q : Obj → Prop) : Up b p q own (C [(b, q)]) := by
  generalize hD : [(b, p)] = D at h
  induction h with
  | head => subst hD; exact Up.head
  | tail _ ih => exact Up.tail ih
  | @skip A _ _ _ ih => exact Up.app ih A
end ent
section flat
variable {α : Type} {enc : α → List Value} {sz : Nat}
theorem flat_len : ∀ (l : List α), (∀ x ∈ l, (enc x).length = sz) → (l.map enc).flatten.length = l.length * sz
  | [], _ => by simp
  | x :: l, h => by
    simp only [List.map_cons, List.flatten_cons, List.length_append, List.length_cons, flat_len l (fun y hy => h y (List.mem_cons_of_mem _ hy)), h x List.mem_cons_self, Nat.succ_mul]
    omega
theorem flat_get : ∀ (l : List α), (∀ x ∈ l, (enc x).length = sz) → ∀ {j k : Nat} {x : α} {v : Value}, l[j]? = some x → (enc x)[k]? = some v → (l.map enc).flatten[j * sz + k]? = some v
  | [], _, j, k, x, v, h, _ => by simp at h
  | y :: l, h, 0, k, x, v, hx, hv => by
    simp only [List.getElem?_cons_zero, Option.some.injEq] at hx
    subst hx
    have hk := (List.getElem?_eq_some_iff.1 hv).1
    simp only [List.map_cons, List.flatten_cons, Nat.zero_mul, Nat.zero_add]
    rw [List.getElem?_append_left hk, hv]
  | y :: l, h, j + 1, k, x, v, hx, hv => by
    have hy := h y List.mem_cons_self
    simp only [List.map_cons, List.flatten_cons]
    rw [List.getElem?_append_right (by rw [hy, Nat.succ_mul]; omega), hy]
    have e : (j + 1) * sz + k - sz = j * sz + k := by rw [Nat.succ_mul]; omega
    rw [e]
    exact flat_get l (fun z hz => h z (List.mem_cons_of_mem _ hz)) (by simpa using hx) hv
end flat
/-- A slice that is read: the cells of its elements, in every world of the class. -/
structure RdE {α : Type} (enc : α → List Value) (sz : Nat) (W0 : World) (own : Own) (a : Option Addr) (l : List α) : Prop where
  isS : l ≠ [] → a = some ⟨ab a, ao a, none⟩
  wid : ∀ x ∈ l, (enc x).length = sz
  cell : ∀ {j k : Nat} {x : α} {v : Value}, l[j]? = some x → (enc x)[k]? = some v → Kn W0 own (fun w => w.cell? ⟨ab a, ao a + j * sz + k, none⟩ = some v)
/-- A slice that is owned. -/
structure BufE {α : Type} (enc : α → List Value) (T : TypeId) (sz : Nat) (a : Option Addr) (cap : Nat) (l : List α) (D : Own) : Prop where
  wid : ∀ x ∈ l, (enc x).length = sz
  how : (l = [] ∧ cap = 0 ∧ D = []) ∨ ∃ b rest, a = some ⟨b, 0, none⟩ ∧ D = [(b, fun o => o = Obj.cells ((l.map enc).flatten ++ rest).toArray T)] ∧ l.length * sz + rest.length = cap * sz ∧ l.length ≤ cap
section
variable {α : Type} {enc : α → List Value} {sz : Nat} {W0 : World} {own : Own} {a : Option Addr} {l : List α}
theorem RdE.ent {own' : Own} (h : RdE enc sz W0 own a l) (e : Ent W0 own' own) : RdE enc sz W0 own' a l := ⟨h.isS, h.wid, fun hx hv => (h.cell hx hv).ent e⟩
theorem RdE.nil : RdE enc sz W0 own a [] := ⟨fun h => absurd rfl h, fun _ h => (by cases h), fun h => (by simp at h)⟩
theorem ixE {i : Int} {K : Addr → Prop} {j : Nat} {x : α} (h : RdE enc sz W0 own a l) (hx : l[j]? = some x) (hi : i = j) (hk : K ⟨ab a, ao a + j * sz, none⟩) : IxS a sz i l.length K :=
  ⟨j, ab a, ao a, hi, (List.getElem?_eq_some_iff.1 hx).1, h.isS (fun e => by subst e; simp at hx), hk⟩
theorem ldE {j k o : Nat} {x : α} {v : Value} {K : Value → Prop} (h : RdE enc sz W0 own a l) (hx : l[j]? = some x) (ho : o = ao a + j * sz + k) (hv : (enc x)[k]? = some v) (hk : K v) : Ld W0 own ⟨ab a, o, none⟩ K := by
  subst ho; exact ⟨v, h.cell hx hv, hk⟩
theorem ldNE {j o n : Nat} {x : α} {K : Array Value → Prop} (h : RdE enc sz W0 own a l) (hx : l[j]? = some x) (ho : o = ao a + j * sz) (hn : n = sz) (hk : K (enc x).toArray) : LdN W0 own ⟨ab a, o, none⟩ n K := by
  subst ho; subst hn
  have hw := h.wid x (List.mem_of_getElem? hx)
  refine ⟨(enc x).toArray, by simpa using hw, fun w hs i hi => ?_, hk⟩
  rw [addr_add]
  have hi' : i < (enc x).length := by omega
  exact (h.cell (v := (enc x)[i]) hx (List.getElem?_eq_getElem hi') w hs).trans (by simp [hi'])
theorem BufE.rd {T : TypeId} {cap : Nat} {D : Own} (h : BufE enc T sz a cap l D) : RdE enc sz W0 D a l := by
  rcases h.how with ⟨rfl, _, _⟩ | ⟨b, rest, rfl, rfl, hl, _⟩
  · exact RdE.nil
  · refine ⟨fun _ => rfl, h.wid, fun {j k x v} hx hv => ?_⟩
    have hf := flat_get l h.wid hx hv
    have hlt := (List.getElem?_eq_some_iff.1 hf).1
    show Kn W0 _ (fun w => w.cell? ⟨b, 0 + j * sz + k, none⟩ = some v)
    refine kn_cell (List.Mem.head _) ?_
    rw [Nat.zero_add, List.getElem?_append_left hlt, hf]
theorem BufE.le {T : TypeId} {cap : Nat} {D : Own} (h : BufE enc T sz a cap l D) : l.length ≤ cap := by
  rcases h.how with ⟨rfl, rfl, _⟩ | ⟨_, _, _, _, _, hl⟩
  · simp
  · exact hl
theorem BufE.nil {T : TypeId} : BufE enc T sz a 0 [] [] := ⟨fun _ h => (by cases h), .inl ⟨rfl, rfl, rfl⟩⟩
theorem rd_blk {b : Nat} {cs : Array Value} {T : TypeId} {fz : Nat × Nat} (hm : (b, fun o => o = Obj.cells cs T fz) ∈ own) (hw : ∀ x ∈ l, (enc x).length = sz) (hc : cs.toList = (l.map enc).flatten) : RdE enc sz W0 own (some ⟨b, 0, none⟩) l := by
  refine ⟨fun _ => rfl, hw, fun {j k x v} hx hv => ?_⟩
  have hf := flat_get l hw hx hv
  show Kn W0 own (fun w => w.cell? ⟨b, 0 + j * sz + k, none⟩ = some v)
  exact kn_cell hm (by rw [hc, Nat.zero_add]; exact hf)
theorem setN_up {b : Nat} {T : TypeId} {w : World} {own' : Own} {cs vs : List Value} {off : Nat} (hw : St W0 own w) (hu : Up b (fun o => o = Obj.cells cs.toArray T) (fun o => o = Obj.cells (cs.take off ++ vs ++ cs.drop (off + vs.length)).toArray T) own own') (hl : off + vs.length ≤ cs.length) :
    (∀ j, j < vs.length → (w.cell? ⟨b, off + j, none⟩).isSome = true ∧ w.frozen? ⟨b, off + j, none⟩ = false) ∧ St W0 own' (setN w ⟨b, off, none⟩ 0 vs) := by
  obtain ⟨o, ho, rfl⟩ := hw.owns _ hu.mem
  have hs := setN_eq (T := T) vs 0 w off cs ho (by simpa using hl)
  refine ⟨fun j hj => ?_, hw.up hu hs.2.2.2.1 hs.2.2.2.2.1 hs.2.2.2.2.2 (by rw [hs.2.2.1]; exact Nat.le_refl _) (fun k _ hne => hs.2.1 k hne) ⟨_, by simpa using hs.1, rfl⟩⟩
  have hlt : off + j < cs.length := by omega
  exact ⟨by simp [World.cell?, ho, hlt], by simp [World.frozen?, ho]⟩
/-- An append of elements that are read. -/
theorem app_c {T : TypeId} {bytes cap m : Nat} {zs : List Value} {D : Own} {C : Own → Own} {a2 : Option Addr} {l2 : List α} {K : Value → Own → Prop} (hB : BufE enc T sz a cap l D) (hat : At D own C) (hx : RdE enc sz W0 own a2 l2) (hm : m = l2.length)
    (hz : zs.length = sz) (hs : 0 < sz) (h1 : ∀ x ∈ l2, (enc x).all oneC = true) (hb : cap < l.length + l2.length → (l.length + l2.length) * bytes ≤ 140737488355328)
    (hk : ∀ a' cap' D', BufE enc T sz a' cap' (l ++ l2) D' → K (.slice a' (l.length + l2.length) cap') (C D')) : AppT W0 own T sz bytes zs a l.length cap a2 m K := by
  subst hm
  have hrd : RdE enc sz W0 own a l := (hB.rd (W0 := W0)).ent hat.self
  have holds : ∀ {a : Option Addr} {l : List α}, RdE enc sz W0 own a l → Kn W0 own (Holds a (l.map enc).flatten) := fun {a l} h w hw ad had j v hj => by
    have hlt := (List.getElem?_eq_some_iff.1 hj).1
    rw [flat_len l h.wid] at hlt
    have hj1 : j / sz < l.length := Nat.div_lt_of_lt_mul (by rwa [Nat.mul_comm])
    have hj2 : j % sz < sz := Nat.mod_lt _ hs
    have hx' : l[j / sz]? = some l[j / sz] := List.getElem?_eq_getElem hj1
    have hwd := h.wid _ (List.mem_of_getElem? hx')
    have hv' : (enc l[j / sz])[j % sz]? = some (enc l[j / sz])[j % sz] := List.getElem?_eq_getElem (by omega)
    have he : j / sz * sz + j % sz = j := Nat.div_add_mod' j sz
    have hf := flat_get l h.wid hx' hv'
    rw [he, hj] at hf
    have hS := h.isS (fun e => by subst e; simp at hj1)
    rw [hS] at had
    have had := Option.some.inj had
    rw [← had, addr_add]
    have hc := h.cell hx' hv' w hw
    have e2 : ao a + j / sz * sz + j % sz = ao a + j := by omega
    rw [e2] at hc
    rw [hc, hf]
  have wid2 : ∀ x ∈ l ++ l2, (enc x).length = sz := fun x h => (List.mem_append.1 h).elim (hB.wid x) (hx.wid x)
  refine ⟨(l.map enc).flatten, (l2.map enc).flatten, flat_len l hB.wid, flat_len l2 hx.wid, fun e => ?_, fun e => ?_, fun v hv => ?_, holds hrd, holds hx, fun hfit => ?_, fun hgr => ⟨hb hgr, fun b c' hb' hc' => ?_⟩⟩
  · cases l with
    | nil => rfl
    | cons x r => have := hrd.isS (by simp); rw [e] at this; cases this
  · cases l2 with
    | nil => rfl
    | cons x r => have := hx.isS (by simp); rw [e] at this; cases this
  · obtain ⟨cs, hcs, hv⟩ := List.mem_flatten.1 hv
    obtain ⟨x, hx', rfl⟩ := List.mem_map.1 hcs
    exact List.all_eq_true.1 (h1 x hx') v hv
  · rcases hB.how with ⟨rfl, rfl, rfl⟩ | ⟨b, rest, rfl, rfl, hl, hle⟩
    · have h2 : l2 = [] := by cases l2 with | nil => rfl | cons x r => simp at hfit
      subst h2
      have hC := hat.same
      refine ⟨own, fun w hw => ⟨fun ad _ => ⟨fun j hj => by simp at hj, by simpa [setN] using hw⟩, fun _ => hw⟩, ?_⟩
      have := hk a 0 [] BufE.nil
      rw [hC] at this
      exact this
    · have hfl := flat_len l hB.wid
      have hfl2 := flat_len l2 hx.wid
      have hsz : (l.length + l2.length) * sz ≤ cap * sz := Nat.mul_le_mul_right _ hfit
      rw [Nat.add_mul] at hsz
      refine ⟨C [(b, fun o => o = Obj.cells (((l ++ l2).map enc).flatten ++ rest.drop (l2.length * sz)).toArray T)], fun w hw => ⟨fun ad had => ?_, fun e => by cases e⟩, hk (some ⟨b, 0, none⟩) cap _ ⟨wid2, .inr ⟨b, rest.drop (l2.length * sz), rfl, rfl, ?_, by simpa using hfit⟩⟩⟩
      · have had := Option.some.inj had
        subst had
        have hnew : ((l.map enc).flatten ++ rest).take (l.length * sz) ++ (l2.map enc).flatten ++ ((l.map enc).flatten ++ rest).drop (l.length * sz + (l2.map enc).flatten.length) = ((l ++ l2).map enc).flatten ++ rest.drop (l2.length * sz) := by
          rw [hfl2, List.take_append_of_le_length (by omega), List.take_of_length_le (by omega), List.drop_append, List.drop_of_length_le (by omega), List.nil_append, hfl, Nat.add_sub_cancel_left, List.map_append, List.flatten_append]
        have hu := hat.up (q := fun o => o = Obj.cells (((l.map enc).flatten ++ rest).take (l.length * sz) ++ (l2.map enc).flatten ++ ((l.map enc).flatten ++ rest).drop (l.length * sz + (l2.map enc).flatten.length)).toArray T)
        have hr := setN_up (vs := (l2.map enc).flatten) (off := l.length * sz) hw hu (by rw [List.length_append, hfl, hfl2]; omega)
        rw [hnew] at hr
        rw [addr_add, Nat.zero_add]
        refine ⟨fun j hj => ?_, hr.2⟩
        rw [addr_add]
        exact hr.1 j hj
      · simp only [List.length_append, List.length_drop, Nat.add_mul]; omega
  · refine ⟨C [(b, fun o => o = Obj.cells ((l.map enc).flatten ++ (l2.map enc).flatten ++ (List.replicate (c' - (l.length + l2.length)) zs).flatten).toArray T)], hat.ent, ?_⟩
    refine hk (some ⟨b, 0, none⟩) c' _ ⟨wid2, .inr ⟨b, (List.replicate (c' - (l.length + l2.length)) zs).flatten, rfl, ?_, ?_, by simpa using hc'⟩⟩
    · rw [List.map_append, List.flatten_append]
    · simp only [List.length_append, List.length_flatten, List.map_replicate, List.sum_replicate_nat, hz]
      rw [← Nat.add_mul]
      congr 1
      omega
theorem app_b {T : TypeId} {bytes cap m : Nat} {zs : List Value} {D : Own} {C : Own → Own} {a2 : Option Addr} {l2 : List α} {K : Value → Own → Prop} (hB : BufE enc T sz a cap l D) (hat : At D own C) (hx : RdE enc sz W0 own a2 l2) (hm : m = l2.length)
    (hz : zs.length = sz) (hs : 0 < sz) (h1 : ∀ x ∈ l2, (enc x).all oneC = true) (hb : (l.length + l2.length) * bytes ≤ 140737488355328)
    (hk : ∀ a' cap' D', BufE enc T sz a' cap' (l ++ l2) D' → K (.slice a' (l.length + l2.length) cap') (C D')) : AppT W0 own T sz bytes zs a l.length cap a2 m K :=
  app_c hB hat hx hm hz hs h1 (fun _ => hb) hk
/-- An append of one element that lies in a block of its own. -/
theorem app_1 {T T2 : TypeId} {bytes cap bt : Nat} {zs : List Value} {D : Own} {C : Own → Own} {ys : Array Value} {fz : Nat × Nat} {K : Value → Own → Prop} (x : α) (hB : BufE enc T sz a cap l D) (hat : At D own C) (hm : (bt, fun o => o = Obj.cells ys T2 fz) ∈ own) (hy : ys.toList = enc x)
    (hz : zs.length = sz) (hs : 0 < sz) (hw : (enc x).length = sz) (h1 : (enc x).all oneC = true) (hb : (l.length + 1) * bytes ≤ 140737488355328)
    (hk : ∀ a' cap' D', BufE enc T sz a' cap' (l ++ [x]) D' → K (.slice a' (l.length + 1) cap') (C D')) : AppT W0 own T sz bytes zs a l.length cap (some ⟨bt, 0, none⟩) 1 K :=
  app_b (l2 := [x]) hB hat (rd_blk hm (fun y hy => by rw [List.mem_singleton.1 hy]; exact hw) (by simpa using hy)) rfl hz hs (fun y hy => by rw [List.mem_singleton.1 hy]; exact h1) hb hk
theorem stN_and {W0 : World} {own : Own} {a : Addr} {vs : List Value} {n : Nat} {K : Own → Prop} (h : vs.length = n) (h2 : StN W0 own a vs K) : vs.length = n ∧ StN W0 own a vs K := ⟨h, h2⟩
theorem setN_one {w : World} {b o : Nat} {v : Value} : setN w ⟨b, o, none⟩ 0 [v] = w.setCell ⟨b, o, none⟩ v := by
  simp only [setN, addr_add, Nat.add_zero]
/-- One cell of an element is written. -/
theorem stE {T : TypeId} {cap j k o : Nat} {D : Own} {C : Own → Own} {x : α} {v : Value} {K : Own → Prop} (x' : α) (hB : BufE enc T sz a cap l D) (hat : At D own C) (hx : l[j]? = some x) (ho : o = ao a + j * sz + k) (hk0 : k < sz) (hv : enc x' = (enc x).set k v) (h1 : oneC v = true)
    (hk : ∀ D', BufE enc T sz a cap (l.set j x') D' → K (C D')) : StT W0 own ⟨ab a, o, none⟩ v K := by
  subst ho
  have hj := (List.getElem?_eq_some_iff.1 hx).1
  have hwx := hB.wid x (List.mem_of_getElem? hx)
  rcases hB.how with ⟨rfl, _, _⟩ | ⟨b, rest, rfl, rfl, hl, hle⟩
  · simp at hx
  · have hfl := flat_len l hB.wid
    have hsz : (j + 1) * sz ≤ l.length * sz := Nat.mul_le_mul_right _ hj
    rw [Nat.succ_mul] at hsz
    have wid' : ∀ y ∈ l.set j x', (enc y).length = sz := fun y hy => (List.mem_or_eq_of_mem_set hy).elim (hB.wid y) (fun e => by rw [e, hv, List.length_set, hwx])
    have hspl : (l.map enc).flatten = ((l.take j).map enc).flatten ++ (enc x ++ ((l.drop (j + 1)).map enc).flatten) := by
      have e : l = l.take j ++ x :: l.drop (j + 1) := by
        rw [← (List.getElem?_eq_some_iff.1 hx).2, List.getElem_cons_drop, List.take_append_drop]
      conv => lhs; rw [e]
      simp
    have htl : ((l.take j).map enc).flatten.length = j * sz := by
      rw [flat_len _ (fun y hy => hB.wid y (List.mem_of_mem_take hy)), List.length_take]
      congr 1; omega
    have hnew : ((l.map enc).flatten ++ rest).take (j * sz + k) ++ [v] ++ ((l.map enc).flatten ++ rest).drop (j * sz + k + [v].length) = ((l.set j x').map enc).flatten ++ rest := by
      have h2 : ((l.set j x').map enc).flatten ++ rest = ((l.map enc).flatten ++ rest).set (j * sz + k) v := by
        have e1 : ((l.set j x').map enc).flatten = ((l.take j).map enc).flatten ++ ((enc x).set k v ++ ((l.drop (j + 1)).map enc).flatten) := by
          rw [List.set_eq_take_append_cons_drop, if_pos hj, List.map_append, List.flatten_append, List.map_cons, List.flatten_cons, hv]
        have e2 : ∀ A X B : List Value, A ++ (X ++ B) ++ rest = A ++ (X ++ (B ++ rest)) := fun A X B => by simp
        rw [e1, hspl, e2, e2, List.set_append_right _ _ (by omega), htl, Nat.add_sub_cancel_left, List.set_append_left _ _ (by omega)]
      rw [h2, set_split _ _ _ (by rw [List.length_append, hfl]; omega)]
      rfl
    refine ⟨h1, C [(b, fun o => o = Obj.cells (((l.set j x').map enc).flatten ++ rest).toArray T)], fun w hs => ?_, hk _ ⟨wid', .inr ⟨b, rest, rfl, rfl, by simpa using hl, by simpa using hle⟩⟩⟩
    have hu := hat.up (q := fun o => o = Obj.cells (((l.map enc).flatten ++ rest).take (j * sz + k) ++ [v] ++ ((l.map enc).flatten ++ rest).drop (j * sz + k + [v].length)).toArray T)
    have hr := setN_up (vs := [v]) (off := j * sz + k) hs hu (by rw [List.length_append, hfl]; simp; omega)
    rw [hnew, setN_one] at hr
    show (w.cell? ⟨b, 0 + j * sz + k, none⟩).isSome = true ∧ w.frozen? ⟨b, 0 + j * sz + k, none⟩ = false ∧ St W0 _ (w.setCell ⟨b, 0 + j * sz + k, none⟩ v)
    rw [Nat.zero_add]
    have h0 := hr.1 0 (by simp)
    exact ⟨h0.1, h0.2, hr.2⟩
/-- A call that hands back a new slice. -/
theorem call_b {P : Program} {k : FuncId} {args : List Value} {T : TypeId} {K : Value → Own → Prop} (h : Spec P W0 k args own fun v own' => ∃ a cap D, v = .slice a l.length cap ∧ BufE enc T sz a cap l D ∧ Ent W0 own' (D ++ own))
    (hk : ∀ a cap D, BufE enc T sz a cap l D → K (.slice a l.length cap) (D ++ own)) : CallT P W0 own k args K :=
  ⟨fun w hw => (h w hw).mono fun _ _ ⟨_, _, he, hs, a, cap, D, hv, hB, hE⟩ => ⟨_, _, by rw [he, hv], hE _ hs, hk a cap D hB⟩⟩
end
end Go.Proofs.YtiimndcifcoofaaGreatDoor
