/- What the laws share, part 5. No condition. -/
import Derived.Deep.QuietTactic
import Derived.Test.YtllddgdmmfmpkaaGreatDoorY4
namespace Go.Proofs.YtllddgdmmfmpkaaGreatDoor
open Go
section
variable {P : Program} {W0 : World} {f : Fr} {own : Own} {K K' : Value → Own → Prop}
theorem binInt_mono {op : BinOp} {k k' : IntKind} {m n : Int} {K K' : Value → Prop} (hk : ∀ v, K v → K' v) (h : binInt op k m k' n K) : binInt op k m k' n K' := by
  cases op <;> simp only [binInt] at h ⊢
  case add | sub | mul => obtain ⟨rfl, g⟩ := h.h; exact .mk ⟨hk _ g.h⟩
  case quo | rem => obtain ⟨rfl, g⟩ := h.h; exact .mk ⟨g.h.1, hk _ g.h.2⟩
  case shl | shr => exact ⟨h.h.1, hk _ h.h.2⟩
  case and | or | xor | andNot => obtain ⟨rfl, g⟩ := h.h; exact .mk ⟨hk _ g.h⟩
  all_goals (obtain ⟨rfl, g⟩ := h.h; exact .mk (hk _ g))
theorem binInt_fix {op : BinOp} {k k' : IntKind} {m n : Int} {K : Value → Prop} (h : binInt op k m k' n K) : ∃ v, K v ∧ binInt op k m k' n (fun v' => v' = v) := by
  cases op <;> simp only [binInt] at h ⊢
  case add | sub | mul => obtain ⟨rfl, g⟩ := h.h; exact ⟨_, g.h, .mk ⟨rfl⟩⟩
  case quo | rem => obtain ⟨rfl, g⟩ := h.h; exact ⟨_, g.h.2, .mk ⟨g.h.1, rfl⟩⟩
  case shl | shr => exact ⟨_, h.h.2, ⟨h.h.1, rfl⟩⟩
  case and | or | xor | andNot => obtain ⟨rfl, g⟩ := h.h; exact ⟨_, g.h, .mk ⟨rfl⟩⟩
  all_goals (obtain ⟨rfl, g⟩ := h.h; exact ⟨_, g, .mk rfl⟩)
theorem Bld_mono : ∀ (l : List (Nat × Nat × Operand)) (cs : List Value) {K K' : List Value → Prop}, (∀ cs, K cs → K' cs) → Bld f l cs K → Bld f l cs K'
  | [], cs, K, K', hk, h => hk cs h
  | (off, sz, x) :: l, cs, K, K', hk, h => by
    rw [Bld_cons] at h ⊢
    split at h
    · split at h
      · exact Bld_mono l _ hk h
      · exact h.elim
    · rename_i v hne
      have h' := Mv.h (K := fun v => (match Nat.beq sz 1 with | true => Bld f l (cs.set off v) K | false => False)) h
      refine Mv.mk ?_
      split at h'
      · rename_i hb; first | exact Bld_mono l _ hk h' | (rw [hb]; exact Bld_mono l _ hk h')
      · exact h'.elim
theorem Bld_fix : ∀ (l : List (Nat × Nat × Operand)) (cs : List Value) {K : List Value → Prop}, Bld f l cs K → ∃ c', K c' ∧ Bld f l cs (fun x => x = c')
  | [], cs, K, h => ⟨cs, h, rfl⟩
  | (off, sz, x) :: l, cs, K, h => by
    rw [Bld_cons] at h
    split at h
    · rename_i vs hx
      split at h
      · rename_i hb
        obtain ⟨c', h1, h2⟩ := Bld_fix l _ h
        refine ⟨c', h1, ?_⟩
        rw [Bld_cons, hx]
        simp only [hb]
        exact h2
      · exact h.elim
    · rename_i v hne
      have h' := Mv.h (K := fun v => (match Nat.beq sz 1 with | true => Bld f l (cs.set off v) K | false => False)) h
      split at h'
      · rename_i hb
        obtain ⟨c', h1, h2⟩ := Bld_fix l _ h'
        refine ⟨c', h1, ?_⟩
        rw [Bld_cons]
        split
        · rename_i vs hx; exact (hne vs hx).elim
        · refine Mv.mk ?_
          rw [hb]
          exact h2
      · exact h'.elim
theorem XO_mono {io : IOp} (hk : ∀ v own, K v own → K' v own) (h : XO P W0 f own io K) : XO P W0 f own io K' := by
  cases io <;> simp only [XO] at h ⊢
  case mov => exact .mk (hk _ _ h.h)
  case pick => split at h <;> first | exact .mk (hk _ _ h.h) | exact h.elim
  case bin => split at h <;> first | exact binInt_mono (fun v => hk v own) h | exact h.elim
  case beq => split at h <;> first | exact hk _ _ h | exact h.elim
  case not => split at h <;> first | exact hk _ _ h | exact h.elim
  case sbin => split at h <;> first | (unfold binStr at h ⊢; split <;> simp_all) | exact h.elim
  case fbin => split at h <;> first | exact ⟨hk _ _ h.h⟩ | exact h.elim
  case flt => split at h <;> first | exact ⟨fun r hr => hk _ _ (h.h.1 r hr), fun hn r hr => hk _ _ (h.h.2 hn r hr)⟩ | exact h.elim
  case i2f => split at h <;> first | exact hk _ _ h | exact h.elim
  case f2i => split at h <;> first | (obtain ⟨n, hn, h⟩ := h.h; exact ⟨n, hn, hk _ _ h⟩) | exact h.elim
  case fbits => split at h <;> first | exact hk _ _ h | exact h.elim
  case ffrom => split at h <;> first | exact hk _ _ h | exact h.elim
  case fpk => split at h <;> first | exact hk _ _ h | exact h.elim
  case neg => split at h <;> first | exact ⟨hk _ _ h.h⟩ | exact h.elim
  case conv => split at h <;> first | exact ⟨hk _ _ h.h⟩ | exact h.elim
  case fad => split at h <;> first | exact hk _ _ h | exact h.elim
  case fld => split at h <;> first | (obtain ⟨v, hv, h⟩ := h.h; exact ⟨v, hv, hk _ _ h⟩) | exact h.elim
  case fldN => split at h <;> first | exact ⟨hk _ _ h.h⟩ | exact h.elim
  case ixs => split at h <;> first | (obtain ⟨v, b, o, h1, h2, h3, h⟩ := h.h; exact ⟨v, b, o, h1, h2, h3, hk _ _ h⟩) | exact h.elim
  case sls => split at h <;> first | (obtain ⟨l, r, m, h1, h2, h3, h4, h5, h6, h7, h⟩ := h.h; exact ⟨l, r, m, h1, h2, h3, h4, h5, h6, h7, hk _ _ h⟩) | exact h.elim
  case sslc => split at h <;> first | (obtain ⟨l, r, h1, h2, h3, h4, h⟩ := h.h; exact ⟨l, r, h1, h2, h3, h4, hk _ _ h⟩) | exact h.elim
  case sidx => split at h <;> first | (obtain ⟨j, b, h1, h2, h⟩ := h.h; exact ⟨j, b, h1, h2, hk _ _ h⟩) | exact h.elim
  case scat => split at h <;> first | exact ⟨h.h.1, hk _ _ h.h.2⟩ | exact h.elim
  case ibs => split at h <;> first | exact hk _ _ h | exact h.elim
  case capb => split at h <;> first | exact hk _ _ h | exact h.elim
  case nilq => split at h <;> first | exact hk _ _ h | exact h.elim
  case nifc => split at h <;> first | exact hk _ _ h | exact h.elim
  case iter => split at h <;> first | exact ⟨fun b hb hl => hk _ _ (h.h b hb hl)⟩ | exact h.elim
  case next => split at h <;> first | (obtain ⟨s, pos, h1, h2, h3⟩ := h.h; exact ⟨s, pos, h1, fun hl => (let ⟨o', a, b⟩ := h2 hl; ⟨o', a, hk _ _ b⟩), fun hl => hk _ _ (h3 hl)⟩) | exact h.elim
  case ageq => split at h <;> first | (obtain ⟨r, h1, h⟩ := h.h; exact ⟨r, h1, hk _ _ h⟩) | exact h.elim
  case mkm => exact ⟨fun b hb => hk _ _ (h.h b hb)⟩
  case mlk => split at h <;> first | exact hk _ _ h | (obtain ⟨l, r, h1, h2, h⟩ := h.h; exact ⟨l, r, h1, h2, hk _ _ h⟩) | exact h.elim
  case mup => split at h <;> first | (obtain ⟨l, o', h1, h2, h⟩ := h.h; exact ⟨l, o', h1, h2, hk _ _ h⟩) | exact h.elim
  case mkf => exact hk _ _ h
  case mk => split at h <;> first | (obtain ⟨l, c, h1, h2, h3, h4, h⟩ := h.h; exact ⟨l, c, h1, h2, h3, h4, fun b hb => hk _ _ (h b hb)⟩) | exact h.elim
  case app => split at h <;> first | (obtain ⟨cs, ys, h1, h2, h3, h4, h5, h6, h7, h8, h9⟩ := h.h; exact ⟨cs, ys, h1, h2, h3, h4, h5, h6, h7, fun hl => (let ⟨o', a, b⟩ := h8 hl; ⟨o', a, hk _ _ b⟩), fun hl => ⟨(h9 hl).1, fun b c' hb hc => (let ⟨o', a, b⟩ := (h9 hl).2 b c' hb hc; ⟨o', a, hk _ _ b⟩)⟩⟩) | exact h.elim
  case appz => split at h <;> first | (rcases h.h with ⟨h1, h2, h3⟩ | ⟨h1, h2, m', h3, h4, h5, h6⟩; exact ⟨.inl ⟨h1, h2, hk _ _ h3⟩⟩; exact ⟨.inr ⟨h1, h2, m', h3, h4, h5, fun b c' hb hc => hk _ _ (h6 b c' hb hc)⟩⟩) | exact h.elim
  case clr => split at h <;> first | (obtain ⟨h1, o', h2, h3⟩ := h.h; exact ⟨h1, o', h2, hk _ _ h3⟩) | exact hk _ _ h | exact h.elim
  case callv => split at h <;> first | exact ⟨h.h.1, ⟨fun w hw => (h.h.2.h w hw).mono fun e w' ⟨v, o', he, hs, h⟩ => ⟨v, o', he, hs, hk _ _ h⟩⟩⟩ | exact ⟨fun w hw => (h.h w hw).imp fun k h => h.imp fun t h => h.imp fun a h => h.imp fun b h => ⟨h.1, h.2.mono fun e w' ⟨v, o', he, hs, h⟩ => ⟨v, o', he, hs, hk _ _ h⟩⟩⟩ | exact h.elim
  case ixa => split at h <;> first | (obtain ⟨v, h1, h2, h⟩ := h.h; exact ⟨v, h1, h2, hk _ _ h⟩) | exact h.elim
  case idx => split at h <;> first | (obtain ⟨j, h1, h2, h⟩ := h.h; obtain ⟨v, hv, h⟩ := h.h; exact ⟨j, h1, h2, v, hv, hk _ _ h⟩) | exact h.elim
  case idxN => split at h <;> first | (obtain ⟨j, h1, h2, h⟩ := h.h; exact ⟨j, h1, h2, ⟨hk _ _ h.h⟩⟩) | exact h.elim
  case ld => split at h <;> first | (obtain ⟨v, hv, h⟩ := h.h; exact ⟨v, hv, hk _ _ h⟩) | exact h.elim
  case ldN => split at h <;> first | (obtain ⟨v, hl, hv, h⟩ := h.h; exact ⟨v, hl, hv, hk _ _ h⟩) | exact h.elim
  case st => split at h <;> first | (obtain ⟨h1, o', h2, h⟩ := h.h.h; exact .mk ⟨h1, o', h2, hk _ _ h⟩) | exact h.elim
  case stN => split at h <;> first | (obtain ⟨h0, ⟨h1, o', h2, h⟩⟩ := h; exact ⟨h0, ⟨h1, o', h2, hk _ _ h⟩⟩) | exact h.elim
  case box => split at h <;> first | exact ⟨fun b hb hl => hk _ _ (h.h b hb hl)⟩ | exact .mk ⟨fun b hb hl => hk _ _ (h.h.h b hb hl)⟩
  case new => split at h <;> exact ⟨fun b hb hl => hk _ _ (h.h b hb hl)⟩
  case ext => split at h <;> first | (obtain ⟨v, hv, h⟩ := h.h; exact ⟨v, hv, hk _ _ h⟩) | exact h.elim
  case len => split at h <;> first | exact hk _ _ h | exact h.elim
  case lens => split at h <;> first | exact hk _ _ h | exact h.elim
  case nilc => split at h <;> first | exact hk _ _ h | exact h.elim
  case mm => split at h <;> first | exact ⟨hk _ _ h.h⟩ | exact h.elim
  case bld => exact Bld_mono _ _ (fun cs h => hk _ _ h) h
  case blds => exact Bld_mono _ _ (fun cs h => ⟨fun b hb hl => hk _ _ (h.h b hb hl)⟩) h
  case call => exact ⟨fun w hw => (h.h w hw).mono fun e w' ⟨v, o', he, hs, h⟩ => ⟨v, o', he, hs, hk _ _ h⟩⟩
theorem XO_fix {io : IOp} (hr : roOp io = true) (h : XO P W0 f own io K) : ∃ v, K v own ∧ XO P W0 f own io (fun v' _ => v' = v) := by
  cases io <;> simp only [XO] at h ⊢ <;> (try simp [roOp] at hr)
  case mov => exact ⟨_, h.h, .mk rfl⟩
  case pick => split at h <;> first | exact ⟨_, h.h, .mk rfl⟩ | exact h.elim
  case bin => split at h <;> first | exact binInt_fix h | exact h.elim
  case beq => split at h <;> first | exact ⟨_, h, rfl⟩ | exact h.elim
  case not => split at h <;> first | exact ⟨_, h, rfl⟩ | exact h.elim
  case sbin => split at h <;> first | (unfold binStr at h ⊢; split at h <;> first | exact ⟨_, h, rfl⟩ | exact h.elim) | exact h.elim
  case fbin => split at h <;> first | exact ⟨_, h.h, ⟨rfl⟩⟩ | exact h.elim
  case i2f => split at h <;> first | exact ⟨_, h, rfl⟩ | exact h.elim
  case f2i => split at h <;> first | (obtain ⟨n, hn, h⟩ := h.h; exact ⟨_, h, ⟨n, hn, rfl⟩⟩) | exact h.elim
  case fbits => split at h <;> first | exact ⟨_, h, rfl⟩ | exact h.elim
  case ffrom => split at h <;> first | exact ⟨_, h, rfl⟩ | exact h.elim
  case fpk => split at h <;> first | exact ⟨_, h, rfl⟩ | exact h.elim
  case neg => split at h <;> first | exact ⟨_, h.h, ⟨rfl⟩⟩ | exact h.elim
  case conv => split at h <;> first | exact ⟨_, h.h, ⟨rfl⟩⟩ | exact h.elim
  case fad => split at h <;> first | exact ⟨_, h, rfl⟩ | exact h.elim
  case fld => split at h <;> first | (obtain ⟨v, hv, h⟩ := h.h; exact ⟨_, h, ⟨v, hv, rfl⟩⟩) | exact h.elim
  case fldN => split at h <;> first | exact ⟨_, h.h, ⟨rfl⟩⟩ | exact h.elim
  case ixs => split at h <;> first | (obtain ⟨v, b, o, h1, h2, h3, h⟩ := h.h; exact ⟨_, h, ⟨v, b, o, h1, h2, h3, rfl⟩⟩) | exact h.elim
  case sls => split at h <;> first | (obtain ⟨l, r, m, h1, h2, h3, h4, h5, h6, h7, h⟩ := h.h; exact ⟨_, h, ⟨l, r, m, h1, h2, h3, h4, h5, h6, h7, rfl⟩⟩) | exact h.elim
  case sslc => split at h <;> first | (obtain ⟨l, r, h1, h2, h3, h4, h⟩ := h.h; exact ⟨_, h, ⟨l, r, h1, h2, h3, h4, rfl⟩⟩) | exact h.elim
  case sidx => split at h <;> first | (obtain ⟨j, b, h1, h2, h⟩ := h.h; exact ⟨_, h, ⟨j, b, h1, h2, rfl⟩⟩) | exact h.elim
  case scat => split at h <;> first | exact ⟨_, h.h.2, ⟨h.h.1, rfl⟩⟩ | exact h.elim
  case ibs => split at h <;> first | exact ⟨_, h, rfl⟩ | exact h.elim
  case capb => split at h <;> first | exact ⟨_, h, rfl⟩ | exact h.elim
  case nilq => split at h <;> first | exact ⟨_, h, rfl⟩ | exact h.elim
  case nifc => split at h <;> first | exact ⟨_, h, rfl⟩ | exact h.elim
  case ageq => split at h <;> first | (obtain ⟨r, h1, h⟩ := h.h; exact ⟨_, h, ⟨r, h1, rfl⟩⟩) | exact h.elim
  case mlk => split at h <;> first | exact ⟨_, h, rfl⟩ | (obtain ⟨l, r, h1, h2, h⟩ := h.h; exact ⟨_, h, ⟨l, r, h1, h2, rfl⟩⟩) | exact h.elim
  case mkf => exact ⟨_, h, rfl⟩
  case ixa => split at h <;> first | (obtain ⟨v, h1, h2, h⟩ := h.h; exact ⟨_, h, ⟨v, h1, h2, rfl⟩⟩) | exact h.elim
  case idx => split at h <;> first | (obtain ⟨j, h1, h2, h⟩ := h.h; obtain ⟨v, hv, h⟩ := h.h; exact ⟨_, h, ⟨j, h1, h2, ⟨v, hv, rfl⟩⟩⟩) | exact h.elim
  case idxN => split at h <;> first | (obtain ⟨j, h1, h2, h⟩ := h.h; exact ⟨_, h.h, ⟨j, h1, h2, ⟨rfl⟩⟩⟩) | exact h.elim
  case ld => split at h <;> first | (obtain ⟨v, hv, h⟩ := h.h; exact ⟨_, h, ⟨v, hv, rfl⟩⟩) | exact h.elim
  case ldN => split at h <;> first | (obtain ⟨v, hl, hv, h⟩ := h.h; exact ⟨_, h, ⟨v, hl, hv, rfl⟩⟩) | exact h.elim
  case ext => split at h <;> first | (obtain ⟨v, hv, h⟩ := h.h; exact ⟨_, h, ⟨v, hv, rfl⟩⟩) | exact h.elim
  case len => split at h <;> first | exact ⟨_, h, rfl⟩ | exact h.elim
  case lens => split at h <;> first | exact ⟨_, h, rfl⟩ | exact h.elim
  case nilc => split at h <;> first | exact ⟨_, h, rfl⟩ | exact h.elim
  case mm => split at h <;> first | exact ⟨_, h.h, ⟨rfl⟩⟩ | exact h.elim
  case bld =>
    obtain ⟨c', h1, h2⟩ := Bld_fix _ _ h
    exact ⟨_, h1, Bld_mono _ _ (fun cs hc => by rw [hc]) h2⟩
end
noncomputable def XR (P : Program) (W0 : World) (l : List IOpr) : (Fr → Own → Prop) → Fr → Own → Prop :=
  List.rec (motive := fun _ => (Fr → Own → Prop) → Fr → Own → Prop) (fun K f own => K f own) (fun o _ ih K f own => match o with
    | ⟨d, op, none⟩ => XO P W0 f own op fun v own' => ih K (updO f d v) own'
    | ⟨d, op, some (g, b)⟩ => match f g with
      | .bool c => When c b
          (XO P W0 (upd f g (.bool b)) own op fun v own' => ih K (updO (upd f g (.bool b)) d v) own')
          (ih K (updO (upd f g (.bool (!b))) d undef) own)
      | _ => ih K (updO f d undef) own) l
theorem XR_none {P : Program} {W0 : World} {d : Option Nat} {op : IOp} {r : List IOpr} {K : Fr → Own → Prop} {f : Fr} {own : Own} :
    XR P W0 (⟨d, op, none⟩ :: r) K f own = XO P W0 f own op fun v own' => XR P W0 r K (updO f d v) own' := rfl
theorem XR_some {P : Program} {W0 : World} {d : Option Nat} {op : IOp} {g : Nat} {b : Bool} {r : List IOpr} {K : Fr → Own → Prop} {f : Fr} {own : Own} :
    XR P W0 (⟨d, op, some (g, b)⟩ :: r) K f own = match f g with
      | .bool c => When c b
          (XO P W0 (upd f g (.bool b)) own op fun v own' => XR P W0 r K (updO (upd f g (.bool b)) d v) own')
          (XR P W0 r K (updO (upd f g (.bool (!b))) d undef) own)
      | _ => XR P W0 r K (updO f d undef) own := rfl
structure CallQ (P : Program) (W0 : World) (own : Own) (k : FuncId) (args : List Value) (K : Value → Prop) : Prop where
  h : ∃ v, (∀ ex w, St W0 (ex ++ own) w → Calls P k args.toArray w fun e w' => e = .returned v ∧ St W0 (ex ++ own) w') ∧ K v
def XQ (P : Program) (W0 : World) (f : Fr) (own : Own) (op : IOp) (K : Value → Prop) : Prop :=
  match op with
  | .call k args => CallQ P W0 own k (args.map (ev f)) K
  | op => match roOp op with
    | true => XO P W0 f own op fun v _ => K v
    | false => False
def XG (gd : Option (Nat × Bool)) (f : Fr) (Y N : Fr → Prop) : Prop :=
  match gd with
  | none => Y f
  | some (g, b) => match f g with
    | .bool c => When c b (Y (upd f g (.bool b))) (N (upd f g (.bool (!b))))
    | _ => N f
inductive DT
  | done
  | f (o : IOpr) (r : DT)
  | m (o : IOpr) (r : DT)
  | both (a b : DT)
  | tt
  | bad
structure Both (A B : Prop) : Prop where
  l : A
  r : B
noncomputable def XD (P : Program) (W0 : World) (t : DT) : (Fr → Own → Prop) → Fr → Own → Prop :=
  DT.rec (motive := fun _ => (Fr → Own → Prop) → Fr → Own → Prop) (fun K f own => K f own)
    (fun o _ ih K f own => XG o.guard f (fun f => XQ P W0 f own o.op fun v => ih K (updO f o.dst v) own) (fun f => ih K (updO f o.dst undef) own))
    (fun o _ ih K f own => XG o.guard f (fun f => XO P W0 f own o.op fun v own' => ih K (updO f o.dst v) own') (fun f => ih K (updO f o.dst undef) own))
    (fun _ _ a b K f own => Both (a K f own) (b K f own))
    (fun _ _ _ => True) (fun _ _ _ => False) t
theorem XD_f {P : Program} {W0 : World} {o : IOpr} {r : DT} {K : Fr → Own → Prop} {f : Fr} {own : Own} :
    XD P W0 (.f o r) K f own = XG o.guard f (fun f => XQ P W0 f own o.op fun v => XD P W0 r K (updO f o.dst v) own) (fun f => XD P W0 r K (updO f o.dst undef) own) := rfl
theorem XD_m {P : Program} {W0 : World} {o : IOpr} {r : DT} {K : Fr → Own → Prop} {f : Fr} {own : Own} :
    XD P W0 (.m o r) K f own = XG o.guard f (fun f => XO P W0 f own o.op fun v own' => XD P W0 r K (updO f o.dst v) own') (fun f => XD P W0 r K (updO f o.dst undef) own) := rfl
structure Rel (n : Nat) (ds : List Deferred) (a : Act) (f : Fr) : Prop where
  size : a.tmps.size = n
  get : ∀ t, a.tmps.getD t undef = f t
  defers : a.defers = ds
theorem upd_same {f : Fr} {g : Nat} {v : Value} (h : f g = v) : upd f g v = f := by
  funext t
  unfold upd
  cases e : Nat.beq t g
  · rfl
  · rw [Nat.beq_eq] at e
    subst e
    simp [h]
theorem Rel.put {ds : List Deferred} {n : Nat} {a : Act} {f : Fr} (h : Rel n ds a f) {d : Option Nat} (hd : ∀ t, d = some t → t < n) (v : Value) : Rel n ds (a.put d v) (updO f d v) := by
  cases d with
  | none => exact h
  | some d =>
    have hd := hd d rfl
    refine ⟨by simp [Act.put, h.size], fun t => ?_, h.defers⟩
    simp only [Act.put, updO, upd]
    cases e : Nat.beq t d
    · have hne : t ≠ d := fun e' => by subst e'; simp at e
      simp only [cond_false]
      rw [← h.get t]
      simp only [Array.getD_eq_getD_getElem?]
      rw [Array.getElem?_setIfInBounds_ne (fun h => hne h.symm)]
    · rw [Nat.beq_eq] at e
      subst e
      simp [Array.getD_eq_getD_getElem?, h.size, hd]
def lowOprOk (ops : Array Oper) (n : Nat) (o : Oper) : Bool :=
  (match o.dst with | some d => decide (d < n) | none => true) &&
  (match o.guard with | some (j, _) => ((ops[j]?).bind (·.dst)).isSome && decide (((ops[j]?).bind (·.dst)).getD n < n) | none => true)
theorem wanted_low {ds : List Deferred} {ops : Array Oper} {n : Nat} {o : Oper} {a : Act} {f : Fr} (hr : Rel n ds a f) (hok : lowOprOk ops n o = true) (P : Program) :
    Region.wanted o (yielded ops a.tmps) = match (lowOpr P ops o).guard with
      | none => true
      | some (g, b) => match f g with | .bool c => c == b | _ => false := by
  unfold Region.wanted lowOpr lowOprOk at *
  cases hg : o.guard with
  | none => simp
  | some jb =>
    obtain ⟨j, b⟩ := jb
    simp only [hg, Bool.and_eq_true, decide_eq_true_eq] at hok
    obtain ⟨_, h1, h2⟩ := hok
    obtain ⟨d, hd⟩ := Option.isSome_iff_exists.1 h1
    simp only [hd, Option.getD_some] at h2
    simp only [hd]
    unfold yielded
    simp only [hd, Option.bind_some]
    have hget := hr.get d
    rw [Array.getD_eq_getD_getElem?] at hget
    rw [← hr.size] at h2
    rw [Array.getElem?_eq_getElem h2] at hget ⊢
    simp only [Option.getD_some] at hget
    rw [← hget]
    cases a.tmps[d] <;> simp
theorem Does.wpIn {P : Program} {a : Act} {f : Fr} {o : Oper} {w : World} {own : Own} {W0 : World} {K : Value → Own → Prop} {ro : Bool} {next : Act → World → Prop} {Q : Exit → Act → World → Prop} {r : Option Nat} {m : Nat}
    (hf : ∀ t, a.tmps.getD t undef = f t) (hS : St W0 own w) (h : Does P f o w own W0 K ro) (hn : ∀ v own' w', St W0 own' w' → K v own' → next (a.put o.dst v) w') : o.wpIn (WF r) m P a w next Q := by
  unfold Oper.wpIn
  refine ⟨fun _ _ => trivial, ?_⟩
  rw [ev_eq hf]
  rcases h with ⟨v, hr, hk⟩ | ⟨_, ⟨v, w', own', hr, hs, hk⟩ | ⟨w', own', hr, hs, hk⟩ | ⟨k, args, hr, hc⟩ | ⟨l, k, tmps, assign, body, hr, hc⟩⟩
  all_goals rw [semAt_WF (fun d w' e => by rw [hr] at e; cases e) (fun x w' e => by rw [hr] at e; cases e), hr]
  · exact hn _ _ _ hS hk
  · exact hn _ _ _ hs hk
  · exact hn _ _ _ hs hk
  · rw [Oper.uponIn_enter]
    have hc' := hc.h w hS
    simp only [Array.toArray_toList] at hc'
    refine ⟨fun h => (by cases h), callsIn_WF (hc'.mono fun e w' h => ?_)⟩
    obtain ⟨v, own', rfl, hs, hk⟩ := h
    exact hn _ _ _ hs hk
  · rw [Oper.uponIn_round]
    refine ⟨fun h => (by cases h), roundIn_WF (hc.mono fun e w' h => ?_)⟩
    obtain ⟨v, own', rfl, hs, hk⟩ := h
    exact hn _ _ _ hs hk
theorem XR_sound {ds : List Deferred} {P : Program} {W0 : World} {ops : Array Oper} {n : Nat} {Q : Exit → Act → World → Prop} {K : Fr → Own → Prop} {r : Option Nat} {m : Nat}
    (hQ : ∀ f own a w, Rel n ds a f → St W0 own w → K f own → Q .normal a w) : ∀ (l : List Oper) (f : Fr) (own : Own) (a : Act) (w : World), l.all (lowOprOk ops n) = true →
    Rel n ds a f → St W0 own w → XR P W0 (l.map (lowOpr P ops)) K f own → wpListIn (WF r) m P ops Q l a w
  | [], f, own, a, w, _, hr, hs, h => hQ f own a w hr hs h
  | o :: l, f, own, a, w, hok, hr, hs, h => by
    simp only [List.all_cons, Bool.and_eq_true] at hok
    obtain ⟨hok, hokl⟩ := hok
    have hd : ∀ t, o.dst = some t → t < n := fun t ht => by
      unfold lowOprOk at hok
      simp only [ht, Bool.and_eq_true, decide_eq_true_eq] at hok
      exact hok.1
    have hw := wanted_low hr hok P
    have ih := fun f own a w => XR_sound (P := P) (ops := ops) (r := r) (m := m) hQ l f own a w hokl
    unfold wpListIn
    rw [List.map_cons, show lowOpr P ops o = ⟨o.dst, lowOp P o.op, (lowOpr P ops o).guard⟩ from rfl] at h
    generalize (lowOpr P ops o).guard = gd at h hw
    cases gd with
    | none =>
      simp only [XR_none] at h hw
      rw [if_pos hw]
      exact ((XO_sound rfl hs h).wpIn hr.get hs fun v own' w' hs' hk => ih _ _ _ _ (hr.put hd v) hs' hk)
    | some gb =>
      obtain ⟨g, b⟩ := gb
      simp only [XR_some] at h hw
      rw [hw]
      cases hfg : f g with
      | bool c =>
        rw [hfg] at h
        simp only at h
        by_cases hcb : c = b
        · subst hcb
          have hsame := upd_same hfg
          have hy := h.y rfl
          rw [hsame] at hy
          simp only [beq_self_eq_true, if_true]
          exact ((XO_sound rfl hs hy).wpIn hr.get hs fun v own' w' hs' hk => ih _ _ _ _ (hr.put hd v) hs' hk)
        · have hcb' : c = !b := by cases c <;> cases b <;> simp_all
          have hn := h.n hcb'
          rw [← hcb', upd_same hfg] at hn
          have hne : (c == b) = false := by simpa using hcb
          simp only [hne, Bool.false_eq_true, if_false]
          exact ⟨fun _ _ => trivial, ih _ _ _ _ (hr.put hd undef) hs hn⟩
      | _ =>
        rw [hfg] at h
        simp only [Bool.false_eq_true, if_false] at h ⊢
        exact ⟨fun _ _ => trivial, ih _ _ _ _ (hr.put hd undef) hs h⟩
theorem XG_sound {ds : List Deferred} {ops : Array Oper} {n : Nat} {o : Oper} {a : Act} {f : Fr} (hr : Rel n ds a f) (hok : lowOprOk ops n o = true) {P : Program} {Y N : Fr → Prop} (h : XG (lowOpr P ops o).guard f Y N) :
    (Region.wanted o (yielded ops a.tmps) = true ∧ Y f) ∨ (Region.wanted o (yielded ops a.tmps) = false ∧ N f) := by
  have hw := wanted_low hr hok P
  generalize (lowOpr P ops o).guard = gd at h hw
  cases gd with
  | none => exact .inl ⟨hw, h⟩
  | some gb =>
    obtain ⟨g, b⟩ := gb
    simp only [XG] at h hw
    cases hfg : f g with
    | bool c =>
      rw [hfg] at h hw
      simp only at h hw
      by_cases hcb : c = b
      · subst hcb
        have hy := h.y rfl
        rw [upd_same hfg] at hy
        exact .inl ⟨by simpa using hw, hy⟩
      · have hcb' : c = !b := by cases c <;> cases b <;> simp_all
        have hn := h.n hcb'
        rw [← hcb', upd_same hfg] at hn
        exact .inr ⟨by rw [hw]; simpa using hcb, hn⟩
    | _ => rw [hfg] at h hw; exact .inr ⟨hw, h⟩
def tlOp (io : IOp) : Bool := roOp io && (match io with | .ld _ | .ldN _ _ | .mlk _ _ _ _ _ => false | _ => true)
theorem XO_tl {P : Program} {W0 W1 : World} {f : Fr} {own own1 : Own} {io : IOp} {Φ : Value → Prop} (ht : tlOp io = true) (h : XO P W0 f own io (fun v _ => Φ v)) : XO P W1 f own1 io (fun v _ => Φ v) := by
  cases io <;> first | exact h | (simp [tlOp, roOp] at ht)
theorem XQ_sound {P : Program} {W0 : World} {own : Own} {f : Fr} {a : Act} {o : Oper} {K : Value → Prop} (hf : ∀ t, a.tmps.getD t undef = f t) (hx : XQ P W0 f own (lowOp P o.op) K) :
    ∃ v, K v ∧ ∀ own', (tlOp (lowOp P o.op) = true ∨ ∃ ex, own' = ex ++ own) → ∀ w, St W0 own' w → GoesTo P (fun u w' => u = v ∧ St W0 own' w') ((execOp a.eval o).run P w) := by
  have ro : ∀ io, lowOp P o.op = io → roOp io = true → XO P W0 f own io (fun v _ => K v) →
      ∃ v, K v ∧ ∀ own', (tlOp io = true ∨ ∃ ex, own' = ex ++ own) → ∀ w, St W0 own' w → GoesTo P (fun u w' => u = v ∧ St W0 own' w') ((execOp a.eval o).run P w) := by
    intro io hio hro hx
    obtain ⟨v, hk, hv⟩ := XO_fix hro hx
    refine ⟨v, hk, fun own' hV w hw => ?_⟩
    have hrun : (execOp (ev f) o).run P w = .ok (.value v) w := by
      rcases hV with ht | ⟨ex, rfl⟩
      · rcases XO_sound hio hw (XO_tl ht hv : XO P W0 f own' io (fun v' _ => v' = v)) with ⟨v', hr', rfl⟩ | ⟨h0, _⟩
        · exact hr'
        · rw [hro] at h0; cases h0
      · have hw' : St W0 own w := Ent.of_sub (List.sublist_append_right ex own) w hw
        rcases XO_sound hio hw' hv with ⟨v', hr', rfl⟩ | ⟨h0, _⟩
        · exact hr'
        · rw [hro] at h0; cases h0
    rw [ev_eq hf, hrun]
    exact ⟨rfl, hw⟩
  unfold XQ at hx
  split at hx
  · rename_i k args hio
    obtain ⟨v, hc, hk⟩ := hx.h
    refine ⟨v, hk, fun own' hV w hw => ?_⟩
    rcases hV with ht | ⟨ex, rfl⟩
    · rw [hio] at ht; cases ht
    · rw [ev_eq hf, lowOp_call_run hio]
      exact (hc ex w hw).mono fun e w' ⟨he, hs⟩ => ⟨v, he, rfl, hs⟩
  · split at hx
    · exact ro _ rfl (by assumption) hx
    · exact hx.elim
theorem Does.goes {P : Program} {W0 : World} {f : Fr} {own : Own} {a : Act} {o : Oper} {w : World} {K : Value → Own → Prop} {ro : Bool} (hf : ∀ t, a.tmps.getD t undef = f t) (hS : St W0 own w) (h : Does P f o w own W0 K ro) :
    GoesTo P (fun u w' => ∃ own', St W0 own' w' ∧ K u own') ((execOp a.eval o).run P w) := by
  rw [ev_eq hf]
  rcases h with ⟨v, hr, hk⟩ | ⟨_, ⟨v, w', own', hr, hs, hk⟩ | ⟨w', own', hr, hs, hk⟩ | ⟨k, args, hr, hc⟩ | ⟨l, k, tmps, assign, body, hr, hc⟩⟩
  · rw [hr]; exact ⟨_, hS, hk⟩
  · rw [hr]; exact ⟨_, hs, hk⟩
  · rw [hr]; exact ⟨_, hs, hk⟩
  · rw [hr]
    have hc' := hc.h w hS
    simp only [Array.toArray_toList] at hc'
    exact hc'.mono fun e w' ⟨v, own', he, hs, hk⟩ => ⟨v, he, own', hs, hk⟩
  · rw [hr]
    exact hc.mono fun e w' ⟨v, own', he, hs, hk⟩ => ⟨v, he, own', hs, hk⟩
def newOp : IOp → Bool
  | .new _ _ | .box _ _ => true
  | .blds _ _ _ _ => true
  | .mk _ _ _ _ _ _ => true
  | .mkm => true
  | _ => false
theorem XO_new {P : Program} {W0 : World} {f : Fr} {own : Own} {io : IOp} {K : Value → Own → Prop} (hn : newOp io = true) (h : XO P W0 f own io K) : XO P W0 f own io (fun v own' => K v own' ∧ ∃ e, own' = e :: own) := by
  cases io <;> simp only [XO] at h ⊢ <;> (try simp [newOp] at hn)
  case box => split at h <;> first | exact ⟨fun b hb hl => ⟨h.h b hb hl, _, rfl⟩⟩ | exact .mk ⟨fun b hb hl => ⟨h.h.h b hb hl, _, rfl⟩⟩
  case new => split at h <;> exact ⟨fun b hb hl => ⟨h.h b hb hl, _, rfl⟩⟩
  case blds => exact Bld_mono _ _ (fun cs h => ⟨fun b hb hl => ⟨h.h b hb hl, _, rfl⟩⟩) h
  case mk => split at h <;> first | (obtain ⟨l, c, h1, h2, h3, h4, h⟩ := h.h; exact ⟨l, c, h1, h2, h3, h4, fun b hb => ⟨h b hb, _, rfl⟩⟩) | exact h.elim
  case mkm => exact ⟨fun b hb => ⟨h.h b hb, _, rfl⟩⟩
def kdOp (mv : List Nat) (io : IOp) : Kd :=
  match io with
  | .call k _ => if mv.contains k then .m else .f
  | io => if roOp io then .f else if newOp io then .n else .m
def kdAt (P : Program) (ops : Array Oper) (mv : List Nat) (i : Nat) : Kd :=
  match ops[i]? with
  | some o => kdOp mv (lowOp P o.op)
  | none => .f
def fOk (P : Program) (ops : Array Oper) (mv : List Nat) (listed : Array Bool) (k : Nat) : Bool :=
  match ops[k]? with
  | some o => (match kdOp mv (lowOp P o.op) with | .f => true | _ => false) && Region.free .any ops listed k &&
      (tlOp (lowOp P o.op) || (List.range ops.size).all fun j => match kdAt P ops mv j with | .m => listed.getD j false || waitsT .any ops 3 j k | _ => true)
  | none => false
def brs (P : Program) (ops : Array Oper) (mv : List Nat) (rec' : Nat → DT) : List Nat → DT
  | [] => .tt
  | k :: r =>
    let x := match kdAt P ops mv k with
      | .f => (match ops[k]? with
        | some o => .f (lowOpr P ops o) (rec' k)
        | none => .bad)
      | _ => match ops[k]? with
        | some o => .m (lowOpr P ops o) (rec' k)
        | none => .bad
    match r with
    | [] => x
    | _ => .both x (brs P ops mv rec' r)
def lowD (P : Program) (ops : Array Oper) (mv : List Nat) : Nat → Array Bool → DT
  | 0, listed => match Region.ready .any ops listed with
    | [] => .done
    | _ => .bad
  | g + 1, listed => match (Region.ready .any ops listed).find? (fOk P ops mv listed) with
    | some k => match ops[k]? with
      | some o => .f (lowOpr P ops o) (lowD P ops mv g (listed.setIfInBounds k true))
      | none => .bad
    | none => match Region.ready .any ops listed with
      | [] => .done
      | rd => brs P ops mv (fun k => lowD P ops mv g (listed.setIfInBounds k true)) rd
theorem brs_spec {P : Program} {W0 : World} {ops : Array Oper} {mv : List Nat} {rec' : Nat → DT} {K : Fr → Own → Prop} {f : Fr} {own : Own} : ∀ (l : List Nat), XD P W0 (brs P ops mv rec' l) K f own →
    ∀ k ∈ l, ∃ o, ops[k]? = some o ∧ match kdAt P ops mv k with
      | .f => XD P W0 (.f (lowOpr P ops o) (rec' k)) K f own
      | _ => XD P W0 (.m (lowOpr P ops o) (rec' k)) K f own
  | [], _, k, hk => by cases hk
  | k0 :: r, h, k, hk => by
    have hx : XD P W0 (match kdAt P ops mv k0 with
      | .f => (match ops[k0]? with
        | some o => .f (lowOpr P ops o) (rec' k0)
        | none => .bad)
      | _ => match ops[k0]? with
        | some o => .m (lowOpr P ops o) (rec' k0)
        | none => .bad) K f own ∧ (r ≠ [] → XD P W0 (brs P ops mv rec' r) K f own) := by
      unfold brs at h
      cases r with
      | nil => exact ⟨h, fun h => absurd rfl h⟩
      | cons a r => exact ⟨Both.l (A := XD P W0 _ K f own) (B := XD P W0 _ K f own) h, fun _ => Both.r (A := XD P W0 _ K f own) (B := XD P W0 _ K f own) h⟩
    rcases List.mem_cons.1 hk with rfl | hk
    · have h1 := hx.1
      cases ho : ops[k]? with
      | none => rw [ho] at h1; cases hkd : kdAt P ops mv k <;> rw [hkd] at h1 <;> exact h1.elim
      | some o =>
        rw [ho] at h1
        refine ⟨o, rfl, ?_⟩
        cases hkd : kdAt P ops mv k <;> rw [hkd] at h1 <;> exact h1
    · exact brs_spec r (hx.2 (fun e => by subst e; cases hk)) k hk
theorem XD_sound {ds : List Deferred} {P : Program} {W0 : World} {ops : Array Oper} {mv : List Nat} {n : Nat} {Q : Act → Own → Prop} {K : Fr → Own → Prop} (hsel : Region.noSelect ops = true) (hok : ops.toList.all (lowOprOk ops n) = true)
    (hQ : ∀ f own a, Rel n ds a f → K f own → Q a own) : ∀ (g : Nat) (listed : Array Bool) (f : Fr) (a : Act) (own : Own), Closed .any ops listed → Rel n ds a f →
    XD P W0 (lowD P ops mv g listed) K f own → wpG P .any ops W0 (kdAt P ops mv) Q g listed a own
  | 0, listed, f, a, own, _, hr, h => by
    unfold lowD at h
    split at h
    · rename_i hrd; exact ⟨hrd, hQ _ _ _ hr h⟩
    · exact h.elim
  | g + 1, listed, f, a, own, inv, hr, h => by
    have okAt : ∀ (k : Nat) (o : Oper), ops[k]? = some o → lowOprOk ops n o = true := fun k o ho => by
      rw [List.all_eq_true] at hok
      exact hok o (by rw [← Array.getElem?_toList] at ho; exact List.mem_of_getElem? ho)
    have dstAt : ∀ (k : Nat) (o : Oper), ops[k]? = some o → ∀ t, o.dst = some t → t < n := fun k o ho t ht => by
      have := okAt k o ho
      unfold lowOprOk at this
      simp only [ht, Bool.and_eq_true, decide_eq_true_eq] at this
      exact this.1
    unfold lowD at h
    split at h
    · rename_i k hk
      have hkr := List.mem_of_find?_eq_some hk
      have hf := List.find?_some hk
      split at h
      · rename_i o ho
        unfold fOk at hf
        simp only [ho, Bool.and_eq_true, Bool.or_eq_true] at hf
        obtain ⟨⟨hkd, hfree⟩, htl⟩ := hf
        have hkf : kdAt P ops mv k = .f := by
          unfold kdAt
          simp only [ho]
          cases hh : kdOp mv (lowOp P o.op) <;> rw [hh] at hkd <;> first | rfl | cases hkd
        have first := fun (v : Value) (hy : Yields P ops W0 (fun own' => tlOp (lowOp P o.op) = true ∨ ∃ ex, own' = ex ++ own) o v a) (H : wpG P .any ops W0 (kdAt P ops mv) Q g (listed.setIfInBounds k true) (a.put o.dst v) own) =>
          wpG_first (tl := tlOp (lowOp P o.op)) (g := 3) ho hkf (Region.noSelect_spec hsel) _ (fun e own' hV => hV.imp id (fun ⟨ex, he⟩ => ⟨e :: ex, by rw [he]; rfl⟩)) (fun ht _ => .inl ht) g listed a own inv (fun ht j oj hj hm => by
            rcases htl with h | h
            · rw [h] at ht; cases ht
            · rw [List.all_eq_true] at h
              have := h j (List.mem_range.2 (Array.getElem?_eq_some_iff.1 hj).1)
              rw [hm] at this
              simpa only [Bool.or_eq_true] using this) (Region.free_spec ho hfree) hkr hy (.inr ⟨[], rfl⟩) H
        rw [XD_f] at h
        rcases XG_sound hr (okAt k o ho) h with ⟨hw, hx⟩ | ⟨hw, hx⟩
        · obtain ⟨v, hk', hv⟩ := XQ_sound hr.get hx
          exact first v (.inl ⟨hw, hv⟩) (XD_sound hsel hok hQ g _ _ _ own (inv.set hkr) (hr.put (dstAt k o ho) v) hk')
        · exact first undef (.inr ⟨hw, rfl⟩) (XD_sound hsel hok hQ g _ _ _ own (inv.set hkr) (hr.put (dstAt k o ho) undef) hx)
      · exact h.elim
    · split at h
      · rename_i hrd
        exact ⟨fun _ => hQ _ _ _ hr h, fun i hi => by rw [hrd] at hi; cases hi⟩
      · rename_i hne
        refine ⟨fun h0 => absurd h0 hne, fun i hi => ?_⟩
        obtain ⟨o, ho, hx⟩ := brs_spec _ h i hi
        have hkk : kdAt P ops mv i = kdOp mv (lowOp P o.op) := by unfold kdAt; simp only [ho]
        unfold gStep
        simp only [ho]
        cases hkd' : kdAt P ops mv i with
        | f =>
          rw [hkd'] at hx
          simp only at hx
          rw [XD_f] at hx
          rcases XG_sound hr (okAt i o ho) hx with ⟨hw, hx⟩ | ⟨hw, hx⟩
          · simp only [hw, if_true]
            intro w hs
            obtain ⟨v, hk', hv⟩ := XQ_sound hr.get hx
            refine (hv own (.inr ⟨[], rfl⟩) w hs).mono fun u w' ⟨hu, hs'⟩ => ?_
            subst hu
            exact ⟨hs', XD_sound hsel hok hQ g _ _ _ own (inv.set hi) (hr.put (dstAt i o ho) u) hk'⟩
          · simp only [hw, Bool.false_eq_true, if_false]
            exact XD_sound hsel hok hQ g _ _ _ own (inv.set hi) (hr.put (dstAt i o ho) undef) hx
        | n =>
          rw [hkd'] at hx
          simp only at hx
          rw [XD_m] at hx
          rcases XG_sound hr (okAt i o ho) hx with ⟨hw, hx⟩ | ⟨hw, hx⟩
          · simp only [hw, if_true]
            intro w hs
            have hnew : newOp (lowOp P o.op) = true := by
              rw [hkk] at hkd'
              unfold kdOp at hkd'
              split at hkd'
              · split at hkd' <;> cases hkd'
              · split at hkd'
                · cases hkd'
                · split at hkd'
                  · assumption
                  · cases hkd'
            refine (Does.goes hr.get hs (XO_sound rfl hs (XO_new hnew hx))).mono fun u w' ⟨own', hs', hk', e, he⟩ => ?_
            subst he
            exact ⟨e, hs', XD_sound hsel hok hQ g _ _ _ _ (inv.set hi) (hr.put (dstAt i o ho) u) hk'⟩
          · simp only [hw, Bool.false_eq_true, if_false]
            exact XD_sound hsel hok hQ g _ _ _ own (inv.set hi) (hr.put (dstAt i o ho) undef) hx
        | m =>
          rw [hkd'] at hx
          simp only at hx
          rw [XD_m] at hx
          rcases XG_sound hr (okAt i o ho) hx with ⟨hw, hx⟩ | ⟨hw, hx⟩
          · simp only [hw, if_true]
            intro w hs
            exact (Does.goes hr.get hs (XO_sound rfl hs hx)).mono fun u w' ⟨own', hs', hk'⟩ => ⟨own', hs', XD_sound hsel hok hQ g _ _ _ _ (inv.set hi) (hr.put (dstAt i o ho) u) hk'⟩
          · simp only [hw, Bool.false_eq_true, if_false]
            exact XD_sound hsel hok hQ g _ _ _ own (inv.set hi) (hr.put (dstAt i o ho) undef) hx
end Go.Proofs.YtllddgdmmfmpkaaGreatDoor
