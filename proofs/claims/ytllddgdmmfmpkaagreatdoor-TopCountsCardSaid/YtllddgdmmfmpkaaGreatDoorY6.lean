/- What the laws share, part 6. No condition. -/
import Derived.Test.YtllddgdmmfmpkaaGreatDoorY5
namespace Go.Proofs.YtllddgdmmfmpkaaGreatDoor
open Go
inductive IC
  | skip
  | region (ops : List IOpr)
  | draw (t : DT)
  | par (ops : List (IOpr × List Nat))
  | seq (a b : IC)
  | cut (a b : IC)
  | cond (c : Operand) (a b : IC)
  | block (id : Nat) (b : IC)
  | loop (mask : Nat) (b : IC)
  | exit (id : Nat)
  | ret
  | bad
def setB (m d : Nat) : Nat := m ||| 2 ^ d
def hasB (m d : Nat) : Bool := Nat.beq (Nat.land (Nat.shiftRight m d) 1) 1
def asgOps : List IOpr → Nat → Nat
  | [], m => m
  | o :: r, m => asgOps r (match o.dst with | some d => setB m d | none => m)
def asgD : DT → Nat → Nat
  | .f o r, m | .m o r, m => asgD r (match o.dst with | some d => setB m d | none => m)
  | .both a b, m => asgD b (asgD a m)
  | _, m => m
def asgP : List (IOpr × List Nat) → Nat → Nat
  | [], m => m
  | o :: r, m => asgP r (match o.1.dst with | some d => setB m d | none => m)
def asg : IC → Nat → Nat
  | .region ops, m => asgOps ops m
  | .draw t, m => asgD t m
  | .par l, m => asgP l m
  | .seq a b, m | .cut a b, m | .cond _ a b, m => asg b (asg a m)
  | .block _ b, m => asg b m
  | .loop k _, m => m ||| k
  | _, m => m
def isMup : IOp → Bool
  | .mup .. | .mlk .. => true
  | _ => false
def parB (P : Program) (ops : Array Oper) : Bool := decide (6 ≤ (ops.toList.filter fun o => isMup (lowOp P o.op)).length)
def depsO (o : Oper) : List Nat := (o.after.toList.filter fun e => Region.binds .any e).map (·.on)
def depsOk : List Oper → Nat → Bool
  | [], _ => true
  | o :: r, k => (depsO o).all (fun j => decide (j < k)) && o.guard.isNone && depsOk r (k + 1)
def lowP (P : Program) (ops : Array Oper) : List (IOpr × List Nat) := ops.toList.map fun o => (lowOpr P ops o, depsO o)
def lowC (P : Program) (mv : List Nat) (n : Nat) : Code → IC
  | .skip => .skip
  | .region _ ops d => if ops.toList.all (lowOprOk ops n) then
      (if d then (if Region.noSelect ops then (if parB P ops then (if depsOk ops.toList 0 then .par (lowP P ops) else .bad) else .draw (lowD P ops mv ops.size (Array.replicate ops.size false))) else .bad) else .region (ops.toList.map (lowOpr P ops))) else .bad
  | .seq a b => .seq (lowC P mv n a) (lowC P mv n b)
  | .cond c a b => .cond c (lowC P mv n a) (lowC P mv n b)
  | .block id b => .block id (lowC P mv n b)
  | .loop b => let b' := lowC P mv n b; .loop (asg b' 0) b'
  | .exit id => .exit id
  | .ret => .ret
  | _ => .bad
def strip : IC → IC
  | .seq a b | .cut a b => .seq (strip a) (strip b)
  | .cond c a b => .cond c (strip a) (strip b)
  | .block id b => .block id (strip b)
  | .loop m b => .loop m (strip b)
  | c => c
abbrev Post := Exit → Fr → Own → Prop
def thenQ (next : Fr → Own → Prop) (Q : Post) : Post := fun e f own => match e with
  | .normal => next f own
  | e => Q e f own
def blockQ (id : Nat) (Q : Post) : Post := fun e f own => match e with
  | .exit id' => (match Nat.beq id' id with | true => Q .normal f own | false => Q (.exit id') f own)
  | e => Q e f own
structure LoopT (P : Program) (W0 : World) (code : IC) (mask : Nat) (body : Post → Fr → Own → Prop) (Q : Post) (f : Fr) (own : Own) : Prop where
  h : ∃ I : Nat → Fr → Own → Prop, (∃ n o2, Ent W0 own o2 ∧ I n f o2) ∧ ∀ n f own, I n f own → body (thenQ (fun f' own' => ∃ m o2, m < n ∧ Ent W0 own' o2 ∧ I m f' o2) Q) f own
structure CutT (P : Program) (W0 : World) (ca cb : IC) (a b : Post → Fr → Own → Prop) (Q : Post) (f : Fr) (own : Own) : Prop where
  h : a (thenQ (fun f' own' => ∃ o2, Ent W0 own' o2 ∧ b Q f' o2) Q) f own
structure ParT (P : Program) (W0 : World) (ops : List (IOpr × List Nat)) (K : Fr → Own → Prop) (f : Fr) (own : Own) : Prop where
  h : ∃ J : (Nat → Bool) → Fr → Own → Prop, J (fun _ => false) f own ∧ (∀ l f own, J l f own → (∀ i, i < ops.length → l i = true) → K f own) ∧
    ∀ (i : Nat) (d : Option Nat) (op : IOp) (gd : Option (Nat × Bool)) (ds : List Nat) (l : Nat → Bool) (f : Fr) (own : Own), ops[i]? = some (⟨d, op, gd⟩, ds) → l i = false → (∀ j ∈ ds, l j = true) → J l f own → XO P W0 f own op fun v own' => J (fun k => bif Nat.beq k i then true else l k) (updO f d v) own'
noncomputable def XS (P : Program) (W0 : World) (c : IC) : Post → Fr → Own → Prop :=
  IC.rec (motive := fun _ => Post → Fr → Own → Prop)
    (fun Q f own => Q .normal f own)
    (fun ops Q f own => XR P W0 ops (Q .normal) f own)
    (fun t Q f own => XD P W0 t (Q .normal) f own)
    (fun ops Q f own => ParT P W0 ops (Q .normal) f own)
    (fun _ _ a b Q f own => a (thenQ (b Q) Q) f own)
    (fun ca cb a b Q f own => CutT P W0 ca cb a b Q f own)
    (fun c _ _ a b Q f own => match ev f c with
      | .bool t => Br t (a Q f own) (b Q f own)
      | _ => False)
    (fun id _ b Q f own => b (blockQ id Q) f own)
    (fun mask cb b Q f own => LoopT P W0 cb mask b Q f own)
    (fun id Q f own => Q (.exit id) f own)
    (fun Q f own => Q .ret f own)
    (fun _ _ _ => False) c
theorem XS_cond {P : Program} {W0 : World} {c : Operand} {a b : IC} {Q : Post} {f : Fr} {own : Own} : XS P W0 (.cond c a b) Q f own = match ev f c with
    | .bool t => Br t (XS P W0 a Q f own) (XS P W0 b Q f own)
    | _ => False := rfl
section mono
variable {P : Program} {W0 : World}
theorem XR_mono {K K' : Fr → Own → Prop} (hk : ∀ f own, K f own → K' f own) : ∀ (l : List IOpr) (f : Fr) (own : Own), XR P W0 l K f own → XR P W0 l K' f own
  | [], f, own, h => hk f own h
  | ⟨d, op, none⟩ :: l, f, own, h => XO_mono (fun _ _ h => XR_mono hk l _ _ h) h
  | ⟨d, op, some (g, b)⟩ :: l, f, own, h => by
      simp only [XR_some] at h ⊢
      have ih := XR_mono hk l
      split at h
      · exact ⟨fun e => XO_mono (fun v own' h => ih _ _ h) (h.y e), fun e => ih _ _ (h.n e)⟩
      · exact ih _ _ h
theorem XQ_mono {f : Fr} {own : Own} {op : IOp} {K K' : Value → Prop} (hk : ∀ v, K v → K' v) (h : XQ P W0 f own op K) : XQ P W0 f own op K' := by
  unfold XQ at h ⊢
  split at h
  · obtain ⟨v, hc, h⟩ := h.h; exact ⟨v, hc, hk v h⟩
  · split at h
    · exact XO_mono (fun v _ h => hk v h) h
    · exact h.elim
theorem XG_mono {gd : Option (Nat × Bool)} {f : Fr} {Y Y' N N' : Fr → Prop} (hy : ∀ f, Y f → Y' f) (hn : ∀ f, N f → N' f) (h : XG gd f Y N) : XG gd f Y' N' := by
  unfold XG at h ⊢
  split
  · exact hy _ h
  · simp only at h
    split
    · rename_i hc; rw [hc] at h; exact ⟨fun e => hy _ (h.y e), fun e => hn _ (h.n e)⟩
    · rename_i hc; split at h
      · rename_i hc'; exact absurd hc' (hc _)
      · exact hn _ h
theorem XD_mono {K K' : Fr → Own → Prop} (hk : ∀ f own, K f own → K' f own) : ∀ (t : DT) (f : Fr) (own : Own), XD P W0 t K f own → XD P W0 t K' f own
  | .done, f, own, h => hk f own h
  | .f o r, f, own, h => by
    rw [XD_f] at h ⊢
    exact XG_mono (fun f h => XQ_mono (fun _ h => XD_mono hk r _ _ h) h) (fun f h => XD_mono hk r _ _ h) h
  | .m o r, f, own, h => by
    rw [XD_m] at h ⊢
    exact XG_mono (fun f h => XO_mono (fun _ _ h => XD_mono hk r _ _ h) h) (fun f h => XD_mono hk r _ _ h) h
  | .both a b, f, own, h => ⟨XD_mono hk a f own (Both.l (A := XD P W0 a K f own) (B := XD P W0 b K f own) h), XD_mono hk b f own (Both.r (A := XD P W0 a K f own) (B := XD P W0 b K f own) h)⟩
  | .tt, _, _, h => h
  | .bad, _, _, h => h.elim
theorem thenQ_mono {n n' : Fr → Own → Prop} {Q Q' : Post} (hn : ∀ f own, n f own → n' f own) (hq : ∀ e f own, Q e f own → Q' e f own) : ∀ e f own, thenQ n Q e f own → thenQ n' Q' e f own := by
  intro e f own h
  cases e <;> first | exact hn _ _ h | exact hq _ _ _ h
theorem blockQ_mono {id : Nat} {Q Q' : Post} (hq : ∀ e f own, Q e f own → Q' e f own) : ∀ e f own, blockQ id Q e f own → blockQ id Q' e f own := by
  intro e f own h
  cases e <;> simp only [blockQ] at h ⊢
  case exit => split <;> rename_i hc <;> rw [hc] at h <;> exact hq _ _ _ h
  all_goals exact hq _ _ _ h
theorem XS_mono : ∀ (c : IC) (Q Q' : Post), (∀ e f own, Q e f own → Q' e f own) → ∀ (f : Fr) (own : Own), XS P W0 c Q f own → XS P W0 c Q' f own
  | .skip, Q, Q', hq, f, own, h => hq _ _ _ h
  | .region ops, Q, Q', hq, f, own, h => XR_mono (hq .normal) ops f own h
  | .draw ops, Q, Q', hq, f, own, h => XD_mono (hq .normal) ops f own h
  | .par _, Q, Q', hq, f, own, h => by
    obtain ⟨J, h0, h1, h2⟩ := h.h
    exact ⟨J, h0, fun l f own hJ hl => hq _ _ _ (h1 l f own hJ hl), h2⟩
  | .seq a b, Q, Q', hq, f, own, h => XS_mono a _ _ (thenQ_mono (fun f own h => XS_mono b Q Q' hq f own h) hq) f own h
  | .cut a b, Q, Q', hq, f, own, h => ⟨XS_mono a _ _ (thenQ_mono (fun f own ⟨o2, he, h⟩ => ⟨o2, he, XS_mono b Q Q' hq f o2 h⟩) hq) f own h.h⟩
  | .cond c a b, Q, Q', hq, f, own, h => by
    simp only [XS_cond] at h ⊢
    split at h
    · exact ⟨fun e => XS_mono a Q Q' hq f own (h.y e), fun e => XS_mono b Q Q' hq f own (h.n e)⟩
    · exact h.elim
  | .block id b, Q, Q', hq, f, own, h => XS_mono b _ _ (blockQ_mono hq) f own h
  | .loop mask b, Q, Q', hq, f, own, h => by
    obtain ⟨I, h0, h1⟩ := h.h
    exact ⟨I, h0, fun n f own hI => XS_mono b _ _ (thenQ_mono (fun _ _ h => h) hq) f own (h1 n f own hI)⟩
  | .exit id, Q, Q', hq, f, own, h => hq _ _ _ h
  | .ret, Q, Q', hq, f, own, h => hq _ _ _ h
  | .bad, _, _, _, _, _, h => h.elim
end mono
theorem least_of {p : Nat → Prop} : ∀ n, p n → ∃ m, p m ∧ ∀ k, p k → m ≤ k := by
  intro n
  induction n using Nat.strongRecOn with
  | _ n ih =>
    intro hn
    by_cases h : ∃ k, k < n ∧ p k
    · obtain ⟨k, hk, hp⟩ := h
      exact ih k hk hp
    · exact ⟨n, hn, fun k hk => Nat.le_of_not_lt fun hlt => h ⟨k, hlt, hk⟩⟩
theorem wp_loop_num {P : Program} {r : Option Nat} {m : Nat} {c : Code} {Q : Exit → Act → World → Prop} {a : Act} {w : World} (I : Nat → Act → World → Prop) (h0 : ∃ n, I n a w)
    (round : ∀ n a w, I n a w → c.wpIn (WF r) m P (Exit.then (fun a' w' => ∃ m, m < n ∧ I m a' w') Q) a w) : (Code.loop c).wpIn (WF r) m P Q a w := by
  have hex : ∀ a w, ∃ m0 : Nat, (∃ n, I n a w) → I m0 a w ∧ ∀ k, I k a w → m0 ≤ k := fun a w => by
    by_cases h : ∃ n, I n a w
    · obtain ⟨n, hn⟩ := h
      obtain ⟨m0, hm⟩ := least_of (p := fun n => I n a w) n hn
      exact ⟨m0, fun _ => hm⟩
    · exact ⟨0, fun h' => (h h').elim⟩
  refine wpIn_loop (fun a w => ∃ n, I n a w) (fun a w => Classical.choose (hex a w)) h0 ?_
  intro a w h
  refine wpIn_mono (round _ a w (Classical.choose_spec (hex a w) h).1) ?_
  intro e a' w' q
  cases e with
  | normal =>
    obtain ⟨m, hm, hI⟩ := q
    have h' : ∃ n, I n a' w' := ⟨m, hI⟩
    exact ⟨h', Nat.lt_of_le_of_lt ((Classical.choose_spec (hex a' w') h').2 m hI) hm⟩
  | _ => exact q
theorem depsOk_spec : ∀ (l : List Oper) (k : Nat), depsOk l k = true → ∀ i o, l[i]? = some o → o.guard = none ∧ ∀ j ∈ depsO o, j < k + i
  | [], _, _, i, o, h => by simp at h
  | x :: r, k, hd, 0, o, h => by
    simp only [List.getElem?_cons_zero, Option.some.injEq] at h
    subst h
    unfold depsOk at hd
    simp only [Bool.and_eq_true, List.all_eq_true, decide_eq_true_eq] at hd
    exact ⟨Option.isNone_iff_eq_none.1 hd.1.2, fun j hj => hd.1.1 j hj⟩
  | x :: r, k, hd, i + 1, o, h => by
    unfold depsOk at hd
    simp only [Bool.and_eq_true] at hd
    have := depsOk_spec r (k + 1) hd.2 i o (by simpa using h)
    exact ⟨this.1, fun j hj => by have := this.2 j hj; omega⟩
theorem mem_deps {o : Oper} {j : Nat} : j ∈ depsO o ↔ ∃ e ∈ o.after, Region.binds .any e = true ∧ e.on = j := by
  unfold depsO
  simp only [List.mem_map, List.mem_filter, Array.mem_toList_iff]
  constructor
  · rintro ⟨e, ⟨h1, h2⟩, h3⟩; exact ⟨e, h1, h2, h3⟩
  · rintro ⟨e, h1, h2, h3⟩; exact ⟨e, ⟨h1, h2⟩, h3⟩
theorem ready_all {ops : Array Oper} (hd : depsOk ops.toList 0 = true) {listed : Array Bool} (hs : listed.size = ops.size) (h : Region.ready .any ops listed = []) : ∀ i, i < ops.size → listed.getD i false = true := by
  intro i
  induction i using Nat.strongRecOn with
  | _ i ih =>
    intro hi
    by_cases hl : listed.getD i false = true
    · exact hl
    · exfalso
      have hio : ops[i]? = some ops[i] := Array.getElem?_eq_getElem hi
      have hm : i ∈ Region.ready .any ops listed := mem_ready.2 ⟨by
        have hi' : i < listed.size := by omega
        simp only [Array.getD_eq_getD_getElem?, Array.getElem?_eq_getElem hi', Option.getD_some] at hl ⊢
        simpa using hl, _, hio, fun e he hb => by
        have := (depsOk_spec _ 0 hd i ops[i] (by rw [Array.getElem?_toList]; exact hio)).2 e.on (mem_deps.2 ⟨e, he, hb, rfl⟩)
        exact ih e.on (by omega) (by omega)⟩
      rw [h] at hm
      cases hm
theorem par_sound {ds : List Deferred} {P : Program} {W0 : World} {ops : Array Oper} {n : Nat} {Q : Act → Own → Prop} {K : Fr → Own → Prop} (hd : depsOk ops.toList 0 = true) (hok : ops.toList.all (lowOprOk ops n) = true)
    (hQ : ∀ f own a, Rel n ds a f → K f own → Q a own) {J : (Nat → Bool) → Fr → Own → Prop} (h1 : ∀ l f own, J l f own → (∀ i, i < (lowP P ops).length → l i = true) → K f own)
    (h2 : ∀ (i : Nat) (d : Option Nat) (op : IOp) (gd : Option (Nat × Bool)) (ds : List Nat) (l : Nat → Bool) (f : Fr) (own : Own), (lowP P ops)[i]? = some (⟨d, op, gd⟩, ds) → l i = false → (∀ j ∈ ds, l j = true) → J l f own → XO P W0 f own op fun v own' => J (fun k => bif Nat.beq k i then true else l k) (updO f d v) own') :
    ∀ (g : Nat) (listed : Array Bool) (f : Fr) (a : Act) (own : Own), listed.size = ops.size → (listed.toList.filter (!·)).length = g → Rel n ds a f → J (fun k => listed.getD k false) f own → wpG P .any ops W0 (fun _ => .m) Q g listed a own := by
  have hlen : (lowP P ops).length = ops.size := by unfold lowP; simp
  have done : ∀ (listed : Array Bool) (f : Fr) (a : Act) (own : Own), listed.size = ops.size → Region.ready .any ops listed = [] → Rel n ds a f → J (fun k => listed.getD k false) f own → Q a own := fun listed f a own hs hr hrel hJ =>
    hQ f own a hrel (h1 _ f own hJ fun i hi => ready_all hd hs hr i (by omega))
  intro g
  induction g with
  | zero =>
    intro listed f a own hs hg hr hJ
    have h0 : Region.ready .any ops listed = [] := by
      cases hrd : Region.ready .any ops listed with
      | nil => rfl
      | cons i r =>
        exfalso
        have hi := (mem_ready.1 (show i ∈ Region.ready .any ops listed by rw [hrd]; exact List.mem_cons_self)).1
        have hlt : i < listed.size := by
          rcases Nat.lt_or_ge i listed.size with h | h
          · exact h
          · simp [Array.getD_eq_getD_getElem?, Array.getElem?_eq_none h] at hi
        rw [List.length_eq_zero_iff] at hg
        have : listed[i] ∈ listed.toList.filter (!·) := List.mem_filter.2 ⟨by rw [Array.mem_toList_iff]; exact Array.getElem_mem hlt, by
          simp only [Array.getD_eq_getD_getElem?, Array.getElem?_eq_getElem hlt, Option.getD_some] at hi
          simp [hi]⟩
        rw [hg] at this
        cases this
    exact ⟨h0, done listed f a own hs h0 hr hJ⟩
  | succ g ih =>
    intro listed f a own hs hg hr hJ
    refine ⟨fun h0 => done listed f a own hs h0 hr hJ, fun i hi => ?_⟩
    obtain ⟨hun, o, ho, hall⟩ := mem_ready.1 hi
    have hlt : i < listed.size := by
      rcases Nat.lt_or_ge i listed.size with h | h
      · exact h
      · simp [Array.getD_eq_getD_getElem?, Array.getElem?_eq_none h] at hun
    have hgi : listed[i] = false := by simpa only [Array.getD_eq_getD_getElem?, Array.getElem?_eq_getElem hlt, Option.getD_some] using hun
    have hgd := (depsOk_spec _ 0 hd i o (by rw [Array.getElem?_toList]; exact ho)).1
    have okAt : lowOprOk ops n o = true := by
      rw [List.all_eq_true] at hok
      exact hok o (by rw [← Array.getElem?_toList] at ho; exact List.mem_of_getElem? ho)
    have dstAt : ∀ t, o.dst = some t → t < n := fun t ht => by
      have := okAt
      unfold lowOprOk at this
      simp only [ht, Bool.and_eq_true, decide_eq_true_eq] at this
      exact this.1
    have hw := wanted_low hr okAt P
    have hlow : (lowOpr P ops o).guard = none := by unfold lowOpr; simp [hgd]
    rw [hlow] at hw
    have hx := h2 i o.dst (lowOp P o.op) none (depsO o) (fun k => listed.getD k false) f own (by
      unfold lowP
      rw [List.getElem?_map, Array.getElem?_toList, ho]
      show some (lowOpr P ops o, depsO o) = _
      rw [show lowOpr P ops o = ⟨o.dst, lowOp P o.op, none⟩ by rw [← hlow]; rfl]) (getD_both' hun) (fun j hj => by
      obtain ⟨e, he, hb, rfl⟩ := mem_deps.1 hj
      exact hall e he hb) hJ
    unfold gStep
    simp only [ho, hw, if_true]
    intro w hS
    refine (Does.goes hr.get hS (XO_sound rfl hS hx)).mono fun u w' ⟨own', hs', hJ'⟩ => ⟨own', hs', ih _ _ _ _ (by simpa using hs) ?_ (hr.put dstAt u) ?_⟩
    · have e1 : listed.toList = listed.toList.take i ++ false :: listed.toList.drop (i + 1) := by
        conv => lhs; rw [← List.take_append_drop i listed.toList, List.drop_eq_getElem_cons (by simpa using hlt)]
        simp [hgi]
      have e2 : (listed.setIfInBounds i true).toList = listed.toList.take i ++ true :: listed.toList.drop (i + 1) := by
        rw [Array.toList_setIfInBounds, List.set_eq_take_append_cons_drop, if_pos (by simpa using hlt)]
      rw [e1] at hg
      rw [e2]
      simp only [List.filter_append, List.length_append, List.filter_cons] at hg ⊢
      simp at hg ⊢
      omega
    · have e : (fun k => (listed.setIfInBounds i true).getD k false) = fun k => bif Nat.beq k i then true else listed.getD k false := by
        funext k
        simp only [Array.getD_eq_getD_getElem?, Array.getElem?_setIfInBounds]
        cases hk : Nat.beq k i with
        | true =>
          rw [Nat.beq_eq] at hk
          subst hk
          simp [hlt]
        | false =>
          have hne : ¬ i = k := fun e => by subst e; simp at hk
          simp [hne]
      rw [e]
      exact hJ'
theorem XS_sound {ds : List Deferred} {P : Program} {W0 : World} {mv : List Nat} {n : Nat} {r : Option Nat} {m : Nat} (hm : P.follows .mixedOrders = true) : ∀ (ic : IC) (c : Code), lowC P mv n c = strip ic → ∀ (Q : Post) (Q' : Exit → Act → World → Prop),
    (∀ e f own a w, Rel n ds a f → St W0 own w → Q e f own → Q' e a w) → ∀ (f : Fr) (own : Own) (a : Act) (w : World), Rel n ds a f → St W0 own w → XS P W0 ic Q f own → c.wpIn (WF r) m P Q' a w
  | ic, .skip, hl, Q, Q', hq, f, own, a, w, hr, hs, h => by
    cases ic <;> simp only [lowC, strip] at hl <;> (try exact IC.noConfusion hl)
    exact wpIn_skip (hq _ _ _ _ _ hr hs h)
  | ic, .region id ops d, hl, Q, Q', hq, f, own, a, w, hr, hs, h => by
    unfold lowC at hl
    split at hl
    · rename_i hok
      cases d with
      | true =>
        simp only [if_true] at hl
        split at hl
        · rename_i hB
          split at hl
          · split at hl
            · rename_i hD
              cases ic <;> simp only [strip] at hl <;> (try exact IC.noConfusion hl)
              injection hl with hl
              subst hl
              obtain ⟨J, h0, h1, h2⟩ := h.h
              exact wpIn_region_any hm (wpAny_of_G (Q := fun a own => ∀ w, St W0 own w → Q' .normal a w) (fun a own w hs h => h w hs) _ _ a own _ (hs.drawn _)
                (par_sound (Q := fun a own => ∀ w, St W0 own w → Q' .normal a w) hD hok (fun f own a hr h w hs => hq _ f own a w hr hs h) h1 h2 _ _ f a own (by simp) (by simp) hr (by
                  have e : (fun k => (Array.replicate ops.size false).getD k false) = fun _ => false := by
                    funext k
                    simp only [Array.getD_eq_getD_getElem?, Array.getElem?_replicate]
                    split <;> rfl
                  rw [e]; exact h0)))
            · cases ic <;> simp only [strip] at hl <;> (try exact IC.noConfusion hl)
              exact h.elim
          cases ic <;> simp only [strip] at hl <;> (try exact IC.noConfusion hl)
          injection hl with hl
          subst hl
          exact wpIn_region_any hm (wpAny_of_G (Q := fun a own => ∀ w, St W0 own w → Q' .normal a w) (fun a own w hs h => h w hs) _ _ a own _ (hs.drawn _)
            (XD_sound (Q := fun a own => ∀ w, St W0 own w → Q' .normal a w) hB hok (fun f own a hr h w hs => hq _ f own a w hr hs h) _ _ f a own Closed.start hr h))
        · cases ic <;> simp only [strip] at hl <;> (try exact IC.noConfusion hl)
          exact h.elim
      | false =>
        simp only [Bool.false_eq_true, if_false] at hl
        cases ic <;> simp only [strip] at hl <;> (try exact IC.noConfusion hl)
        injection hl with hl
        subst hl
        exact wpIn_region_list (XR_sound (fun f own a w hr hs h => hq _ f own a w hr hs h) ops.toList f own a w hok hr hs h)
    · cases ic <;> simp only [strip] at hl <;> (try exact IC.noConfusion hl)
      exact h.elim
  | ic, .seq x y, hl, Q, Q', hq, f, own, a, w, hr, hs, h => by
    cases ic <;> simp only [lowC, strip] at hl <;> (try exact IC.noConfusion hl)
    case seq ia ib =>
      injection hl with h1 h2
      refine wpIn_seq (XS_sound hm ia x h1 _ _ ?_ f own a w hr hs h)
      intro e f own a w hr hs h
      cases e with
      | normal => exact XS_sound hm ib y h2 Q Q' hq f own a w hr hs h
      | _ => exact hq _ _ _ _ _ hr hs h
    case cut ia ib =>
      injection hl with h1 h2
      refine wpIn_seq (XS_sound hm ia x h1 _ _ ?_ f own a w hr hs h.h)
      intro e f own a w hr hs h
      cases e with
      | normal =>
        obtain ⟨o2, he, h⟩ := h
        exact XS_sound hm ib y h2 Q Q' hq f o2 a w hr (he w hs) h
      | _ => exact hq _ _ _ _ _ hr hs h
  | ic, .cond c x y, hl, Q, Q', hq, f, own, a, w, hr, hs, h => by
    cases ic <;> simp only [lowC, strip] at hl <;> (try exact IC.noConfusion hl)
    case cond c' ia ib =>
    injection hl with h0 h1 h2
    subst h0
    simp only [XS_cond] at h
    split at h
    · rename_i t ht
      refine wpIn_cond_split (t := t) (by rw [ev_eq hr.get]; exact ht) (fun e => ?_) (fun e => ?_)
      · exact XS_sound hm ia x h1 Q Q' hq f own a w hr hs (h.y e)
      · exact XS_sound hm ib y h2 Q Q' hq f own a w hr hs (h.n e)
    · exact h.elim
  | ic, .block id b, hl, Q, Q', hq, f, own, a, w, hr, hs, h => by
    cases ic <;> simp only [lowC, strip] at hl <;> (try exact IC.noConfusion hl)
    case block id' ib =>
    injection hl with h0 h1
    subst h0
    refine wpIn_block (XS_sound hm ib b h1 _ _ ?_ f own a w hr hs h)
    intro e f own a w hr hs h
    cases e with
    | exit id' =>
      simp only [blockQ, Exit.inBlock] at h ⊢
      split at h
      · rename_i hc; rw [if_pos (Nat.eq_of_beq_eq_true hc)]; exact hq _ _ _ _ _ hr hs h
      · rename_i hc; rw [if_neg (Nat.ne_of_beq_eq_false hc)]; exact hq _ _ _ _ _ hr hs h
    | _ => exact hq _ _ _ _ _ hr hs h
  | ic, .loop b, hl, Q, Q', hq, f, own, a, w, hr, hs, h => by
    cases ic <;> simp only [lowC, strip] at hl <;> (try exact IC.noConfusion hl)
    case loop m ib =>
    injection hl with _ hb
    obtain ⟨I, ⟨n0, o2, he, h0⟩, h1⟩ := h.h
    refine wp_loop_num (fun k a w => ∃ f own, Rel n ds a f ∧ St W0 own w ∧ I k f own) ⟨n0, f, o2, hr, he w hs, h0⟩ ?_
    rintro k a w ⟨f, own, hr, hs, hI⟩
    refine XS_sound hm ib b hb _ _ ?_ f own a w hr hs (h1 k f own hI)
    intro e f own a w hr hs h
    cases e with
    | normal =>
      obtain ⟨m, o2, hm, he, hI⟩ := h
      exact ⟨m, hm, f, o2, hr, he w hs, hI⟩
    | _ => exact hq _ _ _ _ _ hr hs h
  | ic, .exit id, hl, Q, Q', hq, f, own, a, w, hr, hs, h => by
    cases ic <;> simp only [lowC, strip] at hl <;> (try exact IC.noConfusion hl)
    injection hl with hl
    subst hl
    exact wpIn_exit (hq _ _ _ _ _ hr hs h)
  | ic, .ret, hl, Q, Q', hq, f, own, a, w, hr, hs, h => by
    cases ic <;> simp only [lowC, strip] at hl <;> (try exact IC.noConfusion hl)
    exact wpIn_ret (hq _ _ _ _ _ hr hs h)
  | ic, .rangeFunc .., hl, _, _, _, _, _, _, _, _, _, h => by cases ic <;> simp only [lowC, strip] at hl <;> first | exact IC.noConfusion hl | exact h.elim
  | ic, .scope .., hl, _, _, _, _, _, _, _, _, _, h => by cases ic <;> simp only [lowC, strip] at hl <;> first | exact IC.noConfusion hl | exact h.elim
  | ic, .label .., hl, _, _, _, _, _, _, _, _, _, h => by cases ic <;> simp only [lowC, strip] at hl <;> first | exact IC.noConfusion hl | exact h.elim
  | ic, .goto .., hl, _, _, _, _, _, _, _, _, _, h => by cases ic <;> simp only [lowC, strip] at hl <;> first | exact IC.noConfusion hl | exact h.elim
  | ic, .refuse .., hl, _, _, _, _, _, _, _, _, _, h => by cases ic <;> simp only [lowC, strip] at hl <;> first | exact IC.noConfusion hl | exact h.elim
inductive IRes
  | tmp (t : Nat)
  | cell (a : Nat)
  | cellN (a n : Nat)
  | bad
def lowRes (P : Program) : ResultVar → IRes
  | .tmp t => .tmp t
  | .cell a t => match aggT P t, szT P t with
    | some true, some n => .cellN a n
    | some false, some _ => .cell a
    | _, _ => .bad
structure IFn where
  n : Nat
  body : IC
  res : List IRes
def lowFn (P : Program) (mv : List Nat) (k : FuncId) : Option IFn :=
  match P.funcs[k]? with
  | some fn => match fn.body with
    | some c => some ⟨fn.ntmps, lowC P mv fn.ntmps c, fn.results.toList.map (lowRes P)⟩
    | none => none
  | none => none
noncomputable def XRes (W0 : World) (f : Fr) (own : Own) (l : List IRes) : (List Value → Prop) → Prop :=
  List.rec (motive := fun _ => (List Value → Prop) → Prop) (fun K => K []) (fun r _ ih K => match r with
    | .tmp t => Mv (f t) fun v => ih fun vs => K (v :: vs)
    | .cell a => match f a with
      | .pointer (some a) => Ld W0 own a fun v => ih fun vs => K (v :: vs)
      | _ => False
    | .cellN a n => match f a with
      | .pointer (some a) => LdN W0 own a n fun v => ih fun vs => K (.agg v :: vs)
      | _ => False
    | .bad => False) l
theorem XRes_cell {W0 : World} {f : Fr} {own : Own} {a : Nat} {r : List IRes} {K : List Value → Prop} : XRes W0 f own (.cell a :: r) K = match f a with
      | .pointer (some a) => Ld W0 own a fun v => XRes W0 f own r fun vs => K (v :: vs)
      | _ => False := rfl
theorem XRes_cellN {W0 : World} {f : Fr} {own : Own} {a n : Nat} {r : List IRes} {K : List Value → Prop} : XRes W0 f own (.cellN a n :: r) K = match f a with
      | .pointer (some a) => LdN W0 own a n fun v => XRes W0 f own r fun vs => K (.agg v :: vs)
      | _ => False := rfl
def resV : List Value → Value
  | [v] => v
  | vs => .tuple vs.toArray
def retQ (W0 : World) (res : List IRes) (K : Value → Own → Prop) : Post := fun e f own => match e with
  | .ret | .normal => XRes W0 f own res fun vs => K (resV vs) own
  | _ => False
def initF (args : List Value) : Fr := fun t => args.getD t undef
def Spec (P : Program) (W0 : World) (k : FuncId) (args : List Value) (own : Own) (R : Value → Own → Prop) : Prop :=
  ∀ w, St W0 own w → Calls P k args.toArray w fun e w' => ∃ v own', e = .returned v ∧ St W0 own' w' ∧ R v own'
def resOne (a : Act) : ResultVar → Sem Value
  | .tmp t => pure (a.tmps.getD t undef)
  | .cell x t => do loadVar t (← asAddr (a.tmps.getD x undef))
theorem XRes_sound {P : Program} {W0 : World} {f : Fr} {own : Own} {a : Act} {w : World} (hf : ∀ t, a.tmps.getD t undef = f t) (hs : St W0 own w) :
    ∀ (l : List ResultVar) (K : List Value → Prop), XRes W0 f own (l.map (lowRes P)) K → ∃ vs, (l.mapM (resOne a)).run P w = .ok vs w ∧ K vs
  | [], K, h => ⟨[], by simp, h⟩
  | r :: l, K, h => by
    have hone : ∀ (u : Value) (K' : List Value → Prop), (resOne a r).run P w = .ok u w → XRes W0 f own (l.map (lowRes P)) (fun vs => K' (u :: vs)) → ∃ vs, ((r :: l).mapM (resOne a)).run P w = .ok vs w ∧ K' vs := by
      intro u K' hu h
      obtain ⟨vs, hr, hk⟩ := XRes_sound hf hs l _ h
      exact ⟨u :: vs, by simp [List.mapM_cons, hu, hr], hk⟩
    cases r with
    | tmp t => exact hone (f t) K (by simp only [resOne, hf, Sem.run_pure]) (Mv.h (K := fun v => XRes W0 f own (l.map (lowRes P)) fun vs => K (v :: vs)) h)
    | cell x t =>
      simp only [List.map_cons, lowRes] at h
      split at h
      · rename_i n ha hn
        simp only [XRes_cellN] at h
        split at h
        · rename_i ad hx
          obtain ⟨us, hlen, hv, h⟩ := h.h
          exact hone _ K (by simp only [resOne, hf, hx, asAddr]; simp [loadVar, aggT_run ha, szT_run hn, run_loadCells (vs := us.toList) hlen (hv w hs)]) h
        · exact h.elim
      · rename_i n ha hn
        simp only [XRes_cell] at h
        split at h
        · rename_i ad hx
          obtain ⟨u, hv, h⟩ := h.h
          have hv' := hv w hs
          exact hone u K (by simp only [resOne, hf, hx, asAddr]; simp [loadVar, aggT_run ha, hv']) h
        · exact h.elim
      · exact h.elim
theorem results_sound {P : Program} {W0 : World} {f : Fr} {own : Own} {a : Act} {w : World} {fn : Func} {K : Value → Prop} (hf : ∀ t, a.tmps.getD t undef = f t) (hs : St W0 own w)
    (h : XRes W0 f own (fn.results.toList.map (lowRes P)) fun vs => K (resV vs)) : ∃ v, (results fn a.tmps).run P w = .ok v w ∧ K v := by
  obtain ⟨vs, hr, hk⟩ := XRes_sound hf hs _ _ h
  refine ⟨resV vs, ?_, hk⟩
  have he : results fn a.tmps = (do
      let vs ← fn.results.mapM (resOne a)
      pure (if h : vs.size = 1 then vs[0] else .tuple vs)) := rfl
  rw [he, ← Array.toArray_toList (xs := fn.results), List.mapM_toArray]
  simp only [Sem.run_bind, Sem.run_map, hr, Result.andThen_ok, Sem.run_pure]
  congr 1
  match vs with
  | [] => rfl
  | [v] => rfl
  | _ :: _ :: _ => rfl
theorem spec_of {P : Program} {W0 : World} {mv : List Nat} {k : FuncId} {fn : IFn} {args : List Value} {own : Own} {R : Value → Own → Prop} (hm : P.follows .mixedOrders = true)
    (hl : lowFn P mv k = some { fn with body := strip fn.body }) (hlen : args.length ≤ fn.n) (h : XS P W0 fn.body (retQ W0 fn.res R) (initF args) own) : Spec P W0 k args own R := by
  intro w hw
  unfold lowFn at hl
  split at hl
  · rename_i f hf
    split at hl
    · rename_i c hc
      simp only [Option.some.injEq, IFn.mk.injEq] at hl
      obtain ⟨h1, h2, h3⟩ := hl
      refine calls_of_wp hf hc ?_
      refine (wpIn_wide (n := 0)).1 ?_
      rw [← h3] at h
      refine XS_sound (ds := []) (r := none) (m := 0) hm fn.body c h2 (retQ W0 (f.results.toList.map (lowRes P)) R) _ ?_ (initF args) own _ w ?_ hw h
      · intro e f' own' a' w' hr hs hq
        cases e <;> first | exact hq.elim | skip
        all_goals
          obtain ⟨v, hv, hk⟩ := results_sound (fn := f) (K := fun v => R v own') hr.get hs hq
          exact ⟨hr.defers, v, hv, v, own', rfl, hs, hk⟩
      · rw [← h1] at hlen
        refine ⟨by simp; omega, fun t => ?_, rfl⟩
        simp only [initF, Array.getD_eq_getD_getElem?, List.getD_eq_getElem?_getD, Array.getElem?_append, List.getElem?_toArray, List.size_toArray, Array.getElem?_replicate]
        split
        · rfl
        · rename_i hge
          rw [List.getElem?_eq_none (by omega)]
          split <;> rfl
    · cases hl
  · cases hl
end Go.Proofs.YtllddgdmmfmpkaaGreatDoor
