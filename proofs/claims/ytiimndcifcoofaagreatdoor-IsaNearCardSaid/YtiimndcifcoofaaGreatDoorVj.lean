/- Part j: functions in which a range over a function stands. No condition. -/
import Derived.Test.YtiimndcifcoofaaGreatDoorVh
import Derived.RangeFuncFrom
import Derived.RangeFuncLeaves
namespace Go.Proofs.YtiimndcifcoofaaGreatDoor
open Go Go.RowKit

theorem St.put {W0 : World} {own own' : Own} {w : World} {b : Nat} {p q : Obj → Prop} (s : St W0 own w) (hu : Up b p q own own') (o : Obj) (hq : q o) : St W0 own' (w.putObj b o) := by
  have hb := s.mem_size hu.mem
  exact s.up hu rfl rfl rfl (by simp [World.putObj]) (fun k _ hne => World.putObj_heap_other (fun e => hne e)) ⟨o, World.putObj_heap_same hb, hq⟩
theorem St.new {W0 : World} {own : Own} {w : World} (s : St W0 own w) (o : Obj) {p : Obj → Prop} (hp : p o) : St W0 ((w.heap.size, p) :: own) (w.alloc o) := s.push o hp

def isDef : Obj → Prop := fun o => o = .deferred (some [])
def setP : Fr → List Nat → List Value → Fr
  | f, p :: ps, v :: vs => setP (upd f p v) ps vs
  | f, _, _ => f

/-- A body at whose end a range over a function stands. -/
inductive IT
  | code (c : IC)
  | seq (a : IC) (r : IT)
  | rng (g : Operand) (ps : List Nat) (as bd rest : IC)
  | cut (a : IC) (r : IT)
def stripT : IT → IT
  | .code c => .code (strip c)
  | .seq a r | .cut a r => .seq (strip a) (stripT r)
  | .rng g ps as bd rest => .rng g ps (strip as) (strip bd) (strip rest)
def lowT (P : Program) (mv : List Nat) (n : Nat) : Code → IT
  | .seq (.seq x (.block _ (.rangeFunc g ps as bd))) y => if ps.toList.all (fun p => Nat.blt p n) = true then .seq (lowC P mv n x) (.rng g ps.toList (lowC P mv n as) (lowC P mv n bd) (lowC P mv n y)) else .code .bad
  | .seq x y => .seq (lowC P mv n x) (lowT P mv n y)
  | c => .code (lowC P mv n c)

/-- How a round's body is left. -/
def bodyQ (W0 : World) (o : Own) : Post := fun e _ own' => match e with
  | .normal => Ent W0 own' o
  | _ => False
/-- How the assignments ahead of it are left. -/
def asQ (O : Own) (next : Fr → Own → Prop) : Post := fun e f own' => match e with
  | .normal => ∃ E, own' = E ++ O ∧ next f E
  | _ => False
/-- How a function is left that has a mark. -/
def markQ (W0 : World) (res : List IRes) (R : Value → Own → Prop) (D : Nat) : Post := fun e f own' => match e with
  | .ret | .normal => ∃ C : Own → Own, At [(D, isDef)] own' C ∧ XRes W0 f (C []) res fun vs => R (resV vs) (C [])
  | _ => False
/-- A range over a function: N rounds. -/
structure RangeT (P : Program) (W0 : World) (gv : Value) (ps : List Nat) (as bd rest : Post → Fr → Own → Prop) (Q : Nat → Post) (f : Fr) (own : Own) : Prop where
  h : ∃ (gf : FuncId) (lb : List Value) (N : Nat) (args : Nat → List Value) (O : Nat → Own),
    gv = .func (.func gf) #[] lb.toArray ∧ okF P gf = true ∧ Ent W0 own (O 0) ∧ (∀ i, i < N → (args i).length = ps.length) ∧
    (∀ l (G : Own), (∀ i, i < N → YieldT P W0 (G ++ O i) l (args i) fun v own' => v = .bool true ∧ own' = G ++ O (i + 1)) → CallT P W0 (G ++ O 0) gf (.func (.yield l) #[] #[] :: lb) fun _ own' => own' = G ++ O N) ∧
    (∀ i (G : Own), i < N → as (asQ (G ++ O i) fun f1 E => ∀ G' : Own, bd (bodyQ W0 (G' ++ O (i + 1))) f1 (E ++ (G' ++ O i))) (setP f ps (args i)) (G ++ O i)) ∧
    ∀ D, rest (Q D) f ((D, isDef) :: O N)

/-- A place where a proof may sum up. -/
structure CutU (W0 : World) (a : Post → Fr → Own → Prop) (b : Fr → Own → Prop) (Q : Post) (f : Fr) (own : Own) : Prop where
  h : a (thenQ (fun f' own' => ∃ o2, Ent W0 own' o2 ∧ b f' o2) Q) f own
theorem cutU_i {P : Program} {W0 : World} {c : IC} {K : Fr → Own → Prop} {Q : Post} {f : Fr} {own : Own} {σ : Type} (mask : Nat) (L : σ → List (Nat × Value)) (O : σ → Own) (I : σ → Prop) (hm : asgIn mask c = true)
    (h1 : XS P W0 c (thenQ (fun f' own' => ∃ s', I s' ∧ matchF (L s') f' ∧ Ent W0 own' (O s')) Q) f own)
    (h2 : ∀ s junk, I s → K (mixF mask (L s) junk f) (O s)) : CutU W0 (XS P W0 c) K Q f own := by
  refine ⟨XS_mono c _ _ ?_ f own (XS_frame c _ f own hm h1)⟩
  intro e f' own' h
  cases e with
  | normal =>
    obtain ⟨⟨s, hI, hmt, he⟩, ha⟩ := h
    refine ⟨O s, he, ?_⟩
    have := h2 s f' hI
    rwa [mix_eq ha hmt] at this
  | _ => exact h.1

noncomputable def XT (P : Program) (W0 : World) (res : List IRes) (R : Value → Own → Prop) (t : IT) : Fr → Own → Prop :=
  IT.rec (motive := fun _ => Fr → Own → Prop)
    (fun c f own => XS P W0 c (retQ W0 res R) f own)
    (fun a _ ih f own => XS P W0 a (thenQ ih (retQ W0 res R)) f own)
    (fun g ps as bd rest f own => RangeT P W0 (ev f g) ps (XS P W0 as) (XS P W0 bd) (XS P W0 rest) (markQ W0 res R) f own)
    (fun a _ ih f own => CutU W0 (XS P W0 a) ih (retQ W0 res R) f own) t

theorem Rel.setP {n : Nat} {ds : List Deferred} : ∀ (ps : List Nat) (vs : List Value) (a : Act) (f : Fr), Rel n ds a f → (∀ p ∈ ps, p < n) → Rel n ds { a with tmps := (ps.zip vs).foldl (fun t (p, v) => t.setIfInBounds p v) a.tmps } (setP f ps vs)
  | [], _, a, f, h, _ => by unfold Go.Proofs.YtiimndcifcoofaaGreatDoor.setP; simpa using h
  | p :: ps, [], a, f, h, _ => by unfold Go.Proofs.YtiimndcifcoofaaGreatDoor.setP; simpa using h
  | p :: ps, v :: vs, a, f, h, hp => by
    have h1 : Rel n ds { a with tmps := a.tmps.setIfInBounds p v } (upd f p v) := h.put (d := some p) (fun t ht => by cases ht; exact hp p List.mem_cons_self) v
    exact Rel.setP ps vs { a with tmps := a.tmps.setIfInBounds p v } (upd f p v) h1 (fun q hq => hp q (List.mem_cons_of_mem _ hq))

theorem At.drop {W0 : World} {D own : Own} {C : Own → Own} (h : At D own C) {e : Nat × (Obj → Prop)} : Ent W0 (C [e]) (C []) := by
  obtain ⟨r, _, h2⟩ := h.perm
  exact (Ent.of_perm (h2 [e])).trans ((Ent.cons Ent.refl).trans (Ent.of_perm (h2 []).symm))

section
variable {P : Program} {W0 : World} {mv : List Nat} {n m : Nat} {fn : Func} {R : Value → Own → Prop}
theorem leave_plain {f : Fr} {own : Own} {a : Act} {w : World} (hr : Rel n [] a f) (hs : St W0 own w) (h : XRes W0 f own (fn.results.toList.map (lowRes P)) fun vs => R (resV vs) own) :
    LeavesInM (WF none) m P fn a.tmps (fun e w' => ∃ v own', e = .returned v ∧ St W0 own' w' ∧ R v own') a.defers .returning w := by
  rw [hr.defers]
  obtain ⟨v, hv, hk⟩ := results_sound (fn := fn) (K := fun v => R v own) hr.get hs h
  exact ⟨v, hv, v, own, rfl, hs, hk⟩
theorem leave_mark {D : Nat} {f : Fr} {own : Own} {a : Act} {w : World} (hr : Rel n [{ target := .collected D, args := #[] }] a f) (hs : St W0 own w) {C : Own → Own} (hat : At [(D, isDef)] own C)
    (h : XRes W0 f (C []) (fn.results.toList.map (lowRes P)) fun vs => R (resV vs) (C [])) :
    LeavesInM (WF none) m P fn a.tmps (fun e w' => ∃ v own', e = .returned v ∧ St W0 own' w' ∧ R v own') a.defers .returning w := by
  rw [hr.defers]
  have hu := hat.up (fun o => o = Obj.deferred none)
  obtain ⟨o, ho, hd⟩ := hs.owns _ hu.mem
  rw [hd] at ho
  have hs2 := hat.drop _ (hs.put hu (.deferred none) rfl)
  obtain ⟨v, hv, hk⟩ := results_sound (fn := fn) (K := fun v => R v (C [])) hr.get hs2 h
  exact ⟨by simp, .inl ⟨D, _, rfl, run_takeDeferred ho, v, hv, v, C [], rfl, hs2, hk⟩⟩

theorem rng_sound (hm : P.follows .mixedOrders = true) {id : Nat} {g : Operand} {ps : Array Tmp} {as bd y : Code} {ias ibd irest : IC} (has : lowC P mv n as = strip ias) (hbd : lowC P mv n bd = strip ibd) (hy : lowC P mv n y = strip irest)
    (hps : ∀ p ∈ ps.toList, p < n) {a : Act} {f : Fr} {own : Own} {w : World} (hr : Rel n [] a f) (hs : St W0 own w)
    (h : RangeT P W0 (ev f g) ps.toList (XS P W0 ias) (XS P W0 ibd) (XS P W0 irest) (markQ W0 (fn.results.toList.map (lowRes P)) R) f own) {Q' : Exit → Act → World → Prop} :
    (Code.block id (.rangeFunc g ps as bd)).wpIn (WF none) m P (Exit.then (y.wpIn (WF none) m P (bodyPostM (WF none) m P fn fun e w' => ∃ v own', e = .returned v ∧ St W0 own' w' ∧ R v own')) Q') a w := by
  refine wpIn_block (wpIn_rangeFunc ?_)
  intro fn' _
  obtain ⟨gf, lb, N, args, O, hg, hok, he, hlen, hit, hround, hrest⟩ := h.h
  have hs0 := he w hs
  obtain ⟨rec, hrec⟩ : ∃ rec : LoopState → Option Code → Loop, rec = fun st pe => { state := st, pending := pe, fn := fn', tmps := a.tmps, params := ps, assign := as, body := bd, defers := w.heap.size } := ⟨_, rfl⟩
  obtain ⟨W1, hW1⟩ : ∃ W1, (w.alloc (.deferred (some []))).alloc (.loop (rec .ready none)) = W1 := ⟨_, rfl⟩
  have hs1 : St W0 ((w.heap.size + 1, fun o => o = Obj.loop (rec .ready none)) :: (w.heap.size, isDef) :: O 0) W1 := by
    have := (hs0.new (.deferred (some [])) (p := isDef) rfl).new (.loop (rec .ready none)) (p := fun o => o = Obj.loop (rec .ready none)) rfl
    rw [World.size_alloc] at this
    rw [← hW1]; exact this
  refine ⟨w.heap.size + 1, [{ target := .collected w.heap.size, args := #[] }], W1, { target := .fn (.func gf) lb.toArray, args := #[.func (.yield (w.heap.size + 1)) #[] #[]] }, W1, gf, #[.func (.yield (w.heap.size + 1)) #[] #[]] ++ lb.toArray, W1, ?_, ?_, fun _ _ => trivial, ?_, fun h => (by cases h), ?_⟩
  · rw [← hW1, hrec]; exact run_enterLoop_outer _ _ _ _ _
  · have hge : a.eval g = .func (.func gf) #[] lb.toArray := by rw [ev_eq hr.get]; exact hg
    simp only [resolve, hge]
    simp [go_sem]
  · unfold okF at hok
    split at hok
    · rename_i fn2 hfn
      simp only [Bool.and_eq_true, Bool.not_eq_true', beq_eq_false_iff_ne, Option.isSome_iff_exists] at hok
      obtain ⟨hn, b2, hb⟩ := hok
      simp [invoke, callFunc, hfn, hn, hb]
    · cases hok
  · have hcall := (hit (w.heap.size + 1) [(w.heap.size + 1, fun o => o = Obj.loop (rec .ready none)), (w.heap.size, isDef)] ?_).h W1 hs1
    · have e : (Value.func (.yield (w.heap.size + 1)) #[] #[] :: lb).toArray = #[.func (.yield (w.heap.size + 1)) #[] #[]] ++ lb.toArray := by simp
      rw [e] at hcall
      refine callsIn_WF (hcall.mono ?_)
      rintro e w3 ⟨v, own3, rfl, hs3, rfl⟩
      obtain ⟨o, ho, hd⟩ := hs3.owns (w.heap.size + 1, fun o => o = Obj.loop (rec .ready none)) (List.mem_append_left _ List.mem_cons_self)
      have hd' : o = .loop (rec .ready none) := hd
      rw [hd'] at ho
      have hs4 := (Ent.cons (Ent.refl (W0 := W0))) _ (hs3.put Up.head (.loop { rec .ready none with state := .exhausted }) (q := fun o => o = Obj.loop { rec .ready none with state := .exhausted }) rfl)
      refine ⟨none, w3.putObj (w.heap.size + 1) (.loop { rec .ready none with state := .exhausted }), by have := run_endLoop (P := P) ho (by rw [hrec]; simp); rw [hrec] at this ⊢; exact this, ?_⟩
      refine XS_sound (ds := [{ target := .collected w.heap.size, args := #[] }]) (r := none) (m := m) hm irest y hy _ _ ?_ f _ _ _ ⟨hr.size, hr.get, by simp [hr.defers]⟩ hs4 (hrest _)
      intro e f5 own5 a5 w5 hr5 hs5 hq5
      cases e <;> first | exact hq5.elim | (obtain ⟨C, hat, hx⟩ := hq5; exact leave_mark hr5 hs5 hat hx)
    · intro i hi
      refine ⟨fun w2 hs2 => ?_⟩
      obtain ⟨o, ho, hd⟩ := hs2.owns (w.heap.size + 1, fun o => o = Obj.loop (rec .ready none)) (List.mem_append_left _ List.mem_cons_self)
      have hd' : o = .loop (rec .ready none) := hd
      rw [hd'] at ho
      have hyd := run_yield (P := P) (args := (args i).toArray) ho (by rw [hrec]; simpa using hlen i hi)
      rw [hrec] at hyd
      refine ⟨fn', _, as, bd, hyd, roundIn_of_wpIn (F := Fence.wide) (n := 0) trivial ?_⟩
      have hrel : Rel n [] { tmps := (ps.zip (args i).toArray).foldl (fun t (p, v) => t.setIfInBounds p v) a.tmps, defers := [] } (setP f ps.toList (args i)) := by
        have := Rel.setP ps.toList (args i) { a with defers := [] } f ⟨hr.size, hr.get, rfl⟩ hps
        have e : (ps.zip (args i).toArray) = (ps.toList.zip (args i)).toArray := Array.ext' (by rw [Array.toList_zip])
        rw [e, List.foldl_toArray]
        exact this
      refine XS_sound (ds := []) (r := some (w.heap.size + 1)) (m := 0) hm ias as has _ _ ?_ _ _ _ _ hrel hs2 (hround i _ hi)
      intro e f1 own1 a1 w1 hr1 hs3 hq1
      cases e <;> first | exact hq1.elim | skip
      obtain ⟨E, rfl, hnext⟩ := hq1
      obtain ⟨o, ho, hd⟩ := hs3.owns (w.heap.size + 1, fun o => o = Obj.loop (rec .ready none)) (List.mem_append_right _ List.mem_cons_self)
      have hd' : o = .loop (rec .ready none) := hd
      rw [hd'] at ho
      refine ⟨_, run_beginRound ho (by rw [hrec]), ?_⟩
      have hs4 := hs3.put (Up.app (Up.head (q := fun o => o = Obj.loop { rec .ready none with state := .busy })) E) (.loop { rec .ready none with state := .busy }) rfl
      refine XS_sound (ds := []) (r := some (w.heap.size + 1)) (m := 0) hm ibd bd hbd _ _ ?_ _ _ _ _ hr1 hs4 (hnext [(w.heap.size + 1, fun o => o = Obj.loop { rec .ready none with state := .busy }), (w.heap.size, isDef)])
      intro e f5 own5 a5 w5 _ hs5 hq5
      cases e <;> first | exact hq5.elim | skip
      have hs6 := hq5 _ hs5
      obtain ⟨o, ho, hd⟩ := hs6.owns (w.heap.size + 1, fun o => o = Obj.loop { rec .ready none with state := .busy }) (List.mem_append_left _ List.mem_cons_self)
      have hd' : o = .loop { rec .ready none with state := .busy } := hd
      rw [hd'] at ho
      exact ⟨_, _, run_endRound none ho, _, _, rfl, hs6.put (Up.head (q := fun o => o = Obj.loop (rec .ready none))) _ (by rw [hrec]; rfl), rfl, rfl⟩

theorem XT_sound (hm : P.follows .mixedOrders = true) : ∀ (it : IT) (c : Code), lowT P mv n c = stripT it → ∀ (f : Fr) (own : Own) (a : Act) (w : World), Rel n [] a f → St W0 own w →
    XT P W0 (fn.results.toList.map (lowRes P)) R it f own → c.wpIn (WF none) m P (bodyPostM (WF none) m P fn fun e w' => ∃ v own', e = .returned v ∧ St W0 own' w' ∧ R v own') a w
  | .code ic, c, hl, f, own, a, w, hr, hs, h => by
    unfold lowT at hl
    split at hl
    · split at hl
      · cases hl
      · simp only [stripT, IT.code.injEq] at hl
        cases ic <;> simp only [strip] at hl <;> first | exact IC.noConfusion hl | exact h.elim
    · cases hl
    · simp only [stripT, IT.code.injEq] at hl
      refine XS_sound (ds := []) (r := none) (m := m) hm ic c hl _ _ ?_ f own a w hr hs h
      intro e f own a w hr hs hq
      cases e <;> first | exact hq.elim | exact leave_plain hr hs hq
  | .seq ia ir, c, hl, f, own, a, w, hr, hs, h => by
    unfold lowT at hl
    split at hl
    · rename_i x id g ps as bd y
      split at hl
      · rename_i hps
        cases ir with
        | rng g' ps' ias ibd irest =>
          simp only [stripT, IT.seq.injEq, IT.rng.injEq] at hl
          obtain ⟨h1, rfl, rfl, h2, h3, h4⟩ := hl
          refine wpIn_seq (wpIn_seq ?_)
          refine XS_sound (ds := []) (r := none) (m := m) hm ia x h1 _ _ ?_ f own a w hr hs h
          intro e f own a w hr hs hq
          cases e with
          | normal => exact rng_sound hm h2 h3 h4 (fun p hp => by simpa using List.all_eq_true.1 hps p hp) hr hs hq
          | ret => exact leave_plain hr hs hq
          | _ => exact hq.elim
        | _ => simp [stripT] at hl
      · cases hl
    · rename_i x y _
      simp only [stripT, IT.seq.injEq] at hl
      refine wpIn_seq (XS_sound (ds := []) (r := none) (m := m) hm ia x hl.1 _ _ ?_ f own a w hr hs h)
      intro e f own a w hr hs hq
      cases e with
      | normal => exact XT_sound hm ir y hl.2 f own a w hr hs hq
      | ret => exact leave_plain hr hs hq
      | _ => exact hq.elim
    · cases hl
  | .cut ia ir, c, hl, f, own, a, w, hr, hs, h => by
    unfold lowT at hl
    split at hl
    · rename_i x id g ps as bd y
      split at hl
      · rename_i hps
        cases ir with
        | rng g' ps' ias ibd irest =>
          simp only [stripT, IT.seq.injEq, IT.rng.injEq] at hl
          obtain ⟨h1, rfl, rfl, h2, h3, h4⟩ := hl
          refine wpIn_seq (wpIn_seq ?_)
          refine XS_sound (ds := []) (r := none) (m := m) hm ia x h1 _ _ ?_ f own a w hr hs h.h
          intro e f own a w hr hs hq
          cases e with
          | normal =>
            obtain ⟨o2, he, hq⟩ := hq
            exact rng_sound hm h2 h3 h4 (fun p hp => by simpa using List.all_eq_true.1 hps p hp) hr (he w hs) hq
          | ret => exact leave_plain hr hs hq
          | _ => exact hq.elim
        | _ => simp [stripT] at hl
      · cases hl
    · rename_i x y _
      simp only [stripT, IT.seq.injEq] at hl
      refine wpIn_seq (XS_sound (ds := []) (r := none) (m := m) hm ia x hl.1 _ _ ?_ f own a w hr hs h.h)
      intro e f own a w hr hs hq
      cases e with
      | normal =>
        obtain ⟨o2, he, hq⟩ := hq
        exact XT_sound hm ir y hl.2 f o2 a w hr (he w hs) hq
      | ret => exact leave_plain hr hs hq
      | _ => exact hq.elim
    · cases hl
  | .rng .., c, hl, f, own, a, w, hr, hs, h => by
    unfold lowT at hl
    split at hl
    · split at hl <;> cases hl
    · cases hl
    · cases hl
end

/-- A function, lowered. -/
structure IFnT where
  n : Nat
  body : IT
  res : List IRes
def lowFnT (P : Program) (mv : List Nat) (k : FuncId) : Option IFnT :=
  match P.funcs[k]? with
  | some fn => match fn.body with
    | some c => some ⟨fn.ntmps, lowT P mv fn.ntmps c, fn.results.toList.map (lowRes P)⟩
    | none => none
  | none => none
theorem spec_ofT {P : Program} {W0 : World} {mv : List Nat} {k : FuncId} {fn : IFnT} {args : List Value} {own : Own} {R : Value → Own → Prop} (hm : P.follows .mixedOrders = true)
    (hl : lowFnT P mv k = some { fn with body := stripT fn.body }) (hlen : args.length ≤ fn.n) (h : XT P W0 fn.res R fn.body (initF args) own) : Spec P W0 k args own R := by
  intro w hw
  unfold lowFnT at hl
  split at hl
  · rename_i f hf
    split at hl
    · rename_i c hc
      simp only [Option.some.injEq, IFnT.mk.injEq] at hl
      obtain ⟨h1, h2, h3⟩ := hl
      refine (callsIn_wide (n := 0)).1 (callsIn_of_wp_marks hf hc trivial ?_)
      rw [← h3] at h
      refine XT_sound hm fn.body c h2 (initF args) own _ w ?_ hw h
      rw [← h1] at hlen
      refine ⟨by simp; omega, fun t => ?_, rfl⟩
      simp only [initF, Array.getD_eq_getD_getElem?, List.getD_eq_getElem?_getD, Array.getElem?_append, List.getElem?_toArray, List.size_toArray, Array.getElem?_replicate]
      split
      · rfl
      · rename_i hge
        rw [List.getElem?_eq_none (by omega)]
        split <;> rfl
    · cases hl
  · cases hl
end Go.Proofs.YtiimndcifcoofaaGreatDoor
