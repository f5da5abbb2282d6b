/- What the laws share, part 39. No condition. -/
import Derived.Shelf.Vars
import Derived.HandedShaped
import Derived.Test.YtiimndcifcoofaaGreatDoorY38
namespace Go.Proofs.YtiimndcifcoofaaGreatDoor
open Go Go.RowKit
set_option maxRecDepth 100000
theorem handed_and_shaped {H : Type} {enc : TypeId × Value → H} {a : Assume} {C : Checked} {os : Os} {f : FuncId} {fn : Func} {s : ChangeSpec} {conds : List PathCond} {apart fresh handsOn again : Bool} {X : World → Array Value → Prop}
    (hX : ∀ (w w' : World) (args : Array Value), w.heap = w'.heap → X w args → X w' args)
    (own : ownKnob C.prog.godebug = none) (started : os.Started) (noInit : C.prog.inits.idxOf? f = none) (hfn : C.prog.funcs[f]? = some fn)
    (witness : ∃ (w : World) (tape : Tape) (i : Input), w.os = os ∧ (w.forCall tape i).Shaped C.prog ∧ i.vars = [] ∧ Input.okWide C.prog (w.forCall tape i) .any w.heap.size f i ∧
      ((s.pre enc C.prog fn conds apart (w.forCall tape i).memory i.args ∧ X (w.forCall tape i).memory i.args) ∧ sizedMet enc C.prog fn (OpenSpec.ofChange s) apart (w.forCall tape i).memory i.args) ∧ a.holds C.prog (lone (Frame.enter C.prog f i.args .normal) [] (w.forCall tape i)))
    (contract : ∀ (W : World) (base : Nat) (args : Array Value) (ds gs : List (DataW H)) (before : List MemPlace),
      (∀ (j : Nat) t v, fn.params[j]? = some t → args[j]? = some v → Value.okWide C.prog W .any base t v) →
      DataW.Whole enc C.prog fn.params.toList s.vars apart W args.toList ds gs before →
      conds.all (PathCond.test C.prog ⟨fn.params.toList, ds, s.plain.varTypes C.prog, gs⟩) = true →
      (DataW.weightsEach C.prog (fn.params.toList ++ s.plain.varTypes C.prog) (ds ++ gs)).all (· ≤ reachBytes) = true → X W args → W.ShapedOpen C.prog →
      a.holds C.prog (lone (Frame.enter C.prog f args .normal) [] W) →
      Calls C.prog f args W fun e W' => ∃ v, e = .returned v ∧ s.post enc C.prog fn apart fresh handsOn again W args v W') :
    ReturnsInHanded a C os f .any (fun w args => (s.pre enc C.prog fn conds apart w args ∧ X w args) ∧ sizedMet enc C.prog fn (OpenSpec.ofChange s) apart w args) (s.post enc C.prog fn apart fresh handsOn again) := by
  refine returnsInHanded_of_calls own started noInit witness ?_
  intro w tape i _ hsh _ hok hpre hholds
  obtain ⟨_, _, _, fn', hfn', _, _, _, _, hval⟩ := hok
  have e : fn' = fn := Option.some.inj (hfn'.symm.trans hfn)
  subst e
  obtain ⟨⟨⟨ds, gs, before, hw, hc⟩, hx⟩, hz⟩ := hpre
  have hw' := DataW.Whole.of_heap (w' := w.forCall tape i) (by rfl) hw
  refine (contract (w.forCall tape i) w.heap.size i.args ds gs before hval hw' hc (hz.weights hw) (hX _ _ _ (by rfl) hx) hsh hholds).mono fun e W' ⟨v, he, hp⟩ => ?_
  subst he
  exact ChangeSpec.post_blind hp
abbrev laidL9 : List (String × DataW Unit) := [("math/bits.deBruijn32tab", Rows.laid_math_bits_deBruijn32tab), ("math/bits.deBruijn64tab", Rows.laid_math_bits_deBruijn64tab), ("internal/strconv.uint64pow10", Rows.laid_internal_strconv_uint64pow10), ("unicode/utf8.acceptRanges", Rows.laid_unicode_utf8_acceptRanges), ("strconv.ErrRange", Rows.laid_strconv_ErrRange), ("strconv.ErrSyntax", Rows.laid_strconv_ErrSyntax), ("strongtx/alu.names", Rows.laid_strongtx_alu_names), ("strongtx/isa.forms", Rows.laid_strongtx_isa_forms), ("unicode/utf8.first", Rows.laid_unicode_utf8_first)]
theorem asm_at {W : World} (h : laidMetH Tryz.prog laidL9 W) (hsh : W.ShapedOpen Tryz.prog) : AsmAt W := by
  have hp : (laidL9.all fun x => x.2.handleName?.isNone) = true := by kernel_rfl
  have hm := h
  rw [MakeChecks.laidMetH_plain _ _ _ hp] at hm
  obtain ⟨a0, s0, hv0, -, -, -⟩ := Go.laid_sentinel hm.tail.tail.tail.tail (g := 9) (by kernel_rfl) (by kernel_rfl) Tryz.underlying87 rowE Tryz.underlying196 Tryz.underlying198 rfl rfl Tryz.underlying9 (by kernel_rfl) (by kernel_rfl)
  obtain ⟨a1, s1, hv1, -, -, -⟩ := Go.laid_sentinel hm.tail.tail.tail.tail.tail (g := 8) (by kernel_rfl) (by kernel_rfl) Tryz.underlying87 rowE Tryz.underlying196 Tryz.underlying198 rfl rfl Tryz.underlying9 (by kernel_rfl) (by kernel_rfl)
  refine ⟨⟨⟨?_, ⟨_, _, hv1⟩, ⟨_, _, hv0⟩⟩, ?_, ?_⟩, cell_of_shapedOpen_int (zero := #[.int .i64 0]) hsh (of_decide_eq_true (by kernel_rfl)) (by kernel_rfl) rfl (by kernel_rfl) (by kernel_rfl) Tryz.underlying3⟩
  · exact Go.Lib.tabIs_of_head (g := 3) (by kernel_rfl) (by kernel_rfl) Tryz.underlying172 Tryz.underlying121 (by kernel_rfl) (by kernel_rfl) hm.tail.tail
  · exact laid_at (d := Rows.laid_strongtx_isa_forms) (g := 0) (t := 54) (cs := formsV) hp h (List.Mem.tail _ (List.Mem.tail _ (List.Mem.tail _ (List.Mem.tail _ (List.Mem.tail _ (List.Mem.tail _ (List.Mem.tail _ (List.Mem.head _)))))))) (by kernel_rfl) (by kernel_rfl) (by kernel_rfl) (by kernel_rfl) (by simp [formsV])
  · exact laid_at (d := Rows.laid_strongtx_alu_names) (g := 1) (t := 100) (cs := nms.map Value.string) hp h (List.Mem.tail _ (List.Mem.tail _ (List.Mem.tail _ (List.Mem.tail _ (List.Mem.tail _ (List.Mem.tail _ (List.Mem.head _))))))) (by kernel_rfl) (by kernel_rfl) (by kernel_rfl) (by kernel_rfl) (by simp [nms])
end Go.Proofs.YtiimndcifcoofaaGreatDoor
namespace Go.Proofs.YtiimndcifcoofaaGreatDoor
open Go Go.ChangeShapes Go.WideShapes Go.ChangeAt Go.RowKit
set_option maxRecDepth 100000
section
variable {H : Type} {enc : TypeId × Value → H} {w : World} {spare : Nat → Bool} {held : Bool} {v : Value} {d : DataW H} {p : List MemPlace}
theorem one_of {cs : Array Value} {v x : Value} (h : v.cells = cs) (hc : cs.toList = [x]) (hx : ∀ a, v ≠ .agg a) : v = x := by
  unfold Value.cells at h
  split at h
  · rename_i a; exact absurd rfl (hx a)
  · subst h; simpa using hc
theorem slice_agg {P : Program} {w : World} {b0 : Nat} {t e : TypeId} {v : Value} (ht : P.underlying t = some (.slice e)) (h : Value.okWide P w .any b0 t v) : ∀ a, v ≠ .agg a := by
  intro a e
  subst e
  simp only [Value.okWide, ht, Cell.okWide, Cell.ok] at h
theorem ints_open {b0 : Nat} (hv : Value.okWide Tryz.prog w .any b0 30 v) (ht : DataW.Trod enc Tryz.prog w 0 spare held 30 v d p) :
    ∃ a l cap, v = .slice a (List.length l) cap ∧ RdE encI 1 w [] a l ∧ ∀ y ∈ l, inK .i64 y := by
  obtain ⟨fuel, h⟩ := ht
  obtain ⟨a, l, cap, e, hr, hq, _⟩ := trod_ints Tryz.underlying30 Tryz.underlying3 (by kernel_rfl) h
  exact ⟨a, l, cap, one_of rfl e (slice_agg Tryz.underlying30 hv), hr, hq⟩
end
end Go.Proofs.YtiimndcifcoofaaGreatDoor
namespace Go.Proofs.YtiimndcifcoofaaGreatDoor
open Go Go.ChangeShapes Go.WideShapes Go.ChangeAt Go.RowKit
set_option maxRecDepth 100000
section
variable {H : Type} {enc : TypeId × Value → H} {w : World} {spare : Nat → Bool} {held : Bool} {v : Value} {d : DataW H} {p : List MemPlace} {fuel : Nat} {cs : List Value} {x : DataW H × List MemPlace}
theorem trod_insI (h : DataW.trod enc Tryz.prog w 0 spare held fuel 23 cs = some x) : ∃ y : Ins, cs = y.enc ∧ inK .i64 y.imm := by
  obtain ⟨hl, m0, y0, h0⟩ := trod_at 0 (off := 0) (ft := 3) (n := 1) (by kernel_rfl) (by kernel_rfl) h
  obtain ⟨_, m1, y1, h1⟩ := trod_at 1 (off := 1) (ft := 3) (n := 1) (by kernel_rfl) (by kernel_rfl) h
  obtain ⟨_, m2, y2, h2⟩ := trod_at 2 (off := 2) (ft := 3) (n := 1) (by kernel_rfl) (by kernel_rfl) h
  obtain ⟨_, m3, y3, h3⟩ := trod_at 3 (off := 3) (ft := 3) (n := 1) (by kernel_rfl) (by kernel_rfl) h
  obtain ⟨_, m4, y4, h4⟩ := trod_at 4 (off := 4) (ft := 3) (n := 1) (by kernel_rfl) (by kernel_rfl) h
  obtain ⟨n0, e0, _⟩ := trod_i64 Tryz.underlying3 h0
  obtain ⟨n1, e1, _⟩ := trod_i64 Tryz.underlying3 h1
  obtain ⟨n2, e2, _⟩ := trod_i64 Tryz.underlying3 h2
  obtain ⟨n3, e3, _⟩ := trod_i64 Tryz.underlying3 h3
  obtain ⟨n4, e4, k4⟩ := trod_i64 Tryz.underlying3 h4
  have hl' : cs.length = 5 := hl.trans (by kernel_rfl)
  refine ⟨⟨n0, n1, n2, n3, n4⟩, ?_, k4⟩
  match cs, hl' with
  | [c0, c1, c2, c3, c4], _ =>
    simp at e0 e1 e2 e3 e4
    rw [e0, e1, e2, e3, e4]
theorem inss_open {b0 : Nat} (hv : Value.okWide Tryz.prog w .any b0 35 v) (ht : DataW.Trod enc Tryz.prog w 0 spare held 35 v d p) :
    ∃ a l cap, v = .slice a (List.length l) cap ∧ RdE Ins.enc 5 w [] a l ∧ ∀ y ∈ l, inK .i64 y.imm := by
  obtain ⟨fuel, h⟩ := ht
  obtain ⟨a, l, cap, e, hr, hq, _⟩ := trod_sl (en := Ins.enc) (sz := 5) (Φ := fun y : Ins => inK .i64 y.imm) Tryz.underlying35 (by kernel_rfl) (by omega) (fun _ _ _ h => trod_insI h) h
  exact ⟨a, l, cap, one_of rfl e (slice_agg Tryz.underlying35 hv), hr, hq⟩
end
end Go.Proofs.YtiimndcifcoofaaGreatDoor
