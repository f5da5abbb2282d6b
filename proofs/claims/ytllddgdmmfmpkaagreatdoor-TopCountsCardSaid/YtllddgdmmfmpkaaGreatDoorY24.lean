/- What the laws share, part 24. No condition. -/
import Derived.Test.YtllddgdmmfmpkaaGreatDoorY23
namespace Go.Proofs.YtllddgdmmfmpkaaGreatDoor
open Go
set_option maxRecDepth 10000
set_option maxHeartbeats 8000000
def AP.en : AP → Nat
  | .ent n => n
  | _ => 3
def okO (m : MS) (i : Int) : Prop := ∃ o : Nat, i = o ∧ o < m.o.length ∧ okU (m.o.getD o 0)
def okD (m : MS) (i : Int) : Prop := ∃ o : Nat, i = o ∧ o < m.d.length
def okA (c : Cfg) (t : Nat) (m : MS) (x : AT) : Prop :=
  match x.ph with
  | .idle => False
  | .loc k => x.oc = [] ∧ (0 ≤ c.words ∧ c.words ≤ 1099511627776) ∧ ∀ a v, k = .wr a v → 0 ≤ a
  | .ent n => (n = 0 ∨ n = 1 ∨ n = 2) ∧ t < m.sl.length ∧ (0 ≤ m.ck ∧ m.ck ≤ 1099511627776)
  | .rd n b v => okO m (orecM c x.addr) ∧ okD m x.addr ∧ x.addr < c.words ∧ ((n = 0 ∧ b = 0 ∧ v = 0) ∨ (n = 1 ∧ v = 0) ∨ n = 2) ∧ x.set.length < 100000 ∧ x.seen.length < 100000
  | .lk s ld => x.old.length < x.oc.length ∧ okO m (x.oc.getD x.old.length 0) ∧ (ld = true → 0 ≤ s ∧ s + 17 ≤ 18446744073709551615) ∧ t < 16
  | .tn _ => True
  | .ck l => l ≠ [] ∧ okO m (l.headD 0)
  | .dc => 0 ≤ c.clock ∧ c.clock ≤ 1099511627776
  | .wr a v => a ≠ [] ∧ v ≠ [] ∧ okD m (a.headD 0) ∧ (x.dn = true ∧ x.sto = true) ∧ (0 ≤ x.ck ∧ x.ck < 1099511627776)
  | .rl o w => o ≠ [] ∧ w ≠ [] ∧ okO m (o.headD 0) ∧ (0 ≤ x.ck ∧ x.ck < 1099511627776)
  | .sp => True
  | .ps => 0 ≤ x.tk ∧ x.tk ≤ 1099511627776
  | .lv => t < m.sl.length
theorem getD_at {l : List Int} {i : Nat} (h : i < l.length) : l[i]? = some (l.getD i 0) := by
  rw [List.getD_eq_getElem?_getD, List.getElem?_eq_getElem h]; rfl
theorem stA_wr {c : Cfg} {t : Int} {m : MS} {x : AT} {a v : List Int} (h : x.ph = .wr a v) (hl : a.tail ≠ []) : stepA c t m x = ({ m with d := m.d.set (a.headD 0).toNat (v.headD 0) }, { x with ph := .wr a.tail v.tail }, acS 1 (a.headD 0) (m.d.getD (a.headD 0).toNat 0) (v.headD 0), 17) := by unfold stepA; simp only [h, hl, if_false]
theorem rest_en (x : AT) : x.rest.ph.en = 3 := by unfold AT.rest; split <;> rfl
theorem endA_en (c : Cfg) (x : AT) (k : Int) : (x.endA c k).ph.en = 3 := by unfold AT.endA; split <;> rfl
theorem kont_en (c : Cfg) (x : AT) (k : Ko) (h : x.ph.en = 3) : (x.kont c k).ph.en = 3 := by
  cases k with
  | en cd => exact endA_en c x cd
  | tk v => exact h
  | wr a v =>
    unfold AT.kont
    dsimp only
    split
    · exact endA_en c x 7
    · split
      · exact h
      · rfl
section
variable {W0 : World} {own Q E : Own} {c : Cfg} {t : Nat} {h : AH} {x : AT} {k w : Int} {b e : Nat} {mh : MH} {m : MS}
theorem sp_own {P : Program} {f : FuncId} {args : List Value} {own0 own1 : Own} {K : Value → Own → Prop} (h : Spec P W0 f args own0 K) (e : own0 = own1) : Spec P W0 f args own1 K := e ▸ h
abbrev StQ (W0 : World) (c : Cfg) (t : Nat) (h : AH) (mh : MH) (m : MS) (x : AT) (Q : Own) : Value → Own → Prop :=
  AtQ W0 c t h.b (stepA c t m x).2.1 (stepA c t m x).2.1.ph.en (mh.O (stepA c t m x).1 ++ Q) (.tuple #[(stepA c t m x).2.2.1.v, .int .i64 (stepA c t m x).2.2.2])
theorem sp_to {e' : Nat} {x' : AT} {m' : MS} {r : AcM} {ph : Int} {f : FuncId} {args : List Value} {own0 : Own} (hS : Spec Tryz.prog W0 f args own0 (AtQ W0 c t h.b x' e' (mh.O m' ++ Q) (.tuple #[r.v, .int .i64 ph]))) (hs : stepA c t m x = (m', x', r, ph)) (he : x'.ph.en = e') : Spec Tryz.prog W0 f args own0 (StQ W0 c t h mh m x Q) := by
  unfold StQ
  rw [hs]
  dsimp only
  rw [he]
  exact hS
theorem sp_aStep (hh : h.ok c x) (hM : mh.ok m.L) (hP : PhO W0 c t h x E) (hA : okA c t m x) (Q : Own) :
    Spec Tryz.prog W0 47 [ptr h.b, ptr mh.mb] (h.O c t x x.ph.no x.ph.en (E ++ (mh.O m ++ Q))) (StQ W0 c t h mh m x Q) := by
  obtain ⟨st, code, rv, set, ad, vl, seen, addr, val, oc, old, ck, dn, tk, ph⟩ := x
  cases ph with
  | idle => exact hA.elim
  | loc kk =>
    obtain ⟨h1, h2, h3⟩ := hA
    exact sp_to (sp_sLoc (mb := mh.mb) hh h1 h2 hP h3 (mh.O m ++ Q)) rfl (kont_en c _ _ rfl)
  | ent n =>
    obtain ⟨h1, h2, h3⟩ := hA
    obtain rfl : E = [] := hP
    rcases h1 with rfl | rfl | rfl
    · exact sp_to (sp_w2 (E := []) (fun Q => sp_sEnt0 hh hM (getD_at h2) Q) Q) rfl rfl
    · exact sp_to (sp_w2 (E := []) (fun Q => sp_sEnt1 hh hM h3 Q) Q) rfl rfl
    · exact sp_to (sp_w2 (E := []) (fun Q => sp_sEnt2 hh hM (getD_at h2) Q) Q) rfl rfl
  | rd n bf vl =>
    obtain ⟨⟨o, h1, h2, h3⟩, ⟨j, h4, h5⟩, h6, h7, h8, h9⟩ := hA
    obtain ⟨hld, r, ab, hr, hus, rfl⟩ := hP
    dsimp only at h1 h4 h6 h7 h8 h9 hld
    subst h4
    show Spec _ _ _ _ (h.O c t _ 3 3 ([(r, rdP j (orecM c j) rv n bf vl false), (ab, abP h.b)] ++ (mh.O m ++ Q))) _
    rw [h1]
    rcases h7 with ⟨rfl, rfl, rfl⟩ | ⟨rfl, rfl⟩ | rfl
    · refine sp_to (sp_w3 (fun Q => sp_sRd0 hh hM hr hld hus h1 (getD_at h2) h3 Q) Q) (by rw [stA_rd0 rfl]; dsimp only; rw [h1]; rfl) ?_
      split <;> rfl
    · exact sp_to (sp_w3 (fun Q => sp_sRd1 hh hM hr hld hus h1 rfl (getD_at h5) Q) Q) rfl rfl
    · refine sp_to (sp_w3 (fun Q => sp_sRd2 hh hM hr hld hus (getD_at h2) h6 h8 h9 Q) Q) (by rw [stA_rd2 rfl]; dsimp only; rw [h1]; rfl) ?_
      split
      · rfl
      · split <;> rfl
  | lk s ld =>
    obtain ⟨h1, ⟨o, h2, h3, h4⟩, h5, h6⟩ := hA
    have ho := getD_at h1
    dsimp only at h2 ho
    rw [h2] at ho
    cases ld with
    | false => exact sp_to (sp_w5 (fun Q => sp_sLk0 hh hM hP ho (getD_at h3) h4 Q) Q) (by rw [stA_lk rfl, if_pos rfl]; dsimp only; rw [h2]; rfl) rfl
    | true =>
      refine sp_to (sp_w5 (fun Q => sp_sLk1 hh hM hP ho (getD_at h3) (h5 rfl) h6 Q) Q) ?_ ?_
      · have h7 := h5 rfl
        rw [stA_lk rfl, if_neg (by decide)]
        dsimp only
        rw [h2, show wrapu (s + (t : Int) + 1) = s + t + 1 from wrap_u64 (by omega) (by omega), Int.toNat_natCast]
        by_cases hw : m.o.getD o 0 = s
        · simp only [if_pos hw, decide_eq_true hw]
        · simp only [if_neg hw, decide_eq_false hw]
      · split
        · dsimp only; split <;> rfl
        · rfl
  | tn b =>
    obtain ⟨E1, E2, hE, hE2, rfl⟩ := hP
    cases b with
    | false => exact sp_to (sp_w6 (fun Q => sp_sTn0 hh hM hE hE2 Q) Q) rfl rfl
    | true =>
      refine sp_to (sp_w6 (fun Q => sp_sTn1 hh hM hE hE2 Q) Q) (by rw [stA_tn1 rfl]) ?_
      split
      · split <;> rfl
      · rfl
  | ck l =>
    obtain ⟨h1, ⟨o, h2, h3, h4⟩⟩ := hA
    obtain ⟨E1, E2, cb, ca, cc, cD, hE, hE2, hck, ⟨hL, hcc⟩, rfl⟩ := hP
    cases l with
    | nil => exact absurd rfl h1
    | cons y l =>
      obtain rfl : y = (o : Int) := h2
      refine sp_to (e' := 3) (sp_w7 (fun Q => ?_) Q) (by rw [stA_ck rfl]) ?_
      · exact sp_own (sp_sCk hh hM hE hE2 hck hL hcc (getD_at h3) h4 Q) (by simp only [List.append_assoc, List.cons_append, List.length_cons]; rfl)
      · split
        · exact rest_en _
        · split <;> rfl
  | dc =>
    obtain ⟨E1, E2, hE, hE2, rfl⟩ := hP
    refine sp_to (sp_w8 (fun Q => sp_sDc hh hM hE hE2 hA Q) Q) (by rw [stA_dc rfl]) ?_
    split
    · exact rest_en _
    · split
      · rfl
      · exact rest_en _
  | wr a v =>
    obtain ⟨h1, h2, ⟨o, h3, h4⟩, h5, h6⟩ := hA
    obtain ⟨E1, wb, wa, wc, wD, va, vc, vD, hE, hwr, ⟨hL, hc1⟩, ⟨hL2, hc2⟩, rfl⟩ := hP
    cases a with
    | nil => exact absurd rfl h1
    | cons y l =>
      obtain rfl : y = (o : Int) := h3
      cases v with
      | nil => exact absurd rfl h2
      | cons v0 l2 =>
        by_cases hl : l = []
        · subst hl
          refine sp_to (sp_w9 (fun Q => ?_) Q) rfl rfl
          exact sp_own (sp_sWr1 (wc := wc) (vc := vc) hh hM hE hwr hL hL2 (getD_at h4) h5 h6 Q) (by simp only [List.append_assoc, List.cons_append, List.length_cons, List.length_nil]; rfl)
        · refine sp_to (sp_w9 (fun Q => ?_) Q) (m' := { m with d := m.d.set o v0 }) (x' := ⟨st, code, rv, set, ad, vl, seen, addr, val, oc, old, ck, dn, tk, .wr l l2⟩) (r := acS 1 o (m.d.getD o 0) v0) (ph := 17) (by rw [stA_wr (a := (o : Int) :: l) (v := v0 :: l2) rfl hl]; rfl) rfl
          exact sp_own (sp_sWr0 hh hM hE hwr hL hL2 hc1 hc2 (getD_at h4) hl Q) (by simp only [List.append_assoc, List.cons_append, List.length_cons]; rfl)
  | rl a v =>
    obtain ⟨h1, h2, ⟨o, h3, h4, h5⟩, h6⟩ := hA
    obtain ⟨E1, wb, wa, wc, wD, va, vc, vD, hE, hwr, ⟨hL, hc1⟩, ⟨hL2, hc2⟩, rfl⟩ := hP
    cases a with
    | nil => exact absurd rfl h1
    | cons y l =>
      obtain rfl : y = (o : Int) := h3
      cases v with
      | nil => exact absurd rfl h2
      | cons v0 l2 =>
        refine sp_to (e' := 3) (sp_w10 (fun Q => ?_) Q) rfl ?_
        · exact sp_own (sp_sRl hh hM hE hwr hL hL2 hc1 hc2 (getD_at h4) ⟨h6.1, Int.le_of_lt h6.2⟩ Q) (by simp only [List.append_assoc, List.cons_append, List.length_cons]; rfl)
        · split
          · dsimp only; split <;> rfl
          · rfl
  | sp => exact sp_to (sp_sSp hh hM hP Q) rfl rfl
  | ps => exact sp_to (sp_sPs hh hM hP hA Q) rfl rfl
  | lv =>
    obtain rfl : E = [] := hP
    exact sp_to (sp_sLv hh hM (getD_at hA) Q) rfl rfl
end
end Go.Proofs.YtllddgdmmfmpkaaGreatDoor
namespace Go.Proofs.YtllddgdmmfmpkaaGreatDoor
open Go
set_option maxRecDepth 10000
set_option maxHeartbeats 8000000
structure TH where
  b : Nat
  ap : Value
  lb : Nat
  ca : Option Addr
  cc : Nat
  sa : Option Addr
  sc : Nat
  sD : Own
  oa : Option Addr
  oc : Nat
  oD : Own
abbrev thP (c : Cfg) (t n : Nat) (p : List Ins) (h : TH) (x : GT) : Obj → Prop := fun z => z = Obj.cells #[h.ap, .int .i64 x.bg, uv x.sv.r0, uv x.sv.r1, uv x.sv.r2, uv x.sv.r3, uv x.sv.r4, uv x.sv.r5, uv x.sv.r6, uv x.sv.r7, .int .i64 x.tr, .slice h.sa x.seen.length h.sc, .bool false, .int .i64 0, .pointer none, .pointer none,
  .int .i64 c.words, .int .i64 c.orecs, .int .i64 c.base, .int .i64 c.c0, .int .i64 c.c1, .int .i64 c.c2, .int .i64 c.c3, .int .i64 c.reads, .int .i64 c.writes, .int .i64 c.allocs, .int .i64 c.frees, .int .i64 c.clock, .bool c.strong,
  .int .i64 t, .int .i64 n, .slice h.ca p.length h.cc, .int .i64 x.th.pc, uv x.th.rg.r0, uv x.th.rg.r1, uv x.th.rg.r2, uv x.th.rg.r3, uv x.th.rg.r4, uv x.th.rg.r5, uv x.th.rg.r6, uv x.th.rg.r7, .int .i64 x.th.oc, .bool x.th.dn, ptr h.lb, .slice h.oa x.obs.length h.oc, .int .i64 x.ct] 106 (0, 0)
structure TH.ok (h : TH) (x : GT) : Prop where
  hs : BufE ObM.enc 54 3 h.sa h.sc x.seen h.sD
  ho : BufE ObM.enc 54 3 h.oa h.oc x.obs h.oD
section
variable {W0 : World} {own Q : Own} {c : Cfg} {t n : Nat} {p : List Ins} {h : TH} {x : GT} {k : Int} {b e : Nat}
theorem sp_tTo (j : Nat) (Q : Own) : Spec Tryz.prog W0 27 [ptr h.b, .int .i64 j] ((h.b, thP c t n p h x) :: Q) fun v own' => ∃ _ : Unit, v = .tuple #[] ∧ Ent W0 own' ((h.b, thP c t n p h (x.to p.length j)) :: Q) := by
  refine spec_un (spec_of mixed low_thread_Thread_to (by simp [ir_thread_Thread_to]) ?_)
  unfold GT.to
  rw [show decide (j = p.length) = decide ((j : Int) = (p.length : Int)) from decide_eq_decide.2 (by omega)]
  repeat' ((try (conv => whnf)); first | (apply ld_o; exact rfl) | (apply st_o; (exact rfl); exact rfl))
  all_goals exact ⟨rfl, (by refine sb_ent ?_; (repeat (first | exact sb_refl | exact sb_nil | refine sb_fr ?_ | refine sb_pu rfl ?_ | refine sb_cons ?_ | refine sb_app ?_)))⟩
theorem sp_tNext (hp : x.th.pc ≤ 1000000) (Q : Own) : Spec Tryz.prog W0 46 [ptr h.b] ((h.b, thP c t n p h x) :: Q) fun v own' => ∃ _ : Unit, v = .tuple #[] ∧ Ent W0 own' ((h.b, thP c t n p h (x.to p.length (x.th.pc + 1))) :: Q) := by
  refine spec_un (spec_of mixed low_thread_Thread_next (by simp [ir_thread_Thread_next]) ?_)
  repeat' ((try (conv => whnf)); first | ((with_reducible show CallT _ _ _ _ _ _); first | ((refine call_bk (sp_tTo (c := c) (t := t) (n := n) (p := p) (h := h) (x := x) (x.th.pc + 1) _) ?_ ?_ ?_ (fun _ v hv => ?_); (exact rfl); (exact rfl); (exact rfl); (subst hv)))) | (refine ari ?_ ?_; omega) | (apply ld_o; exact rfl))
  all_goals exact ⟨rfl, (by refine sb_ent ?_; (repeat (first | exact sb_refl | exact sb_nil | refine sb_fr ?_ | refine sb_pu rfl ?_ | refine sb_cons ?_ | refine sb_app ?_)))⟩
theorem sp_tAddr (hc : Cl W0 own b 33 (uv k)) : Pure Tryz.prog W0 101 [ptr b, .int .i64 0, .int .i64 0] own (uv (wrapu (k + wrapu 0))) := by
  refine pure_of (spec_of mixed low_thread_Thread_address (by simp [ir_thread_Thread_address]) ?_)
  repeat' ((try (conv => whnf)); first | (refine ldK1 hc ?_) | (refine arw (k := .u64) ?_) | (refine ix0 rfl ?_))
  all_goals exact ⟨rfl, (by first | exact ent_i | (repeat (first | exact Ent.refl | exact Ent.left | refine Ent.cons ?_ | refine Ent.app ?_)))⟩
theorem sp_tConst (hp : x.th.pc ≤ 1000000) (Q : Own) : Spec Tryz.prog W0 60 [ptr h.b, (⟨1, 2, 0, 0, 1⟩ : Ins).v] ((h.b, thP c t n p h x) :: Q) fun v own' =>
    ∃ _ : Unit, v = .tuple #[] ∧ Ent W0 own' ((h.b, thP c t n p h ({ x with th := { x.th with rg := x.th.rg.set 2 1 } }.to p.length (x.th.pc + 1))) :: Q) := by
  refine spec_un (spec_of mixed low_thread_Thread_local (by simp [ir_thread_Thread_local]) ?_)
  dsimp only [Ins.v]
  repeat' ((try (conv => whnf)); first | (refine br_te ?_ ?_; exact rfl) | (refine arw (k := .u64) ?_) | ((with_reducible show CallT _ _ _ _ _ _); first | ((refine call_bk (sp_tTo (c := c) (t := t) (n := n) (p := p) (h := h) (x := { x with th := { x.th with rg := x.th.rg.set 2 1 } }) (x.th.pc + 1) _) ?_ ?_ ?_ (fun _ v hv => ?_); (exact rfl); (exact rfl); (exact rfl); (subst hv)))) | (refine ari ?_ ?_; omega) | (refine ix2 rfl ?_) | (apply ld_o; exact rfl) | (apply st_o; (exact rfl); exact rfl) | (refine new_i (fun bk hbk => ?_)))
  all_goals exact ⟨rfl, (by refine sb_ent ?_; (repeat (first | exact sb_refl | exact sb_nil | refine sb_fr ?_ | refine sb_pu rfl ?_ | refine sb_cons ?_ | refine sb_app ?_)))⟩
theorem sp_tAdd (hp : x.th.pc ≤ 1000000) (hy : 0 ≤ x.th.rg.r2 ∧ x.th.rg.r2 ≤ 1000000) (Q : Own) : Spec Tryz.prog W0 60 [ptr h.b, (⟨3, 1, 1, 2, 0⟩ : Ins).v] ((h.b, thP c t n p h x) :: Q) fun v own' =>
    ∃ _ : Unit, v = .tuple #[] ∧ Ent W0 own' ((h.b, thP c t n p h ({ x with th := { x.th with rg := x.th.rg.set 1 (Alu.applyW 0 x.th.rg.r1 x.th.rg.r2) } }.to p.length (x.th.pc + 1))) :: Q) := by
  refine spec_un (spec_of mixed low_thread_Thread_local (by simp [ir_thread_Thread_local]) ?_)
  dsimp only [Ins.v]
  have hap := fun own => Alu.sp_apply W0 own 0 x.th.rg.r1 x.th.rg.r2 (by unfold Alu.okW; omega)
  repeat' ((try (conv => whnf)); first | (refine br_te ?_ ?_; exact rfl) | (refine br_fe ?_ ?_; exact rfl) | ((with_reducible show CallT _ _ _ _ _ _); first | ((refine call_bk (sp_tTo (c := c) (t := t) (n := n) (p := p) (h := h) (x := { x with th := { x.th with rg := x.th.rg.set 1 (Alu.applyW 0 x.th.rg.r1 x.th.rg.r2) } }) (x.th.pc + 1) _) ?_ ?_ ?_ (fun _ v hv => ?_); (exact rfl); (exact rfl); (exact rfl); (subst hv)))) | ((with_reducible show CallQ _ _ _ _ _ _); first | ((refine call_qi (fun ex => hap _) ?_ ?_ ?_; (exact rfl); (exact rfl)))) | (refine ari ?_ ?_; omega) | (apply sel; exact rfl) | (refine ix1 rfl ?_) | (refine ix2 rfl ?_) | (apply ld_o; exact rfl) | (apply st_o; (exact rfl); exact rfl) | (refine new_i (fun bk hbk => ?_)))
  all_goals exact ⟨rfl, (by refine sb_ent ?_; (repeat (first | exact sb_refl | exact sb_nil | refine sb_fr ?_ | refine sb_pu rfl ?_ | refine sb_cons ?_ | refine sb_app ?_)))⟩
end
end Go.Proofs.YtllddgdmmfmpkaaGreatDoor
namespace Go.Proofs.YtllddgdmmfmpkaaGreatDoor
open Go
set_option maxRecDepth 10000
set_option maxHeartbeats 8000000
section
variable {W0 : World} {own Q : Own} {t : Nat} {k w : Int} {b gb e : Nat}
theorem sp_aWords {na aa : Option Addr} {nc ca : Nat} {seen ad : List Int} (h1 : Cl W0 own b 1 (ptr gb)) (h15 : Cl W0 own b 15 (.int .i64 w)) (h2 : Cl W0 own b 2 (.slice na seen.length nc)) (g1 : Cl W0 own gb 1 (.slice aa ad.length ca)) (hA : RdE encI 1 W0 own aa ad) (hN : RdE encI 1 W0 own na seen) (hl : ad.length ≤ 1000000) (hl2 : seen.length ≤ 1000000) :
    Spec Tryz.prog W0 49 [ptr b] own fun v own' => ∃ s : (Option Addr × Nat × Own) × (Option Addr × Nat × Own), (v = .tuple #[.slice s.1.1 seen.length s.1.2.1, .slice s.2.1 (ad.filter fun x => decide (x < w)).length s.2.2.1] ∧
      BufE encI 3 1 s.1.1 s.1.2.1 seen s.1.2.2 ∧ BufE encI 3 1 s.2.1 s.2.2.1 (ad.filter fun x => decide (x < w)) s.2.2.2) ∧ Ent W0 own' (s.1.2.2 ++ (s.2.2.2 ++ own)) := by
  refine spec_of mixed low_attempt_Attempt_Words (by simp [ir_attempt_Attempt_Words]) ?_
  have hAd := sp_lgAddrs g1 hA hl
  repeat' ((try (conv => whnf)); first | (refine ldK1 h1 ?_) | ((with_reducible show CallT _ _ _ _ _ _); first | ((refine call_x hAd ?_ ?_ (fun y v hv => ?_); (exact rfl); (exact rfl); (obtain ⟨a1, c1, D1⟩ := y; obtain ⟨rfl, hB1⟩ := hv; dsimp only at hB1)))))
  have hR : RdE encI 1 W0 D1 a1 ad := hB1.rd (W0 := W0)
  refine loop_i (σ := Nat × Option Addr × Nat × Own) (fun s => [(13, .int .i64 s.1), (3, .slice s.2.1 ((ad.take s.1).filter fun x => decide (x < w)).length s.2.2.1)]) (fun s => s.2.2.2 ++ (D1 ++ own)) (fun s => s.1 ≤ ad.length ∧ BufE encI 3 1 s.2.1 s.2.2.1 ((ad.take s.1).filter fun x => decide (x < w)) s.2.2.2) (fun s => ad.length - s.1) (0, none, 0, []) ⟨by simp, BufE.nil⟩ (by repeat' (first | exact True.intro | refine And.intro ?_ ?_ | exact rfl | exact vi (by omega) | (dsimp only; exact rfl) | (dsimp only; exact vi (by omega)))) (by refine sb_ent ?_; (repeat (first | exact sb_refl | exact sb_nil | refine sb_fr ?_ | refine sb_pu rfl ?_ | refine sb_cons ?_ | refine sb_app ?_))) rfl ?_
  rintro ⟨i, qa, qc, Dq⟩ junk ⟨hi, hq⟩
  dsimp only at hi hq ⊢
  have htl : ((ad.take i).filter fun x => decide (x < w)).length ≤ 1000000 := by have := List.length_filter_le (fun x => decide (x < w)) (ad.take i); rw [List.length_take] at this; omega
  have h15' : ∀ D : Own, Cl W0 (D ++ (D1 ++ own)) b 15 (.int .i64 w) := fun D => h15.ent (Ent.right.trans Ent.right)
  by_cases hlt : i < ad.length
  · obtain ⟨y, hy⟩ : ∃ y, ad[i]? = some y := ⟨_, List.getElem?_eq_getElem hlt⟩
    have hlt' : (i : Int) < ad.length := by omega
    have htk : (ad.take (i + 1)).filter (fun x => decide (x < w)) = ((ad.take i).filter fun x => decide (x < w)) ++ if y < w then [y] else [] := by
      rw [List.take_add_one, hy, List.filter_append]
      by_cases hyw : y < w
      · rw [if_pos hyw]; simp [hyw]
      · rw [if_neg hyw]; simp [hyw]
    by_cases hyw : y < w
    · rw [if_pos hyw] at htk
      repeat' ((try (conv => whnf)); first | (apply br_pyE; (exact rfl); omega) | (refine ldK1 (h15' Dq) ?_) | (refine new_i (fun bk hbk => ?_)) | (apply app_i (enc := encI) (T := 3) y hq; (exact rfl); (exact rfl); (omega); (exact rfl); (exact rfl); (omega); intro a3 c3 D3 hb3) | ((with_reducible show Ld _ _ _ _); first | (refine ldE0 hR hy rfl ?_)) | ((with_reducible show IxS _ _ _ _ _); first | ((refine ixE hR hy ?_ ?_; (first | rfl | omega)))) | (refine ari ?_ ?_; omega))
      refine ⟨(i + 1, a3, c3, D3), ⟨hlt, by dsimp only; rw [htk]; exact hb3⟩, by simp only; omega, ?_, (by refine sb_ent ?_; (repeat (first | exact sb_refl | exact sb_nil | refine sb_fr ?_ | refine sb_pu rfl ?_ | refine sb_cons ?_ | refine sb_app ?_)))⟩
      dsimp only
      rw [htk, List.length_append]
      exact (by repeat' (first | exact True.intro | refine And.intro ?_ ?_ | exact rfl | exact vi (by omega) | (dsimp only; exact rfl) | (dsimp only; exact vi (by omega))))
    · rw [if_neg hyw, List.append_nil] at htk
      repeat' ((try (conv => whnf)); first | (apply br_pyE; (exact rfl); omega) | (apply br_pnE; (exact rfl); omega) | (refine ldK1 (h15' Dq) ?_) | ((with_reducible show Ld _ _ _ _); first | (refine ldE0 hR hy rfl ?_)) | ((with_reducible show IxS _ _ _ _ _); first | ((refine ixE hR hy ?_ ?_; (first | rfl | omega)))) | (refine ari ?_ ?_; omega))
      refine ⟨(i + 1, qa, qc, Dq), ⟨hlt, by dsimp only; rw [htk]; exact hq⟩, by simp only; omega, ?_, (by refine sb_ent ?_; (repeat (first | exact sb_refl | exact sb_nil | refine sb_fr ?_ | refine sb_pu rfl ?_ | refine sb_cons ?_ | refine sb_app ?_)))⟩
      dsimp only
      rw [htk]
      exact (by repeat' (first | exact True.intro | refine And.intro ?_ ?_ | exact rfl | exact vi (by omega) | (dsimp only; exact rfl) | (dsimp only; exact vi (by omega))))
  · obtain rfl : i = ad.length := by omega
    rw [List.take_length] at hq ⊢
    have hlt' : ¬ (ad.length : Int) < ad.length := by omega
    have h2' : ∀ D : Own, Cl W0 (D ++ (D1 ++ own)) b 2 (.slice na seen.length nc) := fun D => h2.ent (Ent.right.trans Ent.right)
    have hcl := fun (own' : Own) (m : EntC own' own) => sp_clone_int (W0 := W0) (own := own') (cap := nc) (hN.up) (by omega)
    repeat' ((try (conv => whnf)); first | (apply br_pnE; (exact rfl); omega) | (refine ldK1 (h2' Dq) ?_) | ((with_reducible show CallT _ _ _ _ _ _); first | ((refine call_x (hcl _ inferInstance) ?_ ?_ (fun y v hv => ?_); (exact rfl); (exact rfl); (obtain ⟨a2, c2, D2⟩ := y; obtain ⟨rfl, hB2⟩ := hv; dsimp only at hB2)))))
    exact ⟨((a2, c2, D2), (qa, qc, Dq)), ⟨rfl, hB2, hq⟩, (by refine sb_ent ?_; (repeat (first | exact sb_refl | exact sb_nil | refine sb_fr ?_ | refine sb_pu rfl ?_ | refine sb_cons ?_ | refine sb_app ?_)))⟩
theorem sp_aFrees (h4 : Cl W0 own b 4 (.slice none 0 0)) : Spec Tryz.prog W0 160 [ptr b] own fun v own' => ∃ s : Option Addr × Nat, v = .slice s.1 0 s.2 ∧ Ent W0 own' own := by
  refine spec_of mixed low_attempt_Attempt_Frees (by simp [ir_attempt_Attempt_Frees]) ?_
  have hcl := sp_clone_int (W0 := W0) (own := own) (a := none) (l := []) (cap := 0) RdE.nil (by decide)
  repeat' ((try (conv => whnf)); first | (refine ldK1 h4 ?_) | ((with_reducible show CallT _ _ _ _ _ _); first | ((refine call_x hcl ?_ ?_ (fun y v hv => ?_); (exact rfl); (exact rfl); (obtain ⟨a2, c2, D2⟩ := y; obtain ⟨rfl, hB2⟩ := hv; dsimp only at hB2)))))
  exact ⟨(a2, c2), rfl, (by refine sb_ent ?_; (repeat (first | exact sb_refl | exact sb_nil | refine sb_fr ?_ | refine sb_pu rfl ?_ | refine sb_cons ?_ | refine sb_app ?_)))⟩
end
end Go.Proofs.YtllddgdmmfmpkaaGreatDoor
namespace Go.Proofs.YtllddgdmmfmpkaaGreatDoor
open Go
set_option maxRecDepth 10000
set_option maxHeartbeats 8000000
abbrev a0T : AT := { AT.new with st := 1, ph := .ent 0 }
section
variable {W0 : World} {own Q : Own} {c : Cfg} {t n : Nat} {p : List Ins} {h : TH} {x : GT} {k : Int} {b e : Nat}
theorem sp_tStart (hr : 0 ≤ c.reads ∧ c.reads ≤ 32) (hw : 1 ≤ c.writes ∧ c.writes ≤ 32) (hct : x.ct ≤ 1000000) (Q : Own) : Spec Tryz.prog W0 56 [ptr h.b] ((h.b, thP c t n p h x) :: Q) fun v own' =>
    ∃ ah : AH, (v = .tuple #[] ∧ ah.ok c a0T) ∧ Ent W0 own' ((h.b, thP c t n p { h with ap := ptr ah.b, sa := none, sc := 0, sD := [] } { x with seen := [], ct := x.ct + 1 }) :: ah.O c t a0T 2 0 Q) := by
  refine spec_of mixed low_thread_Thread_start (by simp [ir_thread_Thread_start]) ?_
  have hn := fun Q => sp_aNew (W0 := W0) c hr hw t Q
  have hb := fun (b sb : Nat) (g : LH) (hg : g.ok c.writes [] []) (Q : Own) => sp_aBegin (W0 := W0) (t := t) (b := b) (sb := sb) hg hw.2 Q
  repeat' ((try (conv => whnf)); first | ((with_reducible show CallT _ _ _ _ _ _); first | ((refine call_x (hn _) ?_ ?_ (fun y v hv => ?_); (exact rfl); (exact rfl); (obtain ⟨ab, sb, g⟩ := y; obtain ⟨rfl, hg⟩ := hv; dsimp only at hg))) | ((refine call_sB (b := ab) (D := (sb, stP c.reads none 0 0) :: g.O c.writes [] [] []) (hb ab sb g hg) (fun Q => by simp only [List.cons_append, List.append_assoc, List.nil_append]; exact (by refine sb_ent ?_; (repeat (first | exact sb_refl | exact sb_nil | refine sb_fr ?_ | refine sb_pu rfl ?_ | refine sb_cons ?_ | refine sb_app ?_)))) ?_ ?_ ?_ (fun y v hv => ?_); (exact rfl); (exact rfl); (exact rfl); (obtain ⟨rfl, hyb, hah⟩ := hv; subst hyb)))) | (refine ari ?_ ?_; omega) | (apply ld_o; exact rfl) | (apply ldN_o; (exact rfl); exact rfl) | (apply st_o; (exact rfl); exact rfl))
  all_goals exact ⟨y, ⟨rfl, hah⟩, (by refine sb_ent ?_; (repeat (first | exact sb_refl | exact sb_nil | refine sb_fr ?_ | refine sb_pu rfl ?_ | refine sb_cons ?_ | refine sb_app ?_)))⟩
theorem sp_tGot {a : AT} {ah : AH} {kd : Int} (hh : h.ok x) (hl : x.seen.length ≤ 100000) (hap : h.ap = ptr ah.b) (Q : Own) : Spec Tryz.prog W0 90 [ptr h.b, .int .i64 1, .int .i64 1] ((h.b, thP c t n p h x) :: (ah.b, atP c t ah a kd) :: (h.sD ++ Q)) fun v own' =>
    ∃ y : Option Addr × Nat × Own, (v = .tuple #[] ∧ BufE ObM.enc 54 3 y.1 y.2.1 (x.seen ++ [⟨x.th.pc, 1, a.val⟩]) y.2.2) ∧
      Ent W0 own' ((h.b, thP c t n p { h with sa := y.1, sc := y.2.1, sD := y.2.2 } { x with th := { x.th with rg := x.th.rg.set 1 a.val }, seen := x.seen ++ [⟨x.th.pc, 1, a.val⟩] }) :: (ah.b, atP c t ah a kd) :: (y.2.2 ++ Q)) := by
  refine spec_of mixed low_thread_Thread_got (by simp [ir_thread_Thread_got]) ?_
  obtain ⟨hb, ap, lb, ca, cc, sa, sc, sD, oa, oc, oD⟩ := h
  dsimp only at hap ⊢
  subst hap
  have hq := hh.hs
  dsimp only at hq
  have hv := fun (own' : Own) (m1 : MemC ah.b (atP c t ah a kd) own') => sp_avalue (W0 := W0) (cl_of m1 rfl)
  repeat' ((try (conv => whnf)); first | (refine new_i (fun bk hbk => ?_)) | (apply app_i (enc := ObM.enc) (T := 54) (⟨x.th.pc, 1, a.val⟩ : ObM) hq; (exact rfl); (exact rfl); (omega); (exact rfl); (exact rfl); (omega); intro a5 c5 D5 hb5) | ((with_reducible show CallT _ _ _ _ _ _); first | ((refine call_pe (hv _ inferInstance) ?_ ?_ ?_; (exact rfl); exact rfl))) | (refine ix1 rfl ?_) | (apply ld_o; exact rfl) | (apply st_o; (exact rfl); exact rfl))
  all_goals exact ⟨(a5, c5, D5), ⟨rfl, hb5⟩, by unfold thP; simp only [List.length_append]; exact (by refine sb_ent ?_; (repeat (first | exact sb_refl | exact sb_nil | refine sb_fr ?_ | refine sb_pu rfl ?_ | refine sb_cons ?_ | refine sb_app ?_)))⟩
end
end Go.Proofs.YtllddgdmmfmpkaaGreatDoor
namespace Go.Proofs.YtllddgdmmfmpkaaGreatDoor
open Go
set_option maxRecDepth 10000
set_option maxHeartbeats 8000000
theorem app_iE {α : Type} {W0 : World} {own : Own} {enc : α → List Value} {sz : Nat} {a : Option Addr} {l : List α} {T T2 : TypeId} {bytes cap bt k : Nat} {zs : List Value} {D : Own} {C : Own → Own} {ys : Array Value} {fz : Nat × Nat} {K : Value → Own → Prop} (x : α) (hB : BufE enc T sz a cap l D) (hn : k = l.length) [m : AtC D own C] [m2 : MemC bt (fun o => o = Obj.cells ys T2 fz) own] (hy : ys.toList = enc x)
    (hz : zs.length = sz) (hs : 0 < sz) (hw : (enc x).length = sz) (h1 : (enc x).all oneC = true) (hb : (k + 1) * bytes ≤ 140737488355328)
    (hk : ∀ a' cap' D', BufE enc T sz a' cap' (l ++ [x]) D' → K (.slice a' (k + 1) cap') (C D')) : AppT W0 own T sz bytes zs a k cap (some ⟨bt, 0, none⟩) 1 K := by
  subst hn
  exact app_i x hB hy hz hs hw h1 hb hk
section
variable {W0 : World} {own Q : Own} {c : Cfg} {t n : Nat} {p : List Ins} {h : TH} {x : GT} {k : Int} {b e : Nat}
theorem sp_tEnd {a : AT} {ah : AH} {kd : Int} {bi : Ins} {cD : Own} (hF : FormsAt W0) (hh : h.ok x) (hl : x.seen.length ≤ 100000) (hl2 : x.obs.length ≤ 100000) (hap : h.ap = ptr ah.b) (hC : RdE Ins.enc 5 W0 cD h.ca p) (hp : p.length ≤ 100000) (hbi : p[x.bg]? = some bi) (hop : bi.op = 7) (hck : (checkP p).2 = 0) (hend : endM p x.bg ≤ 100000) (hcode : a.code = 1 ∨ a.code = 9) (Q : Own) [eq : EntC Q cD] :
    Spec Tryz.prog W0 89 [ptr h.b] ((h.b, thP c t n p h x) :: (ah.b, atP c t ah a kd) :: (h.sD ++ (h.oD ++ Q))) fun v own' =>
    ∃ h' : TH, (v = .tuple #[] ∧ h'.b = h.b ∧ h'.ap = .pointer none ∧ h'.ca = h.ca ∧ h'.ok (x.endG p a)) ∧ Ent W0 own' ((h'.b, thP c t n p h' (x.endG p a)) :: (h'.sD ++ (h'.oD ++ Q))) := by
  refine spec_of mixed low_thread_Thread_end (by simp [ir_thread_Thread_end]) ?_
  obtain ⟨hb, ap, lb, ca, cc, sa, sc, sD, oa, oc, oD⟩ := h
  obtain ⟨hhs, hho⟩ := hh
  dsimp only at hap hC hhs hho ⊢
  subst hap
  have hcd := fun (own' : Own) (m1 : MemC ah.b (atP c t ah a kd) own') => sp_acode (W0 := W0) (k := a.code) (cl_of m1 rfl)
  have hfr := fun (own' : Own) (m1 : MemC ah.b (atP c t ah a kd) own') => sp_aFrees (W0 := W0) (own := own') (b := ah.b) (cl_of m1 rfl)
  have hcm := fun (own' : Own) (m : EntC own' cD) => sp_commit (W0 := W0) (own := own') (cap := cc) hF (hC.up) (by omega) (x.bg : Int)
  rw [commitM_at hbi, if_pos ⟨hck, hop⟩] at hcm
  have hsR := hhs.rd (W0 := W0)
  have hlen : (x.obs ++ x.seen).length = x.obs.length + x.seen.length := List.length_append
  rcases hcode with hc1 | hc9
  · rw [end_c hc1]
    rw [hc1] at hcd
    repeat' ((try (conv => whnf)); first | (refine br_te ?_ ?_; exact rfl) | (refine br_fe ?_ ?_; exact rfl) | (refine app_l hho hsR rfl rfl (by omega) (fun _ _ => rfl) (fun _ => by omega) (fun a2 c2 D2 hb2 => ?_)) | (refine new_i (fun bk hbk => ?_)) | (apply app_iE (enc := ObM.enc) (T := 54) (⟨x.bg, 3, 1⟩ : ObM) hb2 hlen.symm; (exact rfl); (exact rfl); (omega); (exact rfl); (exact rfl); (omega); intro a5 c5 D5 hb5) | ((with_reducible show CallT _ _ _ _ _ _); first | ((refine call_x (hfr _ inferInstance) ?_ ?_ (fun y v hv => ?_); (exact rfl); (exact rfl); (subst hv))) | ((refine call_bk (sp_tTo (c := c) (t := t) (n := n) (p := p) (h := ⟨hb, .pointer none, lb, ca, cc, sa, sc, sD, a5, c5, D5⟩) (x := { x with at' := none, obs := x.obs ++ x.seen ++ [⟨x.bg, 3, 1⟩], tr := 0, th := { x.th with oc := 1 } }) (endM p x.bg + 1) _) ?_ ?_ ?_ (fun _ v hv => ?_); (solve | exact rfl | (unfold thP; simp only [List.length_append]; rfl)); (exact rfl); (exact rfl); (subst hv)))) | ((with_reducible show CallQ _ _ _ _ _ _); first | ((refine call_qi (fun ex => hcd _ inferInstance) ?_ ?_ ?_; (exact rfl); (exact rfl))) | ((refine call_qi (fun ex => hcm _ inferInstance) ?_ ?_ ?_; (exact rfl); (exact rfl)))) | (refine ari ?_ ?_; omega) | (refine aru ?_ ?_; omega) | (apply ld_o; exact rfl) | (apply st_o; (exact rfl); exact rfl))
    all_goals exact ⟨⟨hb, .pointer none, lb, ca, cc, sa, sc, sD, a5, c5, D5⟩, ⟨rfl, rfl, rfl, rfl, ⟨hhs, hb5⟩⟩, (by refine sb_ent ?_; (repeat (first | exact sb_refl | exact sb_nil | refine sb_fr ?_ | refine sb_pu rfl ?_ | refine sb_cons ?_ | refine sb_app ?_)))⟩
  · rw [hc9] at hcd
    have him : ((p[x.bg]?).map (·.imm)).getD 0 = bi.imm := by rw [hbi]; rfl
    by_cases hlt : (x.tr : Int) < bi.imm
    · rw [end_r hc9 (by rw [him]; exact hlt)]
      repeat' ((try (conv => whnf)); first | (refine br_te ?_ ?_; exact rfl) | (refine br_fe ?_ ?_; exact rfl) | (apply br_pyE; (exact rfl); omega) | ((with_reducible show Ld _ _ _ _); first | (refine ldEk hC hbi rfl ?_)) | ((with_reducible show IxS _ _ _ _ _); first | ((refine ixE hC hbi ?_ ?_; (first | rfl | omega)))) | ((with_reducible show CallT _ _ _ _ _ _); first | ((refine call_bk (sp_tTo (c := c) (t := t) (n := n) (p := p) (h := ⟨hb, .pointer none, lb, ca, cc, sa, sc, sD, oa, oc, oD⟩) (x := { x with at' := none, th := { x.th with rg := x.sv } }) x.bg _) ?_ ?_ ?_ (fun _ v hv => ?_); (solve | exact rfl | (unfold thP; simp only [List.length_append]; rfl)); (exact rfl); (exact rfl); (subst hv)))) | ((with_reducible show CallQ _ _ _ _ _ _); first | ((refine call_qi (fun ex => hcd _ inferInstance) ?_ ?_ ?_; (exact rfl); (exact rfl)))) | (apply ld_o; exact rfl) | (apply ldN_o; (exact rfl); exact rfl) | (apply st_o; (exact rfl); exact rfl) | (apply stN_o; (exact rfl); (exact rfl); exact rfl))
      all_goals exact ⟨⟨hb, .pointer none, lb, ca, cc, sa, sc, sD, oa, oc, oD⟩, ⟨rfl, rfl, rfl, rfl, ⟨hhs, hho⟩⟩, (by refine sb_ent ?_; (repeat (first | exact sb_refl | exact sb_nil | refine sb_fr ?_ | refine sb_pu rfl ?_ | refine sb_cons ?_ | refine sb_app ?_)))⟩
    · rw [end_n hc9 (by rw [him]; exact hlt)]
      repeat' ((try (conv => whnf)); first | (refine br_te ?_ ?_; exact rfl) | (refine br_fe ?_ ?_; exact rfl) | (apply br_pnE; (exact rfl); omega) | (refine new_i (fun bk hbk => ?_)) | (apply app_iE (enc := ObM.enc) (T := 54) (⟨x.bg, 3, 5⟩ : ObM) hho rfl; (exact rfl); (exact rfl); (omega); (exact rfl); (exact rfl); (omega); intro a5 c5 D5 hb5) | ((with_reducible show Ld _ _ _ _); first | (refine ldEk hC hbi rfl ?_)) | ((with_reducible show IxS _ _ _ _ _); first | ((refine ixE hC hbi ?_ ?_; (first | rfl | omega)))) | ((with_reducible show CallT _ _ _ _ _ _); first | ((refine call_bk (sp_tTo (c := c) (t := t) (n := n) (p := p) (h := ⟨hb, .pointer none, lb, ca, cc, sa, sc, sD, a5, c5, D5⟩) (x := { x with at' := none, th := { x.th with rg := x.sv, oc := 5 }, tr := 0, obs := x.obs ++ [⟨x.bg, 3, 5⟩] }) (endM p x.bg + 1) _) ?_ ?_ ?_ (fun _ v hv => ?_); (solve | exact rfl | (unfold thP; simp only [List.length_append]; rfl)); (exact rfl); (exact rfl); (subst hv)))) | ((with_reducible show CallQ _ _ _ _ _ _); first | ((refine call_qi (fun ex => hcd _ inferInstance) ?_ ?_ ?_; (exact rfl); (exact rfl))) | ((refine call_qi (fun ex => hcm _ inferInstance) ?_ ?_ ?_; (exact rfl); (exact rfl)))) | (refine ari ?_ ?_; omega) | (refine aru ?_ ?_; omega) | (apply ld_o; exact rfl) | (apply ldN_o; (exact rfl); exact rfl) | (apply st_o; (exact rfl); exact rfl) | (apply stN_o; (exact rfl); (exact rfl); exact rfl))
      all_goals exact ⟨⟨hb, .pointer none, lb, ca, cc, sa, sc, sD, a5, c5, D5⟩, ⟨rfl, rfl, rfl, rfl, ⟨hhs, hb5⟩⟩, (by refine sb_ent ?_; (repeat (first | exact sb_refl | exact sb_nil | refine sb_fr ?_ | refine sb_pu rfl ?_ | refine sb_cons ?_ | refine sb_app ?_)))⟩
end
end Go.Proofs.YtllddgdmmfmpkaaGreatDoor
namespace Go.Proofs.YtllddgdmmfmpkaaGreatDoor
open Go
set_option maxRecDepth 10000
set_option maxHeartbeats 8000000
def AtO (W0 : World) (c : Cfg) (t : Nat) (h : TH) (x : GT) (A : Own) : Prop :=
  match x.at' with
  | none => h.ap = .pointer none ∧ A = []
  | some a => ∃ (ah : AH) (E : Own), h.ap = ptr ah.b ∧ ah.ok c a ∧ PhO W0 c t ah a E ∧ A = ah.O c t a a.ph.no a.ph.en E
structure EvO (W0 : World) (ea : Option Addr) (ec : Nat) (el : List EH) (eD : Own) : Prop where
  r : RdE EH.enc 6 W0 eD ea el
  c : el.length ≤ ec
  n : el.length ≤ 1
  v : ∀ e ∈ el, (RdE encI 1 W0 eD e.ra e.rl ∧ RdE encI 1 W0 eD e.wa e.wl) ∧ e.rl.length ≤ 100000 ∧ e.wl.length ≤ 100000
theorem EvO.nil {W0 : World} : EvO W0 none 0 [] [] := ⟨RdE.nil, Nat.le_refl _, Nat.zero_le _, fun _ h => (by cases h)⟩
structure TR where
  h : TH
  A : Own
  ea : Option Addr
  ec : Nat
  el : List EH
  eD : Own
abbrev stV (s : StM) : Value := .agg #[.int .i64 s.t, .int .i64 s.ph, .int .i64 s.at', .int .i64 s.ac.k, .int .i64 s.ac.c, .int .i64 s.ac.i, .int .u64 s.ac.got, .int .u64 s.ac.put, .bool s.ac.dn]
abbrev TR.O (s : TR) (c : Cfg) (t n : Nat) (p : List Ins) (x : GT) (Q : Own) : Own := (s.h.b, thP c t n p s.h x) :: (s.A ++ (s.h.sD ++ (s.h.oD ++ (s.eD ++ Q))))
structure TR.ok (W0 : World) (s : TR) (c : Cfg) (t : Nat) (h : TH) (x : GT) : Prop where
  b : s.h.b = h.b
  ca : s.h.ca = h.ca
  ok : s.h.ok x
  at' : AtO W0 c t s.h x s.A
  ev : EvO W0 s.ea s.ec s.el s.eD
theorem AH.b_eq {h : AH} {b : Nat} (e : h.b = b) : ∃ h' : AH, h = { h' with b := b } := ⟨h, by cases h; cases e; rfl⟩
section
variable {W0 : World} {own Q E : Own} {c : Cfg} {t n : Nat} {p : List Ins} {h : TH} {x : GT} {k : Int} {b e : Nat} {a : AT} {ah : AH} {mh : MH} {m : MS}
theorem sp_abusy (hb : Cl W0 own ah.b 31 (.int .i64 a.ph.no)) : Pure Tryz.prog W0 29 [ptr ah.b] own (.bool a.busy) := by
  have := sp_busy hb
  rw [show decide (a.ph.no ≠ 0) = a.busy by unfold AT.busy; cases a.ph <;> rfl] at this
  exact this
theorem sp_tAdv1 {m' : MS} {a' : AT} {ac : AcM} {ph : Int} (hh : h.ok x) (hap : h.ap = ptr ah.b) (hok : ah.ok c a) (hM : mh.ok m.L) (hP : PhO W0 c t ah a E) (hA : okA c t m a) (hz : stepA c t m a = (m', a', ac, ph)) (h3 : ph ≠ 3) (h16 : ph ≠ 16 ∨ a'.dn = false) (hb : a'.busy = true) (Q : Own) :
    Spec Tryz.prog W0 30 [ptr h.b, ptr mh.mb] ((h.b, thP c t n p h x) :: ah.O c t a a.ph.no a.ph.en (E ++ (mh.O m ++ (h.sD ++ (h.oD ++ Q))))) fun v own' =>
    ∃ s : TR, (v = .tuple #[stV ⟨0, ph, x.ct, ac⟩, .slice s.ea s.el.length s.ec] ∧ s.ok W0 c t h { x with at' := some a' }) ∧ Ent W0 own' (s.O c t n p { x with at' := some a' } (mh.O m' ++ Q)) := by
  refine spec_of mixed low_thread_Thread_advance (by simp [ir_thread_Thread_advance]) ?_
  have hs := fun Q => sp_aStep hok hM hP hA Q
  unfold StQ AtQ at hs
  rw [hz] at hs
  dsimp only at hs
  obtain ⟨hb', ap, lb, ca, cc, sa, sc, sD, oa, oc, oD⟩ := h
  obtain ⟨hhs, hho⟩ := hh
  dsimp only at hap hhs hho ⊢
  subst hap
  have hbz := fun (y : AH) (own' : Own) (m1 : MemC y.b (atP c t y a' a'.ph.no) own') => sp_abusy (W0 := W0) (own := own') (a := a') (ah := y) (cl_of m1 rfl)
  have hdn := fun (y : AH) (own' : Own) (m1 : MemC y.b (atP c t y a' a'.ph.no) own') => sp_adecided (W0 := W0) (own := own') (b := y.b) (d := a'.dn) (cl_of m1 rfl)
  rw [hb] at hbz
  by_cases hp16 : ph = 16
  · subst hp16
    rw [h16.resolve_left (fun h => h rfl)] at hdn
    repeat' ((try (conv => whnf)); first | (refine when_ye ?_ ?_; exact rfl) | (refine br_fe ?_ ?_; exact rfl) | ((with_reducible show CallT _ _ _ _ _ _); first | ((refine call_pe (hdz _ inferInstance) ?_ ?_ ?_; (exact rfl); exact rfl)) | ((refine call_pe (hby _ inferInstance) ?_ ?_ ?_; (exact rfl); exact rfl)) | ((refine call_sB (b := ah.b) (D := AH.R ah c t a a.ph.en (E ++ (mh.O m ++ []))) hs (fun Q => (by refine sb_ent ?_; (repeat (first | exact sb_refl | exact sb_nil | refine sb_fr ?_ | refine sb_pu rfl ?_ | refine sb_cons ?_ | refine sb_app ?_)))) ?_ ?_ ?_ (fun y v hv => ?_); (exact rfl); (exact rfl); (exact rfl); (obtain ⟨ah1, E1⟩ := y; obtain ⟨rfl, hyb, hyo, hyp⟩ := hv; obtain ⟨ah2, rfl⟩ := AH.b_eq hyb; have hby := hbz { ah2 with b := ah.b }; have hdz := hdn { ah2 with b := ah.b })))) | (apply sel; exact rfl) | (apply ld_o; exact rfl) | (apply ldN_a; exact rfl) | (apply st_o; (exact rfl); exact rfl) | (apply stN_o; (exact rfl); (exact rfl); exact rfl) | (refine new_i (fun bk hbk => ?_)))
    all_goals exact ⟨⟨⟨hb', ptr ah.b, lb, ca, cc, sa, sc, sD, oa, oc, oD⟩, AH.O { ah2 with b := ah.b } c t a' a'.ph.no a'.ph.en E1, none, 0, [], []⟩, ⟨rfl, ⟨rfl, rfl, ⟨hhs, hho⟩, ⟨{ ah2 with b := ah.b }, E1, rfl, hyo, hyp, rfl⟩, EvO.nil⟩⟩, by unfold TR.O; dsimp only; simp only [List.append_assoc, List.cons_append, List.nil_append]; exact (by refine sb_ent ?_; (repeat (first | exact sb_refl | exact sb_nil | refine sb_fr ?_ | refine sb_pu rfl ?_ | refine sb_cons ?_ | refine sb_app ?_)))⟩
  · repeat' ((try (conv => whnf)); first | (refine when_ne ?_ ?_; exact rfl) | (refine br_fe ?_ ?_; exact rfl) | (apply br_pnE; (exact rfl); omega) | (apply when_pnE; (exact rfl); omega) | ((with_reducible show CallT _ _ _ _ _ _); first | ((refine call_pe (hby _ inferInstance) ?_ ?_ ?_; (exact rfl); exact rfl)) | ((refine call_sB (b := ah.b) (D := AH.R ah c t a a.ph.en (E ++ (mh.O m ++ []))) hs (fun Q => (by refine sb_ent ?_; (repeat (first | exact sb_refl | exact sb_nil | refine sb_fr ?_ | refine sb_pu rfl ?_ | refine sb_cons ?_ | refine sb_app ?_)))) ?_ ?_ ?_ (fun y v hv => ?_); (exact rfl); (exact rfl); (exact rfl); (obtain ⟨ah1, E1⟩ := y; obtain ⟨rfl, hyb, hyo, hyp⟩ := hv; obtain ⟨ah2, rfl⟩ := AH.b_eq hyb; have hby := hbz { ah2 with b := ah.b })))) | (apply sel; exact rfl) | (apply ld_o; exact rfl) | (apply ldN_a; exact rfl) | (apply st_o; (exact rfl); exact rfl) | (apply stN_o; (exact rfl); (exact rfl); exact rfl) | (refine new_i (fun bk hbk => ?_)))
    all_goals exact ⟨⟨⟨hb', ptr ah.b, lb, ca, cc, sa, sc, sD, oa, oc, oD⟩, AH.O { ah2 with b := ah.b } c t a' a'.ph.no a'.ph.en E1, none, 0, [], []⟩, ⟨rfl, ⟨rfl, rfl, ⟨hhs, hho⟩, ⟨{ ah2 with b := ah.b }, E1, rfl, hyo, hyp, rfl⟩, EvO.nil⟩⟩, by unfold TR.O; dsimp only; simp only [List.append_assoc, List.cons_append, List.nil_append]; exact (by refine sb_ent ?_; (repeat (first | exact sb_refl | exact sb_nil | refine sb_fr ?_ | refine sb_pu rfl ?_ | refine sb_cons ?_ | refine sb_app ?_)))⟩
end
end Go.Proofs.YtllddgdmmfmpkaaGreatDoor
namespace Go.Proofs.YtllddgdmmfmpkaaGreatDoor
open Go
set_option maxRecDepth 10000
set_option maxHeartbeats 8000000
section
variable {W0 : World} {own Q E : Own} {c : Cfg} {t n : Nat} {p : List Ins} {h : TH} {x : GT} {k : Int} {b e : Nat} {a : AT} {ah : AH}
theorem sp_tAnsE {kd : Int} {bi i : Ins} {cD : Own} (hF : FormsAt W0) (hh : h.ok x) (hl : x.seen.length ≤ 100000) (hl2 : x.obs.length ≤ 100000) (hap : h.ap = ptr ah.b) (hC : RdE Ins.enc 5 W0 cD h.ca p) (hp : p.length ≤ 100000) (hbi : p[x.bg]? = some bi) (hop : bi.op = 7) (hck : (checkP p).2 = 0) (hend : endM p x.bg ≤ 100000) (hcode : a.code = 1 ∨ a.code = 9) (hst : a.st = 2) (Q : Own) [eq : EntC Q cD] :
    Spec Tryz.prog W0 51 [ptr h.b, i.v] ((h.b, thP c t n p h x) :: (ah.b, atP c t ah a kd) :: (h.sD ++ (h.oD ++ Q))) fun v own' =>
    ∃ h' : TH, (v = .tuple #[] ∧ h'.b = h.b ∧ h'.ap = .pointer none ∧ h'.ca = h.ca ∧ h'.ok (x.ans p a i)) ∧ Ent W0 own' ((h'.b, thP c t n p h' (x.ans p a i)) :: (h'.sD ++ (h'.oD ++ Q))) := by
  refine spec_of mixed low_thread_Thread_answered (by simp [ir_thread_Thread_answered]) ?_
  rw [ans_e hst]
  have he := sp_tEnd (c := c) (t := t) (n := n) (kd := kd) hF hh hl hl2 hap hC hp hbi hop hck hend hcode Q
  have hsa := fun (own' : Own) (m1 : MemC ah.b (atP c t ah a kd) own') => sp_astate (W0 := W0) (own := own') (b := ah.b) (k := a.st) (cl_of m1 rfl)
  rw [hst] at hsa
  obtain ⟨hb, ap, lb, ca, cc, sa, sc, sD, oa, oc, oD⟩ := h
  dsimp only at hap ⊢ he
  subst hap
  obtain ⟨op, ia, ib, ic, imm⟩ := i
  dsimp only [Ins.v]
  repeat' ((try (conv => whnf)); first | (refine when_ye ?_ ?_; exact rfl) | (refine br_te ?_ ?_; exact rfl) | (refine br_fe ?_ ?_; exact rfl) | ((with_reducible show CallT _ _ _ _ _ _); first | ((refine call_pe (hsa _ inferInstance) ?_ ?_ ?_; (exact rfl); exact rfl)) | ((refine call_to he (by refine sb_ent ?_; (repeat (first | exact sb_refl | exact sb_nil | refine sb_fr ?_ | refine sb_pu rfl ?_ | refine sb_cons ?_ | refine sb_app ?_))) ?_ ?_ (fun y v hv => ?_); (exact rfl); (exact rfl); (obtain ⟨rfl, hv⟩ := hv)))) | (apply ld_o; exact rfl) | (refine new_i (fun bk hbk => ?_)))
  all_goals exact ⟨y, ⟨rfl, hv⟩, Ent.refl⟩
theorem sp_tAnsN {kd : Int} {i : Ins} (hh : h.ok x) (hl : x.seen.length ≤ 100000) (hap : h.ap = ptr ah.b) (hpc : x.th.pc ≤ 1000000) (hi : i = ⟨10, 1, 0, 0, 0⟩ ∨ (i.op ≠ 10 ∧ i.op ≠ 14)) (hst : a.st ≠ 2) (Q : Own) :
    Spec Tryz.prog W0 51 [ptr h.b, i.v] ((h.b, thP c t n p h x) :: (ah.b, atP c t ah a kd) :: (h.sD ++ (h.oD ++ Q))) fun v own' =>
    ∃ h' : TH, (v = .tuple #[] ∧ h'.b = h.b ∧ h'.ap = h.ap ∧ h'.ca = h.ca ∧ h'.ok (x.ans p a i)) ∧ Ent W0 own' ((h'.b, thP c t n p h' (x.ans p a i)) :: (ah.b, atP c t ah a kd) :: (h'.sD ++ (h'.oD ++ Q))) := by
  refine spec_of mixed low_thread_Thread_answered (by simp [ir_thread_Thread_answered]) ?_
  have hsa := fun (own' : Own) (m1 : MemC ah.b (atP c t ah a kd) own') => sp_astate (W0 := W0) (own := own') (b := ah.b) (k := a.st) (cl_of m1 rfl)
  have hgt := fun Q => sp_tGot (c := c) (t := t) (n := n) (p := p) (kd := kd) (a := a) hh hl hap Q (W0 := W0)
  obtain ⟨hb, ap, lb, ca, cc, sa, sc, sD, oa, oc, oD⟩ := h
  dsimp only at hap ⊢ hgt
  subst hap
  obtain ⟨hhs, hho⟩ := hh
  dsimp only at hhs hho
  rcases hi with rfl | ⟨h10, h14⟩
  · rw [ans_r hst rfl]
    dsimp only [Ins.v]
    repeat' ((try (conv => whnf)); first | (refine when_ne ?_ ?_; exact rfl) | (refine br_te ?_ ?_; exact rfl) | (refine br_fe ?_ ?_; exact rfl) | (apply br_pnE; (exact rfl); omega) | (apply when_pnE; (exact rfl); omega) | ((with_reducible show CallT _ _ _ _ _ _); first | ((refine call_pe (hsa _ inferInstance) ?_ ?_ ?_; (exact rfl); exact rfl)) | ((refine call_sB (b := hb) (D := (ah.b, atP c t ah a kd) :: (sD ++ [])) hgt (fun Q => by simp only [List.cons_append, List.append_assoc, List.nil_append]; exact (by refine sb_ent ?_; (repeat (first | exact sb_refl | exact sb_nil | refine sb_fr ?_ | refine sb_pu rfl ?_ | refine sb_cons ?_ | refine sb_app ?_)))) ?_ ?_ ?_ (fun y v hv => ?_); (exact rfl); (exact rfl); (exact rfl); (obtain ⟨a5, c5, D5⟩ := y; obtain ⟨rfl, hB5⟩ := hv; dsimp only at hB5))) | ((refine call_bk (sp_tNext (c := c) (t := t) (n := n) (p := p) (h := ⟨hb, ptr ah.b, lb, ca, cc, a5, c5, D5, oa, oc, oD⟩) (x := { x with th := { x.th with rg := x.th.rg.set 1 a.val }, seen := x.seen ++ [⟨x.th.pc, 1, a.val⟩] }) hpc _) ?_ ?_ ?_ (fun _ v hv => ?_); (exact rfl); (exact rfl); (exact rfl); (subst hv)))) | (apply ld_o; exact rfl) | (refine new_i (fun bk hbk => ?_)))
    all_goals exact ⟨⟨hb, ptr ah.b, lb, ca, cc, a5, c5, D5, oa, oc, oD⟩, ⟨rfl, rfl, rfl, rfl, ⟨hB5, hho⟩⟩, (by refine sb_ent ?_; (repeat (first | exact sb_refl | exact sb_nil | refine sb_fr ?_ | refine sb_pu rfl ?_ | refine sb_cons ?_ | refine sb_app ?_)))⟩
  · rw [ans_n hst h10]
    obtain ⟨op, ia, ib, ic, imm⟩ := i
    dsimp only [Ins.v] at h10 h14 ⊢
    repeat' ((try (conv => whnf)); first | (refine when_ne ?_ ?_; exact rfl) | (refine br_fe ?_ ?_; exact rfl) | (apply br_pnE; (exact rfl); omega) | (apply when_pnE; (exact rfl); omega) | ((with_reducible show CallT _ _ _ _ _ _); first | ((refine call_pe (hsa _ inferInstance) ?_ ?_ ?_; (exact rfl); exact rfl)) | ((refine call_bk (sp_tNext (c := c) (t := t) (n := n) (p := p) (h := ⟨hb, ptr ah.b, lb, ca, cc, sa, sc, sD, oa, oc, oD⟩) (x := x) hpc _) ?_ ?_ ?_ (fun _ v hv => ?_); (exact rfl); (exact rfl); (exact rfl); (subst hv)))) | (apply ld_o; exact rfl) | (refine new_i (fun bk hbk => ?_)))
    all_goals exact ⟨⟨hb, ptr ah.b, lb, ca, cc, sa, sc, sD, oa, oc, oD⟩, ⟨rfl, rfl, rfl, rfl, ⟨hhs, hho⟩⟩, (by refine sb_ent ?_; (repeat (first | exact sb_refl | exact sb_nil | refine sb_fr ?_ | refine sb_pu rfl ?_ | refine sb_cons ?_ | refine sb_app ?_)))⟩
end
end Go.Proofs.YtllddgdmmfmpkaaGreatDoor
