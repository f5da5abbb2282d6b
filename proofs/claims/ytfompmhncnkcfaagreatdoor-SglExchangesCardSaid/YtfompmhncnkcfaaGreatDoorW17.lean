/- What the laws share, part 17. No condition. -/
import Derived.Test.YtfompmhncnkcfaaGreatDoorW16
namespace Go.Proofs.YtfompmhncnkcfaaGreatDoor
open Go Go.RowKit
set_option maxRecDepth 10000
set_option maxHeartbeats 4000000
theorem arx {e : Int} {K : Int → Prop} (h : ∀ m, 0 ≤ m ∧ m ≤ 18446744073709551615 → K m) : Arith .u64 e K := by
  refine ⟨h _ ?_⟩
  have : IntKind.u64.wrap e = e % 18446744073709551616 := by
    simp [IntKind.wrap, IntKind.signed, IntKind.bits]
  rw [this]; omega
theorem call_mk {α : Type} {en : α → Value} {Φ : α → Prop} {P : Program} {W0 : World} {own : Own} {k : FuncId} {args : List Value} {K : Value → Own → Prop} (h : Spec P W0 k args own fun v own' => ∃ x, v = en x ∧ Φ x ∧ Ent W0 own' own) (hk : ∀ x, Φ x → K (en x) own) : CallT P W0 own k args K :=
  ⟨fun w hw => (h w hw).mono fun _ _ ⟨_, _, he, hs, x, hv, hx, hE⟩ => ⟨_, own, by rw [he, hv], hE _ hs, hk x hx⟩⟩
abbrev encN (n : Nat) : List Value := [.int .i64 n]
structure PS where
  i : Nat
  o : Bool
  b : Int
  p : List Ins
  a : Option Addr
  cap : Nat
  D : Own
  js : List Nat
  a2 : Option Addr
  cap2 : Nat
  D2 : Own
structure PI (n : Nat) (most : Int) (s : PS) : Prop where
  le : s.i ≤ n
  ob : s.o = decide (0 ≤ s.b)
  mkd : Mk s.p s.b
  bp : BufE Ins.enc 69 5 s.a s.cap s.p s.D
  bj : BufE encN 3 1 s.a2 s.cap2 s.js s.D2
  lp : s.p.length + 1 ≤ most
  lj : s.js.length ≤ s.p.length
  asc : s.js.Pairwise (· < ·)
  zer : ∀ j ∈ s.js, ∃ x, s.p[j]? = some x ∧ x.imm = 0
  rng : ∀ x ∈ s.p, 0 ≤ x.imm ∧ x.imm ≤ 64
theorem icheck_a {y : Ins} (h : icheck y = 0) (ho : y.op = 5 ∨ y.op = 6) {m : Int} (hm : 0 ≤ m ∧ m < 8) : icheck ⟨y.op, m, y.b, y.c, y.imm⟩ = 0 := by
  unfold icheck at *
  rw [if_neg (by omega)] at h
  rw [if_neg (by simp only; omega)]
  split at h
  · rename_i hr
    have ha : regOk (useA y.op) m := by rcases ho with e | e <;> rw [e] <;> simpa [regOk, useA] using hm
    rw [if_pos ⟨ha, hr.2⟩]
    exact h
  · cases h
theorem PI.next {n : Nat} {most : Int} {s : PS} (h : PI n most s) (hi : s.i < n) (hl : (s.p.length : Int) + 1 < most) {y : Ins} (hf : fits s.o y.op) (hc : icheck y = 0) (hz : y.op = 4 ∨ y.op = 5 ∨ y.op = 6 → y.imm = 0) (hr : 0 ≤ y.imm ∧ y.imm ≤ 64)
    {a : Option Addr} {cap : Nat} {D : Own} (hb : BufE Ins.enc 69 5 a cap (s.p ++ [y]) D) {o : Bool} (ho : o = if y.op = 7 then true else if y.op = 8 then false else s.o) :
    PI n most ⟨s.i + 1, o, nextB y s.p.length s.b, s.p ++ [y], a, cap, D, s.js, s.a2, s.cap2, s.D2⟩ := by
  refine ⟨by simp only; omega, ?_, h.mkd.snoc (fits_one hf hc h.ob) (fun hs => hz (skips_op hs).1), hb, h.bj, by simp; omega, ?_, h.asc, fun j hj => ?_, fun x hx => by
    rcases List.mem_append.1 hx with hx | hx
    · exact h.rng x hx
    · rw [List.mem_singleton.1 hx]; exact hr⟩
  · simp only
    rw [ho]
    unfold nextB
    split
    · exact (decide_eq_true (by omega)).symm
    · split
      · exact (decide_eq_false (by omega)).symm
      · exact h.ob
  · have := h.lj
    simp; omega
  · obtain ⟨x, hx, h0⟩ := h.zer j hj
    exact ⟨x, by rw [List.getElem?_append_left (List.getElem?_eq_some_iff.1 hx).1]; exact hx, h0⟩
theorem PI.jump {n : Nat} {most : Int} {s : PS} (h : PI n most s) (hi : s.i < n) (hl : (s.p.length : Int) + 1 < most) {y : Ins} (hf : fits s.o y.op) (hc : icheck y = 0) (hj : y.op = 4 ∨ y.op = 5 ∨ y.op = 6) (hz : y.imm = 0)
    {a : Option Addr} {cap : Nat} {D : Own} (hb : BufE Ins.enc 69 5 a cap (s.p ++ [y]) D) {a2 : Option Addr} {cap2 : Nat} {D2 : Own} (hb2 : BufE encN 3 1 a2 cap2 (s.js ++ [s.p.length]) D2) :
    PI n most ⟨s.i + 1, s.o, s.b, s.p ++ [y], a, cap, D, s.js ++ [s.p.length], a2, cap2, D2⟩ := by
  have h1 := h.next hi hl hf hc (fun _ => hz) (by rw [hz]; exact ⟨by decide, by decide⟩) hb (o := s.o) (by rw [if_neg (by omega), if_neg (by omega)])
  have hn : nextB y s.p.length s.b = s.b := by unfold nextB; rw [if_neg (by omega), if_neg (by omega)]
  have hlt : ∀ j ∈ s.js, j < s.p.length := fun j hj => by
    obtain ⟨x, hx, _⟩ := h.zer j hj
    exact (List.getElem?_eq_some_iff.1 hx).1
  refine ⟨h1.le, h.ob, by have := h1.mkd; simp only [hn] at this; exact this, hb, hb2, h1.lp, ?_, ?_, fun j hj => ?_, h1.rng⟩
  · have := h.lj
    simp; omega
  · rw [List.pairwise_append]
    exact ⟨h.asc, List.pairwise_singleton _ _, fun j hj k hk => by rw [List.mem_singleton.1 hk]; exact hlt j hj⟩
  · rcases List.mem_append.1 hj with hj | hj
    · exact h1.zer j hj
    · rw [List.mem_singleton.1 hj]
      exact ⟨y, by simp, hz⟩
theorem PI.commit {n : Nat} {most : Int} {s : PS} (h : PI n most s) (ho : s.o = true) : Mk (s.p ++ [⟨8, 0, 0, 0, 0⟩]) (nextB ⟨8, 0, 0, 0, 0⟩ s.p.length s.b) ∧ nextB ⟨8, 0, 0, 0, 0⟩ s.p.length s.b < 0 ∧ ∀ j ∈ s.js, ∃ x, (s.p ++ [⟨8, 0, 0, 0, 0⟩])[j]? = some x ∧ x.imm = 0 := by
  refine ⟨h.mkd.snoc (fits_one (o := s.o) (by rw [ho]; simp [fits]) rfl h.ob) (fun _ => rfl), by simp [nextB], fun j hj => ?_⟩
  obtain ⟨x, hx, h0⟩ := h.zer j hj
  exact ⟨x, by rw [List.getElem?_append_left (List.getElem?_eq_some_iff.1 hx).1]; exact hx, h0⟩
theorem ixE_n {α : Type} {enc : α → List Value} {sz : Nat} {W0 : World} {own : Own} {a : Option Addr} {l : List α} {i : Int} {n : Nat} {K : Addr → Prop} {j : Nat} {x : α} (h : RdE enc sz W0 own a l) (hx : l[j]? = some x) (hn : n = l.length) (hi : i = j) (hk : K ⟨ab a, ao a + j * sz, none⟩) : IxS a sz i n K := by
  subst hn; exact ixE h hx hi hk
theorem set_back {l : List Ins} {j : Nat} {x y : Ins} (hx : l[j]? = some x) (h0 : x.imm = 0) : (l.set j y).set j ⟨x.op, x.a, x.b, x.c, 0⟩ = l := by
  obtain ⟨hj, he⟩ := List.getElem?_eq_some_iff.1 hx
  rw [List.set_set]
  have : (⟨x.op, x.a, x.b, x.c, 0⟩ : Ins) = l[j] := by rw [he, ← h0]
  rw [this, List.set_getElem_self]
theorem asc_ne {l : List Nat} (h : l.Pairwise (· < ·)) {a b i j : Nat} (hi : l[a]? = some i) (hj : l[b]? = some j) (hab : a < b) : i ≠ j := by
  obtain ⟨h1, e1⟩ := List.getElem?_eq_some_iff.1 hi
  obtain ⟨h2, e2⟩ := List.getElem?_eq_some_iff.1 hj
  have := (List.pairwise_iff_getElem.1 h) a b h1 h2 hab
  omega
theorem checkG_zero (tgt : Nat → Int → Ins → Int) : ∀ (l : List Ins) (k : Nat) (b : Int), (checkG tgt l k b).2 = 0 → checkG tgt l k b = (0, 0)
  | [], k, b, h => by
    unfold checkG at *
    split at h
    · cases h
    · rename_i hb
      rw [if_neg hb]
  | x :: l, k, b, h => by
    unfold checkG at *
    split at h
    · rename_i h1
      exact absurd h h1
    · rename_i h1
      rw [if_neg h1]
      exact checkG_zero tgt l (k + 1) _ h
theorem checkR_zero {p : List Ins} (h : (checkR p).2 = 0) : checkR p = (0, 0) := by
  unfold checkR at *
  split at h
  · cases h
  · rename_i h1
    rw [if_neg h1]
    exact checkG_zero _ _ _ _ h
section
variable {W0 : World} {own : Own} {la : Option Addr} {lc : Nat} {l : List Int}
theorem sp_program (most : Int) (heap plain : Bool) (hL : RdE (fun n => [.int .i64 n]) 1 W0 own la l) (hl : l.length ≤ 1000000) (hm : 1 ≤ most ∧ most ≤ 64) :
    Spec Tryz.prog W0 53 [.slice la l.length lc, .int .i64 most, .bool heap, .bool plain] own fun v own' =>
      ∃ a cap D p, v = .slice a (List.length p) cap ∧ BufE Ins.enc 69 5 a cap p D ∧ Ent W0 own' (D ++ own) ∧ checkR p = (0, 0) ∧ (p.length : Int) ≤ most ∧ ∀ x ∈ p, 0 ≤ x.imm ∧ x.imm ≤ 64 := by
  refine spec_of mixed lowc_make_Program (by simp [irc_make_Program]) ?_
  (try (conv => whnf))
  refine loop_i (σ := PS) (fun s => [(9, .slice s.a s.p.length s.cap), (10, .bool s.o), (11, .slice s.a2 s.js.length s.cap2), (12, .int .i64 s.i)]) (fun s => s.D ++ (s.D2 ++ own)) (PI l.length most) (fun s => l.length - s.i) ⟨0, false, -1, [], none, 0, [], [], none, 0, []⟩
    ⟨by simp, rfl, Mk.nil, BufE.nil, BufE.nil, by simp; omega, by simp, List.Pairwise.nil, fun _ h => (by cases h), fun _ h => (by cases h)⟩ (by repeat' (first | exact True.intro | refine And.intro ?_ ?_ | exact rfl | exact vi (by omega) | (dsimp only; exact rfl) | (dsimp only; exact vi (by omega)))) Ent.refl rfl ?_
  · rintro s junk hPI
    have hPI' := hPI
    obtain ⟨hi, hob, hmk, hbp, hbj, hlp, hlj, hasc, hzer, hrng⟩ := hPI'
    by_cases hlt : s.i < l.length ∧ (s.p.length : Int) + 1 < most
    · obtain ⟨x, hx⟩ : ∃ x, l[s.i]? = some x := ⟨_, List.getElem?_eq_getElem hlt.1⟩
      have hh1 : (s.i : Int) < l.length := by omega
      have hh2 : (s.p.length : Int) < most - 1 := by omega
      repeat' ((try (conv => whnf)); first | (refine when_ye ?_ ?_; exact rfl) | (apply br_pyE; (exact rfl); omega) | (apply when_pyE; (exact rfl); omega) | (refine arx (fun m hm => ?_)) | (refine quo_u ?_ ?_; omega) | ((with_reducible show Ld _ _ _ _); first | (refine ldE0 hL hx rfl ?_)) | ((with_reducible show IxS _ _ _ _ _); first | ((refine ixE hL hx ?_ ?_; (first | rfl | omega)))) | (refine ari ?_ ?_; omega) | (refine rem_i ?_ ?_; omega))
      refine cut_i (σ := Int × Int) 2658455991569831745807605324467707904 (fun r => [(13, .int .u64 r.2), (15, .int .i64 r.1)]) (fun _ => s.D ++ (s.D2 ++ own)) (fun r => (0 ≤ r.2 ∧ r.2 ≤ 18446744073709551615) ∧ fits s.o r.1) rfl ?_ ?_
      · clear hbp hbj hasc hzer hmk hlj hi
        obtain ⟨o, ho⟩ : ∃ o, s.o = o := ⟨_, rfl⟩
        rw [ho]
        cases o <;> cases heap <;> cases plain
        all_goals as_aux_lemma =>
          repeat' ((try (conv => whnf)); first | (refine when_ye ?_ ?_; exact rfl) | (refine when_ne ?_ ?_; exact rfl) | (refine br_te ?_ ?_; exact rfl) | (refine br_fe ?_ ?_; exact rfl) | (apply br_pyE; (exact rfl); omega) | (apply br_pnE; (exact rfl); omega) | (apply when_pyE; (exact rfl); omega) | (apply when_pnE; (exact rfl); omega) | (refine quo_u ?_ ?_; omega) | (apply ld_tab; (repeat (first | exact List.Mem.head _ | apply List.Mem.tail | apply List.mem_append_right)); (simp; omega)) | (exact AllV.nil) | (refine AllV.cons ?_ ?_) | (refine ixs_n ?_ ?_; omega) | (refine new_i (fun bk hbk => ?_)) | (apply when_dE; (exact rfl); (exact rfl); all_goals intro hc) | (apply br_dE; (exact rfl); all_goals intro hc) | (refine rem_i ?_ ?_; omega))
          all_goals refine ⟨(_, _), ⟨?_, ?_⟩, (by repeat' (first | exact True.intro | refine And.intro ?_ ?_ | exact rfl | exact vi (by omega) | (dsimp only; exact rfl) | (dsimp only; exact vi (by omega)))), (by first | exact ent_i | (repeat (first | exact Ent.refl | exact Ent.left | refine Ent.cons ?_ | refine Ent.app ?_)))⟩
          all_goals first | (simp only []; omega) | simp [fits]
      · rintro ⟨op, m2⟩ junk2 ⟨hm2, hf⟩
        simp only at hm2 hf
        have h18 : 0 ≤ op ∧ op < 18 := by unfold fits at hf; omega
        have hins := fun ex => sp_ins W0 ex op m2 h18 hm2
        as_aux_lemma =>
          refine call_mk (hins _) (fun y hy => ?_)
          obtain ⟨hy1, hy2, hy3, hy4⟩ := hy
          subst hy1
          have h6' : (y.op = 5 ∨ y.op = 6) ∨ y.op = 4 ∨ (y.op ≠ 4 ∧ y.op ≠ 5 ∧ y.op ≠ 6) := by omega
          rcases h6' with h6 | h6 | h6
          · rcases h6 with h6 | h6
            all_goals
              repeat' ((try (conv => whnf)); first | (refine when_ye ?_ ?_; exact rfl) | (refine when_ne ?_ ?_; exact rfl) | (refine br_te ?_ ?_; exact rfl) | (apply br_pyE; (exact rfl); omega) | (apply br_pnE; (exact rfl); omega) | (apply when_pyE; (exact rfl); omega) | (apply when_pnE; (exact rfl); omega) | (refine app_1 (enc := encN) s.p.length hbj (by (repeat (first | exact At.head | apply At.tail | apply At.skip))) (by (repeat (first | exact List.Mem.head _ | apply List.Mem.tail | apply List.mem_append_right))) rfl rfl (by omega) rfl rfl (by omega) (fun a1 c1 D1 hb1 => ?_)) | (refine app_1 (enc := Ins.enc) ⟨y.op, m2 % 4, y.b, y.c, y.imm⟩ hbp (by (repeat (first | exact At.head | apply At.tail | apply At.skip))) (by (repeat (first | exact List.Mem.head _ | apply List.Mem.tail | apply List.mem_append_right))) rfl rfl (by omega) rfl rfl (by omega) (fun a3 c3 D3 hb3 => ?_)) | (refine ari ?_ ?_; omega) | (apply ldN_a; exact rfl) | (apply st_o; (exact rfl); exact rfl) | (apply stN_o; (exact rfl); (exact rfl); exact rfl) | (refine new_i (fun bk hbk => ?_)) | (refine rem_i ?_ ?_; omega) | (refine cut_n ?_))
            all_goals refine ⟨⟨s.i + 1, s.o, s.b, s.p ++ [⟨y.op, m2 % 4, y.b, y.c, y.imm⟩], a3, c3, D3, s.js ++ [s.p.length], a1, c1, D1⟩, hPI.jump (y := ⟨y.op, m2 % 4, y.b, y.c, y.imm⟩) hlt.1 hlt.2 hf (icheck_a (y := y) hy2 (by omega) (by omega)) (by first | omega | (simp only; omega)) (hy3 (by omega)) hb3 hb1, by simp only; omega, ?_, (by first | exact ent_i | (repeat (first | exact Ent.refl | exact Ent.left | refine Ent.cons ?_ | refine Ent.app ?_)))⟩
            all_goals (simp only [List.length_append, List.length_cons, List.length_nil, Nat.zero_add]; exact (by repeat' (first | exact True.intro | refine And.intro ?_ ?_ | exact rfl | exact vi (by omega) | (dsimp only; exact rfl) | (dsimp only; exact vi (by omega)))))
          · repeat' ((try (conv => whnf)); first | (refine when_ye ?_ ?_; exact rfl) | (apply br_pyE; (exact rfl); omega) | (apply br_pnE; (exact rfl); omega) | (apply when_pnE; (exact rfl); omega) | (refine app_1 (enc := encN) s.p.length hbj (by (repeat (first | exact At.head | apply At.tail | apply At.skip))) (by (repeat (first | exact List.Mem.head _ | apply List.Mem.tail | apply List.mem_append_right))) rfl rfl (by omega) rfl rfl (by omega) (fun a1 c1 D1 hb1 => ?_)) | (refine app_1 (enc := Ins.enc) y hbp (by (repeat (first | exact At.head | apply At.tail | apply At.skip))) (by (repeat (first | exact List.Mem.head _ | apply List.Mem.tail | apply List.mem_append_right))) rfl rfl (by omega) rfl rfl (by omega) (fun a3 c3 D3 hb3 => ?_)) | (refine ari ?_ ?_; omega) | (apply ldN_a; exact rfl) | (apply stN_o; (exact rfl); (exact rfl); exact rfl) | (refine new_i (fun bk hbk => ?_)) | (refine cut_n ?_))
            refine ⟨⟨s.i + 1, s.o, s.b, s.p ++ [y], a3, c3, D3, s.js ++ [s.p.length], a1, c1, D1⟩, hPI.jump hlt.1 hlt.2 hf hy2 (by omega) (hy3 (by omega)) hb3 hb1, by simp only; omega, ?_, (by first | exact ent_i | (repeat (first | exact Ent.refl | exact Ent.left | refine Ent.cons ?_ | refine Ent.app ?_)))⟩
            (simp only [List.length_append, List.length_cons, List.length_nil, Nat.zero_add]; exact (by repeat' (first | exact True.intro | refine And.intro ?_ ?_ | exact rfl | exact vi (by omega) | (dsimp only; exact rfl) | (dsimp only; exact vi (by omega)))))
          · have h7 : y.op = 7 ∨ y.op = 8 ∨ (y.op ≠ 7 ∧ y.op ≠ 8) := by omega
            rcases h7 with h7 | h7 | h7
            · repeat' ((try (conv => whnf)); first | (refine when_ye ?_ ?_; exact rfl) | (apply br_pyE; (exact rfl); omega) | (apply br_pnE; (exact rfl); omega) | (apply when_pnE; (exact rfl); omega) | (refine app_1 (enc := Ins.enc) y hbp (by (repeat (first | exact At.head | apply At.tail | apply At.skip))) (by (repeat (first | exact List.Mem.head _ | apply List.Mem.tail | apply List.mem_append_right))) rfl rfl (by omega) rfl rfl (by omega) (fun a3 c3 D3 hb3 => ?_)) | (refine ari ?_ ?_; omega) | (apply ldN_a; exact rfl) | (apply stN_o; (exact rfl); (exact rfl); exact rfl) | (refine new_i (fun bk hbk => ?_)) | (refine cut_n ?_))
              refine ⟨⟨s.i + 1, true, nextB y s.p.length s.b, s.p ++ [y], a3, c3, D3, s.js, s.a2, s.cap2, s.D2⟩, hPI.next hlt.1 hlt.2 hf hy2 hy3 hy4 hb3 (by rw [if_pos h7]), by simp only; omega, ?_, (by first | exact ent_i | (repeat (first | exact Ent.refl | exact Ent.left | refine Ent.cons ?_ | refine Ent.app ?_)))⟩
              (simp only [List.length_append, List.length_cons, List.length_nil, Nat.zero_add]; exact (by repeat' (first | exact True.intro | refine And.intro ?_ ?_ | exact rfl | exact vi (by omega) | (dsimp only; exact rfl) | (dsimp only; exact vi (by omega)))))
            · repeat' ((try (conv => whnf)); first | (refine when_ye ?_ ?_; exact rfl) | (apply br_pyE; (exact rfl); omega) | (apply br_pnE; (exact rfl); omega) | (apply when_pnE; (exact rfl); omega) | (refine app_1 (enc := Ins.enc) y hbp (by (repeat (first | exact At.head | apply At.tail | apply At.skip))) (by (repeat (first | exact List.Mem.head _ | apply List.Mem.tail | apply List.mem_append_right))) rfl rfl (by omega) rfl rfl (by omega) (fun a3 c3 D3 hb3 => ?_)) | (refine ari ?_ ?_; omega) | (apply ldN_a; exact rfl) | (apply stN_o; (exact rfl); (exact rfl); exact rfl) | (refine new_i (fun bk hbk => ?_)) | (refine cut_n ?_))
              refine ⟨⟨s.i + 1, false, nextB y s.p.length s.b, s.p ++ [y], a3, c3, D3, s.js, s.a2, s.cap2, s.D2⟩, hPI.next hlt.1 hlt.2 hf hy2 hy3 hy4 hb3 (by rw [if_neg (by omega), if_pos h7]), by simp only; omega, ?_, (by first | exact ent_i | (repeat (first | exact Ent.refl | exact Ent.left | refine Ent.cons ?_ | refine Ent.app ?_)))⟩
              (simp only [List.length_append, List.length_cons, List.length_nil, Nat.zero_add]; exact (by repeat' (first | exact True.intro | refine And.intro ?_ ?_ | exact rfl | exact vi (by omega) | (dsimp only; exact rfl) | (dsimp only; exact vi (by omega)))))
            · repeat' ((try (conv => whnf)); first | (refine when_ye ?_ ?_; exact rfl) | (apply br_pnE; (exact rfl); omega) | (apply when_pnE; (exact rfl); omega) | (refine app_1 (enc := Ins.enc) y hbp (by (repeat (first | exact At.head | apply At.tail | apply At.skip))) (by (repeat (first | exact List.Mem.head _ | apply List.Mem.tail | apply List.mem_append_right))) rfl rfl (by omega) rfl rfl (by omega) (fun a3 c3 D3 hb3 => ?_)) | (refine ari ?_ ?_; omega) | (apply ldN_a; exact rfl) | (apply stN_o; (exact rfl); (exact rfl); exact rfl) | (refine new_i (fun bk hbk => ?_)) | (refine cut_n ?_))
              refine ⟨⟨s.i + 1, s.o, nextB y s.p.length s.b, s.p ++ [y], a3, c3, D3, s.js, s.a2, s.cap2, s.D2⟩, hPI.next hlt.1 hlt.2 hf hy2 hy3 hy4 hb3 (by rw [if_neg h7.1, if_neg h7.2]), by simp only; omega, ?_, (by first | exact ent_i | (repeat (first | exact Ent.refl | exact Ent.left | refine Ent.cons ?_ | refine Ent.app ?_)))⟩
              (simp only [List.length_append, List.length_cons, List.length_nil, Nat.zero_add]; exact (by repeat' (first | exact True.intro | refine And.intro ?_ ?_ | exact rfl | exact vi (by omega) | (dsimp only; exact rfl) | (dsimp only; exact vi (by omega)))))
    · have hx1 : ¬ (s.i : Int) < l.length ∨ ((s.i : Int) < l.length ∧ ¬ (s.p.length : Int) < most - 1) := by omega
      rcases hx1 with hx1 | ⟨hx0, hx1⟩
      all_goals
        repeat' ((try (conv => whnf)); first | (refine when_ye ?_ ?_; exact rfl) | (refine when_ne ?_ ?_; exact rfl) | (refine br_fe ?_ ?_; exact rfl) | (apply br_pnE; (exact rfl); omega) | (apply when_pyE; (exact rfl); omega) | (apply when_pnE; (exact rfl); omega) | (refine ari ?_ ?_; omega))
        refine cut_i (σ := List Ins × Option Addr × Nat × Own) 11326637689314497616078557453551193402333477208576 (fun q => [(9, .slice q.2.1 q.1.length q.2.2.1)]) (fun q => q.2.2.2 ++ (s.D2 ++ own)) (fun q => BufE Ins.enc 69 5 q.2.1 q.2.2.1 q.1 q.2.2.2 ∧ checkR q.1 = (0, 0) ∧ (q.1.length : Int) ≤ most ∧ (∀ j ∈ s.js, ∃ x, q.1[j]? = some x ∧ x.imm = 0) ∧ ∀ x ∈ q.1, 0 ≤ x.imm ∧ x.imm ≤ 64) rfl ?_ ?_
        · repeat' ((try (conv => whnf)); first | (refine br_s (fun hs => ?_) (fun hs => ?_)) | (refine app_1 (enc := Ins.enc) ⟨8, 0, 0, 0, 0⟩ hbp (by (repeat (first | exact At.head | apply At.tail | apply At.skip))) (by (repeat (first | exact List.Mem.head _ | apply List.Mem.tail | apply List.mem_append_right))) rfl rfl (by omega) rfl rfl (by omega) (fun a3 c3 D3 hb3 => ?_)) | (refine new_i (fun bk hbk => ?_)))
          · have hcm := hPI.commit hs
            refine ⟨(s.p ++ [⟨8, 0, 0, 0, 0⟩], a3, c3, D3), ⟨hb3, hcm.1.ok hcm.2.1 (by simp; omega), by simp; omega, hcm.2.2, fun x hx => by
              rcases List.mem_append.1 hx with hx | hx
              · exact hrng x hx
              · rw [List.mem_singleton.1 hx]; exact ⟨by decide, by decide⟩⟩, ?_, (by first | exact ent_i | (repeat (first | exact Ent.refl | exact Ent.left | refine Ent.cons ?_ | refine Ent.app ?_)))⟩
            (simp only [List.length_append, List.length_cons, List.length_nil, Nat.zero_add]; exact (by repeat' (first | exact True.intro | refine And.intro ?_ ?_ | exact rfl | exact vi (by omega) | (dsimp only; exact rfl) | (dsimp only; exact vi (by omega)))))
          · rw [hs] at hob
            exact ⟨(s.p, s.a, s.cap, s.D), ⟨hbp, hmk.ok (by simpa using hob.symm) (by omega), by simp only; omega, hzer, hrng⟩, (by repeat' (first | exact True.intro | refine And.intro ?_ ?_ | exact rfl | exact vi (by omega) | (dsimp only; exact rfl) | (dsimp only; exact vi (by omega)))), (by first | exact ent_i | (repeat (first | exact Ent.refl | exact Ent.left | refine Ent.cons ?_ | refine Ent.app ?_)))⟩
        · rintro q junk3 ⟨hq1, hq2, hq3, hq4, hq5⟩
          (try (conv => whnf))
          refine loop_i (σ := Nat × List Ins × Own) (fun r => [(17, .int .i64 r.1)]) (fun r => r.2.2 ++ (s.D2 ++ own)) (fun r => (r.1 ≤ s.js.length ∧ r.2.1.length = q.1.length) ∧ BufE Ins.enc 69 5 q.2.1 q.2.2.1 r.2.1 r.2.2 ∧ checkR r.2.1 = (0, 0) ∧ (∀ m j, r.1 ≤ m → s.js[m]? = some j → ∃ x, r.2.1[j]? = some x ∧ x.imm = 0) ∧ ∀ x ∈ r.2.1, 0 ≤ x.imm ∧ x.imm ≤ 64)
            (fun r => s.js.length - r.1) (0, q.1, q.2.2.2) ⟨⟨by simp, rfl⟩, hq1, hq2, fun m j _ hj => hq4 j (List.mem_of_getElem? hj), hq5⟩ (by repeat' (first | exact True.intro | refine And.intro ?_ ?_ | exact rfl | exact vi (by omega) | (dsimp only; exact rfl) | (dsimp only; exact vi (by omega)))) Ent.refl rfl ?_
          rintro r junk4 ⟨⟨hr1, hr2⟩, hr3, hr4, hr5, hr6⟩
          by_cases hlt2 : r.1 < s.js.length
          · obtain ⟨j, hj⟩ : ∃ j, s.js[r.1]? = some j := ⟨_, List.getElem?_eq_getElem hlt2⟩
            obtain ⟨x, hx, hx0⟩ := hr5 r.1 j (Nat.le_refl _) hj
            have hJ := hbj.rd (W0 := W0)
            have hP := hr3.rd (W0 := W0)
            have hh : (r.1 : Int) < s.js.length := by omega
            have hjl : j < r.2.1.length := (List.getElem?_eq_some_iff.1 hx).1
            have hx1 : (r.2.1.set j ⟨x.op, x.a, x.b, x.c, 1⟩)[j]? = some ⟨x.op, x.a, x.b, x.c, 1⟩ := List.getElem?_set_self hjl
            have hl1 : (r.2.1.set j ⟨x.op, x.a, x.b, x.c, 1⟩).length = q.1.length := by rw [List.length_set, hr2]
            have hback : (r.2.1.set j ⟨x.op, x.a, x.b, x.c, 1⟩).set j ⟨x.op, x.a, x.b, x.c, 0⟩ = r.2.1 := set_back hx hx0
            have hck : ∀ D1, BufE Ins.enc 69 5 q.2.1 q.2.2.1 (r.2.1.set j ⟨x.op, x.a, x.b, x.c, 1⟩) D1 → ∀ own', Ent W0 own' D1 → Pure Tryz.prog W0 50 [.slice q.2.1 q.1.length q.2.2.1] own' (.tuple #[.int .i64 (checkR (r.2.1.set j ⟨x.op, x.a, x.b, x.c, 1⟩)).1, .int .i64 (checkR (r.2.1.set j ⟨x.op, x.a, x.b, x.c, 1⟩)).2]) := fun D1 h own' he => by
              have := sp_rpcheck (cap := q.2.2.1) ((h.rd (W0 := W0)).ent he)
              rwa [hl1] at this
            have hnx : ∀ m j', r.1 + 1 ≤ m → s.js[m]? = some j' → ∃ x', (r.2.1.set j ⟨x.op, x.a, x.b, x.c, 1⟩)[j']? = some x' ∧ x'.imm = 0 := fun m j' hm hj' => by
              obtain ⟨x', h1, h2⟩ := hr5 m j' (by omega) hj'
              exact ⟨x', by rw [List.getElem?_set_ne (asc_ne hasc hj hj' (by omega))]; exact h1, h2⟩
            by_cases he : (checkR (r.2.1.set j ⟨x.op, x.a, x.b, x.c, 1⟩)).2 = 0
            · have hz := checkR_zero he
              repeat' ((try (conv => whnf)); first | (apply br_pyE; (exact rfl); omega) | (apply br_pnE; (exact rfl); omega) | (refine ixE_n (hP.ent (by (repeat (first | exact Ent.refl | exact Ent.left | refine Ent.cons ?_ | refine Ent.app ?_)))) hx (by omega) rfl ?_) | (refine stE (k := 4) ⟨x.op, x.a, x.b, x.c, 1⟩ hr3 (by (repeat (first | exact At.head | apply At.tail | apply At.skip))) hx rfl (by omega) rfl rfl (fun D1 hb1 => ?_)) | (refine call_p (hck _ hb1 _ (by (repeat (first | exact Ent.refl | exact Ent.left | refine Ent.cons ?_ | refine Ent.app ?_)))) ?_) | ((with_reducible show Ld _ _ _ _); first | (refine ldE0 hJ hj rfl ?_)) | ((with_reducible show IxS _ _ _ _ _); first | ((refine ixE hJ hj ?_ ?_; (first | rfl | omega)))) | (refine ari ?_ ?_; omega) | (apply sel; exact rfl))
              exact ⟨(r.1 + 1, _, D1), ⟨⟨by simp only; omega, hl1⟩, hb1, hz, hnx, fun y hy => by
                rcases List.mem_or_eq_of_mem_set hy with hy | rfl
                · exact hr6 y hy
                · exact ⟨(by decide : (0 : Int) ≤ 1), (by decide : (1 : Int) ≤ 64)⟩⟩, by simp only; omega, (by repeat' (first | exact True.intro | refine And.intro ?_ ?_ | exact rfl | exact vi (by omega) | (dsimp only; exact rfl) | (dsimp only; exact vi (by omega)))), (by first | exact ent_i | (repeat (first | exact Ent.refl | exact Ent.left | refine Ent.cons ?_ | refine Ent.app ?_)))⟩
            · repeat' ((try (conv => whnf)); first | (apply br_pyE; (exact rfl); omega) | (refine ixE_n (hP.ent (by (repeat (first | exact Ent.refl | exact Ent.left | refine Ent.cons ?_ | refine Ent.app ?_)))) hx (by omega) rfl ?_) | (refine stE (k := 4) ⟨x.op, x.a, x.b, x.c, 0⟩ hb1 (by (repeat (first | exact At.head | apply At.tail | apply At.skip))) hx1 rfl (by omega) rfl rfl (fun D2 hb2 => ?_)) | (refine stE (k := 4) ⟨x.op, x.a, x.b, x.c, 1⟩ hr3 (by (repeat (first | exact At.head | apply At.tail | apply At.skip))) hx rfl (by omega) rfl rfl (fun D1 hb1 => ?_)) | (refine call_p (hck _ hb1 _ (by (repeat (first | exact Ent.refl | exact Ent.left | refine Ent.cons ?_ | refine Ent.app ?_)))) ?_) | ((with_reducible show Ld _ _ _ _); first | (refine ldE0 hJ hj rfl ?_)) | ((with_reducible show IxS _ _ _ _ _); first | ((refine ixE hJ hj ?_ ?_; (first | rfl | omega)))) | (refine ari ?_ ?_; omega) | (apply sel; exact rfl))
              rw [hback] at hb2
              exact ⟨(r.1 + 1, r.2.1, D2), ⟨⟨by simp only; omega, hr2⟩, hb2, hr4, fun m j' hm hj' => hr5 m j' (by simp only at hm; omega) hj', hr6⟩, by simp only; omega, (by repeat' (first | exact True.intro | refine And.intro ?_ ?_ | exact rfl | exact vi (by omega) | (dsimp only; exact rfl) | (dsimp only; exact vi (by omega)))), (by first | exact ent_i | (repeat (first | exact Ent.refl | exact Ent.left | refine Ent.cons ?_ | refine Ent.app ?_)))⟩
          · repeat' ((try (conv => whnf)); first | (apply br_pnE; (exact rfl); omega))
            exact ⟨q.2.1, q.2.2.1, r.2.2, r.2.1, by rw [hr2]; rfl, hr3, Ent.of_sub ((List.sublist_append_right s.D2 own).append_left r.2.2), hr4, by omega, hr6⟩
end
end Go.Proofs.YtfompmhncnkcfaaGreatDoor
namespace Go.Proofs.YtfompmhncnkcfaaGreatDoor
open Go
set_option maxRecDepth 10000
def placeM (a n : Int) : Int := IntKind.u64.wrap a % n
theorem wrapu_bd (a : Int) : 0 ≤ IntKind.u64.wrap a ∧ IntKind.u64.wrap a ≤ 18446744073709551615 := by
  unfold IntKind.wrap
  have h3 : ((2 : Int) ^ IntKind.u64.bits) = 18446744073709551616 := rfl
  simp only [h3, IntKind.signed, Bool.false_and, Bool.false_eq_true, if_false]
  omega
theorem place_bd (a : Int) {n : Int} (h : 0 < n) : 0 ≤ placeM a n ∧ placeM a n < n := ⟨Int.emod_nonneg _ (by omega), Int.emod_lt_of_pos _ h⟩
theorem tdiv_bd {m n : Int} (h1 : -9223372036854775808 ≤ m ∧ 0 < n ∧ m ≤ 9223372036854775807) : -9223372036854775808 ≤ m.tdiv n ∧ m.tdiv n ≤ 9223372036854775807 := by
  have h2 : (m.tdiv n).natAbs ≤ m.natAbs := by rw [Int.natAbs_tdiv]; exact Nat.div_le_self _ _
  have h4 : m < 0 → m.tdiv n ≤ 0 := fun h => by
    have h5 : 0 ≤ (-m).tdiv n := Int.tdiv_nonneg (by omega) (by omega)
    rw [Int.neg_tdiv] at h5
    omega
  omega
theorem quo_t {m n : Int} {K : Int → Prop} (h1 : -9223372036854775808 ≤ m ∧ 0 < n ∧ m ≤ 9223372036854775807) (h : K (m.tdiv n)) : Quo .i64 m n K := by
  have h2 := tdiv_bd h1
  refine ⟨by omega, ?_⟩
  rw [wrap_i64 (by omega) (by omega)]
  exact h
theorem sp_place (W0 : World) (own : Own) (a n : Int) (hn : 0 < n ∧ n ≤ 9223372036854775807) : Pure Tryz.prog W0 23 [.int .i64 a, .int .i64 n] own (.int .i64 (placeM a n)) := by
  refine pure_of (spec_of mixed low_kit_Place (by simp [ir_kit_Place]) ?_)
  have hw := wrapu_bd a
  have hp := place_bd a hn.1
  unfold placeM at hp
  repeat' ((try (conv => whnf)); first | (refine arw (k := .u64) (e := a) ?_) | (refine ari ?_ ?_; omega) | (refine aru ?_ ?_; omega) | (refine rem_i ?_ ?_; omega) | (exact Ent.refl) | (refine And.intro rfl ?_))
  all_goals exact ⟨ret1 rfl, by (repeat (first | exact Ent.refl | exact Ent.left | refine Ent.cons ?_ | refine Ent.app ?_))⟩
def inKs : List Int → Prop
  | [] => True
  | a :: r => (-9223372036854775808 ≤ a ∧ a ≤ 9223372036854775807) ∧ inKs r
def goodC (c : Cfg) : Prop := 4 ≤ c.words ∧ c.words ≤ 12 ∧ 1 ≤ c.orecs ∧ c.orecs ≤ 8 ∧ c.base = 2 ∧ 0 ≤ c.c0 ∧ c.c0 ≤ 2 ∧ 0 ≤ c.c1 ∧ c.c1 ≤ 2 ∧ c.c2 = 0 ∧ c.c3 = 0 ∧ c.c0 + c.c1 * 2 ≤ c.words - 2 ∧
  1 ≤ c.reads ∧ c.reads ≤ 8 ∧ 1 ≤ c.writes ∧ c.writes ≤ 8 ∧ 0 ≤ c.allocs ∧ c.allocs ≤ 2 ∧ 0 ≤ c.frees ∧ c.frees ≤ 2 ∧ 0 ≤ c.clock ∧ c.clock ≤ 50 ∧ c.strong = false
section
variable {P : Program} {W0 : World} {own : Own}
def PureE (P : Program) (W0 : World) (k : FuncId) (args : List Value) (own : Own) (Φ : Value → Prop) : Prop :=
  ∀ w, St W0 own w → Calls P k args.toArray w fun e w' => ∃ v, e = .returned v ∧ Φ v ∧ St W0 own w'
theorem pureE_of {k : FuncId} {args : List Value} {Φ : Value → Prop} (h : Spec P W0 k args own fun v' own' => Φ v' ∧ Ent W0 own' own) : PureE P W0 k args own Φ := fun w hw =>
  (h w hw).mono fun _ w' ⟨v, _, he, hs, hv, hE⟩ => ⟨v, he, hv, hE w' hs⟩
theorem call_e {k : FuncId} {args : List Value} {Φ : Value → Prop} {K : Value → Own → Prop} (h : PureE P W0 k args own Φ) (hk : ∀ v, Φ v → K v own) : CallT P W0 own k args K :=
  ⟨fun w hw => (h w hw).mono fun _ _ ⟨v, he, hv, hs⟩ => ⟨v, own, he, hs, hk v hv⟩⟩
end
theorem callP_place {W0 : World} {own : Own} {a n : Int} {K : Value → Own → Prop} (hn : 0 < n ∧ n ≤ 9223372036854775807) (h : ∀ p, 0 ≤ p ∧ p < n → K (.int .i64 p) own) :
    CallT Tryz.prog W0 own 23 [.int .i64 a, .int .i64 n] K := call_p (sp_place _ _ _ _ hn) (h _ (place_bd a hn.1))
theorem callQ_place {W0 : World} {own : Own} {a n : Int} {K : Value → Prop} (hn : 0 < n ∧ n ≤ 9223372036854775807) (h : ∀ p, 0 ≤ p ∧ p < n → K (.int .i64 p)) :
    CallQ Tryz.prog W0 own 23 [.int .i64 a, .int .i64 n] K := call_q (fun _ => sp_place _ _ _ _ hn) (h _ (place_bd a hn.1))
theorem shr0 {m : Int} {K : Int → Prop} (h : K (m / 1)) : Shr .i64 m 0 K := shr_l 0 1 rfl rfl (by omega) rfl h
theorem shr1 {m : Int} {K : Int → Prop} (h : K (m / 2)) : Shr .i64 m 1 K := shr_l 1 2 rfl rfl (by omega) rfl h
theorem sp_config (W0 : World) (own : Own) (a b c d e : Int) (hh : inKs [a, b, c, d, e]) : PureE Tryz.prog W0 28 [.int .i64 a, .int .i64 b, .int .i64 c, .int .i64 d, .int .i64 e] own (fun v => ∃ c : Cfg, v = c.v ∧ goodC c) := by
  obtain ⟨ha, hb, hc, hd, he, _⟩ := hh
  refine pureE_of (spec_of mixed low_make_Config (by simp [ir_make_Config]) ?_)
  repeat' ((try (conv => whnf)); first | (refine callP_place ?_ (fun p hp => ?_); omega) | (refine callQ_place ?_ (fun p hp => ?_); omega) | (refine quo_t ?_ ?_; omega) | (refine shr0 ?_) | (refine shr1 ?_) | (refine loop_r 3 ?_) | (refine br_t ?_) | (refine br_f ?_) | (refine ari ?_ ?_; omega) | (refine ix0 rfl ?_) | (refine ix1 rfl ?_) | (apply ld_own; (first | (solve | repeat (first | with_reducible exact List.mem_cons_self | (with_reducible (apply List.mem_append_left; exact List.mem_cons_self)) | with_reducible apply List.mem_cons_of_mem | with_reducible apply List.mem_append_right)) | (repeat (first | exact List.Mem.head _ | apply List.Mem.tail | apply List.mem_append_right))); exact rfl) | (apply ldN_all; (first | (solve | repeat (first | with_reducible exact List.mem_cons_self | (with_reducible (apply List.mem_append_left; exact List.mem_cons_self)) | with_reducible apply List.mem_cons_of_mem | with_reducible apply List.mem_append_right)) | (repeat (first | exact List.Mem.head _ | apply List.Mem.tail | apply List.mem_append_right))); exact rfl) | (apply st_own; (first | (solve | repeat (first | with_reducible exact Up.head | with_reducible apply Up.tail | with_reducible apply Up.app)) | (repeat (first | exact Up.head | apply Up.tail | apply Up.app))); (solve | ((try (conv => arg 2; whnf)); repeat' (first | exact Lis.nil | apply Lis.cons | apply SetAt.here | apply SetAt.there | apply PutAt.done | apply PutAt.put | apply PutAt.skip))); exact rfl) | (apply stN_own; (first | (solve | repeat (first | with_reducible exact Up.head | with_reducible apply Up.tail | with_reducible apply Up.app)) | (repeat (first | exact Up.head | apply Up.tail | apply Up.app))); (solve | ((try (conv => arg 2; whnf)); repeat' (first | exact Lis.nil | apply Lis.cons | apply SetAt.here | apply SetAt.there | apply PutAt.done | apply PutAt.put | apply PutAt.skip))); exact rfl) | (refine new_i (fun bk hbk => ?_)) | (refine br_d (fun hc => ?_) (fun hc => ?_)) | (refine shl0 ?_ ?_; omega) | (refine shl1 ?_ ?_; omega) | (refine mm_min ?_) | (refine stN_and rfl ?_))
  all_goals (refine ⟨⟨⟨_, _, _, _, _, _, _, _, _, _, _, _, _⟩, ret1 rfl, ?_⟩, by (repeat (first | exact Ent.refl | exact Ent.left | refine Ent.cons ?_ | refine Ent.app ?_))⟩; dsimp only [goodC]; (repeat' apply And.intro) <;> first | rfl | omega)
end Go.Proofs.YtfompmhncnkcfaaGreatDoor
namespace Go.Proofs.YtfompmhncnkcfaaGreatDoor
open Go
set_option maxRecDepth 10000
theorem callP_config {W0 : World} {own : Own} {a b c d e : Int} {K : Value → Own → Prop} (hh : inKs [a, b, c, d, e]) (h : ∀ c : Cfg, goodC c → K c.v own) :
    CallT Tryz.prog W0 own 28 [.int .i64 a, .int .i64 b, .int .i64 c, .int .i64 d, .int .i64 e] K :=
  call_e (sp_config W0 own a b c d e hh) (fun v ⟨c, hv, hg⟩ => by rw [hv]; exact h c hg)
end Go.Proofs.YtfompmhncnkcfaaGreatDoor
namespace Go.Proofs.YtfompmhncnkcfaaGreatDoor
open Go
set_option maxRecDepth 10000
set_option maxHeartbeats 4000000
structure PB where
  h : PH
  D : Own
abbrev PB.ok (x : PB) : Prop := BufE Ins.enc 69 5 x.h.a x.h.cap x.h.p x.D
abbrev ownL (l : List PB) : Own := (l.map PB.D).flatten
abbrev encU (n : Int) : List Value := [.int .u64 n]
abbrev scrC (c : Cfg) (i p k : Value) : Array Value := #[.int .i64 c.words, .int .i64 c.orecs, .int .i64 c.base, .int .i64 c.c0, .int .i64 c.c1, .int .i64 c.c2, .int .i64 c.c3, .int .i64 c.reads, .int .i64 c.writes, .int .i64 c.allocs, .int .i64 c.frees, .int .i64 c.clock, .bool c.strong, i, p, k]
structure IH where
  a : Option Addr
  cap : Nat
  l : List Int
abbrev IH.enc (h : IH) : List Value := [.slice h.a h.l.length h.cap]
theorem call_pg {P : Program} {W0 : World} {own : Own} {k : FuncId} {args : List Value} {T : TypeId} {Φ : List Ins → Prop} {K : Value → Own → Prop}
    (h : Spec P W0 k args own fun v own' => ∃ a cap D p, v = .slice a (List.length p) cap ∧ BufE Ins.enc T 5 a cap p D ∧ Ent W0 own' (D ++ own) ∧ Φ p)
    (hk : ∀ a cap D p, BufE Ins.enc T 5 a cap p D → Φ p → K (.slice a (List.length p) cap) (D ++ own)) : CallT P W0 own k args K :=
  ⟨fun w hw => (h w hw).mono fun _ _ ⟨_, _, he, hs, a, cap, D, p, hv, hB, hE, hΦ⟩ => ⟨_, _, by rw [he, hv], hE _ hs, hk a cap D p hB hΦ⟩⟩
theorem ownL_snoc (l : List PB) (x : PB) : ownL (l ++ [x]) = ownL l ++ x.D := by simp [ownL]
theorem ent_push {W0 : World} {e b : Nat × (Obj → Prop)} {D1 D3 L R : Own} : Ent W0 (e :: (D1 ++ (b :: (D3 ++ (L ++ R))))) (b :: (D3 ++ ((L ++ D1) ++ R))) := by
  refine Ent.cons (Ent.of_perm ?_)
  refine List.perm_middle.trans (List.Perm.cons b ?_)
  refine (List.perm_append_comm_assoc D1 D3 (L ++ R)).trans (List.Perm.append_left D3 ?_)
  rw [List.append_assoc]
  exact List.perm_append_comm_assoc D1 L R
abbrev nilS : Value := .slice none 0 0
abbrev tailO (b14 b7 : Nat) (c : Cfg) (own : Own) : Own := (b14, fun o => o = Obj.cells (scrC ⟨0, 0, 0, 0, 0, 0, 0, 0, 0, 0, 0, 0, false⟩ nilS nilS nilS) 32) :: (b7, fun o => o = Obj.cells c.cs 27) :: own
end Go.Proofs.YtfompmhncnkcfaaGreatDoor
namespace Go.Proofs.YtfompmhncnkcfaaGreatDoor
open Go
set_option maxRecDepth 10000
def stB (p : List Ins) : Nat → Int
  | 0 => -1
  | k + 1 => match p[k]? with
    | some x => nextB x k (stB p k)
    | none => stB p k
theorem stB_succ {p : List Ins} {k : Nat} {x : Ins} (hx : p[k]? = some x) : stB p (k + 1) = nextB x k (stB p k) := by
  simp only [stB, hx]
theorem ck_len {p : List Ins} (h : checkP p = (0, 0)) : p.length ≤ 64 := by
  unfold checkP at h
  split at h
  · simp at h
  · omega
theorem ck_step {p : List Ins} (h : checkP p = (0, 0)) : ∀ k, k ≤ p.length → PInv p k (stB p k) ∧ checkG (targetM p) (p.drop k) k (stB p k) = (0, 0)
  | 0, _ => by
    refine ⟨PInv.start p, ?_⟩
    unfold checkP at h
    split at h
    · simp at h
    · exact h
  | k + 1, hk => by
    obtain ⟨h1, h2⟩ := ck_step h k (by omega)
    obtain ⟨x, hx⟩ : ∃ x, p[k]? = some x := ⟨_, List.getElem?_eq_getElem (by omega)⟩
    rw [drop_at hx, checkG] at h2
    split at h2
    · rename_i h0
      simp only [Prod.mk.injEq] at h2
      exact absurd h2.2 h0
    · rename_i h0
      have ho := oneX_ok (by simpa using h0)
      rw [stB_succ hx]
      exact ⟨h1.step hx ho.1 ho.2.1, h2⟩
theorem ck_one {p : List Ins} (h : checkP p = (0, 0)) {k : Nat} {x : Ins} (hx : p[k]? = some x) : oneX (targetM p k (stB p k) x) (stB p k) x = 0 := by
  have hk := (List.getElem?_eq_some_iff.1 hx).1
  have h2 := (ck_step h k (by omega)).2
  rw [drop_at hx, checkG] at h2
  split at h2
  · rename_i h0
    simp only [Prod.mk.injEq] at h2
    exact absurd h2.2 h0
  · rename_i h0
    simpa using h0
theorem ck_end {p : List Ins} (h : checkP p = (0, 0)) : stB p p.length < 0 := by
  have h2 := (ck_step h p.length (Nat.le_refl _)).2
  rw [List.drop_length, checkG] at h2
  split at h2
  · simp at h2
  · omega
theorem ck_inv {p : List Ins} (h : checkP p = (0, 0)) {k : Nat} (hk : k ≤ p.length) : PInv p k (stB p k) := (ck_step h k hk).1
theorem ck_ins {p : List Ins} (h : checkP p = (0, 0)) {k : Nat} {x : Ins} (hx : p[k]? = some x) :
    icheck x = 0 ∧ (x.op = 7 → stB p k < 0) ∧ (x.op = 8 → 0 ≤ stB p k) ∧ targetM p k (stB p k) x = 0 ∧
      (x.op = 9 ∨ x.op = 10 ∨ x.op = 11 ∨ x.op = 14 ∨ x.op = 15 → 0 ≤ stB p k) := by
  have h0 := ck_one h hx
  have ho := oneX_ok h0
  refine ⟨ho.2.2.1, ho.1, ho.2.1, ho.2.2.2, fun hop => ?_⟩
  unfold oneX at h0
  rw [if_neg (by simpa using ho.2.2.1)] at h0
  split at h0
  · omega
  · split at h0
    · omega
    · rename_i h2
      have hp : iplace x = 1 := by unfold iplace; rw [if_pos ho.2.2.1, if_pos (by omega)]
      omega
theorem in_end {p : List Ins} (h : checkP p = (0, 0)) : ∀ (n k : Nat), n + k = p.length → 0 ≤ stB p k →
    ∃ c, endL (p.drop k) k = c ∧ k ≤ c ∧ c < p.length ∧ (∃ x, p[c]? = some x ∧ x.op = 8) ∧ stB p (c + 1) = -1 ∧ ∀ i, k ≤ i → i ≤ c → stB p i = stB p k ∧ endL (p.drop i) i = c ∧ (i < c → ∀ x, p[i]? = some x → x.op ≠ 7 ∧ x.op ≠ 8)
  | 0, k, hn, hb => by
    have hk : k = p.length := by omega
    have := ck_end h
    rw [← hk] at this
    omega
  | n + 1, k, hn, hb => by
    obtain ⟨x, hx⟩ : ∃ x, p[k]? = some x := ⟨_, List.getElem?_eq_getElem (by omega)⟩
    have hi := ck_ins h hx
    have h7 : x.op ≠ 7 := fun e => by have := hi.2.1 e; omega
    have hd : endL (p.drop k) k = if x.op = 8 then k else endL (p.drop (k + 1)) (k + 1) := by rw [drop_at hx, endL]
    by_cases h8 : x.op = 8
    · refine ⟨k, by rw [hd, if_pos h8], Nat.le_refl k, by omega, ⟨x, hx, h8⟩, ?_, fun i h1 h2 => ?_⟩
      · rw [stB_succ hx, nextB, if_neg h7, if_pos h8]
      · obtain rfl : i = k := by omega
        exact ⟨rfl, by rw [hd, if_pos h8], fun h => absurd h (by omega)⟩
    · have hs : stB p (k + 1) = stB p k := by rw [stB_succ hx, nextB, if_neg h7, if_neg h8]
      obtain ⟨c, hc, hkc, hcl, hc8, hc1, hall⟩ := in_end h n (k + 1) (by omega) (by rw [hs]; exact hb)
      refine ⟨c, by rw [hd, if_neg h8, hc], by omega, hcl, hc8, hc1, fun i h1 h2 => ?_⟩
      by_cases hik : i = k
      · subst hik
        refine ⟨rfl, by rw [hd, if_neg h8, hc], fun _ y hy => ?_⟩
        rw [hx] at hy
        obtain rfl := Option.some.inj hy
        exact ⟨h7, h8⟩
      · have := hall i (by omega) h2
        rw [hs] at this
        exact this
theorem of_begin {p : List Ins} (h : checkP p = (0, 0)) {k : Nat} {x : Ins} (hx : p[k]? = some x) (h7 : x.op = 7) :
    ∃ c, endM p k = c ∧ k < c ∧ c < p.length ∧ (∃ y, p[c]? = some y ∧ y.op = 8) ∧ stB p (c + 1) = -1 ∧ ∀ i, k < i → i ≤ c → stB p i = k ∧ endL (p.drop i) i = c ∧ (i < c → ∀ y, p[i]? = some y → y.op ≠ 7 ∧ y.op ≠ 8) := by
  have hk := (List.getElem?_eq_some_iff.1 hx).1
  have hs : stB p (k + 1) = k := by rw [stB_succ hx, nextB, if_pos h7]
  obtain ⟨c, h1, h2, h3, h4, h5, h6⟩ := in_end h (p.length - (k + 1)) (k + 1) (by omega) (by rw [hs]; omega)
  rw [hs] at h6
  exact ⟨c, h1, h2, h3, h4, h5, fun i hi => h6 i (by omega)⟩
def afterL (p : List Ins) (k : Nat) (x : Ins) : List Int :=
  if x.op = 4 then [k + 1 + x.imm] else if x.op = 5 ∨ x.op = 6 then [k + 1, k + 1 + x.imm] else if x.op = 9 then [(endM p k : Int) + 1] else [k + 1]
theorem intoL_no (len : Nat) : ∀ (l : List Ins) (j t : Nat), intoL len l j t = false → ∀ (i : Nat) (x : Ins), l[i]? = some x → j + i < t → x.op = 7 → endL (l.drop (i + 1)) (j + i + 1) < t ∨ len ≤ t
  | [], j, t, _, i, x, hx, _, _ => by simp at hx
  | y :: l, j, t, h, i, x, hx, hi, h7 => by
    unfold intoL at h
    rw [Bool.or_eq_false_iff, decide_eq_false_iff_not] at h
    cases i with
    | zero =>
      simp only [List.getElem?_cons_zero, Option.some.injEq] at hx
      subst hx
      simp only [Nat.add_zero, Nat.zero_add, List.drop_succ_cons, List.drop_zero]
      by_cases h1 : t ≤ endL l (j + 1)
      · right
        by_cases h2 : t + 1 ≤ len
        · exact absurd ⟨by omega, h7, h1, h2⟩ h.1
        · omega
      · left; omega
    | succ i =>
      have := intoL_no len l (j + 1) t h.2 i x (by simpa using hx) (by omega) h7
      simp only [List.drop_succ_cons]
      have e : j + (i + 1) + 1 = j + 1 + i + 1 := by omega
      rw [e]
      exact this
theorem iskips_of {x : Ins} (hc : icheck x = 0) (h : x.op = 4 ∨ x.op = 5 ∨ x.op = 6) : iskips x = true := by
  unfold iskips
  rw [decide_eq_true_iff]
  exact ⟨hc, h⟩
theorem after_ok {p : List Ins} (h : checkP p = (0, 0)) {k : Nat} {x : Ins} (hx : p[k]? = some x) : ∀ t ∈ afterL p k x, ∃ j : Nat, t = j ∧ k < j ∧ j ≤ p.length ∧
    (0 ≤ stB p k → x.op ≠ 8 → (x.op ≠ 9 → j ≤ endL (p.drop k) k) ∧ (x.op = 9 → j = endL (p.drop k) k + 1)) ∧
    (stB p k < 0 → ∀ (b : Nat) (y : Ins), k < b → p[b]? = some y → y.op = 7 → j ≤ b ∨ endM p b < j) := by
  have hk := (List.getElem?_eq_some_iff.1 hx).1
  have hi := ck_ins h hx
  have hin := fun hb => in_end h (p.length - k) k (by omega) hb
  have hdk : x.op ≠ 8 → endL (p.drop k) k = endL (p.drop (k + 1)) (k + 1) := fun h8 => by rw [drop_at hx, endL, if_neg h8]
  have step : ∃ j : Nat, ((k : Int) + 1) = j ∧ k < j ∧ j ≤ p.length ∧ (0 ≤ stB p k → x.op ≠ 8 → j ≤ endL (p.drop k) k) ∧
      (stB p k < 0 → ∀ (b : Nat) (y : Ins), k < b → p[b]? = some y → y.op = 7 → j ≤ b ∨ endM p b < j) := by
    refine ⟨k + 1, by omega, by omega, by omega, fun hb h8 => ?_, fun _ b y hb _ _ => .inl (by omega)⟩
    rw [hdk h8]
    exact (endL_ge _ _).1
  have skip : (x.op = 4 ∨ x.op = 5 ∨ x.op = 6) → ∃ j : Nat, ((k : Int) + 1 + x.imm) = j ∧ k < j ∧ j ≤ p.length ∧ (0 ≤ stB p k → x.op ≠ 8 → j ≤ endL (p.drop k) k) ∧
      (stB p k < 0 → ∀ (b : Nat) (y : Ins), k < b → p[b]? = some y → y.op = 7 → j ≤ b ∨ endM p b < j) := fun hop => by
    have hs := iskips_of hi.1 hop
    have hs2 := skips_op hs
    have ht := hi.2.2.2.1
    unfold targetM at ht
    rw [if_pos hs] at ht
    split at ht
    · omega
    · rename_i hlen
      refine ⟨k + 1 + x.imm.toNat, by omega, by omega, by omega, fun hb h8 => ?_, fun hb b y hkb hy h7 => ?_⟩
      · rw [if_pos hb] at ht
        split at ht
        · omega
        · rename_i he
          rcases (ck_inv h (by omega : k ≤ p.length)).bb with hb1 | ⟨_, _, hb3⟩
          · omega
          · rw [hb3] at he; omega
      · rw [if_neg (by omega)] at ht
        split at ht
        · omega
        · rename_i hno
          by_cases hjb : k + 1 + x.imm.toNat ≤ b
          · exact .inl hjb
          · right
            have hbl := (List.getElem?_eq_some_iff.1 hy).1
            have := intoL_no p.length (p.drop (k + 1)) (k + 1) (k + 1 + x.imm.toNat) (by simpa using hno) (b - (k + 1)) y (by rw [List.getElem?_drop, show k + 1 + (b - (k + 1)) = b by omega]; exact hy) (by omega) h7
            rw [List.drop_drop, show k + 1 + (b - (k + 1) + 1) = b + 1 by omega, show k + 1 + (b - (k + 1)) + 1 = b + 1 by omega] at this
            obtain ⟨c, hc, _, hcl, _⟩ := of_begin h hy h7
            have hce : endL (p.drop (b + 1)) (b + 1) = c := hc
            rw [hc]
            rw [hce] at this
            omega
  intro t ht
  unfold afterL at ht
  split at ht
  · rename_i h4
    obtain ⟨j, hj, h1, h2, h3, h5⟩ := skip (.inl h4)
    rw [List.mem_singleton.1 ht]
    exact ⟨j, hj, h1, h2, fun hb h8 => ⟨fun _ => h3 hb h8, fun h9 => by omega⟩, h5⟩
  · split at ht
    · rename_i h56
      rcases List.mem_cons.1 ht with rfl | ht
      · obtain ⟨j, hj, h1, h2, h3, h5⟩ := step
        exact ⟨j, hj, h1, h2, fun hb h8 => ⟨fun _ => h3 hb h8, fun h9 => by omega⟩, h5⟩
      · obtain ⟨j, hj, h1, h2, h3, h5⟩ := skip (.inr h56)
        rw [List.mem_singleton.1 ht]
        exact ⟨j, hj, h1, h2, fun hb h8 => ⟨fun _ => h3 hb h8, fun h9 => by omega⟩, h5⟩
    · split at ht
      · rename_i h9
        rw [List.mem_singleton.1 ht]
        have hb := hi.2.2.2.2 (.inl h9)
        obtain ⟨c, hc, hkc, hcl, _⟩ := hin hb
        have he : endM p k = c := by unfold endM; rw [← hdk (by omega), hc]
        rw [he]
        refine ⟨c + 1, by omega, by omega, by omega, fun _ _ => ⟨fun h => absurd h9 h, fun _ => by rw [hc]⟩, fun hb2 => by omega⟩
      · rename_i h9
        obtain ⟨j, hj, h1, h2, h3, h5⟩ := step
        rw [List.mem_singleton.1 ht]
        exact ⟨j, hj, h1, h2, fun hb h8 => ⟨fun _ => h3 hb h8, fun h => absurd h h9⟩, h5⟩
def commitM (p : List Ins) (k : Int) : Int := if (checkP p).2 = 0 ∧ 0 ≤ k then (match p[k.toNat]? with
  | some x => if x.op = 7 then endM p k.toNat else -1
  | none => -1) else -1
end Go.Proofs.YtfompmhncnkcfaaGreatDoor
namespace Go.Proofs.YtfompmhncnkcfaaGreatDoor
open Go
set_option maxRecDepth 10000
set_option maxHeartbeats 4000000
theorem checkP_zero {p : List Ins} : (checkP p).2 = 0 ↔ checkP p = (0, 0) := by
  refine ⟨fun h => ?_, fun h => by rw [h]⟩
  have key : ∀ (tgt : Nat → Int → Ins → Int) (l : List Ins) (k : Nat) (b : Int), (checkG tgt l k b).2 = 0 → checkG tgt l k b = (0, 0) := fun tgt l => by
    induction l with
    | nil =>
      intro k b
      simp only [checkG]
      split
      · intro h; simp at h
      · intro _; rfl
    | cons x l ih =>
      intro k b
      simp only [checkG]
      split
      · rename_i h0; intro h; exact absurd h h0
      · exact ih _ _
  unfold checkP at *
  split at h
  · simp at h
  · rename_i h64
    rw [if_neg h64]
    exact key _ _ _ _ h
section
variable {W0 : World} {own : Own} {a : Option Addr} {cap : Nat} {p : List Ins}
theorem sp_valid (hF : FormsAt W0) (hR : RdE Ins.enc 5 W0 own a p) : Pure Tryz.prog W0 85 [.slice a p.length cap] own (.bool (decide ((checkP p).2 = 0))) := by
  refine pure_of (spec_of mixed low_program_valid (by simp [ir_program_valid]) ?_)
  have hc := sp_pcheck (cap := cap) hF hR
  generalize checkP p = r at *
  repeat' ((try (conv => whnf)); first | (refine call_p hc ?_) | (apply sel; exact rfl) | (exact Ent.refl) | (refine And.intro rfl ?_))
  all_goals exact ⟨rfl, by (repeat (first | exact Ent.refl | exact Ent.left | refine Ent.cons ?_ | refine Ent.app ?_))⟩
theorem commitM_neg {k : Int} (h : ¬ (0 ≤ k ∧ k < p.length)) : commitM p k = -1 := by
  unfold commitM
  split
  · rename_i hc
    rw [List.getElem?_eq_none (by omega)]
  · rfl
theorem commitM_at {k : Nat} {x : Ins} (hx : p[k]? = some x) : commitM p k = if (checkP p).2 = 0 ∧ x.op = 7 then (endM p k : Int) else -1 := by
  unfold commitM
  rw [Int.toNat_natCast, hx]
  simp only
  (repeat' split) <;> first | rfl | omega
theorem sp_commit (hF : FormsAt W0) (hR : RdE Ins.enc 5 W0 own a p) (hl : p.length ≤ 1099511627776) (k : Int) : Pure Tryz.prog W0 64 [.slice a p.length cap, .int .i64 k] own (.int .i64 (commitM p k)) := by
  refine pure_of (spec_of mixed low_program_Commit (by simp [ir_program_Commit]) ?_)
  have hv := sp_valid (cap := cap) hF hR
  by_cases hk : 0 ≤ k ∧ k < p.length
  · obtain ⟨j, rfl⟩ := Int.eq_ofNat_of_zero_le hk.1
    obtain ⟨x, hx⟩ : ∃ x, p[j]? = some x := ⟨_, List.getElem?_eq_getElem (by omega)⟩
    have he := sp_end (cap := cap) hR hl j (by omega)
    rw [commitM_at hx]
    generalize (checkP p).2 = r at *
    repeat' ((try (conv => whnf)); first | (refine when_y ?_) | (refine when_tf ?_) | (refine br_t ?_) | (refine when_pn (by omega) ?_) | (refine call_p hv ?_) | (refine call_p he ?_) | ((with_reducible show Ld _ _ _ _); first | (refine ldE (k := 0) (RdE.ent hR ?_) hx ?_ rfl ?_; rotate_left; rfl; rotate_left; (solve | (repeat (first | exact Ent.refl | exact Ent.left | refine Ent.cons ?_ | refine Ent.app ?_))))) | ((with_reducible show IxS _ _ _ _ _); first | (refine ixE hR hx ?_ ?_; (first | rfl | omega))) | (refine when_ndf (fun hc => ?_) (fun hc => ?_)) | (refine br_d (fun hc => ?_) (fun hc => ?_)))
    all_goals (refine ⟨ret1 (vi ?_), by (repeat (first | exact Ent.refl | exact Ent.left | refine Ent.cons ?_ | refine Ent.app ?_))⟩; (repeat' split) <;> first | rfl | (exfalso; omega) | omega)
  · rw [commitM_neg hk]
    generalize (checkP p).2 = r at *
    repeat' ((try (conv => whnf)); first | (refine when_y ?_) | (refine when_tf ?_) | (refine br_t ?_) | (refine when_py (by omega) ?_) | (refine call_p hv ?_) | (refine when_df (fun hc => ?_) (fun hc => ?_)) | (refine when_ndf (fun hc => ?_) (fun hc => ?_)))
    all_goals first | exact ⟨rfl, by (repeat (first | exact Ent.refl | exact Ent.left | refine Ent.cons ?_ | refine Ent.app ?_))⟩ | (exfalso; omega)
end
end Go.Proofs.YtfompmhncnkcfaaGreatDoor
