/- What the laws share, part 7. No condition. -/
import Derived.Test.YtllddgdmmfmpkaaGreatDoorY6
namespace Go.Proofs.YtllddgdmmfmpkaaGreatDoor
open Go
def agree (m : Nat) (f f' : Fr) : Prop := ∀ t, hasB m t = false → f' t = f t
theorem agree.refl {m : Nat} {f : Fr} : agree m f f := fun _ _ => rfl
theorem agree.trans {m : Nat} {f g h : Fr} (a : agree m f g) (b : agree m g h) : agree m f h := fun t ht => (b t ht).trans (a t ht)
theorem agree.upd {m : Nat} {f : Fr} {d : Nat} {v : Value} (hd : hasB m d = true) : agree m f (upd f d v) := by
  intro t ht
  unfold Go.Proofs.YtllddgdmmfmpkaaGreatDoor.upd
  cases e : Nat.beq t d
  · rfl
  · rw [Nat.beq_eq] at e; subst e; rw [hd] at ht; cases ht
theorem agree.updO {m : Nat} {f : Fr} {d : Option Nat} {v : Value} (hd : ∀ t, d = some t → hasB m t = true) : agree m f (updO f d v) := by
  cases d with
  | none => exact agree.refl
  | some d => exact agree.upd (hd d rfl)
def asgInOps (m : Nat) : List IOpr → Bool
  | [] => true
  | o :: r => (match o.dst with | some d => hasB m d | none => true) && asgInOps m r
def asgInD (m : Nat) : DT → Bool
  | .f o r | .m o r => (match o.dst with | some d => hasB m d | none => true) && asgInD m r
  | .both a b => asgInD m a && asgInD m b
  | _ => true
def asgIn (m : Nat) : IC → Bool
  | .region ops => asgInOps m ops
  | .draw t => asgInD m t
  | .par _ => false
  | .seq a b | .cut a b | .cond _ a b => asgIn m a && asgIn m b
  | .block _ b | .loop _ b => asgIn m b
  | _ => true
section frame
variable {P : Program} {W0 : World} {m : Nat}
theorem asgInOps_dst {o : IOpr} {r : List IOpr} (h : asgInOps m (o :: r) = true) : (∀ t, o.dst = some t → hasB m t = true) ∧ asgInOps m r = true := by
  simp only [asgInOps, Bool.and_eq_true] at h
  refine ⟨fun t ht => ?_, h.2⟩
  rw [ht] at h
  exact h.1
theorem XR_frame {K : Fr → Own → Prop} : ∀ (l : List IOpr) (f : Fr) (own : Own), asgInOps m l = true → XR P W0 l K f own → XR P W0 l (fun f' own' => K f' own' ∧ agree m f f') f own
  | [], f, own, _, h => ⟨h, agree.refl⟩
  | ⟨d, op, gd⟩ :: l, f, own, hm, h => by
    obtain ⟨hd, hl⟩ := asgInOps_dst hm
    simp only at hd
    have ih : ∀ f1 own1, agree m f f1 → XR P W0 l K f1 own1 → XR P W0 l (fun f' own' => K f' own' ∧ agree m f f') f1 own1 := fun f1 own1 ha h1 =>
      XR_mono (fun f' own' hk => ⟨hk.1, ha.trans hk.2⟩) l f1 own1 (XR_frame l f1 own1 hl h1)
    cases gd with
    | none => exact XO_mono (fun v own' h => ih _ _ (agree.updO hd) h) h
    | some gb =>
      obtain ⟨g, b⟩ := gb
      simp only [XR_some] at h ⊢
      split at h
      · rename_i c hc
        refine ⟨fun e => ?_, fun e => ?_⟩
        · have hs : upd f g (.bool b) = f := upd_same (by rw [hc, e])
          have h' := h.y e
          rw [hs] at h' ⊢
          exact XO_mono (fun v own' h => ih _ _ (agree.updO hd) h) h'
        · have hs : upd f g (.bool (!b)) = f := upd_same (by rw [hc, e])
          have h' := h.n e
          rw [hs] at h' ⊢
          exact ih _ _ (agree.updO hd) h'
      · exact ih _ _ (agree.updO hd) h
theorem XG_frame {gd : Option (Nat × Bool)} {f : Fr} {Y Y' N N' : Fr → Prop} (hy : ∀ f1, agree m f f1 → Y f1 → Y' f1) (hn : ∀ f1, agree m f f1 → N f1 → N' f1) (h : XG gd f Y N) : XG gd f Y' N' := by
  unfold XG at h ⊢
  split
  · exact hy _ agree.refl h
  · rename_i g b
    simp only at h
    split
    · rename_i c hc
      rw [hc] at h
      refine ⟨fun e => ?_, fun e => ?_⟩
      · have hs : upd f g (.bool b) = f := upd_same (by rw [hc, e])
        have h' := h.y e
        rw [hs] at h' ⊢
        exact hy _ agree.refl h'
      · have hs : upd f g (.bool (!b)) = f := upd_same (by rw [hc, e])
        have h' := h.n e
        rw [hs] at h' ⊢
        exact hn _ agree.refl h'
    · rename_i hc; split at h
      · rename_i hc'; exact absurd hc' (hc _)
      · exact hn _ agree.refl h
theorem XD_frame {K : Fr → Own → Prop} : ∀ (t : DT) (f : Fr) (own : Own), asgInD m t = true → XD P W0 t K f own → XD P W0 t (fun f' own' => K f' own' ∧ agree m f f') f own
  | .done, f, own, _, h => ⟨h, agree.refl⟩
  | .f o r, f, own, hm, h => by
    simp only [asgInD, Bool.and_eq_true] at hm
    have hd : ∀ t, o.dst = some t → hasB m t = true := fun t ht => by have := hm.1; rw [ht] at this; exact this
    have ih : ∀ f1 own1, agree m f f1 → XD P W0 r K f1 own1 → XD P W0 r (fun f' own' => K f' own' ∧ agree m f f') f1 own1 := fun f1 own1 ha h1 =>
      XD_mono (fun f' own' hk => ⟨hk.1, ha.trans hk.2⟩) r f1 own1 (XD_frame r f1 own1 hm.2 h1)
    rw [XD_f] at h ⊢
    exact XG_frame (fun f1 ha h => XQ_mono (fun v h => ih _ _ (ha.trans (agree.updO hd)) h) h) (fun f1 ha h => ih _ _ (ha.trans (agree.updO hd)) h) h
  | .m o r, f, own, hm, h => by
    simp only [asgInD, Bool.and_eq_true] at hm
    have hd : ∀ t, o.dst = some t → hasB m t = true := fun t ht => by have := hm.1; rw [ht] at this; exact this
    have ih : ∀ f1 own1, agree m f f1 → XD P W0 r K f1 own1 → XD P W0 r (fun f' own' => K f' own' ∧ agree m f f') f1 own1 := fun f1 own1 ha h1 =>
      XD_mono (fun f' own' hk => ⟨hk.1, ha.trans hk.2⟩) r f1 own1 (XD_frame r f1 own1 hm.2 h1)
    rw [XD_m] at h ⊢
    exact XG_frame (fun f1 ha h => XO_mono (fun v own' h => ih _ _ (ha.trans (agree.updO hd)) h) h) (fun f1 ha h => ih _ _ (ha.trans (agree.updO hd)) h) h
  | .both a b, f, own, hm, h => by
    simp only [asgInD, Bool.and_eq_true] at hm
    exact ⟨XD_frame a f own hm.1 (Both.l (A := XD P W0 a K f own) (B := XD P W0 b K f own) h), XD_frame b f own hm.2 (Both.r (A := XD P W0 a K f own) (B := XD P W0 b K f own) h)⟩
  | .tt, _, _, _, h => h
  | .bad, _, _, _, h => h.elim
theorem XS_frame : ∀ (c : IC) (Q : Post) (f : Fr) (own : Own), asgIn m c = true → XS P W0 c Q f own → XS P W0 c (fun e f' own' => Q e f' own' ∧ agree m f f') f own
  | .skip, Q, f, own, _, h => ⟨h, agree.refl⟩
  | .region ops, Q, f, own, hm, h => XR_frame ops f own hm h
  | .draw ops, Q, f, own, hm, h => XD_frame ops f own hm h
  | .par _, _, _, _, hm, _ => by cases hm
  | .seq a b, Q, f, own, hm, h => by
    simp only [asgIn, Bool.and_eq_true] at hm
    refine XS_mono a _ _ ?_ f own (XS_frame a _ f own hm.1 h)
    intro e f' own' h'
    cases e with
    | normal => exact XS_mono b _ _ (fun e f2 o2 hk => ⟨hk.1, h'.2.trans hk.2⟩) f' own' (XS_frame b Q f' own' hm.2 h'.1)
    | _ => exact h'
  | .cut a b, Q, f, own, hm, h => by
    simp only [asgIn, Bool.and_eq_true] at hm
    refine ⟨XS_mono a _ _ ?_ f own (XS_frame a _ f own hm.1 h.h)⟩
    intro e f' own' h'
    cases e with
    | normal =>
      obtain ⟨⟨o2, he, hb⟩, ha⟩ := h'
      exact ⟨o2, he, XS_mono b _ _ (fun e f2 o2 hk => ⟨hk.1, ha.trans hk.2⟩) f' o2 (XS_frame b Q f' o2 hm.2 hb)⟩
    | _ => exact h'
  | .cond c a b, Q, f, own, hm, h => by
    simp only [asgIn, Bool.and_eq_true] at hm
    simp only [XS_cond] at h ⊢
    split at h
    · exact ⟨fun e => XS_frame a Q f own hm.1 (h.y e), fun e => XS_frame b Q f own hm.2 (h.n e)⟩
    · exact h.elim
  | .block id b, Q, f, own, hm, h => by
    refine XS_mono b _ _ ?_ f own (XS_frame b _ f own hm h)
    intro e f' own' h'
    cases e <;> simp only [blockQ] at h' ⊢
    case exit => split <;> rename_i hc <;> rw [hc] at h' <;> exact h'
    all_goals exact h'
  | .loop k b, Q, f, own, hm, h => by
    obtain ⟨I, ⟨n0, o0, he0, h0⟩, h1⟩ := h.h
    refine ⟨fun n f' own' => I n f' own' ∧ agree m f f', ⟨n0, o0, he0, h0, agree.refl⟩, fun n f' own' hI => ?_⟩
    refine XS_mono b _ _ ?_ f' own' (XS_frame b _ f' own' hm (h1 n f' own' hI.1))
    intro e f2 o2 h'
    cases e with
    | normal =>
      obtain ⟨⟨k, o3, hk, he, hI3⟩, ha⟩ := h'
      exact ⟨k, o3, hk, he, hI3, hI.2.trans ha⟩
    | _ => exact ⟨h'.1, hI.2.trans h'.2⟩
  | .exit _, Q, f, own, _, h => ⟨h, agree.refl⟩
  | .ret, Q, f, own, _, h => ⟨h, agree.refl⟩
  | .bad, _, _, _, _, h => h.elim
end frame
def look : List (Nat × Value) → Nat → Value → Value
  | [], _, d => d
  | (s, v) :: r, t, d => bif Nat.beq t s then v else look r t d
def mixF (m : Nat) (L : List (Nat × Value)) (junk f : Fr) : Fr := fun t => bif hasB m t then look L t (junk t) else f t
noncomputable def matchF (L : List (Nat × Value)) (f : Fr) : Prop :=
  List.rec (motive := fun _ => Prop) True (fun sv _ ih => f sv.1 = sv.2 ∧ ih) L
theorem look_match : ∀ (L : List (Nat × Value)) (f : Fr) (t : Nat), matchF L f → look L t (f t) = f t
  | [], f, t, _ => rfl
  | (s, v) :: r, f, t, h => by
    unfold look
    cases e : Nat.beq t s
    · exact look_match r f t h.2
    · rw [Nat.beq_eq] at e; subst e; exact h.1.symm
theorem mix_eq {m : Nat} {L : List (Nat × Value)} {f f' : Fr} (ha : agree m f f') (hl : matchF L f') : mixF m L f' f = f' := by
  funext t
  unfold mixF
  cases e : hasB m t
  · exact (ha t e).symm
  · exact look_match L f' t hl
section rules
variable {P : Program} {W0 : World} {own : Own} {f : Fr}
theorem loop_i {mask : Nat} {b : IC} {Q : Post} {σ : Type} (L : σ → List (Nat × Value)) (O : σ → Own) (I : σ → Prop) (μ : σ → Nat) (s0 : σ) (h0 : I s0) (hf : matchF (L s0) f) (ho : Ent W0 own (O s0))
    (hm : asgIn mask b = true)
    (step : ∀ s junk, I s → XS P W0 b (thenQ (fun f' own' => ∃ s', I s' ∧ μ s' < μ s ∧ matchF (L s') f' ∧ Ent W0 own' (O s')) Q) (mixF mask (L s) junk f) (O s)) :
    LoopT P W0 b mask (XS P W0 b) Q f own := by
  refine ⟨fun n f' own' => ∃ s junk, I s ∧ μ s = n ∧ f' = mixF mask (L s) junk f ∧ own' = O s, ⟨μ s0, O s0, ho, s0, f, h0, rfl, (mix_eq agree.refl hf).symm, rfl⟩, ?_⟩
  rintro n f' own' ⟨s, junk, hI, rfl, rfl, rfl⟩
  refine XS_mono b _ _ ?_ _ _ (XS_frame b _ _ _ hm (step s junk hI))
  intro e f2 o2 h
  cases e with
  | normal =>
    obtain ⟨⟨s', hI', hlt, hmt, he⟩, ha⟩ := h
    have ha' : agree mask f f2 := fun t ht => (ha t ht).trans (by simp [mixF, ht])
    exact ⟨μ s', O s', hlt, he, s', f2, hI', rfl, (mix_eq ha' hmt).symm, rfl⟩
  | _ => exact h.1
theorem loop_c {mask : Nat} {b : IC} {Q : Post} {σ : Type} (L : σ → List (Nat × Value)) (I : σ → Prop) (μ : σ → Nat) (s0 : σ) (h0 : I s0) (hf : matchF (L s0) f) (hm : asgIn mask b = true)
    (step : ∀ s junk, I s → XS P W0 b (thenQ (fun f' own' => ∃ s', I s' ∧ μ s' < μ s ∧ matchF (L s') f' ∧ Ent W0 own' own) Q) (mixF mask (L s) junk f) own) :
    LoopT P W0 b mask (XS P W0 b) Q f own := loop_i L (fun _ => own) I μ s0 h0 hf Ent.refl hm step
noncomputable def Rounds (body : Post → Fr → Own → Prop) (Q : Post) (n : Nat) : Fr → Own → Prop :=
  Nat.rec (motive := fun _ => Fr → Own → Prop) (fun _ _ => False) (fun _ ih f own => body (thenQ ih Q) f own) n
theorem loop_r {mask : Nat} {b : IC} {Q : Post} (n : Nat) (h : Rounds (XS P W0 b) Q n f own) : LoopT P W0 b mask (XS P W0 b) Q f own := by
  refine ⟨fun k f' own' => Rounds (XS P W0 b) Q k f' own', ⟨n, own, Ent.refl, h⟩, fun k f' own' hI => ?_⟩
  cases k with
  | zero => exact hI.elim
  | succ k =>
    refine XS_mono b _ _ ?_ f' own' hI
    intro e f2 o2 h'
    cases e with
    | normal => exact ⟨k, o2, Nat.lt_succ_self k, Ent.refl, h'⟩
    | _ => exact h'
theorem wrap_i64 {e : Int} (h1 : -9223372036854775808 ≤ e) (h2 : e ≤ 9223372036854775807) : IntKind.i64.wrap e = e := by
  unfold IntKind.wrap
  have h3 : ((2 : Int) ^ IntKind.i64.bits) = 18446744073709551616 := rfl
  have h4 : ((2 : Int) ^ (IntKind.i64.bits - 1)) = 9223372036854775808 := rfl
  simp only [h3, h4, IntKind.signed, Bool.true_and, decide_eq_true_eq]
  split <;> omega
theorem wrap_u64 {e : Int} (h1 : 0 ≤ e) (h2 : e ≤ 18446744073709551615) : IntKind.u64.wrap e = e := by
  unfold IntKind.wrap
  have h3 : ((2 : Int) ^ IntKind.u64.bits) = 18446744073709551616 := rfl
  simp only [h3, IntKind.signed, Bool.false_and, Bool.false_eq_true, if_false]
  omega
theorem ari {e : Int} {K : Int → Prop} (h1 : -9223372036854775808 ≤ e ∧ e ≤ 9223372036854775807) (h : K e) : Arith .i64 e K := ⟨by rw [wrap_i64 h1.1 h1.2]; exact h⟩
theorem aru {e : Int} {K : Int → Prop} (h1 : 0 ≤ e ∧ e ≤ 18446744073709551615) (h : K e) : Arith .u64 e K := ⟨by rw [wrap_u64 h1.1 h1.2]; exact h⟩
theorem arw {k : IntKind} {e : Int} {K : Int → Prop} (h : K (k.wrap e)) : Arith k e K := ⟨h⟩
theorem mm_min {a b : Int} {K : Int → Prop} (h : K (min a b)) : MM false a b K := ⟨h⟩
theorem mm_max {a b : Int} {K : Int → Prop} (h : K (max a b)) : MM true a b K := ⟨h⟩
theorem quo_u {m n : Int} {K : Int → Prop} (h1 : 0 ≤ m ∧ 0 < n ∧ m ≤ 18446744073709551615) (h : K (m / n)) : Quo .u64 m n K := by
  refine ⟨by omega, ?_⟩
  have e : m.tdiv n = m / n := Int.tdiv_eq_ediv_of_nonneg h1.1
  have h2 : 0 ≤ m / n := Int.ediv_nonneg h1.1 (by omega)
  have h3 : m / n ≤ m := Int.ediv_le_self _ h1.1
  rw [e, wrap_u64 (by omega) (by omega)]
  exact h
theorem rem_i {m n : Int} {K : Int → Prop} (h1 : 0 ≤ m ∧ 0 < n) (h : K (m % n)) : Rem m n K := by
  refine ⟨by omega, ?_⟩
  rw [Int.tmod_eq_emod_of_nonneg h1.1]
  exact h
theorem shl_i {m n : Int} {K : Int → Prop} (h1 : 0 ≤ n ∧ n ≤ 64) (h2 : -9223372036854775808 ≤ m * 2 ^ n.toNat ∧ m * 2 ^ n.toNat ≤ 9223372036854775807) (h : K (m * 2 ^ n.toNat)) : Shl .i64 m n K := by
  refine ⟨h1.1, ?_⟩
  have e : min n.toNat IntKind.i64.bits = n.toNat := by simp only [IntKind.bits]; omega
  rw [e, wrap_i64 h2.1 h2.2]
  exact h
theorem shl_l {m n : Int} {K : Int → Prop} (k : Nat) (c : Int) (hn : n = (k : Int)) (hc : (2 : Int) ^ k = c) (hk : k ≤ 64) (h2 : -9223372036854775808 ≤ m * c ∧ m * c ≤ 9223372036854775807) (h : K (m * c)) : Shl .i64 m n K := by
  subst hn; subst hc
  exact shl_i ⟨by omega, by omega⟩ (by simpa using h2) (by simpa using h)
theorem shl0 {m : Int} {K : Int → Prop} (h2 : -9223372036854775808 ≤ m ∧ m ≤ 9223372036854775807) (h : K m) : Shl .i64 m 0 K := shl_l 0 1 rfl rfl (by omega) (by simpa using h2) (by simpa using h)
theorem shl1 {m : Int} {K : Int → Prop} (h2 : -9223372036854775808 ≤ m * 2 ∧ m * 2 ≤ 9223372036854775807) (h : K (m * 2)) : Shl .i64 m 1 K := shl_l 1 2 rfl rfl (by omega) h2 h
theorem shl2 {m : Int} {K : Int → Prop} (h2 : -9223372036854775808 ≤ m * 4 ∧ m * 4 ≤ 9223372036854775807) (h : K (m * 4)) : Shl .i64 m 2 K := shl_l 2 4 rfl rfl (by omega) h2 h
theorem shl3 {m : Int} {K : Int → Prop} (h2 : -9223372036854775808 ≤ m * 8 ∧ m * 8 ≤ 9223372036854775807) (h : K (m * 8)) : Shl .i64 m 3 K := shl_l 3 8 rfl rfl (by omega) h2 h
theorem ixn {i : Int} {n : Nat} {K : Nat → Prop} (h1 : 0 ≤ i ∧ i < n) (h : K i.toNat) : Idx i n K := ⟨i.toNat, by omega, by omega, h⟩
theorem ix0 {n : Nat} {K : Nat → Prop} (hj : Nat.blt 0 n = true) (h : K 0) : Idx 0 n K := ⟨0, rfl, by simpa using hj, h⟩
theorem ix1 {n : Nat} {K : Nat → Prop} (hj : Nat.blt 1 n = true) (h : K 1) : Idx 1 n K := ⟨1, rfl, by simpa using hj, h⟩
theorem ix2 {n : Nat} {K : Nat → Prop} (hj : Nat.blt 2 n = true) (h : K 2) : Idx 2 n K := ⟨2, rfl, by simpa using hj, h⟩
theorem ix3 {n : Nat} {K : Nat → Prop} (hj : Nat.blt 3 n = true) (h : K 3) : Idx 3 n K := ⟨3, rfl, by simpa using hj, h⟩
theorem ix4 {n : Nat} {K : Nat → Prop} (hj : Nat.blt 4 n = true) (h : K 4) : Idx 4 n K := ⟨4, rfl, by simpa using hj, h⟩
theorem ixs_j {b o sz n j : Nat} {K : Addr → Prop} (hj : j < n) (h : K ⟨b, o + j * sz, none⟩) : IxS (some ⟨b, o, none⟩) sz (j : Int) n K := ⟨j, b, o, rfl, hj, rfl, h⟩
theorem sel {o : Option Value} {K : Value → Prop} (v : Value) (hv : o = some v) (h : K v) : Sel o K := ⟨v, hv, h⟩
theorem when_y {b : Bool} {Ky Kn : Prop} (h : Ky) : When b b Ky Kn := ⟨fun _ => h, fun e => by cases b <;> cases e⟩
theorem when_tf {Ky Kn : Prop} (h : Kn) : When true false Ky Kn := ⟨fun e => (by cases e), fun _ => h⟩
theorem when_ft {Ky Kn : Prop} (h : Kn) : When false true Ky Kn := ⟨fun e => (by cases e), fun _ => h⟩
theorem when_dt {p : Prop} [Decidable p] {Ky Kn : Prop} (hy : p → Ky) (hn : ¬p → Kn) : When (decide p) true Ky Kn := ⟨fun e => hy (of_decide_eq_true e), fun e => hn (of_decide_eq_false e)⟩
theorem when_df {p : Prop} [Decidable p] {Ky Kn : Prop} (hy : ¬p → Ky) (hn : p → Kn) : When (decide p) false Ky Kn := ⟨fun e => hy (of_decide_eq_false e), fun e => hn (of_decide_eq_true e)⟩
theorem when_ndf {p : Prop} [Decidable p] {Ky Kn : Prop} (hy : p → Ky) (hn : ¬p → Kn) : When (!decide p) false Ky Kn := ⟨fun e => hy (by simpa using e), fun e => hn (by simpa using e)⟩
theorem br_t {Ky Kn : Prop} (h : Ky) : Br true Ky Kn := ⟨fun _ => h, fun e => by cases e⟩
theorem br_f {Ky Kn : Prop} (h : Kn) : Br false Ky Kn := ⟨fun e => (by cases e), fun _ => h⟩
theorem br_d {p : Prop} [Decidable p] {Ky Kn : Prop} (hy : p → Ky) (hn : ¬p → Kn) : Br (decide p) Ky Kn := ⟨fun e => hy (of_decide_eq_true e), fun e => hn (of_decide_eq_false e)⟩
theorem br_nd {p : Prop} [Decidable p] {Ky Kn : Prop} (hy : ¬p → Ky) (hn : p → Kn) : Br (!decide p) Ky Kn := ⟨fun e => hy (by simpa using e), fun e => hn (by simpa using e)⟩
theorem br_py {p : Prop} [Decidable p] {Ky Kn : Prop} (hp : p) (h : Ky) : Br (decide p) Ky Kn := br_d (fun _ => h) (fun hn => absurd hp hn)
theorem br_pn {p : Prop} [Decidable p] {Ky Kn : Prop} (hp : ¬p) (h : Kn) : Br (decide p) Ky Kn := br_d (fun hy => absurd hy hp) (fun _ => h)
theorem when_py {p : Prop} [Decidable p] {b : Bool} {Ky Kn : Prop} (hp : p) (h : When true b Ky Kn) : When (decide p) b Ky Kn := by rw [decide_eq_true hp]; exact h
theorem when_pn {p : Prop} [Decidable p] {b : Bool} {Ky Kn : Prop} (hp : ¬p) (h : When false b Ky Kn) : When (decide p) b Ky Kn := by rw [decide_eq_false hp]; exact h
theorem br_npy {p : Prop} [Decidable p] {Ky Kn : Prop} (hp : p) (h : Kn) : Br (!decide p) Ky Kn := by rw [decide_eq_true hp]; exact br_f h
theorem br_npn {p : Prop} [Decidable p] {Ky Kn : Prop} (hp : ¬p) (h : Ky) : Br (!decide p) Ky Kn := by rw [decide_eq_false hp]; exact br_t h
theorem bit_k {op : BinOp} {k : IntKind} {m n : Int} {K : Int → Prop} (h : K (bitF op k m n)) : BitT op k m n K := ⟨h⟩
theorem fcmp_e {op : BinOp} {a b : Nat} {K : Bool → Prop} (r : Bool) (hr : fcmp op (FloatKind.f64.format.order a b) = r) (h : K r) : FCmp op a b K := ⟨by rw [hr]; exact h⟩
theorem fcmp_k {op : BinOp} {a b : Nat} {K : Bool → Prop} (h : K (fcmp op (FloatKind.f64.format.order a b))) : FCmp op a b K := ⟨h⟩
theorem flt_s {op : BinOp} {a b : Nat} {K : Nat → Prop} (r : Nat) (hr : floatBits op .f64 a b = some r) (h : K r) : FltA op a b K := by
  refine ⟨fun r' hr' => ?_, fun hn => ?_⟩
  · rw [hr] at hr'
    cases hr'
    exact h
  · rw [hr] at hn
    cases hn
theorem flt_n {op : BinOp} {a b : Nat} {K : Nat → Prop} (hr : floatBits op .f64 a b = none) (h : ∀ r, nanB r → K r) : FltA op a b K := by
  refine ⟨fun r' hr' => ?_, fun _ => h⟩
  rw [hr] at hr'
  cases hr'
theorem f2i_e {k : IntKind} {b : Nat} {K : Int → Prop} (n : Int) (hn : floatToIntVal .f64 b k = some n) (h : K n) : F2I k b K := ⟨n, hn, h⟩
theorem new_i {o : Obj} {K : Nat → Own → Prop} (h : ∀ b, W0.heap.size ≤ b → K b ((b, (· = o)) :: own)) : New W0 own o K := ⟨fun b hb _ => h b hb⟩
theorem kn_cell {b off : Nat} {cs : Array Value} {T : TypeId} {fz : Nat × Nat} {v : Value} (hm : (b, fun o => o = Obj.cells cs T fz) ∈ own) (hv : cs.toList[off]? = some v) : Kn W0 own (fun w => w.cell? ⟨b, off, none⟩ = some v) := by
  intro w hw
  obtain ⟨o, ho, rfl⟩ := hw.owns _ hm
  simp only [World.cell?, ho]
  rw [Array.getElem?_toList] at hv
  simpa using hv
theorem ld_own {b off : Nat} {cs : Array Value} {T : TypeId} {fz : Nat × Nat} {K : Value → Prop} (v : Value) (hm : (b, fun o => o = Obj.cells cs T fz) ∈ own) (hv : cs.toList[off]? = some v) (h : K v) :
    Ld W0 own ⟨b, off, none⟩ K := ⟨v, kn_cell hm hv, h⟩
theorem ldN_own {b off n : Nat} {cs : Array Value} {T : TypeId} {fz : Nat × Nat} {K : Array Value → Prop} (vs : List Value) (hm : (b, fun o => o = Obj.cells cs T fz) ∈ own) (hv : (cs.toList.drop off).take n = vs) (hl : vs.length = n) (h : K vs.toArray) :
    LdN W0 own ⟨b, off, none⟩ n K := by
  refine ⟨vs.toArray, by simpa using hl, fun w hw j hj => ?_, h⟩
  rw [addr_add]
  have hj' : j < vs.length := by omega
  refine (kn_cell (v := vs[j]) hm ?_ w hw).trans (by simp [hj'])
  subst hv
  rw [List.getElem?_eq_some_iff]
  simp only [List.length_take, List.length_drop] at hj'
  exact ⟨by omega, by simp [List.getElem_take, List.getElem_drop]⟩
theorem ldN_all {b n : Nat} {cs : Array Value} {T : TypeId} {fz : Nat × Nat} {K : Array Value → Prop} (hm : (b, fun o => o = Obj.cells cs T fz) ∈ own) (hl : cs.toList.length = n) (h : K cs) :
    LdN W0 own ⟨b, 0, none⟩ n K := by
  refine ⟨cs, hl, fun w hw j hj => ?_, h⟩
  rw [addr_add, Nat.zero_add]
  have hj' : j < cs.toList.length := by omega
  exact (kn_cell (v := cs.toList[j]) hm (List.getElem?_eq_getElem hj') w hw).trans (List.getElem?_eq_getElem hj').symm
theorem ld_kn {a : Addr} {K : Value → Prop} {v : Value} (hv : Kn W0 own (fun w => w.cell? a = some v)) (h : K v) : Ld W0 own a K := ⟨v, hv, h⟩
inductive Lis : List Value → List Value → Prop
  | nil : Lis [] []
  | cons {a : Value} {l l' : List Value} (h : Lis l l') : Lis (a :: l) (a :: l')
theorem Lis.eq {l l' : List Value} (h : Lis l l') : l' = l := by
  induction h with
  | nil => rfl
  | cons _ ih => rw [ih]
inductive SetAt : List Value → Nat → Value → List Value → Prop
  | here {a v : Value} {l l' : List Value} (h : Lis l l') : SetAt (a :: l) 0 v (v :: l')
  | there {a v : Value} {n : Nat} {l l' : List Value} (h : SetAt l n v l') : SetAt (a :: l) (n + 1) v (a :: l')
theorem SetAt.eq {l l' : List Value} {n : Nat} {v : Value} (h : SetAt l n v l') : n < l.length ∧ l' = l.set n v := by
  induction h with
  | here h => exact ⟨by simp, by rw [h.eq]; rfl⟩
  | there _ ih => exact ⟨by simp only [List.length_cons]; omega, by rw [ih.2]; rfl⟩
inductive PutAt : List Value → Nat → List Value → List Value → Prop
  | done {l l' : List Value} (h : Lis l l') : PutAt l 0 [] l'
  | put {a v : Value} {l vs l' : List Value} (h : PutAt l 0 vs l') : PutAt (a :: l) 0 (v :: vs) (v :: l')
  | skip {a : Value} {n : Nat} {l vs l' : List Value} (h : PutAt l n vs l') : PutAt (a :: l) (n + 1) vs (a :: l')
theorem PutAt.eq {l l' : List Value} {n : Nat} {vs : List Value} (h : PutAt l n vs l') : n + vs.length ≤ l.length ∧ l' = l.take n ++ vs ++ l.drop (n + vs.length) := by
  induction h with
  | done h => exact ⟨by simp, by simp [h.eq]⟩
  | put _ ih => exact ⟨by simp only [List.length_cons]; omega, by rw [ih.2]; simp⟩
  | skip _ ih =>
    refine ⟨by simp only [List.length_cons]; omega, ?_⟩
    rw [ih.2]
    rename_i n _ vs _ _
    have e : n + 1 + vs.length = (n + vs.length) + 1 := by omega
    simp [e]
theorem st_own {b off : Nat} {cs : Array Value} {cs' : List Value} {T : TypeId} {v : Value} {K : Own → Prop} {own' : Own}
    (hu : Up b (fun o => o = Obj.cells cs T (0, 0)) (fun o => o = Obj.cells cs'.toArray T (0, 0)) own own') (hset : SetAt cs.toList off v cs') (h1 : oneC v = true) (h : K own') : StT W0 own ⟨b, off, none⟩ v K := by
  obtain ⟨hoff, rfl⟩ := hset.eq
  refine ⟨h1, own', fun w hw => ?_, h⟩
  obtain ⟨o, ho, rfl⟩ := hw.owns _ hu.mem
  have hoff' : off < cs.size := by simpa using hoff
  refine ⟨by simp [World.cell?, ho, hoff'], by simp [World.frozen?, ho], hw.up hu rfl rfl rfl (by simp [World.setCell]) (fun k _ hne => ?_) ⟨_, ?_, rfl⟩⟩
  · rw [setCell_heap, if_neg (fun e => hne e.symm)]
  · rw [setCell_heap, if_pos rfl, ho]
    simp only [Option.map_some, Option.isSome_none, Bool.false_eq_true, if_false]
    congr 2
    rw [← Array.toList_inj]
    simp
theorem setN_eq {b : Nat} {T : TypeId} : ∀ (vs : List Value) (j : Nat) (w : World) (off : Nat) (cs : List Value), w.heap[b]? = some (.cells cs.toArray T (0, 0)) → off + j + vs.length ≤ cs.length →
    (setN w ⟨b, off, none⟩ j vs).heap[b]? = some (.cells (cs.take (off + j) ++ vs ++ cs.drop (off + j + vs.length)).toArray T (0, 0)) ∧ (∀ k, k ≠ b → (setN w ⟨b, off, none⟩ j vs).heap[k]? = w.heap[k]?) ∧
      (setN w ⟨b, off, none⟩ j vs).heap.size = w.heap.size ∧ (setN w ⟨b, off, none⟩ j vs).os = w.os ∧ (setN w ⟨b, off, none⟩ j vs).tape = w.tape ∧ (setN w ⟨b, off, none⟩ j vs).output = w.output
  | [], j, w, off, cs, h, hl => ⟨by simpa [setN] using h, fun _ _ => rfl, rfl, rfl, rfl, rfl⟩
  | v :: vs, j, w, off, cs, h, hl => by
    simp only [List.length_cons] at hl
    have h1 : (w.setCell ⟨b, off + j, none⟩ v).heap[b]? = some (.cells (cs.set (off + j) v).toArray T (0, 0)) := by
      rw [setCell_heap, if_pos rfl, h]
      simp
    have ih := setN_eq vs (j + 1) (w.setCell ⟨b, off + j, none⟩ v) off (cs.set (off + j) v) h1 (by simp; omega)
    simp only [setN, addr_add]
    refine ⟨?_, fun k hk => (ih.2.1 k hk).trans (by rw [setCell_heap, if_neg (fun e => hk e.symm)]), ih.2.2.1.trans (by simp [World.setCell]), ih.2.2.2.1, ih.2.2.2.2.1, ih.2.2.2.2.2⟩
    rw [ih.1]
    congr 3
    have e1 : off + (j + 1) = off + j + 1 := by omega
    rw [e1, List.take_set, List.drop_set_of_lt (by omega), List.take_succ_eq_append_getElem (by omega)]
    have e2 : (List.take (off + j) cs ++ [cs[off + j]]).set (off + j) v = List.take (off + j) cs ++ [v] := by
      rw [List.set_append_right _ _ (by simp; omega)]
      have : off + j - (List.take (off + j) cs).length = 0 := by simp; omega
      rw [this]
      rfl
    rw [e2]
    simp [Nat.add_assoc, Nat.add_comm 1]
theorem stN_own {b off : Nat} {cs : Array Value} {cs' : List Value} {T : TypeId} {vs : List Value} {K : Own → Prop} {own' : Own}
    (hu : Up b (fun o => o = Obj.cells cs T (0, 0)) (fun o => o = Obj.cells cs'.toArray T (0, 0)) own own') (hput : PutAt cs.toList off vs cs') (h1 : vs.all oneC = true)
    (h : K own') : StN W0 own ⟨b, off, none⟩ vs K := by
  obtain ⟨hoff, rfl⟩ := hput.eq
  refine ⟨by simpa using h1, own', fun w hw => ?_, h⟩
  obtain ⟨o, ho, rfl⟩ := hw.owns _ hu.mem
  have hoff' : off + vs.length ≤ cs.size := by simpa using hoff
  have hs := setN_eq (T := T) vs 0 w off cs.toList (by simpa using ho) (by simpa using hoff)
  refine ⟨fun j hj => ?_, hw.up hu hs.2.2.2.1 hs.2.2.2.2.1 hs.2.2.2.2.2 (by rw [hs.2.2.1]; exact Nat.le_refl _) (fun k _ hne => hs.2.1 k hne) ⟨_, by simpa using hs.1, rfl⟩⟩
  rw [addr_add]
  have hlt : off + j < cs.size := by omega
  exact ⟨by simp [World.cell?, ho, hlt], by simp [World.frozen?, ho]⟩
theorem vi {k : IntKind} {a b : Int} (h : a = b) : Value.int k a = .int k b := by rw [h]
theorem vb {a b : Bool} (h : a = b) : Value.bool a = .bool b := by rw [h]
theorem ret1 {a a' : Value} (h1 : a = a') : resV [a] = a' := h1
theorem ret2 {a b a' b' : Value} (h1 : a = a') (h2 : b = b') : resV [a, b] = .tuple #[a', b'] := by rw [h1, h2]; rfl
theorem ret3 {a b c a' b' c' : Value} (h1 : a = a') (h2 : b = b') (h3 : c = c') : resV [a, b, c] = .tuple #[a', b', c'] := by rw [h1, h2, h3]; rfl
theorem dd {p q : Prop} [Decidable p] [Decidable q] (h : p ↔ q) : decide p = decide q := decide_eq_decide.2 h
theorem dn {p q : Prop} [Decidable p] [Decidable q] (h : ¬p ↔ q) : (!decide p) = decide q := by rw [← decide_not]; exact decide_eq_decide.2 h
theorem df {q : Prop} [Decidable q] (h : ¬q) : false = decide q := (decide_eq_false h).symm
theorem dt {q : Prop} [Decidable q] (h : q) : true = decide q := (decide_eq_true h).symm
def Pure (P : Program) (W0 : World) (k : FuncId) (args : List Value) (own : Own) (v : Value) : Prop :=
  ∀ w, St W0 own w → Calls P k args.toArray w fun e w' => e = .returned v ∧ St W0 own w'
theorem pure_of {k : FuncId} {args : List Value} {v : Value} (h : Spec P W0 k args own fun v' own' => v' = v ∧ Ent W0 own' own) : Pure P W0 k args own v := fun w hw =>
  (h w hw).mono fun _ w' ⟨_, _, he, hs, hv, hE⟩ => ⟨by rw [he, hv], hE w' hs⟩
theorem call_p {k : FuncId} {args : List Value} {v : Value} {K : Value → Own → Prop} (h : Pure P W0 k args own v) (hk : K v own) : CallT P W0 own k args K :=
  ⟨fun w hw => (h w hw).mono fun _ _ ⟨he, hs⟩ => ⟨v, own, he, hs, hk⟩⟩
theorem call_q {k : FuncId} {args : List Value} {v : Value} {K : Value → Prop} (h : ∀ own', Pure P W0 k args own' v) (hk : K v) : CallQ P W0 own k args K := ⟨v, fun ex w hw => h (ex ++ own) w hw, hk⟩
theorem call_qe {k : FuncId} {args : List Value} {v : Value} {K : Value → Prop} (h : ∀ ex, Pure P W0 k args (ex ++ own) v) (hk : K v) : CallQ P W0 own k args K := ⟨v, fun ex w hw => h ex w hw, hk⟩
end rules
end Go.Proofs.YtllddgdmmfmpkaaGreatDoor
namespace Go.Proofs.YtllddgdmmfmpkaaGreatDoor
open Go
def ab : Option Addr → Nat
  | some a => a.block
  | none => 0
def ao : Option Addr → Nat
  | some a => a.off
  | none => 0
section ent
variable {W0 : World} {own : Own}
theorem Ent.left {D r : Own} : Ent W0 (D ++ r) D := Ent.of_sub (List.sublist_append_left D r)
theorem Ent.right {D r : Own} : Ent W0 (D ++ r) r := Ent.of_sub (List.sublist_append_right D r)
theorem Ent.app {A own' : Own} (h : Ent W0 own own') : Ent W0 (A ++ own) own' := Ent.right.trans h
theorem Ent.none : Ent W0 own [] := Ent.of_sub (List.nil_sublist own)
inductive At (D : Own) : Own → (Own → Own) → Prop
  | head {r : Own} : At D (D ++ r) (fun X => X ++ r)
  | tail {e : Nat × (Obj → Prop)} {r : Own} {C : Own → Own} (h : At D r C) : At D (e :: r) (fun X => e :: C X)
  | skip {A r : Own} {C : Own → Own} (h : At D r C) : At D (A ++ r) (fun X => A ++ C X)
theorem At.perm {D own : Own} {C : Own → Own} (h : At D own C) : ∃ r, own.Perm (D ++ r) ∧ ∀ X, (C X).Perm (X ++ r) := by
  induction h with
  | head => exact ⟨_, List.Perm.refl _, fun _ => List.Perm.refl _⟩
  | @tail e r C h ih =>
    obtain ⟨r', h1, h2⟩ := ih
    exact ⟨e :: r', (h1.cons e).trans List.perm_middle.symm, fun X => ((h2 X).cons e).trans List.perm_middle.symm⟩
  | @skip A r C h ih =>
    obtain ⟨r', h1, h2⟩ := ih
    have sw : ∀ X : Own, (A ++ (X ++ r')).Perm (X ++ (A ++ r')) := fun X => by
      rw [← List.append_assoc, ← List.append_assoc]
      exact List.perm_append_comm.append_right r'
    exact ⟨A ++ r', (h1.append_left A).trans (sw D), fun X => ((h2 X).append_left A).trans (sw X)⟩
theorem At.ent {D own : Own} {C : Own → Own} (h : At D own C) {e : Nat × (Obj → Prop)} : Ent W0 (e :: own) (C [e]) := by
  obtain ⟨r, h1, h2⟩ := h.perm
  refine (Ent.of_perm (h1.cons e)).trans ((Ent.of_sub (List.Sublist.cons_cons e (List.sublist_append_right D r))).trans (Ent.of_perm (h2 [e]).symm))
theorem At.self {D own : Own} {C : Own → Own} (h : At D own C) : Ent W0 own D := by
  obtain ⟨r, h1, _⟩ := h.perm
  exact (Ent.of_perm h1).trans Ent.left
theorem At.same {D own : Own} {C : Own → Own} (h : At D own C) : C D = own := by
  induction h with
  | head => rfl
  | tail _ ih => exact congrArg _ ih
  | skip _ ih => exact congrArg _ ih
theorem Up.app {b : Nat} {p q : Obj → Prop} {r r' : Own} (h : Up b p q r r') : ∀ A : Own, Up b p q (A ++ r) (A ++ r')
  | [] => h
  | _ :: A => Up.tail (Up.app h A)
theorem At.up {b : Nat} {p : Obj → Prop} {own : Own} {C : Own → Own} (h : At [(b, p)] own C) (q : Obj → Prop) : Up b p q own (C [(b, q)]) := by
  generalize hD : [(b, p)] = D at h
  induction h with
  | head => subst hD; exact Up.head
  | tail _ ih => exact Up.tail ih
  | @skip A _ _ _ ih => exact Up.app ih A
end ent
section flat
variable {α : Type} {enc : α → List Value} {sz : Nat}
theorem flat_len : ∀ (l : List α), (∀ x ∈ l, (enc x).length = sz) → (l.map enc).flatten.length = l.length * sz
  | [], _ => by simp
  | x :: l, h => by
    simp only [List.map_cons, List.flatten_cons, List.length_append, List.length_cons, flat_len l (fun y hy => h y (List.mem_cons_of_mem _ hy)), h x List.mem_cons_self, Nat.succ_mul]
    omega
theorem flat_get : ∀ (l : List α), (∀ x ∈ l, (enc x).length = sz) → ∀ {j k : Nat} {x : α} {v : Value}, l[j]? = some x → (enc x)[k]? = some v → (l.map enc).flatten[j * sz + k]? = some v
  | [], _, j, k, x, v, h, _ => by simp at h
  | y :: l, h, 0, k, x, v, hx, hv => by
    simp only [List.getElem?_cons_zero, Option.some.injEq] at hx
    subst hx
    have hk := (List.getElem?_eq_some_iff.1 hv).1
    simp only [List.map_cons, List.flatten_cons, Nat.zero_mul, Nat.zero_add]
    rw [List.getElem?_append_left hk, hv]
  | y :: l, h, j + 1, k, x, v, hx, hv => by
    have hy := h y List.mem_cons_self
    simp only [List.map_cons, List.flatten_cons]
    rw [List.getElem?_append_right (by rw [hy, Nat.succ_mul]; omega), hy]
    have e : (j + 1) * sz + k - sz = j * sz + k := by rw [Nat.succ_mul]; omega
    rw [e]
    exact flat_get l (fun z hz => h z (List.mem_cons_of_mem _ hz)) (by simpa using hx) hv
end flat
structure RdE {α : Type} (enc : α → List Value) (sz : Nat) (W0 : World) (own : Own) (a : Option Addr) (l : List α) : Prop where
  isS : l ≠ [] → a = some ⟨ab a, ao a, none⟩
  wid : ∀ x ∈ l, (enc x).length = sz
  cell : ∀ {j k : Nat} {x : α} {v : Value}, l[j]? = some x → (enc x)[k]? = some v → Kn W0 own (fun w => w.cell? ⟨ab a, ao a + j * sz + k, none⟩ = some v)
structure BufE {α : Type} (enc : α → List Value) (T : TypeId) (sz : Nat) (a : Option Addr) (cap : Nat) (l : List α) (D : Own) : Prop where
  wid : ∀ x ∈ l, (enc x).length = sz
  how : (l = [] ∧ cap = 0 ∧ D = []) ∨ ∃ b rest, a = some ⟨b, 0, none⟩ ∧ D = [(b, fun o => o = Obj.cells ((l.map enc).flatten ++ rest).toArray T)] ∧ l.length * sz + rest.length = cap * sz ∧ l.length ≤ cap
section
variable {α : Type} {enc : α → List Value} {sz : Nat} {W0 : World} {own : Own} {a : Option Addr} {l : List α}
theorem RdE.ent {own' : Own} (h : RdE enc sz W0 own a l) (e : Ent W0 own' own) : RdE enc sz W0 own' a l := ⟨h.isS, h.wid, fun hx hv => (h.cell hx hv).ent e⟩
theorem RdE.nil : RdE enc sz W0 own a [] := ⟨fun h => absurd rfl h, fun _ h => (by cases h), fun h => (by simp at h)⟩
theorem ixE {i : Int} {K : Addr → Prop} {j : Nat} {x : α} (h : RdE enc sz W0 own a l) (hx : l[j]? = some x) (hi : i = j) (hk : K ⟨ab a, ao a + j * sz, none⟩) : IxS a sz i l.length K :=
  ⟨j, ab a, ao a, hi, (List.getElem?_eq_some_iff.1 hx).1, h.isS (fun e => by subst e; simp at hx), hk⟩
theorem ldE {j k o : Nat} {x : α} {v : Value} {K : Value → Prop} (h : RdE enc sz W0 own a l) (hx : l[j]? = some x) (ho : o = ao a + j * sz + k) (hv : (enc x)[k]? = some v) (hk : K v) : Ld W0 own ⟨ab a, o, none⟩ K := by
  subst ho; exact ⟨v, h.cell hx hv, hk⟩
theorem ldNE {j o n : Nat} {x : α} {K : Array Value → Prop} (h : RdE enc sz W0 own a l) (hx : l[j]? = some x) (ho : o = ao a + j * sz) (hn : n = sz) (hk : K (enc x).toArray) : LdN W0 own ⟨ab a, o, none⟩ n K := by
  subst ho; subst hn
  have hw := h.wid x (List.mem_of_getElem? hx)
  refine ⟨(enc x).toArray, by simpa using hw, fun w hs i hi => ?_, hk⟩
  rw [addr_add]
  have hi' : i < (enc x).length := by omega
  exact (h.cell (v := (enc x)[i]) hx (List.getElem?_eq_getElem hi') w hs).trans (by simp [hi'])
theorem BufE.rd {T : TypeId} {cap : Nat} {D : Own} (h : BufE enc T sz a cap l D) : RdE enc sz W0 D a l := by
  rcases h.how with ⟨rfl, _, _⟩ | ⟨b, rest, rfl, rfl, hl, _⟩
  · exact RdE.nil
  · refine ⟨fun _ => rfl, h.wid, fun {j k x v} hx hv => ?_⟩
    have hf := flat_get l h.wid hx hv
    have hlt := (List.getElem?_eq_some_iff.1 hf).1
    show Kn W0 _ (fun w => w.cell? ⟨b, 0 + j * sz + k, none⟩ = some v)
    refine kn_cell (List.Mem.head _) ?_
    rw [Nat.zero_add, List.getElem?_append_left hlt, hf]
theorem BufE.le {T : TypeId} {cap : Nat} {D : Own} (h : BufE enc T sz a cap l D) : l.length ≤ cap := by
  rcases h.how with ⟨rfl, rfl, _⟩ | ⟨_, _, _, _, _, hl⟩
  · simp
  · exact hl
theorem BufE.nil {T : TypeId} : BufE enc T sz a 0 [] [] := ⟨fun _ h => (by cases h), .inl ⟨rfl, rfl, rfl⟩⟩
theorem rd_blk {b : Nat} {cs : Array Value} {T : TypeId} {fz : Nat × Nat} (hm : (b, fun o => o = Obj.cells cs T fz) ∈ own) (hw : ∀ x ∈ l, (enc x).length = sz) (hc : cs.toList = (l.map enc).flatten) : RdE enc sz W0 own (some ⟨b, 0, none⟩) l := by
  refine ⟨fun _ => rfl, hw, fun {j k x v} hx hv => ?_⟩
  have hf := flat_get l hw hx hv
  show Kn W0 own (fun w => w.cell? ⟨b, 0 + j * sz + k, none⟩ = some v)
  exact kn_cell hm (by rw [hc, Nat.zero_add]; exact hf)
theorem RdE.sl {c r m : Nat} (h : RdE enc sz W0 own a l) (hr : r ≤ l.length) (hm : r ≤ m) : RdE enc sz W0 own (slA a m c sz) ((l.drop c).take (r - c)) := by
  by_cases hcr : c < r
  · have hne : l ≠ [] := by intro e; subst e; simp at hr; omega
    have hS := h.isS hne
    have e1 : slA a m c sz = some ⟨ab a, ao a + c * sz, none⟩ := by
      unfold slA
      rw [if_neg (by omega), hS]
      simp [addr_add, ab, ao]
    rw [e1]
    refine ⟨fun _ => rfl, fun x hx => h.wid x (List.mem_of_mem_drop (List.mem_of_mem_take hx)), fun {j k x v} hx hv => ?_⟩
    have hx' : l[c + j]? = some x := by
      rw [List.getElem?_take] at hx
      split at hx
      · rwa [List.getElem?_drop] at hx
      · cases hx
    have := h.cell hx' hv
    have e2 : ao a + (c + j) * sz + k = ao a + c * sz + j * sz + k := by rw [Nat.add_mul]; omega
    rw [e2] at this
    exact this
  · have e : r - c = 0 := by omega
    rw [e, List.take_zero]
    exact RdE.nil
theorem setN_up {b : Nat} {T : TypeId} {w : World} {own' : Own} {cs vs : List Value} {off : Nat} (hw : St W0 own w) (hu : Up b (fun o => o = Obj.cells cs.toArray T) (fun o => o = Obj.cells (cs.take off ++ vs ++ cs.drop (off + vs.length)).toArray T) own own') (hl : off + vs.length ≤ cs.length) :
    (∀ j, j < vs.length → (w.cell? ⟨b, off + j, none⟩).isSome = true ∧ w.frozen? ⟨b, off + j, none⟩ = false) ∧ St W0 own' (setN w ⟨b, off, none⟩ 0 vs) := by
  obtain ⟨o, ho, rfl⟩ := hw.owns _ hu.mem
  have hs := setN_eq (T := T) vs 0 w off cs ho (by simpa using hl)
  refine ⟨fun j hj => ?_, hw.up hu hs.2.2.2.1 hs.2.2.2.2.1 hs.2.2.2.2.2 (by rw [hs.2.2.1]; exact Nat.le_refl _) (fun k _ hne => hs.2.1 k hne) ⟨_, by simpa using hs.1, rfl⟩⟩
  have hlt : off + j < cs.length := by omega
  exact ⟨by simp [World.cell?, ho, hlt], by simp [World.frozen?, ho]⟩
theorem app_c {T : TypeId} {bytes cap m : Nat} {zs : List Value} {D : Own} {C : Own → Own} {a2 : Option Addr} {l2 : List α} {K : Value → Own → Prop} (hB : BufE enc T sz a cap l D) (hat : At D own C) (hx : RdE enc sz W0 own a2 l2) (hm : m = l2.length)
    (hz : zs.length = sz) (hs : 0 < sz) (h1 : ∀ x ∈ l2, (enc x).all oneC = true) (hb : cap < l.length + l2.length → (l.length + l2.length) * bytes ≤ 140737488355328)
    (hk : ∀ a' cap' D', BufE enc T sz a' cap' (l ++ l2) D' → K (.slice a' (l.length + l2.length) cap') (C D')) : AppT W0 own T sz bytes zs a l.length cap a2 m K := by
  subst hm
  have hrd : RdE enc sz W0 own a l := (hB.rd (W0 := W0)).ent hat.self
  have holds : ∀ {a : Option Addr} {l : List α}, RdE enc sz W0 own a l → Kn W0 own (Holds a (l.map enc).flatten) := fun {a l} h w hw ad had j v hj => by
    have hlt := (List.getElem?_eq_some_iff.1 hj).1
    rw [flat_len l h.wid] at hlt
    have hj1 : j / sz < l.length := Nat.div_lt_of_lt_mul (by rwa [Nat.mul_comm])
    have hj2 : j % sz < sz := Nat.mod_lt _ hs
    have hx' : l[j / sz]? = some l[j / sz] := List.getElem?_eq_getElem hj1
    have hwd := h.wid _ (List.mem_of_getElem? hx')
    have hv' : (enc l[j / sz])[j % sz]? = some (enc l[j / sz])[j % sz] := List.getElem?_eq_getElem (by omega)
    have he : j / sz * sz + j % sz = j := Nat.div_add_mod' j sz
    have hf := flat_get l h.wid hx' hv'
    rw [he, hj] at hf
    have hS := h.isS (fun e => by subst e; simp at hj1)
    rw [hS] at had
    have had := Option.some.inj had
    rw [← had, addr_add]
    have hc := h.cell hx' hv' w hw
    have e2 : ao a + j / sz * sz + j % sz = ao a + j := by omega
    rw [e2] at hc
    rw [hc, hf]
  have wid2 : ∀ x ∈ l ++ l2, (enc x).length = sz := fun x h => (List.mem_append.1 h).elim (hB.wid x) (hx.wid x)
  refine ⟨(l.map enc).flatten, (l2.map enc).flatten, flat_len l hB.wid, flat_len l2 hx.wid, fun e => ?_, fun e => ?_, fun v hv => ?_, holds hrd, holds hx, fun hfit => ?_, fun hgr => ⟨hb hgr, fun b c' hb' hc' => ?_⟩⟩
  · cases l with
    | nil => rfl
    | cons x r => have := hrd.isS (by simp); rw [e] at this; cases this
  · cases l2 with
    | nil => rfl
    | cons x r => have := hx.isS (by simp); rw [e] at this; cases this
  · obtain ⟨cs, hcs, hv⟩ := List.mem_flatten.1 hv
    obtain ⟨x, hx', rfl⟩ := List.mem_map.1 hcs
    exact List.all_eq_true.1 (h1 x hx') v hv
  · rcases hB.how with ⟨rfl, rfl, rfl⟩ | ⟨b, rest, rfl, rfl, hl, hle⟩
    · have h2 : l2 = [] := by cases l2 with | nil => rfl | cons x r => simp at hfit
      subst h2
      have hC := hat.same
      refine ⟨own, fun w hw => ⟨fun ad _ => ⟨fun j hj => by simp at hj, by simpa [setN] using hw⟩, fun _ => hw⟩, ?_⟩
      have := hk a 0 [] BufE.nil
      rw [hC] at this
      exact this
    · have hfl := flat_len l hB.wid
      have hfl2 := flat_len l2 hx.wid
      have hsz : (l.length + l2.length) * sz ≤ cap * sz := Nat.mul_le_mul_right _ hfit
      rw [Nat.add_mul] at hsz
      refine ⟨C [(b, fun o => o = Obj.cells (((l ++ l2).map enc).flatten ++ rest.drop (l2.length * sz)).toArray T)], fun w hw => ⟨fun ad had => ?_, fun e => by cases e⟩, hk (some ⟨b, 0, none⟩) cap _ ⟨wid2, .inr ⟨b, rest.drop (l2.length * sz), rfl, rfl, ?_, by simpa using hfit⟩⟩⟩
      · have had := Option.some.inj had
        subst had
        have hnew : ((l.map enc).flatten ++ rest).take (l.length * sz) ++ (l2.map enc).flatten ++ ((l.map enc).flatten ++ rest).drop (l.length * sz + (l2.map enc).flatten.length) = ((l ++ l2).map enc).flatten ++ rest.drop (l2.length * sz) := by
          rw [hfl2, List.take_append_of_le_length (by omega), List.take_of_length_le (by omega), List.drop_append, List.drop_of_length_le (by omega), List.nil_append, hfl, Nat.add_sub_cancel_left, List.map_append, List.flatten_append]
        have hu := hat.up (q := fun o => o = Obj.cells (((l.map enc).flatten ++ rest).take (l.length * sz) ++ (l2.map enc).flatten ++ ((l.map enc).flatten ++ rest).drop (l.length * sz + (l2.map enc).flatten.length)).toArray T)
        have hr := setN_up (vs := (l2.map enc).flatten) (off := l.length * sz) hw hu (by rw [List.length_append, hfl, hfl2]; omega)
        rw [hnew] at hr
        rw [addr_add, Nat.zero_add]
        refine ⟨fun j hj => ?_, hr.2⟩
        rw [addr_add]
        exact hr.1 j hj
      · simp only [List.length_append, List.length_drop, Nat.add_mul]; omega
  · refine ⟨C [(b, fun o => o = Obj.cells ((l.map enc).flatten ++ (l2.map enc).flatten ++ (List.replicate (c' - (l.length + l2.length)) zs).flatten).toArray T)], hat.ent, ?_⟩
    refine hk (some ⟨b, 0, none⟩) c' _ ⟨wid2, .inr ⟨b, (List.replicate (c' - (l.length + l2.length)) zs).flatten, rfl, ?_, ?_, by simpa using hc'⟩⟩
    · rw [List.map_append, List.flatten_append]
    · simp only [List.length_append, List.length_flatten, List.map_replicate, List.sum_replicate_nat, hz]
      rw [← Nat.add_mul]
      congr 1
      omega
theorem app_b {T : TypeId} {bytes cap m : Nat} {zs : List Value} {D : Own} {C : Own → Own} {a2 : Option Addr} {l2 : List α} {K : Value → Own → Prop} (hB : BufE enc T sz a cap l D) (hat : At D own C) (hx : RdE enc sz W0 own a2 l2) (hm : m = l2.length)
    (hz : zs.length = sz) (hs : 0 < sz) (h1 : ∀ x ∈ l2, (enc x).all oneC = true) (hb : (l.length + l2.length) * bytes ≤ 140737488355328)
    (hk : ∀ a' cap' D', BufE enc T sz a' cap' (l ++ l2) D' → K (.slice a' (l.length + l2.length) cap') (C D')) : AppT W0 own T sz bytes zs a l.length cap a2 m K :=
  app_c hB hat hx hm hz hs h1 (fun _ => hb) hk
theorem app_1 {T T2 : TypeId} {bytes cap bt : Nat} {zs : List Value} {D : Own} {C : Own → Own} {ys : Array Value} {fz : Nat × Nat} {K : Value → Own → Prop} (x : α) (hB : BufE enc T sz a cap l D) (hat : At D own C) (hm : (bt, fun o => o = Obj.cells ys T2 fz) ∈ own) (hy : ys.toList = enc x)
    (hz : zs.length = sz) (hs : 0 < sz) (hw : (enc x).length = sz) (h1 : (enc x).all oneC = true) (hb : (l.length + 1) * bytes ≤ 140737488355328)
    (hk : ∀ a' cap' D', BufE enc T sz a' cap' (l ++ [x]) D' → K (.slice a' (l.length + 1) cap') (C D')) : AppT W0 own T sz bytes zs a l.length cap (some ⟨bt, 0, none⟩) 1 K :=
  app_b (l2 := [x]) hB hat (rd_blk hm (fun y hy => by rw [List.mem_singleton.1 hy]; exact hw) (by simpa using hy)) rfl hz hs (fun y hy => by rw [List.mem_singleton.1 hy]; exact h1) hb hk
theorem setN_one {w : World} {b o : Nat} {v : Value} : setN w ⟨b, o, none⟩ 0 [v] = w.setCell ⟨b, o, none⟩ v := by
  simp only [setN, addr_add, Nat.add_zero]
theorem stE {T : TypeId} {cap j k o : Nat} {D : Own} {C : Own → Own} {x : α} {v : Value} {K : Own → Prop} (x' : α) (hB : BufE enc T sz a cap l D) (hat : At D own C) (hx : l[j]? = some x) (ho : o = ao a + j * sz + k) (hk0 : k < sz) (hv : enc x' = (enc x).set k v) (h1 : oneC v = true)
    (hk : ∀ D', BufE enc T sz a cap (l.set j x') D' → K (C D')) : StT W0 own ⟨ab a, o, none⟩ v K := by
  subst ho
  have hj := (List.getElem?_eq_some_iff.1 hx).1
  have hwx := hB.wid x (List.mem_of_getElem? hx)
  rcases hB.how with ⟨rfl, _, _⟩ | ⟨b, rest, rfl, rfl, hl, hle⟩
  · simp at hx
  · have hfl := flat_len l hB.wid
    have hsz : (j + 1) * sz ≤ l.length * sz := Nat.mul_le_mul_right _ hj
    rw [Nat.succ_mul] at hsz
    have wid' : ∀ y ∈ l.set j x', (enc y).length = sz := fun y hy => (List.mem_or_eq_of_mem_set hy).elim (hB.wid y) (fun e => by rw [e, hv, List.length_set, hwx])
    have hspl : (l.map enc).flatten = ((l.take j).map enc).flatten ++ (enc x ++ ((l.drop (j + 1)).map enc).flatten) := by
      have e : l = l.take j ++ x :: l.drop (j + 1) := by
        rw [← (List.getElem?_eq_some_iff.1 hx).2, List.getElem_cons_drop, List.take_append_drop]
      conv => lhs; rw [e]
      simp
    have htl : ((l.take j).map enc).flatten.length = j * sz := by
      rw [flat_len _ (fun y hy => hB.wid y (List.mem_of_mem_take hy)), List.length_take]
      congr 1; omega
    have hnew : ((l.map enc).flatten ++ rest).take (j * sz + k) ++ [v] ++ ((l.map enc).flatten ++ rest).drop (j * sz + k + [v].length) = ((l.set j x').map enc).flatten ++ rest := by
      have h2 : ((l.set j x').map enc).flatten ++ rest = ((l.map enc).flatten ++ rest).set (j * sz + k) v := by
        have e1 : ((l.set j x').map enc).flatten = ((l.take j).map enc).flatten ++ ((enc x).set k v ++ ((l.drop (j + 1)).map enc).flatten) := by
          rw [List.set_eq_take_append_cons_drop, if_pos hj, List.map_append, List.flatten_append, List.map_cons, List.flatten_cons, hv]
        have e2 : ∀ A X B : List Value, A ++ (X ++ B) ++ rest = A ++ (X ++ (B ++ rest)) := fun A X B => by simp
        rw [e1, hspl, e2, e2, List.set_append_right _ _ (by omega), htl, Nat.add_sub_cancel_left, List.set_append_left _ _ (by omega)]
      rw [h2, set_split _ _ _ (by rw [List.length_append, hfl]; omega)]
      rfl
    refine ⟨h1, C [(b, fun o => o = Obj.cells (((l.set j x').map enc).flatten ++ rest).toArray T)], fun w hs => ?_, hk _ ⟨wid', .inr ⟨b, rest, rfl, rfl, by simpa using hl, by simpa using hle⟩⟩⟩
    have hu := hat.up (q := fun o => o = Obj.cells (((l.map enc).flatten ++ rest).take (j * sz + k) ++ [v] ++ ((l.map enc).flatten ++ rest).drop (j * sz + k + [v].length)).toArray T)
    have hr := setN_up (vs := [v]) (off := j * sz + k) hs hu (by rw [List.length_append, hfl]; simp; omega)
    rw [hnew, setN_one] at hr
    show (w.cell? ⟨b, 0 + j * sz + k, none⟩).isSome = true ∧ w.frozen? ⟨b, 0 + j * sz + k, none⟩ = false ∧ St W0 _ (w.setCell ⟨b, 0 + j * sz + k, none⟩ v)
    rw [Nat.zero_add]
    have h0 := hr.1 0 (by simp)
    exact ⟨h0.1, h0.2, hr.2⟩
end
end Go.Proofs.YtllddgdmmfmpkaaGreatDoor
