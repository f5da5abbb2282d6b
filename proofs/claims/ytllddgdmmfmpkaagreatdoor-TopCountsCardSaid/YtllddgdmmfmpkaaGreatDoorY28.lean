/- What the laws share, part 28. No condition. -/
import Derived.Test.YtllddgdmmfmpkaaGreatDoorY27
namespace Go.Proofs.YtllddgdmmfmpkaaGreatDoor
open Go
set_option maxRecDepth 10000
set_option maxHeartbeats 8000000
structure InvR (c : Cfg) (p : List Ins) (n N : Nat) (ks : List Int) (Inv : Nat → MS → List GT → List StM → Prop) : Prop where
  step : ∀ (k : Nat) (m : MS) (xs : List GT) (S : List StM) (t : Nat) (x : GT), Inv k m xs S → k < N → ks[k]? = some (t : Int) → xs[t]? = some x →
    (x.th.dn = true ∧ Inv (k + 1) m xs S) ∨ (∃ i, GoT c p t m x i ∧ Inv (k + 1) (stepG c p t m x).1 (xs.set t (stepG c p t m x).2.1) (S ++ [(stepG c p t m x).2.2.1]))
  len : ∀ (k : Nat) (m : MS) (xs : List GT) (S : List StM), Inv k m xs S → k ≤ N → S.length ≤ 1000 ∧ xs.length = n ∧ ∀ x ∈ xs, x.obs.length ≤ 100000
theorem MQ.b_eq {M : MQ} {b : Nat} (e : M.b = b) : ∃ M' : MQ, M = { M' with b := b } := ⟨M, by cases M; cases e; rfl⟩
section
variable {W0 : World} {own : Own} {c : Cfg} {p : List Ins}
theorem sp_run {ia pa ka : Option Addr} {il ks : List Int} {ic pc kc O : Nat} {ps : List PH} {Inv : Nat → MS → List GT → List StM → Prop} (hF : FormsAt W0) (hcs : csM c il.length ps ks = (0, 0, 0)) (hc : checkM c = 0) (h0 : c.c0 = 0 ∧ c.c1 = 0 ∧ c.c2 = 0 ∧ c.c3 = 0) (hb : blocksM c = 0) (hI : RdE encU 1 W0 own ia il) (hil : (il.length : Int) = c.words) (hi1 : il ≠ []) (hi2 : il.length ≤ 1000) (hO : c.orecs = (O : Int)) (hO2 : O ≤ 1000)
    (hP : RdE PH.enc 1 W0 own pa ps) (hQ : ∀ h ∈ ps, RdE Ins.enc 5 W0 own h.a h.p) (hK : RdE encI 1 W0 own ka ks) (hkl : ks.length ≤ 1000) (hkr : ∀ z ∈ ks, ∃ t : Nat, z = t ∧ t < ps.length) (hn1 : 1 ≤ ps.length) (hn : ps.length ≤ 16) (hp : ∀ h ∈ ps, h.p = p) (hck : checkP p = (0, 0)) (hpl : p.length ≤ 100000) (hG : GoC c p)
    (hv0 : Inv 0 (ms0 il O ps.length) (List.replicate ps.length (newG p)) []) (hv : InvR c p ps.length ks.length ks Inv) :
    Spec Tryz.prog W0 6 [scrV c ia il.length ic pa ps.length pc ka ks.length kc] own fun v own' =>
      ∃ y : RS4 × List TW × MS × List StM, (v = .tuple #[.agg (y.1.vs y.2.1 y.2.2.2).toArray, .int .i64 0, .int .i64 0, .int .i64 0] ∧ y.1.ok y.2.1 y.2.2.2 ∧ y.2.1.length = ps.length ∧ Inv ks.length y.2.2.1 (y.2.1.map TW.x) y.2.2.2) ∧ Ent W0 own' (y.1.O own) := by
  refine spec_of mixed low_machine_Run (by simp [ir_machine_Run]) ?_
  have hnw := fun (own' : Own) (m : EntC own' own) => sp_mNew (W0 := W0) (own := own') (c := c) (ic := ic) (pc := pc) (kc := kc) hF hcs hc h0 hb hI.up hil hi1 hi2 hO hO2 hP.up (fun h hh => (hQ h hh).up) hK.up hn1 hn hp hck hpl
  repeat' ((try (conv => whnf)); first | (refine br_fe ?_ ?_; exact rfl) | (refine new_i (fun bk hbk => ?_)) | ((with_reducible show CallT _ _ _ _ _ _); first | ((refine call_x (hnw _ inferInstance) ?_ ?_ (fun M v hv => ?_); (exact rfl); (exact rfl); (obtain ⟨rfl, hMo, hMl, hMx⟩ := hv)))) | (apply sel; exact rfl) | (apply ld_o; exact rfl) | (apply ldN_a; exact rfl))
  refine loop_i (σ := Nat × MQ × MS × List StM) (fun s => [(25, .int .i64 s.1)]) (fun s => (bk, fun z => z = Obj.cells #[.slice none 0 0, .slice none 0 0, .int .u64 0, .int .u64 0, .int .u64 0, .slice none 0 0, .slice none 0 0, .slice none 0 0, .slice none 0 0, .slice none 0 0, .slice none 0 0, .slice none 0 0] 41 (0, 0)) :: s.2.1.O c ps.length p s.2.2.1 s.2.2.2 own)
    (fun s => s.1 ≤ ks.length ∧ s.2.1.b = M.b ∧ s.2.1.ok W0 c p s.2.2.1 s.2.2.2 ∧ s.2.1.L.length = ps.length ∧ Inv s.1 s.2.2.1 (s.2.1.L.map TW.x) s.2.2.2) (fun s => ks.length - s.1) (0, M, ms0 il O ps.length, [])
    ⟨Nat.zero_le _, rfl, hMo, hMl, by
      have : M.L.map TW.x = List.replicate ps.length (newG p) := by
        rw [← hMl]
        exact List.eq_replicate_of_mem (fun x hx => by obtain ⟨y, hy, rfl⟩ := List.mem_map.1 hx; exact hMx y hy) |>.trans (by rw [List.length_map])
      rw [this]; exact hv0⟩ (by repeat' (first | exact True.intro | refine And.intro ?_ ?_ | exact rfl | exact vi (by omega) | (dsimp only; exact rfl) | (dsimp only; exact vi (by omega)))) (by refine sb_ent ?_; (repeat (first | exact sb_refl | exact sb_nil | refine sb_fr ?_ | refine sb_pu rfl ?_ | refine sb_cons ?_ | refine sb_app ?_))) rfl ?_
  rintro ⟨i, M1, m, S⟩ junk ⟨hi, hb1, hk, hl, hinv⟩
  dsimp only at hi hb1 hk hl hinv ⊢
  obtain ⟨hS, -, hob⟩ := hv.len i m _ S hinv hi
  obtain ⟨M2, rfl⟩ := MQ.b_eq hb1
  have hln : M2.L.length = ps.length := hl
  by_cases hlt : i < ks.length
  · obtain ⟨z, hz⟩ : ∃ z, ks[i]? = some z := ⟨_, List.getElem?_eq_getElem hlt⟩
    have hlt' : (i : Int) < ks.length := by omega
    obtain ⟨t, rfl, ht⟩ := hkr z (List.mem_of_getElem? hz)
    obtain ⟨y, hy⟩ : ∃ y, M2.L[t]? = some y := ⟨_, List.getElem?_eq_getElem (by omega)⟩
    have hyx : (M2.L.map TW.x)[t]? = some y.x := by rw [List.getElem?_map, hy]; rfl
    rcases hv.step i m _ S t y.x hinv hlt hz hyx with ⟨hdn, hi2⟩ | ⟨ins, hT, hi2⟩
    · have hpk := fun Q => sp_pick0 (W0 := W0) (n := ps.length) hk hy hdn (by dsimp only; omega) Q
      repeat' ((try (conv => whnf)); first | (apply br_pyE; (exact rfl); omega) | ((with_reducible show Ld _ _ _ _); first | (refine ldE0 hK hz rfl ?_)) | ((with_reducible show IxS _ _ _ _ _); first | ((refine ixE hK hz ?_ ?_; (first | rfl | omega)))) | ((with_reducible show CallT _ _ _ _ _ _); first | ((refine call_sB (b := M.b) (D := M2.mh.O m ++ (M2.tD ++ (M2.sD ++ (M2.eD ++ (M2.gD ++ (TsO c ps.length p 0 M2.L ++ [])))))) hpk (fun Q => (by refine sb_ent ?_; (repeat (first | exact sb_refl | exact sb_nil | refine sb_fr ?_ | refine sb_pu rfl ?_ | refine sb_cons ?_ | refine sb_app ?_)))) ?_ ?_ ?_ (fun _ v hv => ?_); (exact rfl); (exact rfl); (exact rfl); (subst hv)))) | (refine ari ?_ ?_; omega))
      all_goals exact ⟨(i + 1, { M2 with b := M.b }, m, S), ⟨hlt, rfl, hk, hl, hi2⟩, by simp only; omega, (by repeat' (first | exact True.intro | refine And.intro ?_ ?_ | exact rfl | exact vi (by omega) | (dsimp only; exact rfl) | (dsimp only; exact vi (by omega)))), (by refine sb_ent ?_; (repeat (first | exact sb_refl | exact sb_nil | refine sb_fr ?_ | refine sb_pu rfl ?_ | refine sb_cons ?_ | refine sb_app ?_)))⟩
    · have hpk := fun Q => sp_pick1 (W0 := W0) (n := ps.length) hF hG hk hy hT (by dsimp only; omega) hS Q
      generalize stepG c p t m y.x = zz at hpk hi2
      obtain ⟨m', x', s, ev⟩ := zz
      dsimp only at hpk hi2
      repeat' ((try (conv => whnf)); first | (apply br_pyE; (exact rfl); omega) | ((with_reducible show Ld _ _ _ _); first | (refine ldE0 hK hz rfl ?_)) | ((with_reducible show IxS _ _ _ _ _); first | ((refine ixE hK hz ?_ ?_; (first | rfl | omega)))) | ((with_reducible show CallT _ _ _ _ _ _); first | ((refine call_sB (b := M.b) (D := M2.mh.O m ++ (M2.tD ++ (M2.sD ++ (M2.eD ++ (M2.gD ++ (TsO c ps.length p 0 M2.L ++ [])))))) hpk (fun Q => (by refine sb_ent ?_; (repeat (first | exact sb_refl | exact sb_nil | refine sb_fr ?_ | refine sb_pu rfl ?_ | refine sb_cons ?_ | refine sb_app ?_)))) ?_ ?_ ?_ (fun M3 v hv => ?_); (exact rfl); (exact rfl); (exact rfl); (obtain ⟨rfl, h3b, h3o, y', hyx', h3L⟩ := hv)))) | (refine ari ?_ ?_; omega))
      all_goals exact ⟨(i + 1, M3, m', S ++ [s]), ⟨hlt, h3b, h3o, by dsimp only; rw [h3L, List.length_set]; exact hl, by dsimp only; rw [h3L, List.map_set, hyx']; exact hi2⟩, by simp only; omega, (by repeat' (first | exact True.intro | refine And.intro ?_ ?_ | exact rfl | exact vi (by omega) | (dsimp only; exact rfl) | (dsimp only; exact vi (by omega)))), (by refine sb_ent ?_; (repeat (first | exact sb_refl | exact sb_nil | refine sb_fr ?_ | refine sb_pu rfl ?_ | refine sb_cons ?_ | refine sb_app ?_)))⟩
  · obtain rfl : i = ks.length := by omega
    have hlt' : ¬ (ks.length : Int) < ks.length := by omega
    have hrs := fun Q => sp_result (W0 := W0) (n := ps.length) hk (by dsimp only; omega) hS (fun y hy => hob y.x (List.mem_map.2 ⟨y, hy, rfl⟩)) Q
    repeat' ((try (conv => whnf)); first | (apply br_pnE; (exact rfl); omega) | ((with_reducible show CallT _ _ _ _ _ _); first | ((refine call_sB (b := M.b) (D := M2.mh.O m ++ (M2.tD ++ (M2.sD ++ (M2.eD ++ (M2.gD ++ (TsO c ps.length p 0 M2.L ++ [])))))) hrs (fun Q => (by refine sb_ent ?_; (repeat (first | exact sb_refl | exact sb_nil | refine sb_fr ?_ | refine sb_pu rfl ?_ | refine sb_cons ?_ | refine sb_app ?_)))) ?_ ?_ ?_ (fun r v hv => ?_); (exact rfl); (exact rfl); (exact rfl); (obtain ⟨rfl, hr⟩ := hv; obtain ⟨cs, ta, tc, tD, sa, sc, sD, ea, en, ec, oa, oc, oD, ol⟩ := r; have hsh := hr.sh; obtain ⟨a1, a2, a3, a4, a5, n1, c1, n2, c2, n3, c3, n4, c4, n5, c5, x1, x2, x3, hcs2⟩ := hsh; dsimp only at hcs2; subst hcs2)))) | (apply ldN_a; exact rfl) | (apply stN_o; (exact rfl); (exact rfl); exact rfl))
    all_goals exact ⟨(⟨_, ta, tc, tD, sa, sc, sD, ea, en, ec, oa, oc, oD, ol⟩, M2.L, m, S), ⟨rfl, hr, hl, hinv⟩, (by refine sb_ent ?_; (repeat (first | exact sb_refl | exact sb_nil | refine sb_fr ?_ | refine sb_pu rfl ?_ | refine sb_cons ?_ | refine sb_app ?_)))⟩
end
end Go.Proofs.YtllddgdmmfmpkaaGreatDoor
namespace Go.Proofs.YtllddgdmmfmpkaaGreatDoor
open Go
set_option maxRecDepth 10000
theorem runT_snoc {R : Nat} {t : Nat} : ∀ (l : List Nat) (m : TM) (X : Nat → TS), runT R (l ++ [t]) m X = (if ((runT R l m X).2.1 t).pc = 6 * R then runT R l m X else
    ((stepT t (runT R l m X).1 ((runT R l m X).2.1 t)).1, setX (runT R l m X).2.1 t (stepT t (runT R l m X).1 ((runT R l m X).2.1 t)).2.1,
      (runT R l m X).2.2 ++ [(t, (stepT t (runT R l m X).1 ((runT R l m X).2.1 t)).2.2, decide ((stepT t (runT R l m X).1 ((runT R l m X).2.1 t)).2.2.ph = 0 ∧ ((runT R l m X).2.1 t).pc % 6 = 0), (stepT t (runT R l m X).1 ((runT R l m X).2.1 t)).2.1.ct)]))
  | [], m, X => by
    show runT R [t] m X = _
    unfold runT
    by_cases h : (X t).pc = 6 * R
    · rw [if_pos h]
      show runT R [] m X = if (X t).pc = 6 * R then _ else _
      rw [if_pos h]
      rfl
    · rw [if_neg h]
      show _ = if (X t).pc = 6 * R then _ else _
      rw [if_neg h]
      rfl
  | u :: l, m, X => by
    rw [List.cons_append]
    unfold runT
    by_cases h : (X u).pc = 6 * R
    · rw [if_pos h, if_pos h]
      exact runT_snoc l m X
    · rw [if_neg h, if_neg h]
      dsimp only
      rw [runT_snoc l]
      split <;> rfl
theorem runT_len {R : Nat} : ∀ (l : List Nat) (m : TM) (X : Nat → TS), (runT R l m X).2.2.length ≤ l.length
  | [], _, _ => Nat.le_refl _
  | u :: l, m, X => by
    unfold runT
    split
    · exact Nat.le_succ_of_le (runT_len l m X)
    · dsimp only
      rw [List.length_cons, List.length_cons]
      exact Nat.succ_le_succ (runT_len l _ _)
theorem setX_at {X : Nat → TS} {t : Nat} {y : TS} : setX X t y t = y := by unfold setX; rw [if_pos rfl]
theorem setX_ne {X : Nat → TS} {t u : Nat} {y : TS} (h : u ≠ t) : setX X t y u = X u := by unfold setX; rw [if_neg h]
def teM (s : StM) : TE := ⟨s.ph, s.ac.put⟩
abbrev ruT (R n : Nat) (l : List Nat) := runT R l (M0 n) fun _ => X0
structure InvT (R oc n : Nat) (l : List Nat) (k : Nat) (m : MS) (xs : List GT) (S : List StM) : Prop where
  mem : m = memT oc (ruT R n (l.take k)).1
  len : xs.length = n
  th : ∀ (t : Nat) (g : GT), xs[t]? = some g → RT R ((ruT R n (l.take k)).2.1 t) g
  st : S.map teM = (ruT R n (l.take k)).2.2.map (·.2.1)
theorem invT {R oc n : Nat} {l : List Nat} (hR : R ≤ 5) (hoc : 1 ≤ oc ∧ oc ≤ 3) (hn : n ≤ 16) (hl : l.length ≤ 300) (hlt : ∀ t ∈ l, t < n) : InvR (cfT oc) (codeT R) n l.length (l.map fun t => ((t : Nat) : Int)) (InvT R oc n l) := by
  have hwi := fun k => (run_ok (l.take k) 0 (M0 n) (fun _ => X0) 0 (wi_0 (R := R) hn) (fun t ht => hlt t (List.mem_of_mem_take ht)) (by rw [List.length_take]; omega)).1
  refine ⟨fun k m xs S t x hI hk hks hx => ?_, fun k m xs S hI hk => ?_⟩
  · have ht : t < n := by rw [← hI.len]; exact (List.getElem?_eq_some_iff.1 hx).1
    have hlk : l[k]? = some t := by
      rw [List.getElem?_map] at hks
      cases hq : l[k]? with
      | none => rw [hq] at hks; cases hks
      | some u =>
        rw [hq] at hks
        have : ((u : Nat) : Int) = t := Option.some.inj hks
        rw [show u = t by omega]
    have htk : l.take (k + 1) = l.take k ++ [t] := by rw [List.take_add_one, hlk]; rfl
    obtain ⟨Mo, hw⟩ := hwi k
    have hkl : (l.take k).length = k := by rw [List.length_take]; omega
    rw [Nat.zero_add, hkl] at hw
    have hrt := hI.th t x hx
    have hsn := runT_snoc (R := R) (t := t) (l.take k) (M0 n) (fun _ => X0)
    rw [← htk] at hsn
    by_cases hd : ((ruT R n (l.take k)).2.1 t).pc = 6 * R
    · rw [if_pos hd] at hsn
      refine .inl ⟨by rw [hrt.th]; exact decide_eq_true hd, ?_⟩
      refine ⟨by unfold ruT; rw [hsn]; exact hI.mem, hI.len, fun u g hu => by unfold ruT; rw [hsn]; exact hI.th u g hu, by unfold ruT; rw [hsn]; exact hI.st⟩
    · rw [if_neg hd] at hsn
      obtain ⟨V, hG⟩ := hw.gi
      obtain ⟨i, hgo⟩ := go_rt hoc hR hrt hG hw.mi (by omega) ht rfl (hw.ri t ht) hd
      obtain ⟨g', s, ev, hs, hr', hph, hput⟩ := step_rt hoc hrt hG hw.mi (by omega) ht rfl (hw.ri t ht) hd
      rw [hI.mem]
      refine .inr ⟨i, hgo, ?_⟩
      rw [hs]
      refine ⟨by unfold ruT; rw [hsn], by rw [List.length_set]; exact hI.len, fun u g hu => ?_, ?_⟩
      · unfold ruT
        rw [hsn]
        dsimp only
        rw [List.getElem?_set] at hu
        by_cases e : u = t
        · subst e
          rw [if_pos rfl, if_pos (by rw [hI.len]; exact ht)] at hu
          cases hu
          rw [setX_at]
          exact hr'
        · rw [if_neg (fun h => e h.symm)] at hu
          rw [setX_ne e]
          exact hI.th u g hu
      · unfold ruT
        rw [hsn, List.map_append, hI.st]
        dsimp only
        rw [List.map_append]
        refine congrArg _ ?_
        show [teM s] = [_]
        unfold teM
        rw [hph, hput]
  · obtain ⟨Mo, hw⟩ := hwi k
    have hkl : (l.take k).length = k := by rw [List.length_take]; omega
    rw [Nat.zero_add, hkl] at hw
    refine ⟨?_, hI.len, fun x hx => ?_⟩
    · have h1 := congrArg List.length hI.st
      rw [List.length_map, List.length_map] at h1
      have h2 : (ruT R n (l.take k)).2.2.length ≤ (l.take k).length := runT_len (R := R) (l.take k) (M0 n) (fun _ => X0)
      omega
    · obtain ⟨t, ht, rfl⟩ := List.getElem_of_mem hx
      have htn : t < n := by rw [← hI.len]; exact ht
      have := hI.th t _ (List.getElem?_eq_getElem ht)
      rw [this.obs, List.length_map]
      have h3 := (hw.ri t htn).ob
      have h4 : (ruT R n (l.take k)).2.1 t = (runT R (l.take k) (M0 n) fun _ => X0).2.1 t := rfl
      rw [h4]
      omega
theorem invT0 {R oc n : Nat} {l : List Nat} (hoc : 1 ≤ oc) : InvT R oc n l 0 (ms0 [100, 7] oc n) (List.replicate n (newG (codeT R))) [] := by
  refine ⟨?_, List.length_replicate, fun t g hg => ?_, rfl⟩
  · unfold ms0 memT
    obtain ⟨k, rfl⟩ : ∃ k, oc = k + 1 := ⟨oc - 1, by omega⟩
    rfl
  · have := List.eq_of_mem_replicate (List.mem_of_getElem? hg)
    subst this
    refine ⟨?_, rfl, rfl, rfl, rfl, rfl, rfl, rfl, Nat.zero_le _, rfl⟩
    show (newG (codeT R)).th = _
    unfold newG
    rw [code_len]
    rfl
end Go.Proofs.YtllddgdmmfmpkaaGreatDoor
namespace Go.Proofs.YtllddgdmmfmpkaaGreatDoor
open Go
set_option maxRecDepth 10000
set_option maxHeartbeats 8000000
def plT (a n : Int) : Int := IntKind.u64.wrap a % n
theorem plT_rng (a : Int) {n : Int} (h : 0 < n) : 0 ≤ plT a n ∧ plT a n < n := ⟨Int.emod_nonneg _ (by omega), Int.emod_lt_of_pos _ h⟩
theorem sp_plT (W0 : World) (own : Own) (a : Int) {n : Int} (hn : 0 < n ∧ n ≤ 9223372036854775807) : Pure Tryz.prog W0 5 [.int .i64 a, .int .i64 n] own (.int .i64 (plT a n)) := by
  refine pure_of (spec_of mixed low_kit_Place (by simp [ir_kit_Place]) ?_)
  skip
  refine arw ?_
  have hu := wrapu_ok a
  have hp := plT_rng a hn.1
  unfold plT wrapu okU at *
  generalize IntKind.u64.wrap a = u at *
  repeat' ((try (conv => whnf)); first | (refine ari ?_ ?_; omega) | (refine aru ?_ ?_; omega) | (refine rem_i ?_ ?_; omega))
  exact ⟨rfl, (by first | exact ent_i | (repeat (first | exact Ent.refl | exact Ent.left | refine Ent.cons ?_ | refine Ent.app ?_)))⟩
def cfA : Cfg := ⟨1, 1, 0, 0, 0, 0, 0, 1, 1, 0, 0, 0, false⟩
def InvA (k : Nat) (_ : MS) (xs : List GT) (S : List StM) : Prop := (k = 0 ∧ xs = [newG [iZ]] ∧ S = []) ∨ (k = 1 ∧ (∃ g, xs = [g] ∧ g.th.dn = true ∧ g.obs = []) ∧ S.length = 1)
theorem goC_A : GoC cfA [iZ] := ⟨⟨by decide, by decide⟩, ⟨by decide, by decide⟩, ⟨by decide, by decide⟩, by decide, by decide, fun b hb => by
  match b, hb with
  | 0, hb => cases hb
  | b + 1, hb => simp at hb⟩
theorem invA : InvR cfA [iZ] 1 1 [0] InvA := by
  refine ⟨fun k m xs S t x hI hk hks hx => ?_, fun k m xs S hI hk => ?_⟩
  · rcases hI with ⟨rfl, rfl, rfl⟩ | ⟨rfl, -⟩
    · have ht : ((0 : Int)) = (t : Int) := Option.some.inj hks
      obtain rfl : t = 0 := by omega
      obtain rfl : newG [iZ] = x := Option.some.inj hx
      refine .inr ⟨iZ, ⟨rfl, by decide, rfl, by decide, by decide, by decide, by decide, .inr (.inl rfl)⟩, .inr ⟨rfl, ⟨_, rfl, rfl, rfl⟩, rfl⟩⟩
    · omega
  · rcases hI with ⟨rfl, rfl, rfl⟩ | ⟨rfl, ⟨g, rfl, -, hg⟩, hS⟩
    · exact ⟨by decide, rfl, fun x hx => by rw [List.mem_singleton.1 hx]; exact Nat.zero_le _⟩
    · exact ⟨by omega, rfl, fun x hx => by rw [List.mem_singleton.1 hx, hg]; exact Nat.zero_le _⟩
section
variable {W0 : World} {own : Own}
theorem sp_awakeT (hF : FormsAt W0) (own : Own) : Pure Tryz.prog W0 4 [] own (.bool true) := by
  refine pure_of (spec_of mixed low_top_awake21 (by simp [ir_top_awake21]) ?_)
  have hr := fun (own' : Own) (ia pa ka : Option Addr) (a : Option Addr) (ic pc kc cap : Nat) (hI : RdE encU 1 W0 own' ia [5]) (hP : RdE PH.enc 1 W0 own' pa [⟨a, cap, [iZ]⟩]) (hQ : RdE Ins.enc 5 W0 own' a [iZ]) (hK : RdE encI 1 W0 own' ka [0]) =>
    sp_run (W0 := W0) (own := own') (c := cfA) (p := [iZ]) (ic := ic) (pc := pc) (kc := kc) (O := 1) (Inv := InvA) hF rfl (by decide) ⟨rfl, rfl, rfl, rfl⟩ (by decide) hI rfl (by decide) (by decide) rfl (by decide) hP (fun h hh => by rw [List.mem_singleton.1 hh]; exact hQ) hK (by decide) (fun z hz => ⟨0, by rw [List.mem_singleton.1 hz]; rfl, Nat.zero_lt_one⟩) (Nat.le_refl 1) (by show 1 ≤ 16; decide) (fun h hh => by rw [List.mem_singleton.1 hh]) (by decide) (by decide) goC_A (.inl ⟨rfl, rfl, rfl⟩) invA
  repeat' ((try (conv => whnf)); first | (refine new_i (fun bk hbk => ?_)) | (apply ldN_a; exact rfl) | (apply stN_o; (exact rfl); (exact rfl); exact rfl))
  rename_i b1 h1 b2 h2 b3 h3 b4 h4
  repeat' ((try (conv => whnf)); first | ((with_reducible show CallT _ _ _ _ _ _); first | ((refine call_x (hr _ (some ⟨b1, 0, none⟩) (some ⟨b3, 0, none⟩) (some ⟨b4, 0, none⟩) (some ⟨b2, 0, none⟩) 1 1 1 1 (rd_blk (by (repeat (first | exact List.Mem.head _ | apply List.Mem.tail))) (fun _ _ => rfl) rfl) (rd_blk (by (repeat (first | exact List.Mem.head _ | apply List.Mem.tail))) (fun _ _ => rfl) rfl) (rd_blk (by (repeat (first | exact List.Mem.head _ | apply List.Mem.tail))) (fun _ _ => rfl) rfl) (rd_blk (by (repeat (first | exact List.Mem.head _ | apply List.Mem.tail))) (fun _ _ => rfl) rfl)) ?_ ?_ (fun y v hv => ?_); (exact rfl); (exact rfl); (apply Stop.h)))))
  obtain ⟨⟨cs, ta, tc, tD, sa, sc, sD, ea, en, ec, oa, oc, oD, ol⟩, L, m, S⟩ := y
  obtain ⟨rfl, hro, hL, hI⟩ := hv
  dsimp only at hro hL hI
  obtain ⟨a1, a2, a3, a4, a5, n1, c1, n2, c2, n3, c3, n4, c4, n5, c5, x1, x2, x3, hcs2⟩ := hro.sh
  dsimp only at hcs2
  subst hcs2
  obtain ⟨y, rfl⟩ : ∃ y, L = [y] := List.length_eq_one_iff.1 hL
  have hy : y.x.th.dn = true ∧ S.length = 1 := by
    rcases hI with ⟨h, -, -⟩ | ⟨-, ⟨g, hg, hgd, -⟩, hS⟩
    · cases h
    · have : y.x = g := by simpa using hg
      rw [this]
      exact ⟨hgd, hS⟩
  have hS1 := hy.2
  have hyd := hy.1
  obtain ⟨h, A, cD, ⟨⟨pc, rg, ocn, dn⟩, at', bg, sv, tr, seen, fn, obs, ct⟩⟩ := y
  dsimp only at hyd
  subst hyd
  have hbt := hro.ht.rd (W0 := W0)
  have ht0 : ([(⟨h, A, cD, ⟨⟨pc, rg, ocn, true⟩, at', bg, sv, tr, seen, fn, obs, ct⟩⟩ : TW)].map fun y => y.x.th)[0]? = some ⟨pc, rg, ocn, true⟩ := rfl
  have hS2 : (S.length : Int) = 1 := by omega
  refine Stop.mk ?_
  repeat' ((try (conv => whnf)); first | (refine when_ye ?_ ?_; exact rfl) | (apply when_pyE; (exact rfl); omega) | ((with_reducible show Ld _ _ _ _); first | (refine ldEk hbt ht0 rfl ?_)) | ((with_reducible show IxS _ _ _ _ _); first | ((refine ixE hbt ht0 ?_ ?_; (first | rfl | omega)))) | (apply sel; exact rfl) | (apply ld_o; exact rfl) | (apply stN_o; (exact rfl); (exact rfl); exact rfl) | (refine new_i (fun bk hbk => ?_)))
  all_goals exact ⟨rfl, (by refine sb_ent ?_; (repeat (first | exact sb_refl | exact sb_nil | refine sb_fr ?_ | refine sb_pu rfl ?_ | refine sb_cons ?_ | refine sb_app ?_)))⟩
end
end Go.Proofs.YtllddgdmmfmpkaaGreatDoor
namespace Go.Proofs.YtllddgdmmfmpkaaGreatDoor
open Go
set_option maxRecDepth 10000
set_option maxHeartbeats 8000000
theorem code_snoc : ∀ k, codeT k ++ part = codeT (k + 1)
  | 0 => by rw [codeT, codeT, codeT, List.append_nil, List.nil_append]
  | k + 1 => by rw [codeT, List.append_assoc, code_snoc k]; rfl
structure PW where
  h : PH
  D : Own
abbrev PW.ok (x : PW) : Prop := BufE Ins.enc 26 5 x.h.a x.h.cap x.h.p x.D
def ownW (l : List PW) : Own := (l.map PW.D).flatten
theorem ownW_snoc {l : List PW} {x : PW} : ownW (l ++ [x]) = ownW l ++ x.D := by simp [ownW]
theorem ownW_at {W0 : World} {l : List PW} {x : PW} (h : x ∈ l) : Ent W0 (ownW l) x.D := by
  obtain ⟨l1, l2, rfl⟩ := List.append_of_mem h
  unfold ownW
  rw [List.map_append, List.map_cons, List.flatten_append, List.flatten_cons]
  exact Ent.right.trans Ent.left
abbrev scP (c : Cfg) (i p k : Value) : Obj → Prop := fun z => z = Obj.cells #[.int .i64 c.words, .int .i64 c.orecs, .int .i64 c.base, .int .i64 c.c0, .int .i64 c.c1, .int .i64 c.c2, .int .i64 c.c3, .int .i64 c.reads, .int .i64 c.writes, .int .i64 c.allocs, .int .i64 c.frees, .int .i64 c.clock, .bool c.strong, i, p, k] 46 (0, 0)
section
variable {W0 : World} {own : Own} {c : Cfg}
theorem sp_repeat {ia pa qa ka : Option Addr} {il ic pc qc kc n R : Nat} {ks : List Int} (hP : RdE PH.enc 1 W0 own pa (List.replicate n ⟨qa, qc, part⟩)) (hQ : RdE Ins.enc 5 W0 own qa part) (hK : RdE encI 1 W0 own ka ks) (hkl : ks.length ≤ 1000) (hn : 1 ≤ n ∧ n ≤ 16) (hR : R ≤ 5) :
    Spec Tryz.prog W0 7 [c.v, .slice ia il ic, .slice pa (List.replicate n (⟨qa, qc, part⟩ : PH)).length pc, .int .i64 R, .slice ka ks.length kc] own fun v own' =>
      ∃ s : (Option Addr × Nat × Own) × List PW × (Option Addr × Nat × Own), (v = scrV c ia il ic s.1.1 (s.2.1.map PW.h).length s.1.2.1 s.2.2.1 (ks.map fun z => plT z n).length s.2.2.2.1 ∧ BufE PH.enc 27 1 s.1.1 s.1.2.1 (s.2.1.map PW.h) s.1.2.2 ∧ s.2.1.length = n ∧ (∀ x ∈ s.2.1, x.ok ∧ x.h.p = codeT R) ∧ BufE encI 3 1 s.2.2.1 s.2.2.2.1 (ks.map fun z => plT z n) s.2.2.2.2) ∧
        Ent W0 own' (s.1.2.2 ++ (ownW s.2.1 ++ (s.2.2.2.2 ++ own))) := by
  refine spec_of mixed low_top_repeat (by simp [ir_top_repeat]) ?_
  have hlr : (List.replicate n (⟨qa, qc, part⟩ : PH)).length = n := List.length_replicate
  dsimp only [Cfg.v, Cfg.cs]
  repeat' ((try (conv => whnf)); first | (refine new_i (fun bk hbk => ?_)) | (apply ldN_a; exact rfl) | (apply stN_o; (exact rfl); (exact rfl); exact rfl))
  rename_i b5 hb5 b10 hb10
  refine loop_i (σ := Nat × (Option Addr × Nat × Own) × List PW) (fun s => [(12, .int .i64 s.1)]) (fun s => (b10, fun z => z = Obj.cells #[.int .i64 0, .int .i64 0, .int .i64 0, .int .i64 0, .int .i64 0, .int .i64 0, .int .i64 0, .int .i64 0, .int .i64 0, .int .i64 0, .int .i64 0, .int .i64 0, .bool false, .slice none 0 0, .slice none 0 0, .slice none 0 0] 46 (0, 0)) ::
      (bk, scP c (.slice ia il ic) (.slice s.2.1.1 (s.2.2.map PW.h).length s.2.1.2.1) (.slice none 0 0)) :: (s.2.1.2.2 ++ (ownW s.2.2 ++ own)))
    (fun s => s.1 ≤ n ∧ BufE PH.enc 27 1 s.2.1.1 s.2.1.2.1 (s.2.2.map PW.h) s.2.1.2.2 ∧ s.2.2.length = s.1 ∧ ∀ x ∈ s.2.2, x.ok ∧ x.h.p = codeT R) (fun s => n - s.1) (0, (none, 0, []), []) ⟨Nat.zero_le _, BufE.nil, rfl, fun _ h => (by cases h)⟩ (by repeat' (first | exact True.intro | refine And.intro ?_ ?_ | exact rfl | exact vi (by omega) | (dsimp only; exact rfl) | (dsimp only; exact vi (by omega)))) (by dsimp only [ownW, List.map_nil, List.flatten_nil]; simp only [List.nil_append]; exact (by refine sb_ent ?_; (repeat (first | exact sb_refl | exact sb_nil | refine sb_fr ?_ | refine sb_pu rfl ?_ | refine sb_cons ?_ | refine sb_app ?_)))) rfl ?_
  rintro ⟨i, ⟨pa', pc', pD⟩, ps⟩ junk ⟨hi, hBp, hpl, hps⟩
  dsimp only at hi hBp hpl hps ⊢
  have hpl2 : (ps.map PW.h).length = i := by rw [List.length_map]; exact hpl
  by_cases hlt : i < n
  · have hlt' : (i : Int) < (List.replicate n (⟨qa, qc, part⟩ : PH)).length := by omega
    have hx : (List.replicate n (⟨qa, qc, part⟩ : PH))[i]? = some ⟨qa, qc, part⟩ := by rw [List.getElem?_replicate, if_pos hlt]
    repeat' ((try (conv => whnf)); first | (apply br_pyE; (exact rfl); omega))
    refine loop_i (σ := Nat × Option Addr × Nat × Own) (fun s => [(14, .int .i64 s.1), (13, .slice s.2.1 (codeT s.1).length s.2.2.1)]) (fun s => (b10, fun z => z = Obj.cells #[.int .i64 0, .int .i64 0, .int .i64 0, .int .i64 0, .int .i64 0, .int .i64 0, .int .i64 0, .int .i64 0, .int .i64 0, .int .i64 0, .int .i64 0, .int .i64 0, .bool false, .slice none 0 0, .slice none 0 0, .slice none 0 0] 46 (0, 0)) ::
        (bk, scP c (.slice ia il ic) (.slice pa' (ps.map PW.h).length pc') (.slice none 0 0)) :: (s.2.2.2 ++ (pD ++ (ownW ps ++ own))))
      (fun s => s.1 ≤ R ∧ BufE Ins.enc 26 5 s.2.1 s.2.2.1 (codeT s.1) s.2.2.2) (fun s => R - s.1) (0, none, 0, []) ⟨Nat.zero_le _, BufE.nil⟩ (by repeat' (first | exact True.intro | refine And.intro ?_ ?_ | exact rfl | exact vi (by omega) | (dsimp only; exact rfl) | (dsimp only; exact vi (by omega)))) (by simp only [List.nil_append]; exact (by refine sb_ent ?_; (repeat (first | exact sb_refl | exact sb_nil | refine sb_fr ?_ | refine sb_pu rfl ?_ | refine sb_cons ?_ | refine sb_app ?_)))) rfl ?_
    rintro ⟨k, a, cap, D⟩ junk2 ⟨hk, hB⟩
    dsimp only at hk hB ⊢
    have hcl := code_len k
    by_cases hkt : k < R
    · have hkt' : (k : Int) < R := by omega
      repeat' ((try (conv => whnf)); first | (apply br_pyE; (exact rfl); omega) | (refine app_l hB hQ rfl rfl (by omega) (fun _ _ => rfl) (fun _ => by have : part.length = 6 := rfl; omega) (fun a2 c2 D2 hb2 => ?_)) | ((with_reducible show Ld _ _ _ _); first | (refine ldE0 hP hx rfl ?_)) | ((with_reducible show IxS _ _ _ _ _); first | ((refine ixE hP hx ?_ ?_; (first | rfl | omega)))) | (refine ari ?_ ?_; omega))
      all_goals
        rw [code_snoc] at hb2
        refine ⟨(k + 1, a2, c2, D2), ⟨hkt, hb2⟩, by simp only; omega, ?_, (by refine sb_ent ?_; (repeat (first | exact sb_refl | exact sb_nil | refine sb_fr ?_ | refine sb_pu rfl ?_ | refine sb_cons ?_ | refine sb_app ?_)))⟩
        dsimp only
        rw [show (codeT (k + 1)).length = (codeT k).length + part.length by rw [← code_snoc, List.length_append]]
        exact (by repeat' (first | exact True.intro | refine And.intro ?_ ?_ | exact rfl | exact vi (by omega) | (dsimp only; exact rfl) | (dsimp only; exact vi (by omega))))
    · obtain rfl : k = R := by omega
      have hkt' : ¬ (k : Int) < k := by omega
      repeat' ((try (conv => whnf)); first | (apply br_pnE; (exact rfl); omega) | (refine new_i (fun be hbe => ?_)) | (apply app_i (enc := PH.enc) (T := 27) (⟨a, cap, codeT k⟩ : PH) hBp; (exact rfl); (exact rfl); (omega); (exact rfl); (exact rfl); (omega); intro a5 c5 D5 hb5) | (refine ari ?_ ?_; omega) | (apply ld_o; exact rfl) | (apply st_o; (exact rfl); exact rfl))
      all_goals
        refine ⟨(i + 1, (a5, c5, D5), ps ++ [⟨⟨a, cap, codeT k⟩, D⟩]), ⟨hlt, by dsimp only; rw [List.map_append]; exact hb5, by dsimp only; rw [List.length_append, hpl]; rfl, fun x hx => ?_⟩, by simp only; omega, (by repeat' (first | exact True.intro | refine And.intro ?_ ?_ | exact rfl | exact vi (by omega) | (dsimp only; exact rfl) | (dsimp only; exact vi (by omega)))), ?_⟩
        · rcases List.mem_append.1 hx with hx | hx
          · exact hps x hx
          · rw [List.mem_singleton] at hx; subst hx; exact ⟨hB, rfl⟩
        · dsimp only
          rw [ownW_snoc, List.map_append, List.length_append]
          simp only [List.append_assoc]
          exact (by refine sb_ent ?_; (repeat (first | exact sb_refl | exact sb_nil | refine sb_fr ?_ | refine sb_pu rfl ?_ | refine sb_cons ?_ | refine sb_app ?_)))
  · obtain rfl : i = n := by omega
    have hlt' : ¬ (i : Int) < (List.replicate i (⟨qa, qc, part⟩ : PH)).length := by omega
    repeat' ((try (conv => whnf)); first | (apply br_pnE; (exact rfl); omega))
    refine loop_i (σ := Nat × Option Addr × Nat × Own) (fun s => [(15, .int .i64 s.1)]) (fun s => (b10, fun z => z = Obj.cells #[.int .i64 0, .int .i64 0, .int .i64 0, .int .i64 0, .int .i64 0, .int .i64 0, .int .i64 0, .int .i64 0, .int .i64 0, .int .i64 0, .int .i64 0, .int .i64 0, .bool false, .slice none 0 0, .slice none 0 0, .slice none 0 0] 46 (0, 0)) ::
        (bk, scP c (.slice ia il ic) (.slice pa' (ps.map PW.h).length pc') (.slice s.2.1 ((ks.take s.1).map fun z => plT z i).length s.2.2.1)) :: (s.2.2.2 ++ (pD ++ (ownW ps ++ own))))
      (fun s => s.1 ≤ ks.length ∧ BufE encI 3 1 s.2.1 s.2.2.1 ((ks.take s.1).map fun z => plT z i) s.2.2.2) (fun s => ks.length - s.1) (0, none, 0, []) ⟨Nat.zero_le _, BufE.nil⟩ (by repeat' (first | exact True.intro | refine And.intro ?_ ?_ | exact rfl | exact vi (by omega) | (dsimp only; exact rfl) | (dsimp only; exact vi (by omega)))) (by simp only [List.nil_append]; exact (by refine sb_ent ?_; (repeat (first | exact sb_refl | exact sb_nil | refine sb_fr ?_ | refine sb_pu rfl ?_ | refine sb_cons ?_ | refine sb_app ?_)))) rfl ?_
    rintro ⟨j, a, cap, D⟩ junk2 ⟨hj, hB⟩
    dsimp only at hj hB ⊢
    have htl : ((ks.take j).map fun z => plT z i).length = j := by rw [List.length_map, List.length_take]; omega
    by_cases hjt : j < ks.length
    · obtain ⟨z, hz⟩ : ∃ z, ks[j]? = some z := ⟨_, List.getElem?_eq_getElem hjt⟩
      have hjt' : (j : Int) < ks.length := by omega
      have hpz : ∀ own' : Own, Pure Tryz.prog W0 5 [.int .i64 z, .int .i64 ((List.replicate i (⟨qa, qc, part⟩ : PH)).length : Nat)] own' (.int .i64 (plT z i)) := fun own' => by rw [hlr]; exact sp_plT W0 own' z (n := (i : Int)) (by omega)
      have htk : (ks.take (j + 1)).map (fun z => plT z i) = ((ks.take j).map fun z => plT z i) ++ [plT z i] := by rw [List.take_add_one, hz, List.map_append]; rfl
      repeat' ((try (conv => whnf)); first | (apply br_pyE; (exact rfl); omega) | (refine new_i (fun be hbe => ?_)) | (apply app_i (enc := encI) (T := 3) (plT z i) hB; (exact rfl); (exact rfl); (omega); (exact rfl); (exact rfl); (omega); intro a5 c5 D5 hb5) | ((with_reducible show Ld _ _ _ _); first | (refine ldE0 hK hz rfl ?_)) | ((with_reducible show IxS _ _ _ _ _); first | ((refine ixE hK hz ?_ ?_; (first | rfl | omega)))) | ((with_reducible show CallQ _ _ _ _ _ _); first | ((refine call_qi (fun ex => hpz _) ?_ ?_ ?_; (exact rfl); (exact rfl)))) | (refine ari ?_ ?_; omega) | (apply ld_o; exact rfl) | (apply st_o; (exact rfl); exact rfl))
      all_goals
        refine ⟨(j + 1, a5, c5, D5), ⟨hjt, by dsimp only; rw [htk]; exact hb5⟩, by simp only; omega, (by repeat' (first | exact True.intro | refine And.intro ?_ ?_ | exact rfl | exact vi (by omega) | (dsimp only; exact rfl) | (dsimp only; exact vi (by omega)))), ?_⟩
        dsimp only
        rw [htk, List.length_append]
        exact (by refine sb_ent ?_; (repeat (first | exact sb_refl | exact sb_nil | refine sb_fr ?_ | refine sb_pu rfl ?_ | refine sb_cons ?_ | refine sb_app ?_)))
    · obtain rfl : j = ks.length := by omega
      have hjt' : ¬ (ks.length : Int) < ks.length := by omega
      rw [List.take_length] at hB ⊢
      repeat' ((try (conv => whnf)); first | (apply br_pnE; (exact rfl); omega) | (apply ldN_a; exact rfl) | (apply stN_o; (exact rfl); (exact rfl); exact rfl))
      all_goals exact ⟨((pa', pc', pD), ps, (a, cap, D)), ⟨rfl, hBp, hpl, hps, hB⟩, (by refine sb_ent ?_; (repeat (first | exact sb_refl | exact sb_nil | refine sb_fr ?_ | refine sb_pu rfl ?_ | refine sb_cons ?_ | refine sb_app ?_)))⟩
end
end Go.Proofs.YtllddgdmmfmpkaaGreatDoor
namespace Go.Proofs.YtllddgdmmfmpkaaGreatDoor
open Go
set_option maxRecDepth 10000
set_option maxHeartbeats 8000000
theorem code_ck {R : Nat} (h1 : 1 ≤ R) (h4 : R ≤ 4) : checkP (codeT R) = (0, 0) := by
  have h : R = 1 ∨ R = 2 ∨ R = 3 ∨ R = 4 := by omega
  rcases h with rfl | rfl | rfl | rfl <;> decide
theorem cfg_ck {oc : Nat} (h : 1 ≤ oc ∧ oc ≤ 3) : checkM (cfT oc) = 0 ∧ blocksM (cfT oc) = 0 := by
  have h : oc = 1 ∨ oc = 2 ∨ oc = 3 := by omega
  rcases h with rfl | rfl | rfl <;> decide
theorem goC_T {oc R : Nat} (h1 : 1 ≤ R) (h4 : R ≤ 4) : GoC (cfT oc) (codeT R) := by
  refine ⟨⟨by show (0 : Int) ≤ 2; decide, by show (2 : Int) ≤ 32; decide⟩, ⟨by show (1 : Int) ≤ 2; decide, by show (2 : Int) ≤ 32; decide⟩, ⟨by show (0 : Int) ≤ 2; decide, by show (2 : Int) ≤ 1099511627776; decide⟩, by rw [code_len]; omega, by rw [code_ck h1 h4], fun b hb => ?_⟩
  have hlt := (List.getElem?_eq_some_iff.1 hb).1
  rw [code_len] at hlt
  rw [code_at hlt] at hb
  have h6 : b % 6 = 0 ∨ b % 6 = 1 ∨ b % 6 = 2 ∨ b % 6 = 3 ∨ b % 6 = 4 ∨ b % 6 = 5 := by omega
  have hb1 : b % 6 = 1 := by
    rcases h6 with e | e | e | e | e | e <;> rw [e] at hb <;> first | exact e | (exact absurd (congrArg Ins.op (Option.some.inj hb)) (by decide))
  rw [code_end hb1 (by omega)]
  omega
theorem psG_ok : ∀ (ps : List PH) (t : Nat), (∀ h ∈ ps, checkP h.p = (0, 0)) → psG ps t = none
  | [], _, _ => rfl
  | x :: l, t, h => by
    unfold psG
    rw [if_neg (by rw [h x List.mem_cons_self]; decide)]
    exact psG_ok l (t + 1) fun y hy => h y (List.mem_cons_of_mem _ hy)
theorem ksG_ok {n : Nat} : ∀ (ks : List Int) (t : Nat), (∀ z ∈ ks, 0 ≤ z ∧ z < n) → ksG n ks t = (0, 0, 0)
  | [], _, _ => rfl
  | x :: l, t, h => by
    have := h x List.mem_cons_self
    unfold ksG
    rw [if_neg (by omega)]
    exact ksG_ok l (t + 1) fun y hy => h y (List.mem_cons_of_mem _ hy)
def cmO : List ObM → Nat
  | [] => 0
  | o :: l => (if o.k = 3 ∧ o.v = 1 then 1 else 0) + cmO l
theorem cmO_app (a b : List ObM) : cmO (a ++ b) = cmO a + cmO b := by
  induction a with
  | nil => simp [cmO]
  | cons o l ih => simp only [List.cons_append, cmO, ih]; omega
theorem cmO_le : ∀ l : List ObM, cmO l ≤ l.length
  | [] => Nat.le_refl _
  | o :: l => by
    have := cmO_le l
    rw [cmO, List.length_cons]
    split <;> omega
theorem cmO_map : ∀ l : List TO, cmO (l.map obT) = cmt l
  | [] => rfl
  | o :: l => by
    rw [List.map_cons, cmO, cmt, cmO_map l]
    rfl
def smO : List (List ObM) → Nat
  | [] => 0
  | l :: L => cmO l + smO L
theorem smO_app (a b : List (List ObM)) : smO (a ++ b) = smO a + smO b := by
  induction a with
  | nil => simp [smO]
  | cons o l ih => simp only [List.cons_append, smO, ih]; omega
theorem smO_sum {f : Nat → Nat} : ∀ (n : Nat) (L : List (List ObM)), L.length = n → (∀ (t : Nat) (l : List ObM), L[t]? = some l → cmO l = f t) → smO L = sumN f n
  | 0, L, h, _ => by rw [List.length_eq_zero_iff.1 h]; rfl
  | n + 1, L, h, hf => by
    obtain ⟨x, hx⟩ : ∃ x, L[n]? = some x := ⟨_, List.getElem?_eq_getElem (by omega)⟩
    have e : L = L.take n ++ [x] := by
      have h1 := List.take_add_one (l := L) (i := n)
      rw [hx, show n + 1 = L.length from h.symm, List.take_length] at h1
      exact h1
    rw [e, smO_app, smO_sum (f := f) n (L.take n) (by rw [List.length_take]; omega) (fun t l ht => hf t l (by
      have hlt := (List.getElem?_eq_some_iff.1 ht).1
      rw [List.length_take] at hlt
      rw [List.getElem?_take, if_pos (by omega)] at ht
      exact ht)), sumN]
    have := hf n x hx
    simp only [smO]
    omega
section
variable {W0 : World} {own : Own}
theorem sp_runT {ia pa ka : Option Addr} {ic pc kc oc R n : Nat} {ps : List PH} {ks : List Int} (hF : FormsAt W0) (hoc : 1 ≤ oc ∧ oc ≤ 3) (hR : 1 ≤ R ∧ R ≤ 4) (hn : 1 ≤ n ∧ n ≤ 4) (hk : ks.length ≤ 300) (hI : RdE encU 1 W0 own ia [100, 7]) (hP : RdE PH.enc 1 W0 own pa ps) (hpl : ps.length = n) (hp : ∀ h ∈ ps, h.p = codeT R) (hQ : ∀ h ∈ ps, RdE Ins.enc 5 W0 own h.a h.p) (hK : RdE encI 1 W0 own ka (ks.map fun z => plT z n)) :
    Spec Tryz.prog W0 6 [scrV (cfT oc) ia ([100, 7] : List Int).length ic pa ps.length pc ka (ks.map fun z => plT z n).length kc] own fun v own' =>
      ∃ y : RS4 × List TW × List StM, (v = .tuple #[.agg (y.1.vs y.2.1 y.2.2).toArray, .int .i64 0, .int .i64 0, .int .i64 0] ∧ y.1.ok y.2.1 y.2.2 ∧ y.2.1.length = n ∧ y.2.2.length ≤ 300 ∧ (∀ z ∈ y.2.1, z.x.obs.length ≤ 100000) ∧
        ∃ cf : Nat, scT (y.2.2.map teM) 100 0 false = some (cf : Int) ∧ cf ≤ 300 ∧ smO (y.2.1.map fun z => z.x.obs) ≤ cf ∧ cf ≤ smO (y.2.1.map fun z => z.x.obs) + n) ∧ Ent W0 own' (y.1.O own) := by
  have hpr : ∀ z : Int, 0 ≤ plT z n ∧ plT z n < n := fun z => plT_rng z (by omega)
  have hle : ∀ t ∈ ks.map (fun z => (plT z n).toNat), t < n := fun t ht => by
    obtain ⟨z, -, rfl⟩ := List.mem_map.1 ht
    have := hpr z
    omega
  have hke : ((ks.map fun z => (plT z n).toNat).map fun t => ((t : Nat) : Int)) = ks.map fun z => plT z n := by
    rw [List.map_map]
    refine List.map_congr_left fun z _ => ?_
    show (((plT z n).toNat : Nat) : Int) = _
    have := hpr z
    omega
  have hkl : (ks.map fun z => (plT z n).toNat).length = ks.length := List.length_map ..
  have hinv := invT (R := R) (oc := oc) (n := n) (l := ks.map fun z => (plT z n).toNat) (by omega) hoc (by omega) (by omega) hle
  rw [hke, show (ks.map fun z => (plT z n).toNat).length = (ks.map fun z => plT z n).length by rw [List.length_map, List.length_map]] at hinv
  have hinv2 : InvR (cfT oc) (codeT R) ps.length (ks.map fun z => plT z n).length (ks.map fun z => plT z n) (InvT R oc n (ks.map fun z => (plT z n).toNat)) := by rw [hpl]; exact hinv
  have h00 : InvT R oc n (ks.map fun z => (plT z n).toNat) 0 (ms0 [100, 7] oc ps.length) (List.replicate ps.length (newG (codeT R))) [] := by rw [hpl]; exact invT0 hoc.1
  have hck := code_ck hR.1 hR.2
  have hcs : csM (cfT oc) ([100, 7] : List Int).length ps (ks.map fun z => plT z n) = (0, 0, 0) := by
    unfold csM
    rw [if_neg (by rw [(cfg_ck hoc).1]; decide), if_neg (by omega), if_neg (by show ¬ ((2 : Nat) : Int) ≠ 2; decide), psG_ok ps 0 (fun h hh => by rw [hp h hh]; exact hck)]
    dsimp only
    rw [if_neg (by rw [List.length_map]; omega)]
    exact ksG_ok _ 0 fun z hz => by obtain ⟨w, -, rfl⟩ := List.mem_map.1 hz; have := hpr w; rw [hpl]; exact this
  have hr := sp_run (W0 := W0) (own := own) (c := cfT oc) (p := codeT R) (ic := ic) (pc := pc) (kc := kc) (O := oc) (Inv := InvT R oc n (ks.map fun z => (plT z n).toNat)) hF hcs (cfg_ck hoc).1 ⟨rfl, rfl, rfl, rfl⟩ (cfg_ck hoc).2 hI rfl (by decide) (by decide) rfl (by omega) hP hQ hK (by rw [List.length_map]; omega)
    (fun z hz => by obtain ⟨w, -, rfl⟩ := List.mem_map.1 hz; have := hpr w; exact ⟨(plT w n).toNat, by omega, by omega⟩) (by omega) (by omega) hp hck (by rw [code_len]; omega) (goC_T hR.1 hR.2) h00 hinv2
  intro w hw
  refine (hr w hw).mono ?_
  rintro e w' ⟨v, own', he, hs, ⟨r, L, m, S⟩, ⟨rfl, hro, hL, hI⟩, hE⟩
  dsimp only at hro hL hI hE
  have hln := hinv.len _ m _ S hI (Nat.le_refl _)
  rw [hpl] at hL
  obtain ⟨cf, h1, h2, h3, h4⟩ := run_law (R := R) (n := n) (by omega) hle (by omega)
  have htk : (ks.map fun z => (plT z n).toNat).take (ks.map fun z => plT z n).length = ks.map fun z => (plT z n).toNat := List.take_of_length_le (by rw [List.length_map, List.length_map]; omega)
  have hst := hI.st
  have hth := hI.th
  unfold ruT at hst hth
  rw [htk] at hst hth
  rw [← hst] at h1
  have hsm : smO (L.map fun z => z.x.obs) = sumN (fun u => cmt ((runT R (ks.map fun z => (plT z n).toNat) (M0 n) fun _ => X0).2.1 u).obs) n := by
    refine smO_sum n _ (by rw [List.length_map]; exact hL) fun t l ht => ?_
    rw [List.getElem?_map] at ht
    cases hq : L[t]? with
    | none => rw [hq] at ht; cases ht
    | some z =>
      rw [hq] at ht
      cases ht
      have hz := hth t z.x (by rw [List.getElem?_map, hq]; rfl)
      show cmO z.x.obs = _
      rw [hz.obs, cmO_map]
  refine ⟨_, own', he, hs, (r, L, S), ⟨rfl, hro, hL, ?_, fun z hz => hln.2.2 z.x (List.mem_map.2 ⟨z, hz, rfl⟩), cf, h1, h2, by rw [hsm]; exact h3, by rw [hsm]; exact h4⟩, hE⟩
  have e1 := congrArg List.length hst
  rw [List.length_map, List.length_map] at e1
  have e2 := runT_len (R := R) (ks.map fun z => (plT z n).toNat) (M0 n) (fun _ => X0)
  dsimp only
  omega
end
end Go.Proofs.YtllddgdmmfmpkaaGreatDoor
