/- What the laws share, part 21. No condition. -/
import Derived.Test.YtllddgdmmfmpkaaGreatDoorY20
namespace Go.Proofs.YtllddgdmmfmpkaaGreatDoor
open Go
set_option maxRecDepth 10000
set_option maxHeartbeats 8000000
theorem hm_cast {P : Nat} {a : Int} (ha : 0 ≤ a) : (a % (P : Int) * 5) % (P : Int) = (hmP P a : Int) := by
  obtain ⟨n, rfl⟩ : ∃ n : Nat, a = n := ⟨a.toNat, by omega⟩
  unfold hmP
  rw [Int.toNat_natCast, ← Int.natCast_emod]
  have : ((n % P : Nat) : Int) * 5 = ((n % P * 5 : Nat) : Int) := by rw [Int.natCast_mul]; rfl
  rw [this, ← Int.natCast_emod]
theorem next_cast {P h d : Nat} : (((h + d) % P : Nat) + 1 : Int) % (P : Int) = (((h + (d + 1)) % P : Nat) : Int) := by
  have e : (((h + d) % P : Nat) + 1 : Int) = (((h + d) % P + 1 : Nat) : Int) := by omega
  rw [e, ← Int.natCast_emod, Nat.mod_add_mod, Nat.add_assoc]
theorem neg_set (i : Nat) (l : List Int) (hi : i < l.length) : (List.replicate i (-1) ++ l.drop i).set i (-1) = List.replicate (i + 1) (-1) ++ l.drop (i + 1) := by
  rw [List.set_append_right _ _ (by simp), List.length_replicate, Nat.sub_self, List.drop_eq_getElem_cons hi, List.set_cons_zero, List.replicate_succ', List.append_assoc]
  rfl
section
variable {W0 : World} {own : Own} {b ib P : Nat} {cap : Int}
abbrev lgP (cap : Int) (a : Option Addr) (n c : Nat) (a2 : Option Addr) (n2 c2 : Nat) (ib P : Nat) : Obj → Prop := fun z => z = Obj.cells #[.int .i64 cap, .slice a n c, .slice a2 n2 c2, .slice (some ⟨ib, 0, none⟩) P P] 214 (0, 0)
theorem sp_clear {ix : List Int} (hix : ix.length = P) (hP : P ≤ 1000000) (Q : Own) : Spec Tryz.prog W0 199 [.pointer (some ⟨b, 0, none⟩)] ((b, lgP cap none 0 0 none 0 0 ib P) :: (canE encI 3 ib ix :: Q)) fun v own' =>
    ∃ _ : Unit, v = .tuple #[] ∧ Ent W0 own' ((b, lgP cap none 0 0 none 0 0 ib P) :: (canE encI 3 ib (List.replicate P (-1)) :: Q)) := by
  refine spec_un (spec_of mixed low_redo_Log_Clear (by simp [ir_redo_Log_Clear]) ?_)
  repeat' ((try (conv => whnf)); first | (refine br_fe ?_ ?_; exact rfl) | (apply ld_o; exact rfl) | (apply st_o; (exact rfl); exact rfl))
  refine loop_i (σ := Nat) (fun i => [(16, .int .i64 i)]) (fun i => (b, lgP cap none 0 0 none 0 0 ib P) :: (canE encI 3 ib (List.replicate i (-1) ++ ix.drop i) :: Q)) (fun i => i ≤ P) (fun i => P - i) 0 (Nat.zero_le _) (by repeat' (first | exact True.intro | refine And.intro ?_ ?_ | exact rfl | exact vi (by omega) | (dsimp only; exact rfl) | (dsimp only; exact vi (by omega)))) (by rw [List.replicate_zero, List.nil_append, List.drop_zero]; exact Ent.refl) rfl ?_
  rintro i junk hi
  have hw : ∀ x ∈ (List.replicate i (-1) ++ ix.drop i : List Int), (encI x).length = 1 := fun _ _ => rfl
  by_cases hlt : i < P
  · have hx : (List.replicate i (-1) ++ ix.drop i : List Int)[i]? = some (ix[i]'(by omega)) := by
      rw [List.getElem?_append_right (by simp), List.length_replicate, Nat.sub_self, List.getElem?_drop, Nat.add_zero, List.getElem?_eq_getElem]
    have hlt' : (i : Int) < P := by omega
    have hln : P = (List.replicate i (-1) ++ ix.drop i : List Int).length := by simp; omega
    repeat' ((try (conv => whnf)); first | (apply br_pyE; (exact rfl); omega) | ((with_reducible show IxS _ _ _ _ _); first | ((refine ixC hx hln ?_ ?_; (first | rfl | omega)))) | ((with_reducible show StT _ _ _ _ _); first | ((refine stC (T := 3) (k := 0) (-1) hw hx ?_ ?_ ?_ ?_ ?_; (exact rfl); (omega); (exact rfl); (exact rfl)))) | (refine ari ?_ ?_; omega) | (apply ld_o; exact rfl))
    refine ⟨i + 1, hlt, by omega, (by repeat' (first | exact True.intro | refine And.intro ?_ ?_ | exact rfl | exact vi (by omega) | (dsimp only; exact rfl) | (dsimp only; exact vi (by omega)))), ?_⟩
    rw [← neg_set i ix (by omega)]
    exact (by refine sb_ent ?_; (repeat (first | exact sb_refl | exact sb_nil | refine sb_fr ?_ | refine sb_pu rfl ?_ | refine sb_cons ?_ | refine sb_app ?_)))
  · have hlt' : ¬ (i : Int) < P := by omega
    repeat' ((try (conv => whnf)); first | (apply br_pnE; (exact rfl); omega))
    obtain rfl : i = P := by omega
    refine ⟨rfl, ?_⟩
    rw [List.drop_of_length_le (by omega), List.append_nil]
    exact Ent.refl
theorem sp_newLog (cap : Int) (hc : 1 ≤ cap ∧ cap ≤ 32) (Q : Own) : Spec Tryz.prog W0 169 [.int .i64 cap] Q fun v own' =>
    ∃ s : Nat × Nat × Nat, (v = .pointer (some ⟨s.1, 0, none⟩) ∧ LI s.2.2 (List.replicate s.2.2 (-1)) [] ∧ 2 * cap ≤ s.2.2 ∧ s.2.2 ≤ 200) ∧ Ent W0 own' ((s.1, lgP cap none 0 0 none 0 0 s.2.1 s.2.2) :: (canE encI 3 s.2.1 (List.replicate s.2.2 (-1)) :: Q)) := by
  refine spec_of mixed low_redo_New (by simp [ir_redo_New]) ?_
  have hmx : max 0 (min cap 32) = cap := by omega
  repeat' ((try (conv => whnf)); first | (refine new_i (fun b0 hb0 => ?_)) | (refine mm_min ?_) | (refine mm_max ?_))
  refine loop_i (σ := Nat) (fun p => [(4, .int .i64 p)]) (fun _ => (b0, fun z => z = Obj.cells #[.int .i64 cap, .slice none 0 0, .slice none 0 0, .slice none 0 0] 214 (0, 0)) :: Q) (fun p => 1 ≤ p ∧ (p : Int) ≤ 4 * cap + 1) (fun p => (2 * cap - p).toNat) 1 ⟨by omega, by omega⟩ (by repeat' (first | exact True.intro | refine And.intro ?_ ?_ | exact rfl | exact vi (by omega) | (dsimp only; exact rfl) | (dsimp only; exact vi (by omega)))) (by rw [hmx]; exact Ent.refl) rfl ?_
  rintro p junk ⟨hp1, hp2⟩
  by_cases hlt : (p : Int) < 2 * cap
  · repeat' ((try (conv => whnf)); first | (apply br_pyE; (exact rfl); omega) | (refine ari ?_ ?_; omega) | (apply ld_o; exact rfl))
    exact ⟨p * 2, ⟨by omega, by omega⟩, by omega, (by repeat' (first | exact True.intro | refine And.intro ?_ ?_ | exact rfl | exact vi (by omega) | (dsimp only; exact rfl) | (dsimp only; exact vi (by omega)))), Ent.refl⟩
  · repeat' ((try (conv => whnf)); first | (apply br_pnE; (exact rfl); omega) | (refine mkC (enc := encI) p 0 rfl rfl rfl (by omega) (fun bx => ?_)) | ((with_reducible show CallT _ _ _ _ _ _); first | ((refine call_to (sp_clear (b := b0) (ib := bx) (P := p) (cap := cap) (ix := List.replicate p 0) List.length_replicate (by omega) Q) (by refine sb_ent ?_; (repeat (first | exact sb_refl | exact sb_nil | refine sb_fr ?_ | refine sb_pu rfl ?_ | refine sb_cons ?_ | refine sb_app ?_))) ?_ ?_ (fun _ v hv => ?_); (exact rfl); (exact rfl); (subst hv)))) | (refine ari ?_ ?_; omega) | (apply ld_o; exact rfl) | (apply st_o; (exact rfl); exact rfl))
    exact ⟨(b0, _, p), ⟨rfl, LI.new (show 0 < p by omega), (by show 2 * cap ≤ (p : Int); omega), (by show p ≤ 200; omega)⟩, Ent.refl⟩
theorem sp_place {ix ad : List Int} {aa : Option Addr} {ca : Nat} {a : Int} {D : Nat} (hI : LI P ix ad) (h1 : Cl W0 own b 1 (.slice aa ad.length ca)) (h3 : Cl W0 own b 3 (.slice (some ⟨ib, 0, none⟩) P P)) (hA : RdE encI 1 W0 own aa ad) (hX : RdE encI 1 W0 own (some ⟨ib, 0, none⟩) ix) (hP : P ≤ 1000000) (ha : 0 ≤ a ∧ a ≤ 9223372036854775807)
    (hs : stopL P ix ad a D) (hd : ∀ e, e < D → ∃ v, ix[(hmP P a + e) % P]? = some v ∧ 0 ≤ v ∧ ad[v.toNat]? ≠ some a) :
    Pure Tryz.prog W0 165 [.pointer (some ⟨b, 0, none⟩), .int .i64 a] own (.int .i64 ((hmP P a + D) % P : Nat)) := by
  refine pure_of (spec_of mixed low_redo_Log_place (by simp [ir_redo_Log_place]) ?_)
  have hp0 := hI.p0
  have hm1 := Int.emod_nonneg a (show (P : Int) ≠ 0 by omega)
  have hm2 := Int.emod_lt_of_pos a (show (0 : Int) < P by omega)
  have hm3 := hm_cast (P := P) ha.1
  have hm4 : hmP P a < P := Nat.mod_lt _ hp0
  repeat' ((try (conv => whnf)); first | (refine ldK1 h3 ?_) | (refine rem_i ?_ ?_; omega) | (refine ari ?_ ?_; omega))
  refine loop_c (σ := Nat) (fun d => [(5, .int .i64 ((hmP P a + d) % P : Nat))]) (fun d => d ≤ D) (fun d => D - d) 0 (Nat.zero_le _) ⟨vi (hm3.trans (by rw [Nat.add_zero, Nat.mod_eq_of_lt hm4])), True.intro⟩ rfl ?_
  rintro d junk hdD
  have hkP : (hmP P a + d) % P < P := Nat.mod_lt _ hp0
  by_cases hlt : d < D
  · obtain ⟨v, hv, hv0, hne⟩ := hd d hlt
    rcases hI.rng _ v hv with e | ⟨-, hvl⟩
    · omega
    obtain ⟨y, hy⟩ : ∃ y, ad[v.toNat]? = some y := ⟨_, List.getElem?_eq_getElem (by omega)⟩
    have hya : y ≠ a := fun e => hne (by rw [hy, e])
    have hge : v ≥ 0 := hv0
    have hnx := next_cast (P := P) (h := hmP P a) (d := d)
    have hln := hI.len
    repeat' ((try (conv => whnf)); first | (refine when_ye ?_ ?_; exact rfl) | (apply br_pyE; (exact rfl); omega) | (apply when_pyE; (exact rfl); omega) | (refine ldK1 h3 ?_) | (refine ldK1 h1 ?_) | (refine rem_i ?_ ?_; omega) | ((with_reducible show Ld _ _ _ _); first | (refine ldE0 hX hv rfl ?_) | (refine ldE0 hA hy rfl ?_)) | ((with_reducible show IxS _ _ _ _ _); first | ((refine ixE hA hy ?_ ?_; (first | rfl | omega)))) | (refine ari ?_ ?_; omega) | (refine ixs_j ?_ ?_; omega))
    exact ⟨d + 1, hlt, by omega, ⟨vi hnx, True.intro⟩, Ent.refl⟩
  · obtain rfl : d = D := by omega
    obtain ⟨v, hv⟩ := hI.at (hmP P a + d)
    have hln := hI.len
    by_cases hv0 : 0 ≤ v
    · have hy : ad[v.toNat]? = some a := (hs v hv).resolve_left (by omega)
      have hge : v ≥ 0 := hv0
      have hna : ¬ (a ≠ a) := fun e => e rfl
      repeat' ((try (conv => whnf)); first | (refine when_ye ?_ ?_; exact rfl) | (apply br_pnE; (exact rfl); omega) | (apply when_pyE; (exact rfl); omega) | (refine ldK1 h3 ?_) | (refine ldK1 h1 ?_) | ((with_reducible show Ld _ _ _ _); first | (refine ldE0 hX hv rfl ?_) | (refine ldE0 hA hy rfl ?_)) | ((with_reducible show IxS _ _ _ _ _); first | ((refine ixE hA hy ?_ ?_; (first | rfl | omega)))) | (refine ixs_j ?_ ?_; omega))
      all_goals exact ⟨rfl, (by first | exact ent_i | (repeat (first | exact Ent.refl | exact Ent.left | refine Ent.cons ?_ | refine Ent.app ?_)))⟩
    · have hge : ¬ v ≥ 0 := hv0
      repeat' ((try (conv => whnf)); first | (refine when_ne ?_ ?_; exact rfl) | (refine br_fe ?_ ?_; exact rfl) | (apply when_pnE; (exact rfl); omega) | (refine ldK1 h3 ?_) | ((with_reducible show Ld _ _ _ _); first | (refine ldE0 hX hv rfl ?_)) | (refine ixs_j ?_ ?_; omega))
      all_goals exact ⟨rfl, (by first | exact ent_i | (repeat (first | exact Ent.refl | exact Ent.left | refine Ent.cons ?_ | refine Ent.app ?_)))⟩
variable {ix ad vl : List Int} {aa va : Option Addr} {ca cv : Nat} {a : Int}
theorem idx_at {n : Nat} (hx : ad.idxOf? a = some n) : ad[n]? = some a := by
  obtain ⟨hlt, hb, -⟩ := List.findIdx?_eq_some_iff_getElem.1 hx
  rw [List.getElem?_eq_getElem hlt]
  simpa using hb
theorem idx_no (hx : ad.idxOf? a = none) : a ∉ ad := fun h => by
  have h3 := List.findIdx?_eq_none_iff.1 hx a h
  simp at h3
theorem RdE.mem {l : List Int} {T : TypeId} {b : Nat} [m : MemC b (fun o => o = Obj.cells (l.map encI).flatten.toArray T) own] : RdE encI 1 W0 own (some ⟨b, 0, none⟩) l := rd_blk m.h (fun _ _ => rfl) (by rw [List.toList_toArray])
theorem sp_place' (hI : LI P ix ad) (h1 : Cl W0 own b 1 (.slice aa ad.length ca)) (h3 : Cl W0 own b 3 (.slice (some ⟨ib, 0, none⟩) P P)) (hA : RdE encI 1 W0 own aa ad) (hX : RdE encI 1 W0 own (some ⟨ib, 0, none⟩) ix) (hP : P ≤ 1000000) (ha : 0 ≤ a ∧ a ≤ 9223372036854775807) :
    ∃ k v, k < P ∧ (∀ own' : Own, Ent W0 own' own → Pure Tryz.prog W0 165 [.pointer (some ⟨b, 0, none⟩), .int .i64 a] own' (.int .i64 (k : Nat))) ∧ ix[k]? = some v ∧ (match ad.idxOf? a with
      | some n => v = n
      | none => v = -1) ∧ (a ∉ ad → ad.length + 1 < P → LI P (ix.set k ad.length) (ad ++ [a])) := by
  obtain ⟨D, h4, h5⟩ := hI.find a
  obtain ⟨v, hv, hm⟩ := hI.found h4 h5
  refine ⟨_, v, Nat.mod_lt _ hI.p0, fun own' e => sp_place hI (h1.ent e) (h3.ent e) (hA.ent e) (hX.ent e) hP ha h4 h5, hv, hm, fun hn hr => ?_⟩
  refine hI.put ?_ h5 hn hr
  rw [hv]
  cases hx : ad.idxOf? a with
  | none => rw [hx] at hm; rw [hm]
  | some n => exact absurd (List.mem_of_getElem? (idx_at hx)) hn
theorem sp_get (hI : LI P ix ad) (h1 : Cl W0 own b 1 (.slice aa ad.length ca)) (h2 : Cl W0 own b 2 (.slice va vl.length cv)) (h3 : Cl W0 own b 3 (.slice (some ⟨ib, 0, none⟩) P P)) (hA : RdE encI 1 W0 own aa ad) (hV : RdE encU 1 W0 own va vl) (hX : RdE encI 1 W0 own (some ⟨ib, 0, none⟩) ix) (hP : P ≤ 1000000) (ha : 0 ≤ a ∧ a ≤ 9223372036854775807) (hl : vl.length = ad.length) :
    Pure Tryz.prog W0 98 [.pointer (some ⟨b, 0, none⟩), .int .i64 a] own (.tuple #[uv ((getM ad vl a).getD 0), .bool (getM ad vl a).isSome]) := by
  refine pure_of (spec_of mixed low_redo_Log_Get (by simp [ir_redo_Log_Get]) ?_)
  obtain ⟨k, v, hk, hpl, hv, hm, -⟩ := sp_place' hI h1 h3 hA hX hP ha
  have hln := hI.len
  unfold getM
  cases hx : ad.idxOf? a with
  | none =>
    rw [hx] at hm
    subst hm
    repeat' ((try (conv => whnf)); first | (refine when_ye ?_ ?_; exact rfl) | (refine br_te ?_ ?_; exact rfl) | (apply br_pnE; (exact rfl); omega) | (refine ldK1 h3 ?_) | ((with_reducible show IxS _ _ _ P _); (rw [← hln]); (refine ixE hX hv ?_ ?_; rfl)) | ((with_reducible show Ld _ _ _ _); first | (refine ldE0 hX hv rfl ?_)) | ((with_reducible show CallQ _ _ _ _ _ _); first | ((refine call_qi (fun ex => hpl _ Ent.right) ?_ ?_ ?_; (exact rfl); (exact rfl)))))
    all_goals exact ⟨rfl, (by first | exact ent_i | (repeat (first | exact Ent.refl | exact Ent.left | refine Ent.cons ?_ | refine Ent.app ?_)))⟩
  | some n =>
    rw [hx] at hm
    subst hm
    have hnl := (List.getElem?_eq_some_iff.1 (idx_at hx)).1
    obtain ⟨y, hy⟩ : ∃ y, vl[n]? = some y := ⟨_, List.getElem?_eq_getElem (by omega)⟩
    dsimp only
    rw [hy]
    repeat' ((try (conv => whnf)); first | (refine when_ye ?_ ?_; exact rfl) | (refine br_fe ?_ ?_; exact rfl) | (apply br_pnE; (exact rfl); omega) | (refine ldK1 h3 ?_) | (refine ldK1 h2 ?_) | ((with_reducible show IxS _ _ _ P _); (rw [← hln]); (refine ixE hX hv ?_ ?_; rfl)) | ((with_reducible show Ld _ _ _ _); first | (refine ldE0 hX hv rfl ?_) | (refine ldE0 hV hy rfl ?_)) | ((with_reducible show IxS _ _ _ _ _); first | ((refine ixE hV hy ?_ ?_; (first | rfl | omega)))) | ((with_reducible show CallQ _ _ _ _ _ _); first | ((refine call_qi (fun ex => hpl _ Ent.right) ?_ ?_ ?_; (exact rfl); (exact rfl)))))
    all_goals exact ⟨rfl, (by first | exact ent_i | (repeat (first | exact Ent.refl | exact Ent.left | refine Ent.cons ?_ | refine Ent.app ?_)))⟩
theorem sp_lgLen {n : Nat} (h1 : Cl W0 own b 1 (.slice aa n ca)) : Pure Tryz.prog W0 194 [.pointer (some ⟨b, 0, none⟩)] own (.int .i64 n) := by
  refine pure_of (spec_of mixed low_redo_Log_Len (by simp [ir_redo_Log_Len]) ?_)
  repeat' ((try (conv => whnf)); first | (refine ldK1 h1 ?_) | (refine br_fe ?_ ?_; exact rfl))
  all_goals exact ⟨rfl, (by first | exact ent_i | (repeat (first | exact Ent.refl | exact Ent.left | refine Ent.cons ?_ | refine Ent.app ?_)))⟩
theorem sp_lgAddrs (h1 : Cl W0 own b 1 (.slice aa ad.length ca)) (hA : RdE encI 1 W0 own aa ad) (hl : ad.length ≤ 1000000) : Spec Tryz.prog W0 86 [.pointer (some ⟨b, 0, none⟩)] own fun v own' =>
    ∃ s : Option Addr × Nat × Own, (v = .slice s.1 ad.length s.2.1 ∧ BufE encI 3 1 s.1 s.2.1 ad s.2.2) ∧ Ent W0 own' (s.2.2 ++ own) := by
  refine spec_of mixed low_redo_Log_Addrs (by simp [ir_redo_Log_Addrs]) ?_
  have hcl := sp_clone_int (cap := ca) hA (by omega)
  repeat' ((try (conv => whnf)); first | (refine ldK1 h1 ?_) | ((with_reducible show CallT _ _ _ _ _ _); first | ((refine call_x hcl ?_ ?_ (fun y v hv => ?_); (exact rfl); (exact rfl)))) | (refine br_fe ?_ ?_; exact rfl))
  all_goals (obtain ⟨rfl, hB1⟩ := hv; exact ⟨y, ⟨rfl, hB1⟩, Ent.refl⟩)
theorem sp_lgVals (h2 : Cl W0 own b 2 (.slice va vl.length cv)) (hV : RdE encU 1 W0 own va vl) (hl : vl.length ≤ 1000000) : Spec Tryz.prog W0 150 [.pointer (some ⟨b, 0, none⟩)] own fun v own' =>
    ∃ s : Option Addr × Nat × Own, (v = .slice s.1 vl.length s.2.1 ∧ BufE encU 33 1 s.1 s.2.1 vl s.2.2) ∧ Ent W0 own' (s.2.2 ++ own) := by
  refine spec_of mixed low_redo_Log_Values (by simp [ir_redo_Log_Values]) ?_
  have hcl := sp_clone_uint64 (cap := cv) hV (by omega)
  repeat' ((try (conv => whnf)); first | (refine ldK1 h2 ?_) | ((with_reducible show CallT _ _ _ _ _ _); first | ((refine call_x hcl ?_ ?_ (fun y v hv => ?_); (exact rfl); (exact rfl)))) | (refine br_fe ?_ ?_; exact rfl))
  all_goals (obtain ⟨rfl, hB1⟩ := hv; exact ⟨y, ⟨rfl, hB1⟩, Ent.refl⟩)
structure LH where
  b : Nat
  aa : Option Addr
  ca : Nat
  aD : Own
  va : Option Addr
  cv : Nat
  vD : Own
  ib : Nat
  P : Nat
  ix : List Int
abbrev LH.O (g : LH) (cap : Int) (ad vl : List Int) (Q : Own) : Own := (g.b, lgP cap g.aa ad.length g.ca g.va vl.length g.cv g.ib g.P) :: (canE encI 3 g.ib g.ix :: (g.aD ++ (g.vD ++ Q)))
structure LH.ok (g : LH) (cap : Int) (ad vl : List Int) : Prop where
  hA : BufE encI 3 1 g.aa g.ca ad g.aD
  hV : BufE encU 33 1 g.va g.cv vl g.vD
  hI : LI g.P g.ix ad
  hP : 2 * cap ≤ g.P ∧ g.P ≤ 200
  hc : 1 ≤ cap
  hl : vl.length = ad.length
  hm : (ad.length : Int) ≤ cap
theorem sp_put {g : LH} {cap v : Int} (hg : g.ok cap ad vl) (ha : 0 ≤ a ∧ a ≤ 9223372036854775807) (Q : Own) :
    Spec Tryz.prog W0 167 [.pointer (some ⟨g.b, 0, none⟩), .int .i64 a, uv v] (g.O cap ad vl Q) fun r own' =>
      ∃ g' : LH, (r = .bool (putM cap ad vl a v).isSome ∧ g'.b = g.b ∧ g'.ok cap ((putM cap ad vl a v).getD (ad, vl)).1 ((putM cap ad vl a v).getD (ad, vl)).2) ∧ Ent W0 own' (g'.O cap ((putM cap ad vl a v).getD (ad, vl)).1 ((putM cap ad vl a v).getD (ad, vl)).2 Q) := by
  refine spec_of mixed low_redo_Log_Put (by simp [ir_redo_Log_Put]) ?_
  have hmb : (g.b, lgP cap g.aa ad.length g.ca g.va vl.length g.cv g.ib g.P) ∈ g.O cap ad vl Q := List.mem_cons_self
  have hAr : RdE encI 1 W0 (g.O cap ad vl Q) g.aa ad := (hg.hA.rd (W0 := W0)).up
  have hX : RdE encI 1 W0 (g.O cap ad vl Q) (some ⟨g.ib, 0, none⟩) g.ix := RdE.mem (T := 3)
  have hln := hg.hI.len
  have hP := hg.hP
  have hml := hg.hm
  have hvl := hg.hl
  have hc1 := hg.hc
  obtain ⟨k, q, hk, hpl, hv, hm, hput⟩ := sp_place' hg.hI (kn_cell (cs := #[.int .i64 cap, .slice g.aa ad.length g.ca, .slice g.va vl.length g.cv, .slice (some ⟨g.ib, 0, none⟩) g.P g.P]) hmb rfl) (kn_cell (cs := #[.int .i64 cap, .slice g.aa ad.length g.ca, .slice g.va vl.length g.cv, .slice (some ⟨g.ib, 0, none⟩) g.P g.P]) hmb rfl) hAr hX (by omega) ha
  have hw : ∀ x ∈ g.ix, (encI x).length = 1 := fun _ _ => rfl
  unfold putM
  cases hx : ad.idxOf? a with
  | some n =>
    rw [hx] at hm
    subst hm
    have hnl := (List.getElem?_eq_some_iff.1 (idx_at hx)).1
    obtain ⟨y, hy⟩ : ∃ y, vl[n]? = some y := ⟨_, List.getElem?_eq_getElem (by omega)⟩
    have hVr : RdE encU 1 W0 (g.O cap ad vl Q) g.va vl := (hg.hV.rd (W0 := W0)).up
    dsimp only [Option.getD_some, Option.isSome_some]
    repeat' ((try (conv => whnf)); first | (refine when_ye ?_ ?_; exact rfl) | (refine br_te ?_ ?_; exact rfl) | (apply br_pnE; (exact rfl); omega) | ((refine stE_i (enc := encU) (T := 33) (k := 0) v hg.hV hy ?_ ?_ ?_ ?_ (fun D' hb => ?_); (exact rfl); (omega); (exact rfl); (exact rfl))) | ((with_reducible show Ld _ _ _ _); first | (refine ldC0 hw hv rfl ?_)) | ((with_reducible show IxS _ _ _ _ _); first | ((refine ixC hv hln.symm ?_ ?_; (first | rfl | omega))) | ((refine ixE hVr hy ?_ ?_; (first | rfl | omega)))) | ((with_reducible show CallT _ _ _ _ _ _); first | ((refine call_pe (hpl _ Ent.refl) ?_ ?_ ?_; (exact rfl); exact rfl))) | (apply ld_o; exact rfl))
    all_goals exact ⟨{ g with vD := D' }, ⟨rfl, rfl, ⟨hg.hA, (by show BufE encU _ 1 g.va g.cv (vl.set n v) D'; exact hb), hg.hI, hg.hP, hg.hc, by rw [List.length_set]; exact hvl, hml⟩⟩, by show Ent W0 _ ((g.b, lgP cap g.aa ad.length g.ca g.va (vl.set n v).length g.cv g.ib g.P) :: _); rw [List.length_set]; exact (by refine sb_ent ?_; (repeat (first | exact sb_refl | exact sb_nil | refine sb_fr ?_ | refine sb_pu rfl ?_ | refine sb_cons ?_ | refine sb_app ?_)))⟩
  | none =>
    rw [hx] at hm
    subst hm
    dsimp only
    by_cases hcap : (ad.length : Int) = cap
    · rw [if_pos hcap]
      repeat' ((try (conv => whnf)); first | (refine when_ye ?_ ?_; exact rfl) | (refine br_fe ?_ ?_; exact rfl) | (apply br_pyE; (exact rfl); omega) | (apply br_pnE; (exact rfl); omega) | ((with_reducible show Ld _ _ _ _); first | (refine ldC0 hw hv rfl ?_)) | ((with_reducible show IxS _ _ _ _ _); first | ((refine ixC hv hln.symm ?_ ?_; (first | rfl | omega)))) | ((with_reducible show CallT _ _ _ _ _ _); first | ((refine call_pe (hpl _ Ent.refl) ?_ ?_ ?_; (exact rfl); exact rfl))) | (apply ld_o; exact rfl))
      all_goals exact ⟨g, ⟨rfl, rfl, hg⟩, Ent.refl⟩
    · rw [if_neg hcap]
      repeat' ((try (conv => whnf)); first | (refine when_ye ?_ ?_; exact rfl) | (refine br_fe ?_ ?_; exact rfl) | (apply br_pnE; (exact rfl); omega) | (refine new_i (fun bk hbk => ?_)) | ((apply app_i (enc := encI) (T := 3) a hg.hA; (exact rfl); (exact rfl); (omega); (exact rfl); (exact rfl); (omega); intro a3 c3 D3 hb3)) | ((apply app_i (enc := encU) (T := 33) v hg.hV; (exact rfl); (exact rfl); (omega); (exact rfl); (exact rfl); (omega); intro a4 c4 D4 hb4)) | ((with_reducible show Ld _ _ _ _); first | (refine ldC0 hw hv rfl ?_)) | ((with_reducible show IxS _ _ _ _ _); first | ((refine ixC hv hln.symm ?_ ?_; (first | rfl | omega)))) | ((with_reducible show CallT _ _ _ _ _ _); first | ((refine call_pe (hpl _ Ent.refl) ?_ ?_ ?_; (exact rfl); exact rfl))) | ((with_reducible show StT _ _ _ _ _); first | ((refine stC (T := 3) (k := 0) ((ad.length : Int)) hw hv ?_ ?_ ?_ ?_ ?_; (exact rfl); (omega); (exact rfl); (exact rfl)))) | (apply ld_o; exact rfl) | (apply st_o; (exact rfl); exact rfl) | (refine Both.mk ?_ ?_))
      all_goals
        have hI' := hput (idx_no hx) (by omega)
        refine ⟨⟨g.b, a3, c3, D3, a4, c4, D4, g.ib, g.P, g.ix.set k ad.length⟩, ⟨rfl, rfl, ⟨hb3, hb4, hI', hP, hc1, by simp [hvl], by simp; omega⟩⟩, ?_⟩
        dsimp only [Option.getD_some, LH.O]
        rw [List.length_append, List.length_append]
        exact (by refine sb_ent ?_; (repeat (first | exact sb_refl | exact sb_nil | refine sb_fr ?_ | refine sb_pu rfl ?_ | refine sb_cons ?_ | refine sb_app ?_)))
end
end Go.Proofs.YtllddgdmmfmpkaaGreatDoor
namespace Go.Proofs.YtllddgdmmfmpkaaGreatDoor
open Go
set_option maxRecDepth 10000
set_option maxHeartbeats 8000000
def AP.no : AP → Int
  | .idle => 0
  | .loc _ => 1
  | .ent _ => 2
  | .rd .. => 3
  | .lk .. => 5
  | .tn _ => 6
  | .ck _ => 7
  | .dc => 8
  | .wr .. => 9
  | .rl .. => 10
  | .sp => 11
  | .ps => 12
  | .lv => 14
abbrev ptr (b : Nat) : Value := .pointer (some ⟨b, 0, none⟩)
structure AH where
  b : Nat
  sb : Nat
  sa : Option Addr
  sc : Nat
  sD : Own
  g : LH
  na : Option Addr
  nc : Nat
  nD : Own
  oa : Option Addr
  oc : Nat
  oD : Own
  eb : Nat
  rd : Value
  ld : Int
  lk : Value
  tn : Value
  ck : Value
  wr : Value
  rl : Value
  th : Value
  us : Value
abbrev atP (c : Cfg) (t : Nat) (h : AH) (x : AT) (k : Int) : Obj → Prop := fun z => z = Obj.cells #[ptr h.sb, ptr h.g.b, .slice h.na x.seen.length h.nc, .slice none 0 0, .slice none 0 0, ptr h.eb, h.rd, .int .i64 h.ld, .pointer none, h.lk, h.tn, h.ck, h.wr, h.rl, .pointer none,
  .int .i64 c.words, .int .i64 c.orecs, .int .i64 c.base, .int .i64 c.c0, .int .i64 c.c1, .int .i64 c.c2, .int .i64 c.c3, .int .i64 c.reads, .int .i64 c.writes, .int .i64 c.allocs, .int .i64 c.frees, .int .i64 c.clock, .bool c.strong,
  .int .i64 t, .int .i64 x.st, .int .i64 x.code, .int .i64 k, h.th, h.us, .int .i64 x.addr, uv x.val, .slice h.oa x.oc.length h.oc, uv x.ck, .bool x.dn, .int .i64 0] 145 (0, 0)
abbrev AH.R (h : AH) (c : Cfg) (t : Nat) (x : AT) (e : Nat) (Q : Own) : Own := (h.sb, stP c.reads h.sa x.set.length h.sc) :: ((h.eb, enP t e x.rv) :: (h.sD ++ (h.nD ++ (h.oD ++ h.g.O c.writes x.ad x.vl Q))))
abbrev AH.O (h : AH) (c : Cfg) (t : Nat) (x : AT) (k : Int) (e : Nat) (Q : Own) : Own := (h.b, atP c t h x k) :: h.R c t x e Q
structure AH.ok (h : AH) (c : Cfg) (x : AT) : Prop where
  hs : BufE encI 3 1 h.sa h.sc x.set h.sD
  hn : BufE encI 3 1 h.na h.nc x.seen h.nD
  ho : BufE encI 3 1 h.oa h.oc x.oc h.oD
  hg : h.g.ok c.writes x.ad x.vl
  ls : x.set.length ≤ 100000
  ln : x.seen.length ≤ 100000
  lo : x.oc.length ≤ 100000
  rv : 0 ≤ x.rv ∧ x.rv ≤ 1099511627776
  wr : c.writes ≤ 32
section
variable {W0 : World} {own Q : Own} {c : Cfg} {t : Nat} {h : AH} {x : AT} {k : Int} {b e : Nat}
theorem sp_busy (h31 : Cl W0 own b 31 (.int .i64 k)) : Pure Tryz.prog W0 29 [ptr b] own (.bool (decide (k ≠ 0))) := by
  refine pure_of (spec_of mixed low_attempt_Attempt_Busy (by simp [ir_attempt_Attempt_Busy]) ?_)
  repeat' ((try (conv => whnf)); first | (refine ldK1 h31 ?_))
  all_goals exact ⟨rfl, (by first | exact ent_i | (repeat (first | exact Ent.refl | exact Ent.left | refine Ent.cons ?_ | refine Ent.app ?_)))⟩
theorem sp_acode (h30 : Cl W0 own b 30 (.int .i64 k)) : Pure Tryz.prog W0 50 [ptr b] own (.int .i64 k) := by
  refine pure_of (spec_of mixed low_attempt_Attempt_Code (by simp [ir_attempt_Attempt_Code]) ?_)
  repeat' ((try (conv => whnf)); first | (refine ldK1 h30 ?_))
  all_goals exact ⟨rfl, (by first | exact ent_i | (repeat (first | exact Ent.refl | exact Ent.left | refine Ent.cons ?_ | refine Ent.app ?_)))⟩
theorem sp_astate (h29 : Cl W0 own b 29 (.int .i64 k)) : Pure Tryz.prog W0 87 [ptr b] own (.int .i64 k) := by
  refine pure_of (spec_of mixed low_attempt_Attempt_State (by simp [ir_attempt_Attempt_State]) ?_)
  repeat' ((try (conv => whnf)); first | (refine ldK1 h29 ?_))
  all_goals exact ⟨rfl, (by first | exact ent_i | (repeat (first | exact Ent.refl | exact Ent.left | refine Ent.cons ?_ | refine Ent.app ?_)))⟩
theorem sp_avalue (h35 : Cl W0 own b 35 (uv k)) : Pure Tryz.prog W0 159 [ptr b] own (uv k) := by
  refine pure_of (spec_of mixed low_attempt_Attempt_Value (by simp [ir_attempt_Attempt_Value]) ?_)
  repeat' ((try (conv => whnf)); first | (refine ldK1 h35 ?_))
  all_goals exact ⟨rfl, (by first | exact ent_i | (repeat (first | exact Ent.refl | exact Ent.left | refine Ent.cons ?_ | refine Ent.app ?_)))⟩
theorem sp_adecided {d : Bool} (h38 : Cl W0 own b 38 (.bool d)) : Pure Tryz.prog W0 48 [ptr b] own (.bool d) := by
  refine pure_of (spec_of mixed low_attempt_Attempt_Decided (by simp [ir_attempt_Attempt_Decided]) ?_)
  repeat' ((try (conv => whnf)); first | (refine ldK1 h38 ?_))
  all_goals exact ⟨rfl, (by first | exact ent_i | (repeat (first | exact Ent.refl | exact Ent.left | refine Ent.cons ?_ | refine Ent.app ?_)))⟩
theorem sp_outside {w a : Int} (h15 : Cl W0 own b 15 (.int .i64 w)) (hw : 0 ≤ w ∧ w ≤ 1099511627776) : Pure Tryz.prog W0 95 [ptr b, uv a] own (.bool (decide (a ≥ w))) := by
  refine pure_of (spec_of mixed low_attempt_Attempt_outside (by simp [ir_attempt_Attempt_outside]) ?_)
  repeat' ((try (conv => whnf)); first | (refine ldK1 h15 ?_) | (refine aru ?_ ?_; omega))
  all_goals exact ⟨rfl, (by first | exact ent_i | (repeat (first | exact Ent.refl | exact Ent.left | refine Ent.cons ?_ | refine Ent.app ?_)))⟩
theorem sp_ready {s : Int} (h29 : Cl W0 own b 29 (.int .i64 s)) (h31 : Cl W0 own b 31 (.int .i64 0)) : Pure Tryz.prog W0 91 [ptr b, .int .i64 s] own (.int .i64 0) := by
  refine pure_of (spec_of mixed low_attempt_Attempt_ready (by simp [ir_attempt_Attempt_ready]) ?_)
  have hb := sp_busy h31
  rw [show decide ((0 : Int) ≠ 0) = false by simp] at hb
  repeat' ((try (conv => whnf)); first | (refine when_ye ?_ ?_; exact rfl) | (apply br_pnE; (exact rfl); omega) | (refine ldK1 h29 ?_) | ((with_reducible show CallT _ _ _ _ _ _); first | ((refine call_pe (hb) ?_ ?_ ?_; (exact rfl); exact rfl))))
  all_goals exact ⟨rfl, (by first | exact ent_i | (repeat (first | exact Ent.refl | exact Ent.left | refine Ent.cons ?_ | refine Ent.app ?_)))⟩
theorem sp_stores {b2 n c2 : Nat} {a2 : Option Addr} (h30 : Cl W0 own b 30 (.int .i64 k)) (h1 : Cl W0 own b 1 (ptr b2)) (hl : Cl W0 own b2 1 (.slice a2 n c2)) : Pure Tryz.prog W0 148 [ptr b] own (.bool (decide (k = 1 ∧ n ≠ 0))) := by
  refine pure_of (spec_of mixed low_attempt_Attempt_stores (by simp [ir_attempt_Attempt_stores]) ?_)
  have hln := sp_lgLen hl
  by_cases hk : k = 1
  · repeat' ((try (conv => whnf)); first | (refine when_ye ?_ ?_; exact rfl) | (apply when_pyE; (exact rfl); omega) | (refine ldK1 h30 ?_) | (refine ldK1 h1 ?_) | ((with_reducible show CallT _ _ _ _ _ _); first | ((refine call_pe (hln) ?_ ?_ ?_; (exact rfl); exact rfl))))
    all_goals exact ⟨ret1 (vb (by by_cases hn : n = 0 <;> simp [hk, hn] <;> omega)), (by first | exact ent_i | (repeat (first | exact Ent.refl | exact Ent.left | refine Ent.cons ?_ | refine Ent.app ?_)))⟩
  · repeat' ((try (conv => whnf)); first | (refine when_ne ?_ ?_; exact rfl) | (apply when_pnE; (exact rfl); omega) | (refine ldK1 h30 ?_))
    all_goals exact ⟨ret1 (vb (by simp [hk])), (by first | exact ent_i | (repeat (first | exact Ent.refl | exact Ent.left | refine Ent.cons ?_ | refine Ent.app ?_)))⟩
theorem sp_asnap {b2 : Nat} {n cc : Int} (h5 : Cl W0 own b 5 (ptr b2)) (hn : Cl W0 own b2 1 (.int .i64 n)) (hv : Cl W0 own b2 2 (uv cc)) (hb : 0 ≤ cc ∧ cc ≤ 1099511627776) (hn2 : 1 < n) : Pure Tryz.prog W0 143 [ptr b] own (.int .i64 cc) := by
  refine pure_of (spec_of mixed low_attempt_Attempt_Snapshot (by simp [ir_attempt_Attempt_Snapshot]) ?_)
  have hs := sp_snap hn hv hb
  rw [if_neg (by omega)] at hs
  repeat' ((try (conv => whnf)); first | (refine br_fe ?_ ?_; exact rfl) | (refine ldK1 h5 ?_) | ((with_reducible show CallT _ _ _ _ _ _); first | ((refine call_pe (hs) ?_ ?_ ?_; (exact rfl); exact rfl))))
  all_goals exact ⟨rfl, (by first | exact ent_i | (repeat (first | exact Ent.refl | exact Ent.left | refine Ent.cons ?_ | refine Ent.app ?_)))⟩
theorem sp_finish (Q : Own) : Spec Tryz.prog W0 83 [ptr h.b] ((h.b, atP c t h x k) :: Q) fun v own' => ∃ _ : Unit, v = .tuple #[] ∧ Ent W0 own' ((h.b, atP c t h x 14) :: Q) := by
  refine spec_un (spec_of mixed low_attempt_Attempt_finish (by simp [ir_attempt_Attempt_finish]) ?_)
  repeat' ((try (conv => whnf)); first | (refine when_ye ?_ ?_; exact rfl) | (refine when_ne ?_ ?_; exact rfl) | (refine br_te ?_ ?_; exact rfl) | (apply ld_o; exact rfl) | (apply st_o; (exact rfl); exact rfl) | (apply when_dF; (exact rfl); (exact rfl); all_goals intro hc))
  all_goals exact ⟨rfl, (by refine sb_ent ?_; (repeat (first | exact sb_refl | exact sb_nil | refine sb_fr ?_ | refine sb_pu rfl ?_ | refine sb_cons ?_ | refine sb_app ?_)))⟩
theorem sp_undo (cd : Int) (Q : Own) : Spec Tryz.prog W0 128 [ptr h.b, .int .i64 cd] ((h.b, atP c t h x k) :: Q) fun v own' => ∃ _ : Unit, v = .tuple #[] ∧ Ent W0 own' ((h.b, atP c t h { x with code := cd } 14) :: Q) := by
  refine spec_un (spec_of mixed low_attempt_Attempt_undo (by simp [ir_attempt_Attempt_undo]) ?_)
  repeat' ((try (conv => whnf)); first | ((with_reducible show CallT _ _ _ _ _ _); first | ((refine call_to (sp_finish (h := h) (c := c) (t := t) (x := { x with code := cd }) (k := k) _) (by refine sb_ent ?_; (repeat (first | exact sb_refl | exact sb_nil | refine sb_fr ?_ | refine sb_pu rfl ?_ | refine sb_cons ?_ | refine sb_app ?_))) ?_ ?_ (fun _ v hv => ?_); (exact rfl); (exact rfl); (subst hv)))) | (apply st_o; (exact rfl); exact rfl))
  all_goals exact ⟨rfl, (by refine sb_ent ?_; (repeat (first | exact sb_refl | exact sb_nil | refine sb_fr ?_ | refine sb_pu rfl ?_ | refine sb_cons ?_ | refine sb_app ?_)))⟩
theorem sp_locally (g : FuncId) (cs : Array Value) (Q : Own) : Spec Tryz.prog W0 92 [ptr h.b, .func (.func g) #[] cs] ((h.b, atP c t h x k) :: Q) fun v own' => ∃ _ : Unit, v = .tuple #[] ∧ Ent W0 own' ((h.b, atP c t { h with th := .func (.func g) #[] cs } x 1) :: Q) := by
  refine spec_un (spec_of mixed low_attempt_Attempt_locally (by simp [ir_attempt_Attempt_locally]) ?_)
  repeat' ((try (conv => whnf)); first | (apply st_o; (exact rfl); exact rfl))
  all_goals exact ⟨rfl, (by refine sb_ent ?_; (repeat (first | exact sb_refl | exact sb_nil | refine sb_fr ?_ | refine sb_pu rfl ?_ | refine sb_cons ?_ | refine sb_app ?_)))⟩
end
end Go.Proofs.YtllddgdmmfmpkaaGreatDoor
namespace Go.Proofs.YtllddgdmmfmpkaaGreatDoor
open Go Go.Lib
set_option maxRecDepth 10000
theorem srtU_up (l : List Int) : (srtU l).Pairwise (· < ·) ∧ (∀ x, x ∈ srtU l ↔ x ∈ l) ∧ (srtU l).length ≤ l.length := by
  have h := cmp_upto (d := (srt l).toArray) (by rw [List.toList_toArray]; exact srt_sorted l) (srt l).length (by simp)
  refine ⟨h.1, fun x => ((h.2.1 x).trans ?_).trans srt_mem, Nat.le_trans h.2.2 (Nat.le_of_eq (srt_len l))⟩
  constructor
  · rintro ⟨j, hj, rfl⟩
    rw [getElem!_pos _ j (by simpa using hj), List.getElem_toArray]
    exact List.getElem_mem _
  · intro hx
    obtain ⟨j, hj, e⟩ := List.getElem_of_mem hx
    exact ⟨j, hj, by rw [getElem!_pos _ j (by simpa using hj), List.getElem_toArray]; exact e⟩
theorem srtU_same {l : List Int} (h : l.Pairwise (· < ·)) : srtU l = l := by
  have h1 : (l.mergeSort fun x y => decide (x ≤ y)) = l := List.mergeSort_of_pairwise (h.imp fun h => by simpa using Int.le_of_lt h)
  unfold srtU
  rw [h1]
  refine compact_all l fun j hj => ?_
  cases j with
  | zero => rfl
  | succ j =>
    refine keeps_pos ?_
    rw [getElem!_pos _ (j + 1) (by simpa using hj), getElem!_pos _ (j + 1 - 1) (by simp; omega), List.getElem_toArray, List.getElem_toArray]
    have := List.pairwise_iff_getElem.1 h j (j + 1) (by omega) hj (by omega)
    simp only [Nat.add_sub_cancel]
    omega
theorem srtU_idem (l : List Int) : srtU (srtU l) = srtU l := srtU_same (srtU_up l).1
end Go.Proofs.YtllddgdmmfmpkaaGreatDoor
namespace Go.Proofs.YtllddgdmmfmpkaaGreatDoor
open Go
set_option maxRecDepth 10000
set_option maxHeartbeats 8000000
abbrev boxP (v : Value) (T : TypeId) : Obj → Prop := fun z => z = Obj.cells #[v] T (0, 0)
abbrev abP (b : Nat) : Obj → Prop := boxP (ptr b) 98
abbrev fnv (g : FuncId) (cs : List Value) : Value := .func (.func g) #[] cs.toArray
structure LkO (t : Nat) (h : AH) (x : AT) (s : Int) (ld : Bool) (E : Own) : Prop where
  h : ∃ (kb : Nat) (la : Option Addr) (lc : Nat) (lD : Own) (oa : Option Addr) (oc : Nat) (oD : Own), h.lk = ptr kb ∧ BufE encI 3 1 la lc x.oc lD ∧ BufE encU 33 1 oa oc x.old oD ∧ E = (kb, lkP t la x.oc.length lc oa x.old.length oc s ld) :: (lD ++ oD)
def LkQ (t : Nat) (h : AH) (x : AT) (E : Own) : Prop := (x.oc = [] ∧ E = []) ∨ (x.oc ≠ [] ∧ x.old.length = x.oc.length ∧ ∃ s, LkO t h x s false E)
structure TnO (h : AH) (b : Bool) (v : Int) (d : Bool) (E : Own) : Prop where
  h : ∃ tb : Nat, h.tn = ptr tb ∧ E = [(tb, tnP b v d)]
def FnO (h : AH) : Ko → Own → Prop
  | .en cd, E => (∃ ab cb : Nat, h.th = fnv 93 [ptr ab, ptr cb] ∧ E = [(ab, abP h.b), (cb, boxP (.int .i64 cd) 3)]) ∨ (cd = 7 ∧ ∃ ab : Nat, h.th = fnv 96 [ptr ab] ∧ E = [(ab, abP h.b)])
  | .tk v, E => ∃ fb vb ab : Nat, h.th = fnv 99 [ptr fb, ptr vb] ∧ E = [(fb, boxP (fnv 97 [ptr ab]) 143), (vb, boxP (uv v) 33), (ab, abP h.b)]
  | .wr a v, E => ∃ ab xb vb : Nat, h.th = fnv 102 [ptr ab, ptr xb, ptr vb] ∧ E = [(ab, abP h.b), (xb, boxP (uv a) 33), (vb, boxP (uv v) 33)]
section
variable {P : Program} {W0 : World} {own r : Own} {f f0 : FuncId} {args args0 : List Value} {b : Nat} {p p' : Obj → Prop}
theorem call_bk {σ : Type} {R : σ → Value → Prop} {O : σ → Own} {K : Value → Own → Prop} [m : PullC b p own r] (h : Spec P W0 f0 args0 ((b, p') :: r) fun v own' => ∃ s, R s v ∧ Ent W0 own' (O s)) (ep : p = p') (ek : f = f0) (ea : args = args0) (hk : ∀ s v, R s v → K v (O s)) : CallT P W0 own f args K := by
  subst ek; subst ea; subst ep
  exact ⟨fun w hw => (h w (Ent.of_perm m.h w hw)).mono fun _ _ ⟨_, _, he, hs, s, hR, hE⟩ => ⟨_, O s, he, hE _ hs, hk s _ hR⟩⟩
end
def PhO (W0 : World) (c : Cfg) (t : Nat) (h : AH) (x : AT) (E : Own) : Prop :=
  match x.ph with
  | .idle => E = []
  | .loc k => FnO h k E
  | .ent _ => E = []
  | .rd n bf vl => h.ld = n ∧ ∃ r ab : Nat, h.rd = ptr r ∧ h.us = fnv 97 [ptr ab] ∧ E = [(r, rdP x.addr (orecM c x.addr) x.rv n bf vl false), (ab, abP h.b)]
  | .lk s ld => LkO t h x s ld E
  | .tn b => ∃ E1 E2, TnO h b (if b then x.tk else 0) false E1 ∧ LkQ t h x E2 ∧ E = E1 ++ E2
  | .ck l => ∃ (E1 E2 : Own) (cb : Nat) (ca : Option Addr) (cc : Nat) (cD : Own), TnO h true x.tk true E1 ∧ LkQ t h x E2 ∧ h.ck = ptr cb ∧ (RdE encI 1 W0 cD ca l ∧ l.length ≤ cc) ∧ E = (cb, ckP ca l.length cc x.rv false) :: (cD ++ (E1 ++ E2))
  | .dc => ∃ E1 E2, TnO h true x.tk true E1 ∧ LkQ t h x E2 ∧ E = E1 ++ E2
  | .wr a v => ∃ (E1 : Own) (wb : Nat) (wa : Option Addr) (wc : Nat) (wD : Own) (va : Option Addr) (vc : Nat) (vD : Own), TnO h true x.tk true E1 ∧ h.wr = ptr wb ∧ (RdE encI 1 W0 wD wa a ∧ a.length ≤ wc) ∧ (RdE encU 1 W0 vD va v ∧ v.length ≤ vc) ∧ E = (wb, wrP wa a.length wc va v.length vc) :: (wD ++ (vD ++ E1))
  | .rl o w => ∃ (E1 : Own) (wb : Nat) (wa : Option Addr) (wc : Nat) (wD : Own) (va : Option Addr) (vc : Nat) (vD : Own), TnO h true x.tk true E1 ∧ h.rl = ptr wb ∧ (RdE encI 1 W0 wD wa o ∧ o.length ≤ wc) ∧ (RdE encU 1 W0 vD va w ∧ w.length ≤ vc) ∧ E = (wb, rlP wa o.length wc va w.length vc) :: (wD ++ (vD ++ E1))
  | .sp => TnO h true x.tk true E
  | .ps => TnO h true x.tk true E
  | .lv => E = []
section
variable {W0 : World} {own Q : Own} {c : Cfg} {t : Nat} {h : AH} {x : AT} {k : Int} {b e : Nat}
theorem sp_aend (hh : h.ok c x) (ho : x.oc = []) (cd : Int) (Q : Own) : Spec Tryz.prog W0 94 [ptr h.b, .int .i64 cd] (h.O c t x k e Q) fun v own' =>
    ∃ s : AH × Own, (v = .tuple #[] ∧ s.1.b = h.b ∧ s.1.ok c (x.endA c cd) ∧ PhO W0 c t s.1 (x.endA c cd) s.2) ∧ Ent W0 own' (s.1.O c t (x.endA c cd) (x.endA c cd).ph.no e (s.2 ++ Q)) := by
  refine spec_of mixed low_attempt_Attempt_end (by simp [ir_attempt_Attempt_end]) ?_
  have hst := fun (own' : Own) (m1 : MemC h.b (atP c t h { x with code := cd } k) own') (m2 : MemC h.g.b (lgP c.writes h.g.aa x.ad.length h.g.ca h.g.va x.vl.length h.g.cv h.g.ib h.g.P) own') => sp_stores (W0 := W0) (cl_of m1 rfl) (cl_of m1 rfl) (cl_of m2 rfl)
  unfold AT.endA
  by_cases hs : cd = 1 ∧ x.ad ≠ []
  · rw [if_pos hs]
    have hs2 : decide (cd = 1 ∧ x.ad.length ≠ 0) = true := decide_eq_true ⟨hs.1, fun h => hs.2 (List.length_eq_zero_iff.1 h)⟩
    simp only [hs2] at hst
    have hml : x.ad.length ≤ 1000000 := by
      have h1 := hh.hg.hm
      have h2 := hh.wr
      omega
    have hAd := fun (own' : Own) (m2 : MemC h.g.b (lgP c.writes h.g.aa x.ad.length h.g.ca h.g.va x.vl.length h.g.cv h.g.ib h.g.P) own') (m3 : EntC own' h.g.aD) => sp_lgAddrs (W0 := W0) (own := own') (cl_of m2 rfl) ((hh.hg.hA.rd (W0 := W0)).up) hml
    repeat' ((try (conv => whnf)); first | (refine br_fe ?_ ?_; exact rfl) | ((with_reducible show CallT _ _ _ _ _ _); first | ((refine call_pe (hst _ inferInstance inferInstance) ?_ ?_ ?_; (exact rfl); exact rfl)) | ((refine call_x (hAd _ inferInstance inferInstance) ?_ ?_ (fun y v hv => ?_); (exact rfl); (exact rfl); (obtain ⟨a1, c1, D1⟩ := y; obtain ⟨rfl, hB1⟩ := hv; dsimp only at hB1)))) | (apply ld_o; exact rfl) | (apply st_o; (exact rfl); exact rfl))
    have hR : RdE encI 1 W0 D1 a1 x.ad := hB1.rd (W0 := W0)
    refine loop_i (σ := Nat × Option Addr × Nat × Own) (fun s => [(29, .int .i64 s.1), (4, .slice s.2.1 ((x.ad.take s.1).map (orecM c)).length s.2.2.1)]) (fun s => s.2.2.2 ++ (D1 ++ h.O c t { x with code := cd } k e Q)) (fun s => s.1 ≤ x.ad.length ∧ BufE encI 3 1 s.2.1 s.2.2.1 ((x.ad.take s.1).map (orecM c)) s.2.2.2) (fun s => x.ad.length - s.1) (0, none, 0, []) ⟨by simp, BufE.nil⟩ (by repeat' (first | exact True.intro | refine And.intro ?_ ?_ | exact rfl | exact vi (by omega) | (dsimp only; exact rfl) | (dsimp only; exact vi (by omega)))) (by refine sb_ent ?_; (repeat (first | exact sb_refl | exact sb_nil | refine sb_fr ?_ | refine sb_pu rfl ?_ | refine sb_cons ?_ | refine sb_app ?_))) rfl ?_
    rintro ⟨i, qa, qc, Dq⟩ junk ⟨hi, hq⟩
    dsimp only at hi hq ⊢
    have htl : ((x.ad.take i).map (orecM c)).length ≤ 1000000 := by rw [List.length_map, List.length_take]; omega
    by_cases hlt : i < x.ad.length
    · obtain ⟨y, hy⟩ : ∃ y, x.ad[i]? = some y := ⟨_, List.getElem?_eq_getElem hlt⟩
      have hlt' : (i : Int) < x.ad.length := by omega
      have htk : (x.ad.take (i + 1)).map (orecM c) = (x.ad.take i).map (orecM c) ++ [orecM c y] := by rw [List.take_add_one, hy, List.map_append]; rfl
      repeat' ((try (conv => whnf)); first | (apply br_pyE; (exact rfl); omega) | (refine new_i (fun bk hbk => ?_)) | (apply app_i (enc := encI) (T := 3) (orecM c y) hq; (exact rfl); (exact rfl); (omega); (exact rfl); (exact rfl); (omega); intro a3 c3 D3 hb3) | ((with_reducible show Ld _ _ _ _); first | (refine ldE0 hR hy rfl ?_)) | ((with_reducible show IxS _ _ _ _ _); first | ((refine ixE hR hy ?_ ?_; (first | rfl | omega)))) | ((with_reducible show CallT _ _ _ _ _ _); first | ((refine call_pe (sp_orec W0 _ c y) ?_ ?_ ?_; (exact rfl); exact rfl))) | (refine ari ?_ ?_; omega) | (apply ldN_o; (exact rfl); exact rfl))
      refine ⟨(i + 1, a3, c3, D3), ⟨hlt, by dsimp only; rw [htk]; exact hb3⟩, by simp only; omega, ?_, (by refine sb_ent ?_; (repeat (first | exact sb_refl | exact sb_nil | refine sb_fr ?_ | refine sb_pu rfl ?_ | refine sb_cons ?_ | refine sb_app ?_)))⟩
      dsimp only
      rw [htk, List.length_append]
      exact (by repeat' (first | exact True.intro | refine And.intro ?_ ?_ | exact rfl | exact vi (by omega) | (dsimp only; exact rfl) | (dsimp only; exact vi (by omega))))
    · obtain rfl : i = x.ad.length := by omega
      rw [List.take_length] at hq htl ⊢
      have hlt' : ¬ (x.ad.length : Int) < x.ad.length := by omega
      have hSo := fun (own' : Own) (m : EntC own' Dq) => sp_sorted (W0 := W0) (own := own') (c := qc) ((hq.rd (W0 := W0)).up) htl
      have hNl := fun (own' D : Own) (sa : Option Addr) (sc : Nat) (hB : BufE encI 3 1 sa sc (srtU (x.ad.map (orecM c))) D) (m : EntC own' D) => sp_newLock (W0 := W0) (own := own') (c := sc) ((hB.rd (W0 := W0)).up) (Nat.le_trans (srtU_up _).2.2 htl) t
      repeat' ((try (conv => whnf)); first | (apply br_pnE; (exact rfl); omega) | ((with_reducible show CallT _ _ _ _ _ _); first | ((refine call_x (hSo _ inferInstance) ?_ ?_ (fun y v hv => ?_); (exact rfl); (exact rfl); (obtain ⟨a2, c2, D2⟩ := y; obtain ⟨rfl, hB2⟩ := hv; dsimp only at hB2))) | ((refine call_x (hNl _ _ _ _ hB2 inferInstance) ?_ ?_ (fun y v hv => ?_); (exact rfl); (exact rfl); (obtain ⟨kb, a3, c3, D3⟩ := y; obtain ⟨rfl, hB3⟩ := hv; dsimp only at hB3)))) | (apply ld_o; exact rfl) | (apply st_o; (exact rfl); exact rfl))
      rw [srtU_idem] at hB3
      rw [srtU_idem]
      exact ⟨({ h with oa := a2, oc := c2, oD := D2, lk := ptr kb }, (kb, lkP t a3 (srtU (x.ad.map (orecM c))).length c3 none 0 0 0 false) :: (D3 ++ [])), ⟨rfl, rfl, ⟨hh.hs, hh.hn, hB2, hh.hg, hh.ls, hh.ln, Nat.le_trans (srtU_up _).2.2 (by rw [List.length_map]; have := hh.hg.hm; have := hh.wr; omega), hh.rv, hh.wr⟩, ⟨kb, a3, c3, D3, none, 0, [], rfl, hB3, BufE.nil, rfl⟩⟩, by rw [List.append_nil, List.cons_append]; exact (by refine sb_ent ?_; (repeat (first | exact sb_refl | exact sb_nil | refine sb_fr ?_ | refine sb_pu rfl ?_ | refine sb_cons ?_ | refine sb_app ?_)))⟩
  · rw [if_neg hs]
    have hs2 : decide (cd = 1 ∧ x.ad.length ≠ 0) = false := decide_eq_false fun h => hs ⟨h.1, fun e => h.2 (by rw [e]; rfl)⟩
    simp only [hs2] at hst
    repeat' ((try (conv => whnf)); first | (refine br_te ?_ ?_; exact rfl) | ((with_reducible show CallT _ _ _ _ _ _); first | ((refine call_pe (hst _ inferInstance inferInstance) ?_ ?_ ?_; (exact rfl); exact rfl)) | ((refine call_x (sp_newTurn _) ?_ ?_ (fun tb v hv => ?_); (exact rfl); (exact rfl); (subst hv)))) | (apply st_o; (exact rfl); exact rfl))
    exact ⟨({ h with tn := ptr tb }, [(tb, tnP false 0 false)]), ⟨rfl, rfl, ⟨hh.hs, hh.hn, hh.ho, hh.hg, hh.ls, hh.ln, hh.lo, hh.rv, hh.wr⟩, ⟨_, [], ⟨tb, rfl, rfl⟩, .inl ⟨ho, rfl⟩, rfl⟩⟩, (by refine sb_ent ?_; (repeat (first | exact sb_refl | exact sb_nil | refine sb_fr ?_ | refine sb_pu rfl ?_ | refine sb_cons ?_ | refine sb_app ?_)))⟩
end
end Go.Proofs.YtllddgdmmfmpkaaGreatDoor
namespace Go.Proofs.YtllddgdmmfmpkaaGreatDoor
open Go
set_option maxRecDepth 10000
set_option maxHeartbeats 8000000
abbrev newP (c : Cfg) (t sb lb : Nat) : Obj → Prop := fun z => z = Obj.cells #[ptr sb, ptr lb, .slice none 0 0, .slice none 0 0, .slice none 0 0, .pointer none, .pointer none, .int .i64 0, .pointer none, .pointer none, .pointer none, .pointer none, .pointer none, .pointer none, .pointer none,
  .int .i64 c.words, .int .i64 c.orecs, .int .i64 c.base, .int .i64 c.c0, .int .i64 c.c1, .int .i64 c.c2, .int .i64 c.c3, .int .i64 c.reads, .int .i64 c.writes, .int .i64 c.allocs, .int .i64 c.frees, .int .i64 c.clock, .bool c.strong,
  .int .i64 t, .int .i64 0, .int .i64 0, .int .i64 0, .nilFunc, .nilFunc, .int .i64 0, uv 0, .slice none 0 0, uv 0, .bool false, .int .i64 0] 145 (0, 0)
section
variable {W0 : World} {own Q : Own} {c : Cfg} {t : Nat} {h : AH} {x : AT} {k : Int} {b e : Nat}
theorem sp_aNew (c : Cfg) (hr : 0 ≤ c.reads ∧ c.reads ≤ 32) (hw : 1 ≤ c.writes ∧ c.writes ≤ 32) (t : Nat) (Q : Own) : Spec Tryz.prog W0 104 [c.v, .int .i64 t] Q fun v own' =>
    ∃ s : Nat × Nat × LH, (v = ptr s.1 ∧ s.2.2.ok c.writes [] []) ∧
      Ent W0 own' ((s.1, newP c t s.2.1 s.2.2.b) :: (s.2.1, stP c.reads none 0 0) :: s.2.2.O c.writes [] [] Q) := by
  refine spec_of mixed low_attempt_New (by simp [ir_attempt_New]) ?_
  have hs := fun (own' : Own) => sp_newSet (W0 := W0) c.reads hr own'
  have hl := fun (own' : Own) => sp_newLog (W0 := W0) c.writes hw own'
  repeat' ((try (conv => whnf)); first | ((with_reducible show CallT _ _ _ _ _ _); first | ((refine call_x (hs _) ?_ ?_ (fun sb v hv => ?_); (exact rfl); (exact rfl); (subst hv))) | ((refine call_x (hl _) ?_ ?_ (fun y v hv => ?_); (exact rfl); (exact rfl); (obtain ⟨lb, ib, P⟩ := y; obtain ⟨rfl, hI, hP1, hP2⟩ := hv; dsimp only at hI hP1 hP2)))) | (apply ld_o; exact rfl) | (apply ldN_a; exact rfl) | (refine new_i (fun bk hbk => ?_)) | (refine Both.mk ?_ ?_))
  all_goals exact ⟨(_, sb, ⟨lb, none, 0, [], none, 0, [], ib, P, List.replicate P (-1)⟩), ⟨rfl, ⟨BufE.nil, BufE.nil, hI, ⟨hP1, hP2⟩, hw.1, rfl, (by show (0 : Int) ≤ c.writes; omega)⟩⟩, (by refine sb_ent ?_; (repeat (first | exact sb_refl | exact sb_nil | refine sb_fr ?_ | refine sb_pu rfl ?_ | refine sb_cons ?_ | refine sb_app ?_)))⟩
theorem sp_aBegin {g : LH} {sb : Nat} (hg : g.ok c.writes [] []) (hw : c.writes ≤ 32) (Q : Own) : Spec Tryz.prog W0 105 [ptr b] ((b, newP c t sb g.b) :: (sb, stP c.reads none 0 0) :: g.O c.writes [] [] Q) fun v own' =>
    ∃ h : AH, (v = .int .i64 0 ∧ h.b = b ∧ h.ok c { AT.new with st := 1, ph := .ent 0 }) ∧ Ent W0 own' (h.O c t { AT.new with st := 1, ph := .ent 0 } 2 0 Q) := by
  refine spec_of mixed low_attempt_Attempt_Begin (by simp [ir_attempt_Attempt_Begin]) ?_
  have hrd := fun (own' : Own) (m1 : MemC b (newP c t sb g.b) own') => sp_ready (W0 := W0) (cl_of m1 rfl) (cl_of m1 rfl)
  repeat' ((try (conv => whnf)); first | (refine br_fe ?_ ?_; exact rfl) | ((with_reducible show CallT _ _ _ _ _ _); first | ((refine call_pe (hrd _ inferInstance) ?_ ?_ ?_; (exact rfl); exact rfl)) | ((refine call_x (sp_newEnter t _) ?_ ?_ (fun eb v hv => ?_); (exact rfl); (exact rfl); (subst hv)))) | (apply ld_o; exact rfl) | (apply st_o; (exact rfl); exact rfl))
  all_goals exact ⟨⟨b, sb, none, 0, [], g, none, 0, [], none, 0, [], eb, .pointer none, 0, .pointer none, .pointer none, .pointer none, .pointer none, .pointer none, .nilFunc, .nilFunc⟩, ⟨rfl, rfl, ⟨BufE.nil, BufE.nil, BufE.nil, hg, by decide, by decide, by decide, by decide, hw⟩⟩, (by refine sb_ent ?_; (repeat (first | exact sb_refl | exact sb_nil | refine sb_fr ?_ | refine sb_pu rfl ?_ | refine sb_cons ?_ | refine sb_app ?_)))⟩
theorem sp_ashared (hrv : 0 ≤ x.rv ∧ x.rv ≤ 1099511627776) (a : Int) (g : FuncId) (cs : Array Value) (Q : Own) : Spec Tryz.prog W0 100 [ptr h.b, .int .i64 a, .func (.func g) #[] cs] ((h.b, atP c t h x k) :: ([(h.eb, enP t 3 x.rv)] ++ Q)) fun v own' =>
    ∃ r : Nat, v = .tuple #[] ∧ Ent W0 own' ((h.b, atP c t { h with us := .func (.func g) #[] cs, ld := 0, rd := ptr r } { x with addr := a } 3) :: ((r, rdP a (orecM c a) x.rv 0 0 0 false) :: ([(h.eb, enP t 3 x.rv)] ++ Q))) := by
  refine spec_of mixed low_attempt_Attempt_shared (by simp [ir_attempt_Attempt_shared]) ?_
  have hsn := fun (own' : Own) (m1 : MemC h.b (atP c t { h with us := .func (.func g) #[] cs, ld := 0 } { x with addr := a } 3) own') (m2 : MemC h.eb (enP t 3 x.rv) own') => sp_asnap (W0 := W0) (cl_of m1 rfl) (cl_of m2 rfl) (cl_of m2 rfl) hrv (by decide)
  repeat' ((try (conv => whnf)); first | ((with_reducible show CallT _ _ _ _ _ _); first | ((refine call_pe (sp_orec W0 _ c a) ?_ ?_ ?_; (exact rfl); exact rfl)) | ((refine call_pe (hsn _ inferInstance inferInstance) ?_ ?_ ?_; (exact rfl); exact rfl)) | ((refine call_x (sp_newRead a (orecM c a) x.rv _) ?_ ?_ (fun r v hv => ?_); (exact rfl); (exact rfl); (subst hv)))) | (apply ldN_o; (exact rfl); exact rfl) | (apply st_o; (exact rfl); exact rfl))
  all_goals exact ⟨r, rfl, (by refine sb_ent ?_; (repeat (first | exact sb_refl | exact sb_nil | refine sb_fr ?_ | refine sb_pu rfl ?_ | refine sb_cons ?_ | refine sb_app ?_)))⟩
theorem sp_aRead (hh : h.ok c x) (hst : x.st = 1) (a : Int) (ha : 0 ≤ a) (hcw : 0 ≤ c.words ∧ c.words ≤ 1099511627776) (Q : Own) : Spec Tryz.prog W0 53 [ptr h.b, uv a] (h.O c t x 0 3 Q) fun v own' =>
    ∃ s : AH × Own, (v = .int .i64 0 ∧ s.1.b = h.b ∧ s.1.ok c (x.read c a) ∧ PhO W0 c t s.1 (x.read c a) s.2) ∧ Ent W0 own' (s.1.O c t (x.read c a) (x.read c a).ph.no 3 (s.2 ++ Q)) := by
  refine spec_of mixed low_attempt_Attempt_Read (by simp [ir_attempt_Attempt_Read]) ?_
  have hrd := fun (own' : Own) (m1 : MemC h.b (atP c t h x 0) own') => sp_ready (W0 := W0) (s := x.st) (cl_of m1 rfl) (cl_of m1 rfl)
  have hou := fun (own' : Own) (m1 : MemC h.b (atP c t h x 0) own') => sp_outside (W0 := W0) (a := a) (cl_of m1 rfl) hcw
  rw [hst] at hrd
  unfold AT.read
  by_cases h1 : c.words ≤ a
  · rw [if_pos h1]
    have hd : decide (a ≥ c.words) = true := decide_eq_true h1
    simp only [hd] at hou
    repeat' ((try (conv => whnf)); first | (refine br_te ?_ ?_; exact rfl) | (refine br_fe ?_ ?_; exact rfl) | (refine new_i (fun bk hbk => ?_)) | ((with_reducible show CallT _ _ _ _ _ _); first | ((refine call_pe (hrd _ inferInstance) ?_ ?_ ?_; (exact rfl); exact rfl)) | ((refine call_pe (hou _ inferInstance) ?_ ?_ ?_; (exact rfl); exact rfl)) | ((refine call_bk (sp_locally (h := h) (c := c) (t := t) (x := x) (k := 0) ?_ ?_ _) ?_ ?_ ?_ (fun _ v hv => ?_); rotate_left 2; (exact rfl); (exact rfl); (exact rfl); (subst hv)))) | (apply ld_o; exact rfl))
    all_goals exact ⟨({ h with th := fnv 96 [ptr bk] }, [(bk, abP h.b)]), ⟨rfl, rfl, ⟨hh.1, hh.2, hh.3, hh.4, hh.5, hh.6, hh.7, hh.8, hh.9⟩, .inr ⟨rfl, bk, rfl, rfl⟩⟩, by show Ent W0 _ (AH.O _ c t _ 1 3 _); exact (by refine sb_ent ?_; (repeat (first | exact sb_refl | exact sb_nil | refine sb_fr ?_ | refine sb_pu rfl ?_ | refine sb_cons ?_ | refine sb_app ?_)))⟩
  · rw [if_neg h1]
    have hd : decide (a ≥ c.words) = false := decide_eq_false h1
    simp only [hd] at hou
    have hgt := fun (own' : Own) (m2 : MemC h.g.b (lgP c.writes h.g.aa x.ad.length h.g.ca h.g.va x.vl.length h.g.cv h.g.ib h.g.P) own') (m3 : EntC own' h.g.aD) (m4 : EntC own' h.g.vD) (m5 : MemC h.g.ib (fun o => o = Obj.cells (h.g.ix.map encI).flatten.toArray 3) own') =>
      sp_get (W0 := W0) (a := a) hh.hg.hI (cl_of m2 rfl) (cl_of m2 rfl) (cl_of m2 rfl) ((hh.hg.hA.rd (W0 := W0)).up) ((hh.hg.hV.rd (W0 := W0)).up) (RdE.mem (T := 3)) (by have := hh.hg.hP; omega) ⟨ha, by omega⟩ hh.hg.hl
    cases hx : getM x.ad x.vl a with
    | some w =>
      simp only [hx, Option.getD_some, Option.isSome_some] at hgt
      repeat' ((try (conv => whnf)); first | (refine br_te ?_ ?_; exact rfl) | (refine br_fe ?_ ?_; exact rfl) | (refine new_i (fun bk hbk => ?_)) | ((with_reducible show CallT _ _ _ _ _ _); first | ((refine call_pe (hrd _ inferInstance) ?_ ?_ ?_; (exact rfl); exact rfl)) | ((refine call_pe (hou _ inferInstance) ?_ ?_ ?_; (exact rfl); exact rfl)) | ((refine call_pe (hgt _ inferInstance inferInstance inferInstance inferInstance) ?_ ?_ ?_; (exact rfl); exact rfl)) | ((refine call_bk (sp_locally (h := h) (c := c) (t := t) (x := x) (k := 0) ?_ ?_ _) ?_ ?_ ?_ (fun _ v hv => ?_); rotate_left 2; (exact rfl); (exact rfl); (exact rfl); (subst hv)))) | (refine ari ?_ ?_; omega) | (apply sel; exact rfl) | (apply ld_o; exact rfl) | (apply st_o; (exact rfl); exact rfl))
      rename_i ab hab fb hfb _
      dsimp only
      exact ⟨({ h with th := fnv 99 [ptr fb, ptr bk] }, [(fb, boxP (fnv 97 [ptr ab]) 143), (bk, boxP (uv w) 33), (ab, abP h.b)]), ⟨rfl, rfl, ⟨hh.1, hh.2, hh.3, hh.4, hh.5, hh.6, hh.7, hh.8, hh.9⟩, ⟨fb, bk, ab, rfl, rfl⟩⟩, by show Ent W0 _ (AH.O _ c t _ 1 3 _); exact (by refine sb_ent ?_; (repeat (first | exact sb_refl | exact sb_nil | refine sb_fr ?_ | refine sb_pu rfl ?_ | refine sb_cons ?_ | refine sb_app ?_)))⟩
    | none =>
      simp only [hx, Option.getD_none, Option.isSome_none] at hgt
      repeat' ((try (conv => whnf)); first | (refine br_fe ?_ ?_; exact rfl) | (refine new_i (fun bk hbk => ?_)) | ((with_reducible show CallT _ _ _ _ _ _); first | ((refine call_pe (hrd _ inferInstance) ?_ ?_ ?_; (exact rfl); exact rfl)) | ((refine call_pe (hou _ inferInstance) ?_ ?_ ?_; (exact rfl); exact rfl)) | ((refine call_pe (hgt _ inferInstance inferInstance inferInstance inferInstance) ?_ ?_ ?_; (exact rfl); exact rfl)) | ((refine call_sb (D := [(h.eb, enP t 3 x.rv)]) (sp_ashared (h := h) (c := c) (t := t) (x := x) (k := 0) hh.rv a ?_ ?_ _) ?_ ?_ ?_ (fun rb v hv => ?_); rotate_left 2; (exact rfl); (exact rfl); (exact rfl); (subst hv)))) | (refine ari ?_ ?_; omega) | (apply sel; exact rfl) | (apply ld_o; exact rfl) | (apply st_o; (exact rfl); exact rfl))
      rename_i ab hab fb hfb
      dsimp only
      exact ⟨({ h with us := fnv 97 [ptr ab], ld := 0, rd := ptr rb }, [(rb, rdP a (orecM c a) x.rv 0 0 0 false), (ab, abP h.b)]), ⟨rfl, rfl, ⟨hh.1, hh.2, hh.3, hh.4, hh.5, hh.6, hh.7, hh.8, hh.9⟩, ⟨rfl, rb, ab, rfl, rfl, rfl⟩⟩, by show Ent W0 _ (AH.O _ c t _ 3 3 _); exact (by refine sb_ent ?_; (repeat (first | exact sb_refl | exact sb_nil | refine sb_fr ?_ | refine sb_pu rfl ?_ | refine sb_cons ?_ | refine sb_app ?_)))⟩
theorem sp_aWrite (hh : h.ok c x) (hst : x.st = 1) (a v : Int) (Q : Own) : Spec Tryz.prog W0 55 [ptr h.b, uv a, uv v] (h.O c t x 0 3 Q) fun r own' =>
    ∃ s : AH × Own, (r = .int .i64 0 ∧ s.1.b = h.b ∧ s.1.ok c { x with ph := .loc (.wr a v) } ∧ PhO W0 c t s.1 { x with ph := .loc (.wr a v) } s.2) ∧ Ent W0 own' (s.1.O c t { x with ph := .loc (.wr a v) } 1 3 (s.2 ++ Q)) := by
  refine spec_of mixed low_attempt_Attempt_Write (by simp [ir_attempt_Attempt_Write]) ?_
  have hrd := fun (own' : Own) (m1 : MemC h.b (atP c t h x 0) own') => sp_ready (W0 := W0) (s := x.st) (cl_of m1 rfl) (cl_of m1 rfl)
  rw [hst] at hrd
  repeat' ((try (conv => whnf)); first | (refine br_fe ?_ ?_; exact rfl) | (refine new_i (fun bk hbk => ?_)) | ((with_reducible show CallT _ _ _ _ _ _); first | ((refine call_pe (hrd _ inferInstance) ?_ ?_ ?_; (exact rfl); exact rfl)) | ((refine call_bk (sp_locally (h := h) (c := c) (t := t) (x := x) (k := 0) ?_ ?_ _) ?_ ?_ ?_ (fun _ v hv => ?_); rotate_left 2; (exact rfl); (exact rfl); (exact rfl); (subst hv)))) | (apply ld_o; exact rfl))
  rename_i ab hab xb hxb _
  exact ⟨({ h with th := fnv 102 [ptr ab, ptr xb, ptr bk] }, [(ab, abP h.b), (xb, boxP (uv a) 33), (bk, boxP (uv v) 33)]), ⟨rfl, rfl, ⟨hh.1, hh.2, hh.3, hh.4, hh.5, hh.6, hh.7, hh.8, hh.9⟩, ⟨ab, xb, bk, rfl, rfl⟩⟩, (by refine sb_ent ?_; (repeat (first | exact sb_refl | exact sb_nil | refine sb_fr ?_ | refine sb_pu rfl ?_ | refine sb_cons ?_ | refine sb_app ?_)))⟩
theorem sp_aEnd (hh : h.ok c x) (hst : x.st = 1) (cd : Int) (hcd : cd = 1 ∨ cd = 2) (Q : Own) : Spec Tryz.prog W0 52 [ptr h.b, .int .i64 cd] (h.O c t x 0 3 Q) fun r own' =>
    ∃ s : AH × Own, (r = .int .i64 0 ∧ s.1.b = h.b ∧ s.1.ok c { x with ph := .loc (.en cd) } ∧ PhO W0 c t s.1 { x with ph := .loc (.en cd) } s.2) ∧ Ent W0 own' (s.1.O c t { x with ph := .loc (.en cd) } 1 3 (s.2 ++ Q)) := by
  refine spec_of mixed low_attempt_Attempt_End (by simp [ir_attempt_Attempt_End]) ?_
  have hrd := fun (own' : Own) (m1 : MemC h.b (atP c t h x 0) own') => sp_ready (W0 := W0) (s := x.st) (cl_of m1 rfl) (cl_of m1 rfl)
  rw [hst] at hrd
  repeat' ((try (conv => whnf)); first | (refine when_ye ?_ ?_; exact rfl) | (refine when_ne ?_ ?_; exact rfl) | (refine br_fe ?_ ?_; exact rfl) | (apply br_pnE; (exact rfl); omega) | (refine new_i (fun bk hbk => ?_)) | ((with_reducible show CallT _ _ _ _ _ _); first | ((refine call_pe (hrd _ inferInstance) ?_ ?_ ?_; (exact rfl); exact rfl)) | ((refine call_bk (sp_locally (h := h) (c := c) (t := t) (x := x) (k := 0) ?_ ?_ _) ?_ ?_ ?_ (fun _ v hv => ?_); rotate_left 2; (exact rfl); (exact rfl); (exact rfl); (subst hv)))) | (apply ld_o; exact rfl) | (apply when_dE; (exact rfl); (exact rfl); all_goals intro hc))
  all_goals
    first
    | (exfalso; omega)
    | (rename_i ab hab _ _ _; exact ⟨({ h with th := fnv 93 [ptr ab, ptr bk] }, [(ab, abP h.b), (bk, boxP (.int .i64 cd) 3)]), ⟨rfl, rfl, ⟨hh.1, hh.2, hh.3, hh.4, hh.5, hh.6, hh.7, hh.8, hh.9⟩, .inl ⟨ab, bk, rfl, rfl⟩⟩, (by refine sb_ent ?_; (repeat (first | exact sb_refl | exact sb_nil | refine sb_fr ?_ | refine sb_pu rfl ?_ | refine sb_cons ?_ | refine sb_app ?_)))⟩)
    | (rename_i ab hab _ _; exact ⟨({ h with th := fnv 93 [ptr ab, ptr bk] }, [(ab, abP h.b), (bk, boxP (.int .i64 cd) 3)]), ⟨rfl, rfl, ⟨hh.1, hh.2, hh.3, hh.4, hh.5, hh.6, hh.7, hh.8, hh.9⟩, .inl ⟨ab, bk, rfl, rfl⟩⟩, (by refine sb_ent ?_; (repeat (first | exact sb_refl | exact sb_nil | refine sb_fr ?_ | refine sb_pu rfl ?_ | refine sb_cons ?_ | refine sb_app ?_)))⟩)
    | (rename_i ab hab _; exact ⟨({ h with th := fnv 93 [ptr ab, ptr bk] }, [(ab, abP h.b), (bk, boxP (.int .i64 cd) 3)]), ⟨rfl, rfl, ⟨hh.1, hh.2, hh.3, hh.4, hh.5, hh.6, hh.7, hh.8, hh.9⟩, .inl ⟨ab, bk, rfl, rfl⟩⟩, (by refine sb_ent ?_; (repeat (first | exact sb_refl | exact sb_nil | refine sb_fr ?_ | refine sb_pu rfl ?_ | refine sb_cons ?_ | refine sb_app ?_)))⟩)
end
end Go.Proofs.YtllddgdmmfmpkaaGreatDoor
