/- What the laws share, part 25. No condition. -/
import Derived.Lib.LastIndexByte
import Derived.Test.YtiimndcifcoofaaGreatDoorZ24
namespace Go.Proofs.YtiimndcifcoofaaGreatDoor
open Go Go.RowKit
set_option maxRecDepth 10000
set_option maxHeartbeats 4000000
def rawT (n : Nat) : List Ins → Nat → List Int
  | [], _ => []
  | i :: r, k => if iskips i = true ∧ (k : Int) + 1 + iskip i ≤ n then ((k : Int) + 1 + iskip i) :: rawT n r (k + 1) else rawT n r (k + 1)
def tgtT (p : List Ins) : List Int := cmp (srt (rawT p.length p 0))
def idxI (x : Int) : List Int → Nat → Option Nat
  | [], _ => none
  | y :: r, j => if x = y then some j else idxI x r (j + 1)
def lnmL (j : Nat) : List UInt8 := 108 :: Go.Lib.itoa ((j : Int) + 1)
def labT (T : List Int) (k : Int) : List UInt8 := match idxI k T 0 with
  | some j => lnmL j ++ [58, 10]
  | none => []
def uptoL (s : ByteArray) : List UInt8 := s.data.toList.take (Go.Lib.lastIndexByte s 32 + 1).toNat
def insX (T : List Int) (i : Ins) (k : Nat) : List UInt8 := if iskips i = true then (match idxI ((k : Int) + 1 + iskip i) T 0 with
  | some j => uptoL (fmtB i) ++ lnmL j
  | none => (fmtB i).data.toList) else (fmtB i).data.toList
def disR (T : List Int) : List Ins → Nat → List UInt8
  | [], k => labT T k
  | i :: r, k => labT T k ++ (insX T i k ++ [10] ++ disR T r (k + 1))
def errP : List Ins → Int
  | [] => 0
  | i :: r => if icheck i = 0 then errP r else icheck i
def disM (p : List Ins) : ByteArray × Int := if 64 < p.length then (noB, 3) else if errP p = 0 then (bW (disR (tgtT p) p 0), 0) else (noB, errP p)
theorem errP_all : ∀ {p : List Ins}, errP p = 0 → ∀ i ∈ p, icheck i = 0
  | [], _, i, h => by cases h
  | x :: r, he, i, h => by
    unfold errP at he
    split at he
    · rename_i hx
      rcases List.mem_cons.1 h with rfl | h
      · exact hx
      · exact errP_all he i h
    · rename_i hx; exact absurd he hx
theorem skip_rng {i : Ins} (h : iskips i = true) : 0 ≤ iskip i ∧ iskip i ≤ 64 := by
  unfold iskip
  rw [if_pos h]
  unfold iskips at h
  obtain ⟨h0, h1⟩ := of_decide_eq_true h
  have hi := (fmt_regs h0).2.2.2.2
  rcases h1 with h1 | h1 | h1 <;> rw [h1] at hi <;> exact hi
theorem iskip_le (i : Ins) : 0 ≤ iskip i ∧ iskip i ≤ 64 := by
  cases h : iskips i with
  | true => exact skip_rng h
  | false => unfold iskip; rw [h]; simp
theorem rawT_len (n : Nat) : ∀ (p : List Ins) (k : Nat), (rawT n p k).length ≤ p.length
  | [], _ => Nat.le_refl _
  | i :: r, k => by
    have := rawT_len n r (k + 1)
    simp only [rawT]
    split
    · simp; omega
    · simp; omega
theorem rawT_rng (n : Nat) : ∀ (p : List Ins) (k : Nat), ∀ x ∈ rawT n p k, 0 ≤ x ∧ x ≤ n
  | [], _, x, h => by cases h
  | i :: r, k, x, h => by
    simp only [rawT] at h
    split at h
    · rename_i hc
      rcases List.mem_cons.1 h with rfl | h
      · have := skip_rng hc.1
        omega
      · exact rawT_rng n r (k + 1) x h
    · exact rawT_rng n r (k + 1) x h
theorem tgtT_len (p : List Ins) : (tgtT p).length ≤ p.length := by
  have h1 := (cmp_spec (srt_sorted (rawT p.length p 0))).2.2
  rw [srt_len] at h1
  have h2 := rawT_len p.length p 0
  unfold tgtT
  omega
theorem tgtT_asc (p : List Ins) : (tgtT p).Pairwise (· < ·) := (cmp_spec (srt_sorted (rawT p.length p 0))).1
theorem tgtT_rng (p : List Ins) : ∀ x ∈ tgtT p, 0 ≤ x ∧ x ≤ p.length := fun x hx => rawT_rng p.length p 0 x (srt_mem.1 (((cmp_spec (srt_sorted (rawT p.length p 0))).2.1 x).1 hx))
def mpV : List Int → Nat → List (Value × Value)
  | [], _ => []
  | x :: r, j => (Value.int .i64 x, Value.string (bW (lnmL j))) :: mpV r (j + 1)
theorem find_mp (x : Int) : ∀ (T : List Int) (j : Nat), findM 0 (.int .i64 x) (mpV T j) = some ((idxI x T j).map fun q => Value.string (bW (lnmL q)))
  | [], _ => rfl
  | y :: r, j => by
    show (match eqOne 0 (.int .i64 x) (.int .i64 y) with | some true => some (some (Value.string (bW (lnmL j)))) | some false => findM 0 (.int .i64 x) (mpV r (j + 1)) | none => none) = _
    have e : eqOne 0 (.int .i64 x) (.int .i64 y) = some (decide (x = y)) := rfl
    rw [e]
    unfold idxI
    by_cases h : x = y
    · rw [if_pos h, decide_eq_true h]; rfl
    · rw [if_neg h, decide_eq_false h]; exact find_mp x r (j + 1)
theorem upd_mp (x : Int) (v : Value) : ∀ (T : List Int) (j : Nat), idxI x T j = none → updM 0 (.int .i64 x) v (mpV T j) = mpV T j ++ [(.int .i64 x, v)]
  | [], _, _ => rfl
  | y :: r, j, h => by
    unfold idxI at h
    split at h
    · cases h
    · rename_i hne
      show (match eqOne 0 (.int .i64 x) (.int .i64 y) with | some true => (Value.int .i64 x, v) :: mpV r (j + 1) | _ => (Value.int .i64 y, Value.string (bW (lnmL j))) :: updM 0 (.int .i64 x) v (mpV r (j + 1))) = _
      have e : eqOne 0 (.int .i64 x) (.int .i64 y) = some (decide (x = y)) := rfl
      rw [e, decide_eq_false hne, upd_mp x v r (j + 1) h]
      rfl
theorem mpV_app (x : Int) : ∀ (T : List Int) (j : Nat), mpV (T ++ [x]) j = mpV T j ++ [(.int .i64 x, .string (bW (lnmL (j + T.length))))]
  | [], _ => rfl
  | y :: r, j => by
    simp only [List.cons_append, mpV, List.length_cons]
    rw [mpV_app x r (j + 1), show j + 1 + r.length = j + (r.length + 1) by omega]
theorem idx_none (x : Int) : ∀ (T : List Int) (j : Nat), x ∉ T → idxI x T j = none
  | [], _, _ => rfl
  | y :: r, j, h => by
    unfold idxI
    rw [if_neg (fun e => h (by rw [e]; exact List.mem_cons_self))]
    exact idx_none x r (j + 1) fun hm => h (List.mem_cons_of_mem _ hm)
theorem idx_lt (x : Int) : ∀ (T : List Int) (j q : Nat), idxI x T j = some q → q < j + T.length
  | [], _, _, h => by cases h
  | y :: r, j, q, h => by
    unfold idxI at h
    split at h
    · have := Option.some.inj h; simp; omega
    · have := idx_lt x r (j + 1) q h; simp; omega
end Go.Proofs.YtiimndcifcoofaaGreatDoor
namespace Go.Proofs.YtiimndcifcoofaaGreatDoor
open Go Go.RowKit
set_option maxRecDepth 10000
set_option maxHeartbeats 4000000
theorem sct_n {a b : ByteArray} {K : Value → Prop} (c : ByteArray) (hc : a ++ b = c) (hs : a.size + b.size ≤ 140737488355328) (h : K (.string c)) : SctT a b K := ⟨by omega, by rw [hc]; exact h⟩
section
variable {W0 : World} {own : Own}
theorem call_sortD {a : Option Addr} {cap : Nat} {l : List Int} {D r : Own} {k : FuncId} {args : List Value} {K : Value → Own → Prop} (hB : BufE encI 3 1 a cap l D) (hl : l.length < 4611686018427387904) (ho : own = D ++ r) (ek : k = 45) (ea : args = [.slice a l.length cap])
    (hk : ∀ D', BufE encI 3 1 a cap (srt l) D' → K (.tuple #[]) (D' ++ r)) : CallT Tryz.prog W0 own k args K := by
  subst ho
  exact call_x (σ := { D : Own // BufE encI 3 1 a cap (srt l) D }) (R := fun _ v => v = .tuple #[]) (O := fun D => D.1 ++ r)
    (fun w hw => (sp_sort (W0 := W0) hB (At.head (r := r)) hl w hw).mono fun _ _ ⟨v, o, he, hs, D, ⟨hv, hD⟩, hE⟩ => ⟨v, o, he, hs, ⟨D, hD⟩, hv, hE⟩) ek ea (fun s v hv => by subst hv; exact hk s.1 s.2)
theorem call_cmpD {a : Option Addr} {cap : Nat} {l : List Int} {D r : Own} {k : FuncId} {args : List Value} {K : Value → Own → Prop} (hB : BufE encI 3 1 a cap (srt l) D) (hl : l.length ≤ 4611686018427387904) (ho : own = D ++ r) (ek : k = 46) (ea : args = [.slice a l.length cap])
    (hk : ∀ D', BufE encI 3 1 a cap (cmp (srt l)) D' → K (.slice a (cmp (srt l)).length cap) (D' ++ r)) : CallT Tryz.prog W0 own k args K := by
  subst ho
  rw [← srt_len l] at ea
  exact call_x (σ := { D : Own // BufE encI 3 1 a cap (cmp (srt l)) D }) (R := fun _ v => v = .slice a (cmp (srt l)).length cap) (O := fun D => D.1 ++ r)
    (fun w hw => (sp_compact (W0 := W0) hB (At.head (r := r)) (by rw [srt_len]; omega) (srt_sorted l) w hw).mono fun _ _ ⟨v, o, he, hs, D, ⟨hv, hD⟩, hE⟩ => ⟨v, o, he, hs, ⟨D, hD⟩, hv, hE⟩) ek ea (fun s v hv => by subst hv; exact hk s.1 s.2)
theorem sp_targets (hF : FormsAt W0) {a : Option Addr} {cap : Nat} {p : List Ins} (hR : RdE Ins.enc 5 W0 own a p) (hp : p.length ≤ 64) :
    Spec Tryz.prog W0 57 [.slice a p.length cap] own fun v own' => ∃ a' cap' D, v = .slice a' (tgtT p).length cap' ∧ BufE encI 3 1 a' cap' (tgtT p) D ∧ Ent W0 own' (D ++ own) := by
  refine spec_of mixed low_asm_targets (by simp [ir_asm_targets]) ?_
  repeat' ((try (conv => whnf)); first | (refine when_ye ?_ ?_; exact rfl) | (refine when_ne ?_ ?_; exact rfl) | (refine br_te ?_ ?_; exact rfl) | (refine br_fe ?_ ?_; exact rfl) | (apply br_pyE; (exact rfl); omega) | (apply br_pnE; (exact rfl); omega) | (apply when_pyE; (exact rfl); omega) | (apply when_pnE; (exact rfl); omega) | (apply br_npyE; (exact rfl); omega) | (apply br_npnE; (exact rfl); omega) | (apply when_npyE; (exact rfl); omega) | (apply when_npnE; (exact rfl); omega) | (refine ari ?_ ?_; omega) | (refine aru ?_ ?_; omega) | (apply sel; exact rfl) | (refine ix0 rfl ?_) | (refine ix1 rfl ?_) | (refine ix2 rfl ?_) | (refine ix3 rfl ?_) | (apply ixj; omega) | (refine ixn ?_ ?_; omega) | (refine ixs0 rfl ?_) | (refine ixs1 rfl ?_) | (refine ixs_j ?_ ?_; omega) | (refine ixs_n ?_ ?_; omega) | (apply ld_o; exact rfl) | (apply ldN_a; exact rfl) | (apply ldN_o; (exact rfl); exact rfl) | (apply st_o; (exact rfl); exact rfl) | (apply stN_o; (exact rfl); (exact rfl); exact rfl) | (refine new_i (fun bk hbk => ?_)) | (apply when_dE; (exact rfl); (exact rfl); all_goals intro hc) | (apply when_dF; (exact rfl); (exact rfl); all_goals intro hc) | (apply when_nE; (exact rfl); (exact rfl); all_goals intro hc) | (apply when_nF; (exact rfl); (exact rfl); all_goals intro hc) | (apply br_dE; (exact rfl); all_goals intro hc) | (apply br_nE; (exact rfl); all_goals intro hc) | (refine mm_min ?_) | (refine mm_max ?_) | (refine rem_i ?_ ?_; omega) | (refine SelN.mk ?_) | (refine cut_n ?_) | (refine Both.mk ?_ ?_) | (exact True.intro))
  refine loop_i (σ := Nat × List Int × Option Addr × Nat × Own) (fun x => [(10, .int .i64 x.1), (3, .slice x.2.2.1 x.2.1.length x.2.2.2.1)]) (fun x => x.2.2.2.2 ++ own) (fun x => x.1 ≤ p.length ∧ x.2.1.length ≤ x.1 ∧ BufE encI 3 1 x.2.2.1 x.2.2.2.1 x.2.1 x.2.2.2.2 ∧ x.2.1 ++ rawT p.length (p.drop x.1) x.1 = rawT p.length p 0) (fun x => p.length - x.1) (0, [], none, 0, []) ⟨Nat.zero_le _, Nat.le_refl _, BufE.nil, rfl⟩ (by repeat' (first | exact True.intro | refine And.intro ?_ ?_ | exact rfl | exact vi (by omega) | (dsimp only; exact rfl) | (dsimp only; exact vi (by omega)))) Ent.refl rfl ?_
  rintro ⟨k, acc, b, c, D⟩ junk ⟨hk, hal, hB, hI⟩
  dsimp only at hk hal hB hI ⊢
  by_cases hlt : k < p.length
  · have hlt' : (k : Int) < p.length := by omega
    obtain ⟨i, hi⟩ : ∃ i, p[k]? = some i := ⟨_, List.getElem?_eq_getElem hlt⟩
    have hd : p.drop k = i :: p.drop (k + 1) := by
      rw [List.drop_eq_getElem_cons hlt]
      congr 1
      exact (List.getElem?_eq_some_iff.1 hi).2
    rw [hd, rawT] at hI
    have hs := fun own => sp_iskips W0 own hF i
    have hr := iskip_le i
    cases hq : iskips i with
    | false =>
      rw [hq] at hs hI
      rw [if_neg (fun h => by cases h.1)] at hI
      generalize iskip i = s at *
      obtain ⟨io, ia, ib, ic, im⟩ := i
      repeat' ((try (conv => whnf)); first | (refine when_ye ?_ ?_; exact rfl) | (refine when_ne ?_ ?_; exact rfl) | (refine br_te ?_ ?_; exact rfl) | (refine br_fe ?_ ?_; exact rfl) | (apply br_pyE; (exact rfl); omega) | (apply br_pnE; (exact rfl); omega) | (apply when_pyE; (exact rfl); omega) | (apply when_pnE; (exact rfl); omega) | (apply br_npyE; (exact rfl); omega) | (apply br_npnE; (exact rfl); omega) | (apply when_npyE; (exact rfl); omega) | (apply when_npnE; (exact rfl); omega) | ((with_reducible show Ld _ _ _ _); first | (refine ldE0 hR hi rfl ?_) | (refine ldEk hR hi rfl ?_) | (refine ldE1 hR hi rfl ?_)) | ((with_reducible show IxS _ _ _ _ _); first | ((refine ixE hR hi ?_ ?_; (first | rfl | omega)))) | ((with_reducible show LdN _ _ _ _ _); first | (refine ldNEi hR hi rfl ?_)) | ((with_reducible show CallT _ _ _ _ _ _); first | ((refine call_pe (hs _) ?_ ?_ ?_; (exact rfl); exact rfl))) | (refine ari ?_ ?_; omega) | (refine aru ?_ ?_; omega) | (apply sel; exact rfl) | (refine ix0 rfl ?_) | (refine ix1 rfl ?_) | (refine ix2 rfl ?_) | (refine ix3 rfl ?_) | (apply ixj; omega) | (refine ixn ?_ ?_; omega) | (refine ixs0 rfl ?_) | (refine ixs1 rfl ?_) | (refine ixs_j ?_ ?_; omega) | (refine ixs_n ?_ ?_; omega) | (apply ld_o; exact rfl) | (apply ldN_a; exact rfl) | (apply ldN_o; (exact rfl); exact rfl) | (apply st_o; (exact rfl); exact rfl) | (apply stN_o; (exact rfl); (exact rfl); exact rfl) | (refine new_i (fun bk hbk => ?_)) | (apply when_dE; (exact rfl); (exact rfl); all_goals intro hc) | (apply when_dF; (exact rfl); (exact rfl); all_goals intro hc) | (apply when_nE; (exact rfl); (exact rfl); all_goals intro hc) | (apply when_nF; (exact rfl); (exact rfl); all_goals intro hc) | (apply br_dE; (exact rfl); all_goals intro hc) | (apply br_nE; (exact rfl); all_goals intro hc) | (refine mm_min ?_) | (refine mm_max ?_) | (refine rem_i ?_ ?_; omega) | (refine SelN.mk ?_) | (refine cut_n ?_) | (refine Both.mk ?_ ?_) | (exact True.intro))
      exact ⟨(k + 1, acc, b, c, D), ⟨by dsimp only; omega, by dsimp only; omega, hB, hI⟩, by dsimp only; omega, (by repeat' (first | exact True.intro | refine And.intro ?_ ?_ | exact rfl | exact vi (by omega) | (dsimp only; exact rfl) | (dsimp only; exact vi (by omega)))), (by first | exact ent_i | (repeat (first | exact Ent.refl | exact Ent.left | refine Ent.cons ?_ | refine Ent.app ?_)))⟩
    | true =>
      rw [hq] at hs hI
      generalize iskip i = s at *
      obtain ⟨io, ia, ib, ic, im⟩ := i
      by_cases hn : (k : Int) + 1 + s ≤ p.length
      · rw [if_pos ⟨rfl, hn⟩] at hI
        repeat' ((try (conv => whnf)); first | (refine when_ye ?_ ?_; exact rfl) | (refine when_ne ?_ ?_; exact rfl) | (refine br_te ?_ ?_; exact rfl) | (refine br_fe ?_ ?_; exact rfl) | (apply br_pyE; (exact rfl); omega) | (apply br_pnE; (exact rfl); omega) | (apply when_pyE; (exact rfl); omega) | (apply when_pnE; (exact rfl); omega) | (apply br_npyE; (exact rfl); omega) | (apply br_npnE; (exact rfl); omega) | (apply when_npyE; (exact rfl); omega) | (apply when_npnE; (exact rfl); omega) | (apply app_i (enc := encI) ((k : Int) + 1 + s) hB; (exact rfl); (exact rfl); (omega); (exact rfl); (exact rfl); (omega); intro b2 c2 D2 hb2) | ((with_reducible show Ld _ _ _ _); first | (refine ldE0 hR hi rfl ?_) | (refine ldEk hR hi rfl ?_) | (refine ldE1 hR hi rfl ?_)) | ((with_reducible show IxS _ _ _ _ _); first | ((refine ixE hR hi ?_ ?_; (first | rfl | omega)))) | ((with_reducible show LdN _ _ _ _ _); first | (refine ldNEi hR hi rfl ?_)) | ((with_reducible show CallT _ _ _ _ _ _); first | ((refine call_pe (hs _) ?_ ?_ ?_; (exact rfl); exact rfl))) | (refine ari ?_ ?_; omega) | (refine aru ?_ ?_; omega) | (apply sel; exact rfl) | (refine ix0 rfl ?_) | (refine ix1 rfl ?_) | (refine ix2 rfl ?_) | (refine ix3 rfl ?_) | (apply ixj; omega) | (refine ixn ?_ ?_; omega) | (refine ixs0 rfl ?_) | (refine ixs1 rfl ?_) | (refine ixs_j ?_ ?_; omega) | (refine ixs_n ?_ ?_; omega) | (apply ld_o; exact rfl) | (apply ldN_a; exact rfl) | (apply ldN_o; (exact rfl); exact rfl) | (apply st_o; (exact rfl); exact rfl) | (apply stN_o; (exact rfl); (exact rfl); exact rfl) | (refine new_i (fun bk hbk => ?_)) | (apply when_dE; (exact rfl); (exact rfl); all_goals intro hc) | (apply when_dF; (exact rfl); (exact rfl); all_goals intro hc) | (apply when_nE; (exact rfl); (exact rfl); all_goals intro hc) | (apply when_nF; (exact rfl); (exact rfl); all_goals intro hc) | (apply br_dE; (exact rfl); all_goals intro hc) | (apply br_nE; (exact rfl); all_goals intro hc) | (refine mm_min ?_) | (refine mm_max ?_) | (refine rem_i ?_ ?_; omega) | (refine SelN.mk ?_) | (refine cut_n ?_) | (refine Both.mk ?_ ?_) | (exact True.intro))
        refine ⟨(k + 1, acc ++ [(k : Int) + 1 + s], b2, c2, D2), ⟨by dsimp only; omega, by dsimp only; simp; omega, hb2, ?_⟩, by dsimp only; omega, ?_, (by first | exact ent_i | (repeat (first | exact Ent.refl | exact Ent.left | refine Ent.cons ?_ | refine Ent.app ?_)))⟩
        · dsimp only
          rw [List.append_assoc]
          exact hI
        · dsimp only
          rw [List.length_append]
          exact (by repeat' (first | exact True.intro | refine And.intro ?_ ?_ | exact rfl | exact vi (by omega) | (dsimp only; exact rfl) | (dsimp only; exact vi (by omega))))
      · rw [if_neg (fun h => hn h.2)] at hI
        repeat' ((try (conv => whnf)); first | (refine when_ye ?_ ?_; exact rfl) | (refine when_ne ?_ ?_; exact rfl) | (refine br_te ?_ ?_; exact rfl) | (refine br_fe ?_ ?_; exact rfl) | (apply br_pyE; (exact rfl); omega) | (apply br_pnE; (exact rfl); omega) | (apply when_pyE; (exact rfl); omega) | (apply when_pnE; (exact rfl); omega) | (apply br_npyE; (exact rfl); omega) | (apply br_npnE; (exact rfl); omega) | (apply when_npyE; (exact rfl); omega) | (apply when_npnE; (exact rfl); omega) | ((with_reducible show Ld _ _ _ _); first | (refine ldE0 hR hi rfl ?_) | (refine ldEk hR hi rfl ?_) | (refine ldE1 hR hi rfl ?_)) | ((with_reducible show IxS _ _ _ _ _); first | ((refine ixE hR hi ?_ ?_; (first | rfl | omega)))) | ((with_reducible show LdN _ _ _ _ _); first | (refine ldNEi hR hi rfl ?_)) | ((with_reducible show CallT _ _ _ _ _ _); first | ((refine call_pe (hs _) ?_ ?_ ?_; (exact rfl); exact rfl))) | (refine ari ?_ ?_; omega) | (refine aru ?_ ?_; omega) | (apply sel; exact rfl) | (refine ix0 rfl ?_) | (refine ix1 rfl ?_) | (refine ix2 rfl ?_) | (refine ix3 rfl ?_) | (apply ixj; omega) | (refine ixn ?_ ?_; omega) | (refine ixs0 rfl ?_) | (refine ixs1 rfl ?_) | (refine ixs_j ?_ ?_; omega) | (refine ixs_n ?_ ?_; omega) | (apply ld_o; exact rfl) | (apply ldN_a; exact rfl) | (apply ldN_o; (exact rfl); exact rfl) | (apply st_o; (exact rfl); exact rfl) | (apply stN_o; (exact rfl); (exact rfl); exact rfl) | (refine new_i (fun bk hbk => ?_)) | (apply when_dE; (exact rfl); (exact rfl); all_goals intro hc) | (apply when_dF; (exact rfl); (exact rfl); all_goals intro hc) | (apply when_nE; (exact rfl); (exact rfl); all_goals intro hc) | (apply when_nF; (exact rfl); (exact rfl); all_goals intro hc) | (apply br_dE; (exact rfl); all_goals intro hc) | (apply br_nE; (exact rfl); all_goals intro hc) | (refine mm_min ?_) | (refine mm_max ?_) | (refine rem_i ?_ ?_; omega) | (refine SelN.mk ?_) | (refine cut_n ?_) | (refine Both.mk ?_ ?_) | (exact True.intro))
        exact ⟨(k + 1, acc, b, c, D), ⟨by dsimp only; omega, by dsimp only; omega, hB, hI⟩, by dsimp only; omega, (by repeat' (first | exact True.intro | refine And.intro ?_ ?_ | exact rfl | exact vi (by omega) | (dsimp only; exact rfl) | (dsimp only; exact vi (by omega)))), (by first | exact ent_i | (repeat (first | exact Ent.refl | exact Ent.left | refine Ent.cons ?_ | refine Ent.app ?_)))⟩
  · have hlt' : ¬ (k : Int) < p.length := by omega
    have hd : p.drop k = [] := List.drop_eq_nil_of_le (by omega)
    rw [hd, rawT, List.append_nil] at hI
    have hfin : cmp (srt acc) = tgtT p := by rw [hI]; rfl
    repeat' ((try (conv => whnf)); first | (refine when_ye ?_ ?_; exact rfl) | (refine when_ne ?_ ?_; exact rfl) | (refine br_te ?_ ?_; exact rfl) | (refine br_fe ?_ ?_; exact rfl) | (apply br_pyE; (exact rfl); omega) | (apply br_pnE; (exact rfl); omega) | (apply when_pyE; (exact rfl); omega) | (apply when_pnE; (exact rfl); omega) | (apply br_npyE; (exact rfl); omega) | (apply br_npnE; (exact rfl); omega) | (apply when_npyE; (exact rfl); omega) | (apply when_npnE; (exact rfl); omega) | ((with_reducible show CallT _ _ _ _ _ _); first | ((refine call_sortD hB (by omega) rfl ?_ ?_ (fun D2 hD2 => ?_); (exact rfl); (exact rfl))) | ((refine call_cmpD hD2 (by omega) rfl ?_ ?_ (fun D3 hD3 => ?_); (exact rfl); (exact rfl)))) | (refine ari ?_ ?_; omega) | (refine aru ?_ ?_; omega) | (apply sel; exact rfl) | (refine ix0 rfl ?_) | (refine ix1 rfl ?_) | (refine ix2 rfl ?_) | (refine ix3 rfl ?_) | (apply ixj; omega) | (refine ixn ?_ ?_; omega) | (refine ixs0 rfl ?_) | (refine ixs1 rfl ?_) | (refine ixs_j ?_ ?_; omega) | (refine ixs_n ?_ ?_; omega) | (apply ld_o; exact rfl) | (apply ldN_a; exact rfl) | (apply ldN_o; (exact rfl); exact rfl) | (apply st_o; (exact rfl); exact rfl) | (apply stN_o; (exact rfl); (exact rfl); exact rfl) | (refine new_i (fun bk hbk => ?_)) | (apply when_dE; (exact rfl); (exact rfl); all_goals intro hc) | (apply when_dF; (exact rfl); (exact rfl); all_goals intro hc) | (apply when_nE; (exact rfl); (exact rfl); all_goals intro hc) | (apply when_nF; (exact rfl); (exact rfl); all_goals intro hc) | (apply br_dE; (exact rfl); all_goals intro hc) | (apply br_nE; (exact rfl); all_goals intro hc) | (refine mm_min ?_) | (refine mm_max ?_) | (refine rem_i ?_ ?_; omega) | (refine SelN.mk ?_) | (refine cut_n ?_) | (refine Both.mk ?_ ?_) | (exact True.intro))
    rw [hfin] at hD3
    exact ⟨b, c, D3, by rw [← hfin]; rfl, hD3, (by first | exact ent_i | (repeat (first | exact Ent.refl | exact Ent.left | refine Ent.cons ?_ | refine Ent.app ?_)))⟩
theorem sp_lib (s : ByteArray) (c : Int) (hs : s.size < 4611686018427387904) : Pure Tryz.prog W0 60 [.string s, .int .u8 c] own (.int .i64 (Go.Lib.lastIndexByte s c)) := fun w hw => by
  refine (shelf_strings_LastIndexByte s c hs w).mono ?_
  rintro e w' ⟨rfl, rfl⟩
  exact ⟨rfl, hw⟩
theorem lib_rng (s : ByteArray) (c : Int) : -1 ≤ Go.Lib.lastIndexByte s c ∧ Go.Lib.lastIndexByte s c < s.size := by
  rcases Go.Lib.lastIdx_spec s c s.size with ⟨h, _⟩ | ⟨i, hi, h, _⟩
  · unfold Go.Lib.lastIndexByte; rw [h]; omega
  · unfold Go.Lib.lastIndexByte; rw [h]; omega
end
theorem lnm_len {j : Nat} (h : j ≤ 64) : (lnmL j).length ≤ 22 := by
  have := Go.Lib.itoa_length_le ((j : Int) + 1) (by omega) (by omega)
  unfold lnmL
  simp; omega
section
variable {W0 : World} {own : Own}
theorem sp_Disassemble (hA : AsmAt W0) {a : Option Addr} {cap : Nat} {p : List Ins} (hR : RdE Ins.enc 5 W0 own a p) (hl : p.length ≤ 9223372036854775807) (him : ∀ i ∈ p, -9223372036854775808 ≤ i.imm ∧ i.imm ≤ 9223372036854775807) :
    Pure Tryz.prog W0 27 [.slice a p.length cap] own (.tuple #[.string (disM p).1, .int .i64 (disM p).2]) := by
  refine pure_of (spec_of mixed low_asm_Disassemble (by simp [ir_asm_Disassemble]) ?_)
  have hF := hA.isa.forms
  unfold disM
  by_cases h64 : 64 < p.length
  · rw [if_pos h64]
    have h64' : 64 < (p.length : Int) := by omega
    repeat' ((try (conv => whnf)); first | (refine when_ye ?_ ?_; exact rfl) | (refine when_ne ?_ ?_; exact rfl) | (refine br_te ?_ ?_; exact rfl) | (refine br_fe ?_ ?_; exact rfl) | (apply br_pyE; (exact rfl); omega) | (apply br_pnE; (exact rfl); omega) | (apply when_pyE; (exact rfl); omega) | (apply when_pnE; (exact rfl); omega) | (apply br_npyE; (exact rfl); omega) | (apply br_npnE; (exact rfl); omega) | (apply when_npyE; (exact rfl); omega) | (apply when_npnE; (exact rfl); omega) | (refine ari ?_ ?_; omega) | (refine aru ?_ ?_; omega) | (apply sel; exact rfl) | (refine ix0 rfl ?_) | (refine ix1 rfl ?_) | (refine ix2 rfl ?_) | (refine ix3 rfl ?_) | (apply ixj; omega) | (refine ixn ?_ ?_; omega) | (refine ixs0 rfl ?_) | (refine ixs1 rfl ?_) | (refine ixs_j ?_ ?_; omega) | (refine ixs_n ?_ ?_; omega) | (apply ld_o; exact rfl) | (apply ldN_a; exact rfl) | (apply ldN_o; (exact rfl); exact rfl) | (apply st_o; (exact rfl); exact rfl) | (apply stN_o; (exact rfl); (exact rfl); exact rfl) | (refine new_i (fun bk hbk => ?_)) | (apply when_dE; (exact rfl); (exact rfl); all_goals intro hc) | (apply when_dF; (exact rfl); (exact rfl); all_goals intro hc) | (apply when_nE; (exact rfl); (exact rfl); all_goals intro hc) | (apply when_nF; (exact rfl); (exact rfl); all_goals intro hc) | (apply br_dE; (exact rfl); all_goals intro hc) | (apply br_nE; (exact rfl); all_goals intro hc) | (refine mm_min ?_) | (refine mm_max ?_) | (refine rem_i ?_ ?_; omega) | (refine SelN.mk ?_) | (refine cut_n ?_) | (refine Both.mk ?_ ?_) | (exact True.intro))
    exact ⟨rfl, (by first | exact ent_i | (repeat (first | exact Ent.refl | exact Ent.left | refine Ent.cons ?_ | refine Ent.app ?_)))⟩
  · rw [if_neg h64]
    have h64' : ¬ 64 < (p.length : Int) := by omega
    repeat' ((try (conv => whnf)); first | (refine when_ye ?_ ?_; exact rfl) | (refine when_ne ?_ ?_; exact rfl) | (refine br_te ?_ ?_; exact rfl) | (refine br_fe ?_ ?_; exact rfl) | (apply br_pyE; (exact rfl); omega) | (apply br_pnE; (exact rfl); omega) | (apply when_pyE; (exact rfl); omega) | (apply when_pnE; (exact rfl); omega) | (apply br_npyE; (exact rfl); omega) | (apply br_npnE; (exact rfl); omega) | (apply when_npyE; (exact rfl); omega) | (apply when_npnE; (exact rfl); omega) | (refine ari ?_ ?_; omega) | (refine aru ?_ ?_; omega) | (apply sel; exact rfl) | (refine ix0 rfl ?_) | (refine ix1 rfl ?_) | (refine ix2 rfl ?_) | (refine ix3 rfl ?_) | (apply ixj; omega) | (refine ixn ?_ ?_; omega) | (refine ixs0 rfl ?_) | (refine ixs1 rfl ?_) | (refine ixs_j ?_ ?_; omega) | (refine ixs_n ?_ ?_; omega) | (apply ld_o; exact rfl) | (apply ldN_a; exact rfl) | (apply ldN_o; (exact rfl); exact rfl) | (apply st_o; (exact rfl); exact rfl) | (apply stN_o; (exact rfl); (exact rfl); exact rfl) | (refine new_i (fun bk hbk => ?_)) | (apply when_dE; (exact rfl); (exact rfl); all_goals intro hc) | (apply when_dF; (exact rfl); (exact rfl); all_goals intro hc) | (apply when_nE; (exact rfl); (exact rfl); all_goals intro hc) | (apply when_nF; (exact rfl); (exact rfl); all_goals intro hc) | (apply br_dE; (exact rfl); all_goals intro hc) | (apply br_nE; (exact rfl); all_goals intro hc) | (refine mm_min ?_) | (refine mm_max ?_) | (refine rem_i ?_ ?_; omega) | (refine SelN.mk ?_) | (refine cut_n ?_) | (refine Both.mk ?_ ?_) | (exact True.intro))
    refine loop_i (σ := Nat) (fun x => [(25, .int .i64 x)]) (fun _ => own) (fun x => x ≤ p.length ∧ errP (p.drop x) = errP p) (fun x => p.length - x) 0 ⟨Nat.zero_le _, rfl⟩ (by repeat' (first | exact True.intro | refine And.intro ?_ ?_ | exact rfl | exact vi (by omega) | (dsimp only; exact rfl) | (dsimp only; exact vi (by omega)))) Ent.refl rfl ?_
    rintro k junk ⟨hk, hI⟩
    by_cases hlt : k < p.length
    · have hlt' : (k : Int) < p.length := by omega
      obtain ⟨i, hi⟩ : ∃ i, p[k]? = some i := ⟨_, List.getElem?_eq_getElem hlt⟩
      have hd : p.drop k = i :: p.drop (k + 1) := by
        rw [List.drop_eq_getElem_cons hlt]
        congr 1
        exact (List.getElem?_eq_some_iff.1 hi).2
      rw [hd, errP] at hI
      have hc := fun own => sp_icheck W0 own hF i
      by_cases h0 : icheck i = 0
      · rw [if_pos h0] at hI
        rw [h0] at hc
        obtain ⟨io, ia, ib, ic, im⟩ := i
        repeat' ((try (conv => whnf)); first | (refine when_ye ?_ ?_; exact rfl) | (refine when_ne ?_ ?_; exact rfl) | (refine br_te ?_ ?_; exact rfl) | (refine br_fe ?_ ?_; exact rfl) | (apply br_pyE; (exact rfl); omega) | (apply br_pnE; (exact rfl); omega) | (apply when_pyE; (exact rfl); omega) | (apply when_pnE; (exact rfl); omega) | (apply br_npyE; (exact rfl); omega) | (apply br_npnE; (exact rfl); omega) | (apply when_npyE; (exact rfl); omega) | (apply when_npnE; (exact rfl); omega) | ((with_reducible show Ld _ _ _ _); first | (refine ldE0 hR hi rfl ?_) | (refine ldEk hR hi rfl ?_) | (refine ldE1 hR hi rfl ?_)) | ((with_reducible show IxS _ _ _ _ _); first | ((refine ixE hR hi ?_ ?_; (first | rfl | omega)))) | ((with_reducible show LdN _ _ _ _ _); first | (refine ldNEi hR hi rfl ?_)) | ((with_reducible show CallT _ _ _ _ _ _); first | ((refine call_pe (hc _) ?_ ?_ ?_; (exact rfl); exact rfl))) | (refine ari ?_ ?_; omega) | (refine aru ?_ ?_; omega) | (apply sel; exact rfl) | (refine ix0 rfl ?_) | (refine ix1 rfl ?_) | (refine ix2 rfl ?_) | (refine ix3 rfl ?_) | (apply ixj; omega) | (refine ixn ?_ ?_; omega) | (refine ixs0 rfl ?_) | (refine ixs1 rfl ?_) | (refine ixs_j ?_ ?_; omega) | (refine ixs_n ?_ ?_; omega) | (apply ld_o; exact rfl) | (apply ldN_a; exact rfl) | (apply ldN_o; (exact rfl); exact rfl) | (apply st_o; (exact rfl); exact rfl) | (apply stN_o; (exact rfl); (exact rfl); exact rfl) | (refine new_i (fun bk hbk => ?_)) | (apply when_dE; (exact rfl); (exact rfl); all_goals intro hc) | (apply when_dF; (exact rfl); (exact rfl); all_goals intro hc) | (apply when_nE; (exact rfl); (exact rfl); all_goals intro hc) | (apply when_nF; (exact rfl); (exact rfl); all_goals intro hc) | (apply br_dE; (exact rfl); all_goals intro hc) | (apply br_nE; (exact rfl); all_goals intro hc) | (refine mm_min ?_) | (refine mm_max ?_) | (refine rem_i ?_ ?_; omega) | (refine SelN.mk ?_) | (refine cut_n ?_) | (refine Both.mk ?_ ?_) | (exact True.intro))
        exact ⟨k + 1, ⟨by omega, hI⟩, by omega, (by repeat' (first | exact True.intro | refine And.intro ?_ ?_ | exact rfl | exact vi (by omega) | (dsimp only; exact rfl) | (dsimp only; exact vi (by omega)))), (by first | exact ent_i | (repeat (first | exact Ent.refl | exact Ent.left | refine Ent.cons ?_ | refine Ent.app ?_)))⟩
      · rw [if_neg h0] at hI
        have hne : ¬ errP p = 0 := by rw [← hI]; exact h0
        rw [if_neg hne, ← hI]
        generalize icheck i = e at *
        obtain ⟨io, ia, ib, ic, im⟩ := i
        repeat' ((try (conv => whnf)); first | (refine when_ye ?_ ?_; exact rfl) | (refine when_ne ?_ ?_; exact rfl) | (refine br_te ?_ ?_; exact rfl) | (refine br_fe ?_ ?_; exact rfl) | (apply br_pyE; (exact rfl); omega) | (apply br_pnE; (exact rfl); omega) | (apply when_pyE; (exact rfl); omega) | (apply when_pnE; (exact rfl); omega) | (apply br_npyE; (exact rfl); omega) | (apply br_npnE; (exact rfl); omega) | (apply when_npyE; (exact rfl); omega) | (apply when_npnE; (exact rfl); omega) | ((with_reducible show Ld _ _ _ _); first | (refine ldE0 hR hi rfl ?_) | (refine ldEk hR hi rfl ?_) | (refine ldE1 hR hi rfl ?_)) | ((with_reducible show IxS _ _ _ _ _); first | ((refine ixE hR hi ?_ ?_; (first | rfl | omega)))) | ((with_reducible show LdN _ _ _ _ _); first | (refine ldNEi hR hi rfl ?_)) | ((with_reducible show CallT _ _ _ _ _ _); first | ((refine call_pe (hc _) ?_ ?_ ?_; (exact rfl); exact rfl))) | (refine ari ?_ ?_; omega) | (refine aru ?_ ?_; omega) | (apply sel; exact rfl) | (refine ix0 rfl ?_) | (refine ix1 rfl ?_) | (refine ix2 rfl ?_) | (refine ix3 rfl ?_) | (apply ixj; omega) | (refine ixn ?_ ?_; omega) | (refine ixs0 rfl ?_) | (refine ixs1 rfl ?_) | (refine ixs_j ?_ ?_; omega) | (refine ixs_n ?_ ?_; omega) | (apply ld_o; exact rfl) | (apply ldN_a; exact rfl) | (apply ldN_o; (exact rfl); exact rfl) | (apply st_o; (exact rfl); exact rfl) | (apply stN_o; (exact rfl); (exact rfl); exact rfl) | (refine new_i (fun bk hbk => ?_)) | (apply when_dE; (exact rfl); (exact rfl); all_goals intro hc) | (apply when_dF; (exact rfl); (exact rfl); all_goals intro hc) | (apply when_nE; (exact rfl); (exact rfl); all_goals intro hc) | (apply when_nF; (exact rfl); (exact rfl); all_goals intro hc) | (apply br_dE; (exact rfl); all_goals intro hc) | (apply br_nE; (exact rfl); all_goals intro hc) | (refine mm_min ?_) | (refine mm_max ?_) | (refine rem_i ?_ ?_; omega) | (refine SelN.mk ?_) | (refine cut_n ?_) | (refine Both.mk ?_ ?_) | (exact True.intro))
        exact ⟨rfl, (by first | exact ent_i | (repeat (first | exact Ent.refl | exact Ent.left | refine Ent.cons ?_ | refine Ent.app ?_)))⟩
    · have hlt' : ¬ (k : Int) < p.length := by omega
      have hd : p.drop k = [] := List.drop_eq_nil_of_le (by omega)
      rw [hd, errP] at hI
      rw [if_pos hI.symm]
      have hall := errP_all hI.symm
      have htl := tgtT_len p
      have hta := tgtT_asc p
      have htr := tgtT_rng p
      have htg := fun (own' : Own) (h : RdE Ins.enc 5 W0 own' a p) => sp_targets (cap := cap) hF h (by omega)
      generalize tgtT p = T at *
      repeat' ((try (conv => whnf)); first | (refine when_ye ?_ ?_; exact rfl) | (refine when_ne ?_ ?_; exact rfl) | (refine br_te ?_ ?_; exact rfl) | (refine br_fe ?_ ?_; exact rfl) | (apply br_pyE; (exact rfl); omega) | (apply br_pnE; (exact rfl); omega) | (apply when_pyE; (exact rfl); omega) | (apply when_pnE; (exact rfl); omega) | (apply br_npyE; (exact rfl); omega) | (apply br_npnE; (exact rfl); omega) | (apply when_npyE; (exact rfl); omega) | (apply when_npnE; (exact rfl); omega) | (apply newM_i; intro mb hmb) | ((with_reducible show CallT _ _ _ _ _ _); first | ((refine call_x (σ := { y : Option Addr × Nat × Own // BufE encI 3 1 y.1 y.2.1 T y.2.2 }) (R := fun y v => v = .slice y.1.1 T.length y.1.2.1) (O := fun y => y.1.2.2 ++ ((mb, mapO []) :: own)) (fun w hw => (htg _ (hR.ent ent_i) w hw).mono fun _ _ ⟨v, o, he, hs, a, cap, D, hv, hB, hE⟩ => ⟨v, o, he, hs, ⟨(a, cap, D), hB⟩, hv, hE⟩) ?_ ?_ (fun y v hv => ?_); (exact rfl); (exact rfl); (obtain ⟨⟨ta, tc, TD⟩, hTB⟩ := y; dsimp only at hv hTB ⊢; subst hv; have hRT := hTB.rd (W0 := W0))))) | (refine ari ?_ ?_; omega) | (refine aru ?_ ?_; omega) | (apply sel; exact rfl) | (refine ix0 rfl ?_) | (refine ix1 rfl ?_) | (refine ix2 rfl ?_) | (refine ix3 rfl ?_) | (apply ixj; omega) | (refine ixn ?_ ?_; omega) | (refine ixs0 rfl ?_) | (refine ixs1 rfl ?_) | (refine ixs_j ?_ ?_; omega) | (refine ixs_n ?_ ?_; omega) | (apply ld_o; exact rfl) | (apply ldN_a; exact rfl) | (apply ldN_o; (exact rfl); exact rfl) | (apply st_o; (exact rfl); exact rfl) | (apply stN_o; (exact rfl); (exact rfl); exact rfl) | (refine new_i (fun bk hbk => ?_)) | (apply when_dE; (exact rfl); (exact rfl); all_goals intro hc) | (apply when_dF; (exact rfl); (exact rfl); all_goals intro hc) | (apply when_nE; (exact rfl); (exact rfl); all_goals intro hc) | (apply when_nF; (exact rfl); (exact rfl); all_goals intro hc) | (apply br_dE; (exact rfl); all_goals intro hc) | (apply br_nE; (exact rfl); all_goals intro hc) | (refine mm_min ?_) | (refine mm_max ?_) | (refine rem_i ?_ ?_; omega) | (refine SelN.mk ?_) | (refine cut_n ?_) | (refine Both.mk ?_ ?_) | (exact True.intro))
      refine loop_i (σ := Nat) (fun x => [(39, .int .i64 x)]) (fun x => (mb, mapO (mpV (T.take x) 0)) :: (TD ++ own)) (fun x => x ≤ T.length) (fun x => T.length - x) 0 (Nat.zero_le _) (by repeat' (first | exact True.intro | refine And.intro ?_ ?_ | exact rfl | exact vi (by omega) | (dsimp only; exact rfl) | (dsimp only; exact vi (by omega)))) (Ent.of_perm List.perm_middle) rfl ?_
      intro q junk hq
      by_cases hq1 : q < T.length
      · have hq1' : (q : Int) < T.length := by omega
        obtain ⟨x, hx⟩ : ∃ x, T[q]? = some x := ⟨_, List.getElem?_eq_getElem hq1⟩
        have hnot : x ∉ T.take q := fun hm => by
          obtain ⟨j, hj, he⟩ := List.mem_iff_getElem.1 hm
          rw [List.length_take] at hj
          rw [List.getElem_take] at he
          obtain ⟨hq2, hqe⟩ := List.getElem?_eq_some_iff.1 hx
          have := List.pairwise_iff_getElem.1 hta j q (by omega) hq2 (by omega)
          omega
        have hin := idx_none x (T.take q) 0 hnot
        have hfm := find_mp x (T.take q) 0
        rw [hin] at hfm
        have hfs : (findM 0 (.int .i64 x) (mpV (T.take q) 0)).isSome = true := by rw [hfm]; rfl
        have hup := upd_mp x (.string (bW (lnmL q))) (T.take q) 0 hin
        have htk : T.take (q + 1) = T.take q ++ [x] := by rw [List.take_add_one, hx]; rfl
        have hmp : mpV (T.take (q + 1)) 0 = mpV (T.take q) 0 ++ [(.int .i64 x, .string (bW (lnmL q)))] := by
          rw [htk, mpV_app, List.length_take, Nat.zero_add, Nat.min_eq_left (by omega)]
        rw [← hmp] at hup
        have hit : ∀ own, Pure Tryz.prog W0 36 [.int .i64 ((q : Int) + 1)] own (.string (bW (Go.Lib.itoa ((q : Int) + 1)))) := fun own => sp_itoa (own := own) hA.isa.lib (by omega) (by omega)
        have his : (bW (Go.Lib.itoa ((q : Int) + 1))).size ≤ 21 := by rw [bW_size]; exact Go.Lib.itoa_length_le _ (by omega) (by omega)
        have hs1 : (⟨#[108]⟩ : ByteArray).size = 1 := rfl
        have hcat : (⟨#[108]⟩ : ByteArray) ++ bW (Go.Lib.itoa ((q : Int) + 1)) = bW (lnmL q) := ba_ext (by simp [bW, lnmL, ByteArray.data_append])
        repeat' ((try (conv => whnf)); first | (refine when_ye ?_ ?_; exact rfl) | (refine when_ne ?_ ?_; exact rfl) | (refine br_te ?_ ?_; exact rfl) | (refine br_fe ?_ ?_; exact rfl) | (apply br_pyE; (exact rfl); omega) | (apply br_pnE; (exact rfl); omega) | (apply when_pyE; (exact rfl); omega) | (apply when_pnE; (exact rfl); omega) | (apply br_npyE; (exact rfl); omega) | (apply br_npnE; (exact rfl); omega) | (apply when_npyE; (exact rfl); omega) | (apply when_npnE; (exact rfl); omega) | (refine sct_n (bW (lnmL q)) hcat ?_ ?_; (omega)) | (refine mup_i hfs hup ?_) | ((with_reducible show Ld _ _ _ _); first | (refine ldE0 hRT hx rfl ?_) | (refine ldEk hRT hx rfl ?_) | (refine ldE1 hRT hx rfl ?_)) | ((with_reducible show IxS _ _ _ _ _); first | ((refine ixE hRT hx ?_ ?_; (first | rfl | omega)))) | ((with_reducible show LdN _ _ _ _ _); first | (refine ldNEi hRT hx rfl ?_)) | ((with_reducible show CallT _ _ _ _ _ _); first | ((refine call_pe (hit _) ?_ ?_ ?_; (exact rfl); exact rfl))) | (refine ari ?_ ?_; omega) | (refine aru ?_ ?_; omega) | (apply sel; exact rfl) | (refine ix0 rfl ?_) | (refine ix1 rfl ?_) | (refine ix2 rfl ?_) | (refine ix3 rfl ?_) | (apply ixj; omega) | (refine ixn ?_ ?_; omega) | (refine ixs0 rfl ?_) | (refine ixs1 rfl ?_) | (refine ixs_j ?_ ?_; omega) | (refine ixs_n ?_ ?_; omega) | (apply ld_o; exact rfl) | (apply ldN_a; exact rfl) | (apply ldN_o; (exact rfl); exact rfl) | (apply st_o; (exact rfl); exact rfl) | (apply stN_o; (exact rfl); (exact rfl); exact rfl) | (refine new_i (fun bk hbk => ?_)) | (apply when_dE; (exact rfl); (exact rfl); all_goals intro hc) | (apply when_dF; (exact rfl); (exact rfl); all_goals intro hc) | (apply when_nE; (exact rfl); (exact rfl); all_goals intro hc) | (apply when_nF; (exact rfl); (exact rfl); all_goals intro hc) | (apply br_dE; (exact rfl); all_goals intro hc) | (apply br_nE; (exact rfl); all_goals intro hc) | (refine mm_min ?_) | (refine mm_max ?_) | (refine rem_i ?_ ?_; omega) | (refine SelN.mk ?_) | (refine cut_n ?_) | (refine Both.mk ?_ ?_) | (exact True.intro))
        exact ⟨q + 1, by omega, by omega, (by repeat' (first | exact True.intro | refine And.intro ?_ ?_ | exact rfl | exact vi (by omega) | (dsimp only; exact rfl) | (dsimp only; exact vi (by omega)))), (by first | exact ent_i | (repeat (first | exact Ent.refl | exact Ent.left | refine Ent.cons ?_ | refine Ent.app ?_)))⟩
      · have hq1' : ¬ (q : Int) < T.length := by omega
        have htk : T.take q = T := List.take_of_length_le (by omega)
        rw [htk]
        repeat' ((try (conv => whnf)); first | (refine when_ye ?_ ?_; exact rfl) | (refine when_ne ?_ ?_; exact rfl) | (refine br_te ?_ ?_; exact rfl) | (refine br_fe ?_ ?_; exact rfl) | (apply br_pyE; (exact rfl); omega) | (apply br_pnE; (exact rfl); omega) | (apply when_pyE; (exact rfl); omega) | (apply when_pnE; (exact rfl); omega) | (apply br_npyE; (exact rfl); omega) | (apply br_npnE; (exact rfl); omega) | (apply when_npyE; (exact rfl); omega) | (apply when_npnE; (exact rfl); omega) | (refine new_lt (fun bb hbb hblt => ?_)) | (refine ari ?_ ?_; omega) | (refine aru ?_ ?_; omega) | (apply sel; exact rfl) | (refine ix0 rfl ?_) | (refine ix1 rfl ?_) | (refine ix2 rfl ?_) | (refine ix3 rfl ?_) | (apply ixj; omega) | (refine ixn ?_ ?_; omega) | (refine ixs0 rfl ?_) | (refine ixs1 rfl ?_) | (refine ixs_j ?_ ?_; omega) | (refine ixs_n ?_ ?_; omega) | (apply ld_o; exact rfl) | (apply ldN_a; exact rfl) | (apply ldN_o; (exact rfl); exact rfl) | (apply st_o; (exact rfl); exact rfl) | (apply stN_o; (exact rfl); (exact rfl); exact rfl) | (refine new_i (fun bk hbk => ?_)) | (apply when_dE; (exact rfl); (exact rfl); all_goals intro hc) | (apply when_dF; (exact rfl); (exact rfl); all_goals intro hc) | (apply when_nE; (exact rfl); (exact rfl); all_goals intro hc) | (apply when_nF; (exact rfl); (exact rfl); all_goals intro hc) | (apply br_dE; (exact rfl); all_goals intro hc) | (apply br_nE; (exact rfl); all_goals intro hc) | (refine mm_min ?_) | (refine mm_max ?_) | (refine rem_i ?_ ?_; omega) | (refine SelN.mk ?_) | (refine cut_n ?_) | (refine Both.mk ?_ ?_) | (exact True.intro))
        refine loop_i (σ := Nat × List UInt8 × Own) (fun x => [(11, .int .i64 x.1)]) (fun x => x.2.2 ++ ((mb, mapO (mpV T 0)) :: (TD ++ own))) (fun x => x.1 ≤ p.length ∧ x.2.1.length ≤ 200 * x.1 ∧ BuD bb x.2.1 x.2.2 ∧ x.2.1 ++ disR T (p.drop x.1) x.1 = disR T p 0) (fun x => p.length - x.1) (0, [], [(bb, fun o => o = Obj.cells #[.pointer none, .slice none 0 0] 84)]) ⟨Nat.zero_le _, by simp, ⟨.inl ⟨rfl, rfl⟩⟩, rfl⟩ (by repeat' (first | exact True.intro | refine And.intro ?_ ?_ | exact rfl | exact vi (by omega) | (dsimp only; exact rfl) | (dsimp only; exact vi (by omega)))) Ent.refl rfl ?_
        rintro ⟨m, l, D⟩ junk ⟨hm, hll, hD, hJ⟩
        dsimp only at hm hll hD hJ ⊢
        have hfm := find_mp m T 0
        have hi64 := fun q h => idx_lt (m : Int) T 0 q h
        by_cases hmn : m = p.length
        · have hmn' : (m : Int) = p.length := by omega
          have hdn : p.drop m = [] := List.drop_eq_nil_of_le (by omega)
          rw [hdn, disR] at hJ
          cases hix : idxI (m : Int) T 0 with
          | none =>
            rw [hix] at hfm
            unfold labT at hJ
            rw [hix, List.append_nil] at hJ
            rw [← hJ]
            repeat' ((try (conv => whnf)); first | (refine when_ye ?_ ?_; exact rfl) | (refine when_ne ?_ ?_; exact rfl) | (refine br_te ?_ ?_; exact rfl) | (refine br_fe ?_ ?_; exact rfl) | (apply br_pyE; (exact rfl); omega) | (apply br_pnE; (exact rfl); omega) | (apply when_pyE; (exact rfl); omega) | (apply when_pnE; (exact rfl); omega) | (apply br_npyE; (exact rfl); omega) | (apply br_npnE; (exact rfl); omega) | (apply when_npyE; (exact rfl); omega) | (apply when_npnE; (exact rfl); omega) | (refine mlk_i hfm ?_) | ((with_reducible show CallT _ _ _ _ _ _); first | ((refine call_bs hD hblt Ent.refl ?_ ?_ ?_; (exact rfl); (exact rfl)))) | (refine ari ?_ ?_; omega) | (refine aru ?_ ?_; omega) | (apply sel; exact rfl) | (refine ix0 rfl ?_) | (refine ix1 rfl ?_) | (refine ix2 rfl ?_) | (refine ix3 rfl ?_) | (apply ixj; omega) | (refine ixn ?_ ?_; omega) | (refine ixs0 rfl ?_) | (refine ixs1 rfl ?_) | (refine ixs_j ?_ ?_; omega) | (refine ixs_n ?_ ?_; omega) | (apply ld_o; exact rfl) | (apply ldN_a; exact rfl) | (apply ldN_o; (exact rfl); exact rfl) | (apply st_o; (exact rfl); exact rfl) | (apply stN_o; (exact rfl); (exact rfl); exact rfl) | (refine new_i (fun bk hbk => ?_)) | (apply when_dE; (exact rfl); (exact rfl); all_goals intro hc) | (apply when_dF; (exact rfl); (exact rfl); all_goals intro hc) | (apply when_nE; (exact rfl); (exact rfl); all_goals intro hc) | (apply when_nF; (exact rfl); (exact rfl); all_goals intro hc) | (apply br_dE; (exact rfl); all_goals intro hc) | (apply br_nE; (exact rfl); all_goals intro hc) | (refine mm_min ?_) | (refine mm_max ?_) | (refine rem_i ?_ ?_; omega) | (refine SelN.mk ?_) | (refine cut_n ?_) | (refine Both.mk ?_ ?_) | (exact True.intro))
            exact ⟨rfl, (by first | exact ent_i | (repeat (first | exact Ent.refl | exact Ent.left | refine Ent.cons ?_ | refine Ent.app ?_)))⟩
          | some j =>
            rw [hix] at hfm
            have hj := hi64 j hix
            have hln := lnm_len (j := j) (by omega)
            unfold labT at hJ
            rw [hix] at hJ
            rw [← hJ]
            have hs1 : (⟨#[58, 10]⟩ : ByteArray).size = 2 := rfl
            have hbs := bW_size (lnmL j)
            have hcat : bW (lnmL j) ++ (⟨#[58, 10]⟩ : ByteArray) = bW (lnmL j ++ [58, 10]) := ba_ext (by simp [bW, ByteArray.data_append])
            have hcs : (bW (lnmL j ++ [58, 10])).size = (lnmL j).length + 2 := by rw [bW_size]; simp
            repeat' ((try (conv => whnf)); first | (refine when_ye ?_ ?_; exact rfl) | (refine when_ne ?_ ?_; exact rfl) | (refine br_te ?_ ?_; exact rfl) | (refine br_fe ?_ ?_; exact rfl) | (apply br_pyE; (exact rfl); omega) | (apply br_pnE; (exact rfl); omega) | (apply when_pyE; (exact rfl); omega) | (apply when_pnE; (exact rfl); omega) | (apply br_npyE; (exact rfl); omega) | (apply br_npnE; (exact rfl); omega) | (apply when_npyE; (exact rfl); omega) | (apply when_npnE; (exact rfl); omega) | (refine mlk_i hfm ?_) | (refine sct_n _ hcat ?_ ?_; (omega)) | ((with_reducible show CallT _ _ _ _ _ _); first | ((refine call_ws (s := bW (lnmL j ++ [58, 10])) hD hblt ?_ ?_ ?_ ?_ ?_ (fun D2 hD2 => ?_); (first | exact Ent.refl | exact ent_i); (omega); (omega); (exact rfl); (exact rfl); (rw [bW_data] at hD2))) | ((refine call_bs hD2 hblt Ent.refl ?_ ?_ ?_; (exact rfl); (exact rfl)))) | (refine ari ?_ ?_; omega) | (refine aru ?_ ?_; omega) | (apply sel; exact rfl) | (refine ix0 rfl ?_) | (refine ix1 rfl ?_) | (refine ix2 rfl ?_) | (refine ix3 rfl ?_) | (apply ixj; omega) | (refine ixn ?_ ?_; omega) | (refine ixs0 rfl ?_) | (refine ixs1 rfl ?_) | (refine ixs_j ?_ ?_; omega) | (refine ixs_n ?_ ?_; omega) | (apply ld_o; exact rfl) | (apply ldN_a; exact rfl) | (apply ldN_o; (exact rfl); exact rfl) | (apply st_o; (exact rfl); exact rfl) | (apply stN_o; (exact rfl); (exact rfl); exact rfl) | (refine new_i (fun bk hbk => ?_)) | (apply when_dE; (exact rfl); (exact rfl); all_goals intro hc) | (apply when_dF; (exact rfl); (exact rfl); all_goals intro hc) | (apply when_nE; (exact rfl); (exact rfl); all_goals intro hc) | (apply when_nF; (exact rfl); (exact rfl); all_goals intro hc) | (apply br_dE; (exact rfl); all_goals intro hc) | (apply br_nE; (exact rfl); all_goals intro hc) | (refine mm_min ?_) | (refine mm_max ?_) | (refine rem_i ?_ ?_; omega) | (refine SelN.mk ?_) | (refine cut_n ?_) | (refine Both.mk ?_ ?_) | (exact True.intro))
            exact ⟨rfl, (by first | exact ent_i | (repeat (first | exact Ent.refl | exact Ent.left | refine Ent.cons ?_ | refine Ent.app ?_)))⟩
        · have hmn' : ¬ (m : Int) = p.length := by omega
          have hmle : (m : Int) ≤ p.length := by omega
          obtain ⟨i, hi⟩ : ∃ i, p[m]? = some i := ⟨_, List.getElem?_eq_getElem (by omega)⟩
          have hdn : p.drop m = i :: p.drop (m + 1) := by
            rw [List.drop_eq_getElem_cons (by omega)]
            congr 1
            exact (List.getElem?_eq_some_iff.1 hi).2
          rw [hdn, disR] at hJ
          have hv := hall i (List.mem_of_getElem? hi)
          obtain ⟨im1, im2⟩ := him i (List.mem_of_getElem? hi)
          have hfo := fun own => sp_Format (own := own) hA.isa i im1 im2
          have hfz := fmt_size hv im1 im2
          unfold fmtM at hfo
          rw [if_pos hv] at hfo
          dsimp only at hfo
          have hsk := fun own => sp_iskips W0 own hF i
          have hsr := iskip_le i
          have hfs10 : (⟨#[10]⟩ : ByteArray).size = 1 := rfl
          have hft := find_mp ((m : Int) + 1 + iskip i) T 0
          have hiq := fun q h => idx_lt ((m : Int) + 1 + iskip i) T 0 q h
          have hlib := fun own => sp_lib (W0 := W0) (own := own) (fmtB i) 32 (by omega)
          have hzr := lib_rng (fmtB i) 32
          have hup : (fmtB i).extract 0 (Go.Lib.lastIndexByte (fmtB i) 32 + 1).toNat = bW (uptoL (fmtB i)) := ba_ext (by rw [ba_extract, bW_data, List.drop_zero, Nat.sub_zero]; rfl)
          have hul : (uptoL (fmtB i)).length ≤ 88 := by
            have h1 := List.length_take_le (Go.Lib.lastIndexByte (fmtB i) 32 + 1).toNat (fmtB i).data.toList
            have h2 : (fmtB i).data.toList.length = (fmtB i).size := by simp
            unfold uptoL
            rw [List.length_take]
            omega
          have hfd : (fmtB i).data.toList.length = (fmtB i).size := by simp
          have hux := bW_size (uptoL (fmtB i))
          generalize Go.Lib.lastIndexByte (fmtB i) 32 = z at *
          cases hq2 : iskips i with
          | false =>
            rw [hq2] at hsk
            have hin : insX T i m = (fmtB i).data.toList := by unfold insX; rw [hq2, if_neg (by simp)]
            rw [hin] at hJ
            have hcn : fmtB i ++ (⟨#[10]⟩ : ByteArray) = bW ((fmtB i).data.toList ++ [10]) := ba_ext (by simp [bW, ByteArray.data_append])
            have hcz : (bW ((fmtB i).data.toList ++ [10])).size = (fmtB i).size + 1 := by rw [bW_size]; simp
            generalize iskip i = sk at *
            obtain ⟨io, ia, ib, ic, im⟩ := i
            cases hix : idxI (m : Int) T 0 with
            | none =>
              rw [hix] at hfm
              unfold labT at hJ
              rw [hix] at hJ
              simp only [List.nil_append] at hJ
              repeat' ((try (conv => whnf)); first | (refine when_ye ?_ ?_; exact rfl) | (refine when_ne ?_ ?_; exact rfl) | (refine br_te ?_ ?_; exact rfl) | (refine br_fe ?_ ?_; exact rfl) | (apply br_pyE; (exact rfl); omega) | (apply br_pnE; (exact rfl); omega) | (apply when_pyE; (exact rfl); omega) | (apply when_pnE; (exact rfl); omega) | (apply br_npyE; (exact rfl); omega) | (apply br_npnE; (exact rfl); omega) | (apply when_npyE; (exact rfl); omega) | (apply when_npnE; (exact rfl); omega) | (refine mlk_i hfm ?_) | (refine sct_n _ hcn ?_ ?_; (omega)) | ((with_reducible show Ld _ _ _ _); first | (refine ldE0 hR hi rfl ?_) | (refine ldEk hR hi rfl ?_) | (refine ldE1 hR hi rfl ?_)) | ((with_reducible show IxS _ _ _ _ _); first | ((refine ixE hR hi ?_ ?_; (first | rfl | omega)))) | ((with_reducible show LdN _ _ _ _ _); first | (refine ldNEi hR hi rfl ?_)) | ((with_reducible show CallT _ _ _ _ _ _); first | ((refine call_pe (hfo _) ?_ ?_ ?_; (exact rfl); exact rfl)) | ((refine call_pe (hsk _) ?_ ?_ ?_; (exact rfl); exact rfl)) | ((refine call_ws (s := bW ((fmtB ⟨io, ia, ib, ic, im⟩).data.toList ++ [10])) hD hblt ?_ ?_ ?_ ?_ ?_ (fun D3 hD3 => ?_); (first | exact Ent.refl | exact ent_i); (omega); (first | omega | (simp only [List.length_append, List.length_cons, List.length_nil]; omega)); (exact rfl); (exact rfl); (rw [bW_data] at hD3)))) | (refine ari ?_ ?_; omega) | (refine aru ?_ ?_; omega) | (apply sel; exact rfl) | (refine ix0 rfl ?_) | (refine ix1 rfl ?_) | (refine ix2 rfl ?_) | (refine ix3 rfl ?_) | (apply ixj; omega) | (refine ixn ?_ ?_; omega) | (refine ixs0 rfl ?_) | (refine ixs1 rfl ?_) | (refine ixs_j ?_ ?_; omega) | (refine ixs_n ?_ ?_; omega) | (apply ld_o; exact rfl) | (apply ldN_a; exact rfl) | (apply ldN_o; (exact rfl); exact rfl) | (apply st_o; (exact rfl); exact rfl) | (apply stN_o; (exact rfl); (exact rfl); exact rfl) | (refine new_i (fun bk hbk => ?_)) | (apply when_dE; (exact rfl); (exact rfl); all_goals intro hc) | (apply when_dF; (exact rfl); (exact rfl); all_goals intro hc) | (apply when_nE; (exact rfl); (exact rfl); all_goals intro hc) | (apply when_nF; (exact rfl); (exact rfl); all_goals intro hc) | (apply br_dE; (exact rfl); all_goals intro hc) | (apply br_nE; (exact rfl); all_goals intro hc) | (refine mm_min ?_) | (refine mm_max ?_) | (refine rem_i ?_ ?_; omega) | (refine SelN.mk ?_) | (refine cut_n ?_) | (refine Both.mk ?_ ?_) | (exact True.intro))
              refine ⟨(m + 1, l ++ ((fmtB ⟨io, ia, ib, ic, im⟩).data.toList ++ [10]), D3), ⟨by dsimp only; omega, ?_, hD3, ?_⟩, by dsimp only; omega, (by repeat' (first | exact True.intro | refine And.intro ?_ ?_ | exact rfl | exact vi (by omega) | (dsimp only; exact rfl) | (dsimp only; exact vi (by omega)))), (by first | exact ent_i | (repeat (first | exact Ent.refl | exact Ent.left | refine Ent.cons ?_ | refine Ent.app ?_)))⟩
              · dsimp only
                simp only [List.length_append, List.length_cons, List.length_nil]
                omega
              · dsimp only
                rw [← hJ]
                simp only [List.append_assoc]
            | some j =>
              rw [hix] at hfm
              have hj := hi64 j hix
              have hln := lnm_len (j := j) (by omega)
              unfold labT at hJ
              rw [hix] at hJ
              simp only at hJ
              have hs1 : (⟨#[58, 10]⟩ : ByteArray).size = 2 := rfl
              have hbs := bW_size (lnmL j)
              have hcat : bW (lnmL j) ++ (⟨#[58, 10]⟩ : ByteArray) = bW (lnmL j ++ [58, 10]) := ba_ext (by simp [bW, ByteArray.data_append])
              have hcs : (bW (lnmL j ++ [58, 10])).size = (lnmL j).length + 2 := by rw [bW_size]; simp
              repeat' ((try (conv => whnf)); first | (refine when_ye ?_ ?_; exact rfl) | (refine when_ne ?_ ?_; exact rfl) | (refine br_te ?_ ?_; exact rfl) | (refine br_fe ?_ ?_; exact rfl) | (apply br_pyE; (exact rfl); omega) | (apply br_pnE; (exact rfl); omega) | (apply when_pyE; (exact rfl); omega) | (apply when_pnE; (exact rfl); omega) | (apply br_npyE; (exact rfl); omega) | (apply br_npnE; (exact rfl); omega) | (apply when_npyE; (exact rfl); omega) | (apply when_npnE; (exact rfl); omega) | (refine mlk_i hfm ?_) | (refine sct_n _ hcat ?_ ?_; (omega)) | (refine sct_n _ hcn ?_ ?_; (omega)) | ((with_reducible show Ld _ _ _ _); first | (refine ldE0 hR hi rfl ?_) | (refine ldEk hR hi rfl ?_) | (refine ldE1 hR hi rfl ?_)) | ((with_reducible show IxS _ _ _ _ _); first | ((refine ixE hR hi ?_ ?_; (first | rfl | omega)))) | ((with_reducible show LdN _ _ _ _ _); first | (refine ldNEi hR hi rfl ?_)) | ((with_reducible show CallT _ _ _ _ _ _); first | ((refine call_ws (s := bW (lnmL j ++ [58, 10])) hD hblt ?_ ?_ ?_ ?_ ?_ (fun D2 hDl => ?_); (first | exact Ent.refl | exact ent_i); (omega); (omega); (exact rfl); (exact rfl); (rw [bW_data] at hDl))) | ((refine call_pe (hfo _) ?_ ?_ ?_; (exact rfl); exact rfl)) | ((refine call_pe (hsk _) ?_ ?_ ?_; (exact rfl); exact rfl)) | ((refine call_ws (s := bW ((fmtB ⟨io, ia, ib, ic, im⟩).data.toList ++ [10])) hDl hblt ?_ ?_ ?_ ?_ ?_ (fun D3 hD3 => ?_); (first | exact Ent.refl | exact ent_i); (omega); (first | omega | (simp only [List.length_append, List.length_cons, List.length_nil]; omega)); (exact rfl); (exact rfl); (rw [bW_data] at hD3)))) | (refine ari ?_ ?_; omega) | (refine aru ?_ ?_; omega) | (apply sel; exact rfl) | (refine ix0 rfl ?_) | (refine ix1 rfl ?_) | (refine ix2 rfl ?_) | (refine ix3 rfl ?_) | (apply ixj; omega) | (refine ixn ?_ ?_; omega) | (refine ixs0 rfl ?_) | (refine ixs1 rfl ?_) | (refine ixs_j ?_ ?_; omega) | (refine ixs_n ?_ ?_; omega) | (apply ld_o; exact rfl) | (apply ldN_a; exact rfl) | (apply ldN_o; (exact rfl); exact rfl) | (apply st_o; (exact rfl); exact rfl) | (apply stN_o; (exact rfl); (exact rfl); exact rfl) | (refine new_i (fun bk hbk => ?_)) | (apply when_dE; (exact rfl); (exact rfl); all_goals intro hc) | (apply when_dF; (exact rfl); (exact rfl); all_goals intro hc) | (apply when_nE; (exact rfl); (exact rfl); all_goals intro hc) | (apply when_nF; (exact rfl); (exact rfl); all_goals intro hc) | (apply br_dE; (exact rfl); all_goals intro hc) | (apply br_nE; (exact rfl); all_goals intro hc) | (refine mm_min ?_) | (refine mm_max ?_) | (refine rem_i ?_ ?_; omega) | (refine SelN.mk ?_) | (refine cut_n ?_) | (refine Both.mk ?_ ?_) | (exact True.intro))
              refine ⟨(m + 1, (l ++ (lnmL j ++ [58, 10])) ++ ((fmtB ⟨io, ia, ib, ic, im⟩).data.toList ++ [10]), D3), ⟨by dsimp only; omega, ?_, hD3, ?_⟩, by dsimp only; omega, (by repeat' (first | exact True.intro | refine And.intro ?_ ?_ | exact rfl | exact vi (by omega) | (dsimp only; exact rfl) | (dsimp only; exact vi (by omega)))), (by first | exact ent_i | (repeat (first | exact Ent.refl | exact Ent.left | refine Ent.cons ?_ | refine Ent.app ?_)))⟩
              · dsimp only
                simp only [List.length_append, List.length_cons, List.length_nil]
                omega
              · dsimp only
                rw [← hJ]
                simp only [List.append_assoc]
          | true =>
            rw [hq2] at hsk
            cases hit : idxI ((m : Int) + 1 + iskip i) T 0 with
            | none =>
              rw [hit] at hft
              have hin : insX T i m = (fmtB i).data.toList := by unfold insX; rw [hq2, if_pos rfl, hit]
              rw [hin] at hJ
              have hcn : fmtB i ++ (⟨#[10]⟩ : ByteArray) = bW ((fmtB i).data.toList ++ [10]) := ba_ext (by simp [bW, ByteArray.data_append])
              have hcz : (bW ((fmtB i).data.toList ++ [10])).size = (fmtB i).size + 1 := by rw [bW_size]; simp
              generalize iskip i = sk at *
              obtain ⟨io, ia, ib, ic, im⟩ := i
              cases hix : idxI (m : Int) T 0 with
              | none =>
                rw [hix] at hfm
                unfold labT at hJ
                rw [hix] at hJ
                simp only [List.nil_append] at hJ
                repeat' ((try (conv => whnf)); first | (refine when_ye ?_ ?_; exact rfl) | (refine when_ne ?_ ?_; exact rfl) | (refine br_te ?_ ?_; exact rfl) | (refine br_fe ?_ ?_; exact rfl) | (apply br_pyE; (exact rfl); omega) | (apply br_pnE; (exact rfl); omega) | (apply when_pyE; (exact rfl); omega) | (apply when_pnE; (exact rfl); omega) | (apply br_npyE; (exact rfl); omega) | (apply br_npnE; (exact rfl); omega) | (apply when_npyE; (exact rfl); omega) | (apply when_npnE; (exact rfl); omega) | (refine mlk_i hfm ?_) | (refine mlk_i hft ?_) | (refine sct_n _ hcn ?_ ?_; (omega)) | ((with_reducible show Ld _ _ _ _); first | (refine ldE0 hR hi rfl ?_) | (refine ldEk hR hi rfl ?_) | (refine ldE1 hR hi rfl ?_)) | ((with_reducible show IxS _ _ _ _ _); first | ((refine ixE hR hi ?_ ?_; (first | rfl | omega)))) | ((with_reducible show LdN _ _ _ _ _); first | (refine ldNEi hR hi rfl ?_)) | ((with_reducible show CallT _ _ _ _ _ _); first | ((refine call_pe (hfo _) ?_ ?_ ?_; (exact rfl); exact rfl)) | ((refine call_pe (hsk _) ?_ ?_ ?_; (exact rfl); exact rfl)) | ((refine call_ws (s := bW ((fmtB ⟨io, ia, ib, ic, im⟩).data.toList ++ [10])) hD hblt ?_ ?_ ?_ ?_ ?_ (fun D3 hD3 => ?_); (first | exact Ent.refl | exact ent_i); (omega); (first | omega | (simp only [List.length_append, List.length_cons, List.length_nil]; omega)); (exact rfl); (exact rfl); (rw [bW_data] at hD3)))) | (refine ari ?_ ?_; omega) | (refine aru ?_ ?_; omega) | (apply sel; exact rfl) | (refine ix0 rfl ?_) | (refine ix1 rfl ?_) | (refine ix2 rfl ?_) | (refine ix3 rfl ?_) | (apply ixj; omega) | (refine ixn ?_ ?_; omega) | (refine ixs0 rfl ?_) | (refine ixs1 rfl ?_) | (refine ixs_j ?_ ?_; omega) | (refine ixs_n ?_ ?_; omega) | (apply ld_o; exact rfl) | (apply ldN_a; exact rfl) | (apply ldN_o; (exact rfl); exact rfl) | (apply st_o; (exact rfl); exact rfl) | (apply stN_o; (exact rfl); (exact rfl); exact rfl) | (refine new_i (fun bk hbk => ?_)) | (apply when_dE; (exact rfl); (exact rfl); all_goals intro hc) | (apply when_dF; (exact rfl); (exact rfl); all_goals intro hc) | (apply when_nE; (exact rfl); (exact rfl); all_goals intro hc) | (apply when_nF; (exact rfl); (exact rfl); all_goals intro hc) | (apply br_dE; (exact rfl); all_goals intro hc) | (apply br_nE; (exact rfl); all_goals intro hc) | (refine mm_min ?_) | (refine mm_max ?_) | (refine rem_i ?_ ?_; omega) | (refine SelN.mk ?_) | (refine cut_n ?_) | (refine Both.mk ?_ ?_) | (exact True.intro))
                refine ⟨(m + 1, l ++ ((fmtB ⟨io, ia, ib, ic, im⟩).data.toList ++ [10]), D3), ⟨by dsimp only; omega, ?_, hD3, ?_⟩, by dsimp only; omega, (by repeat' (first | exact True.intro | refine And.intro ?_ ?_ | exact rfl | exact vi (by omega) | (dsimp only; exact rfl) | (dsimp only; exact vi (by omega)))), (by first | exact ent_i | (repeat (first | exact Ent.refl | exact Ent.left | refine Ent.cons ?_ | refine Ent.app ?_)))⟩
                · dsimp only
                  simp only [List.length_append, List.length_cons, List.length_nil]
                  omega
                · dsimp only
                  rw [← hJ]
                  simp only [List.append_assoc]
              | some j =>
                rw [hix] at hfm
                have hj := hi64 j hix
                have hln := lnm_len (j := j) (by omega)
                unfold labT at hJ
                rw [hix] at hJ
                simp only at hJ
                have hs1 : (⟨#[58, 10]⟩ : ByteArray).size = 2 := rfl
                have hbs := bW_size (lnmL j)
                have hcat : bW (lnmL j) ++ (⟨#[58, 10]⟩ : ByteArray) = bW (lnmL j ++ [58, 10]) := ba_ext (by simp [bW, ByteArray.data_append])
                have hcs : (bW (lnmL j ++ [58, 10])).size = (lnmL j).length + 2 := by rw [bW_size]; simp
                repeat' ((try (conv => whnf)); first | (refine when_ye ?_ ?_; exact rfl) | (refine when_ne ?_ ?_; exact rfl) | (refine br_te ?_ ?_; exact rfl) | (refine br_fe ?_ ?_; exact rfl) | (apply br_pyE; (exact rfl); omega) | (apply br_pnE; (exact rfl); omega) | (apply when_pyE; (exact rfl); omega) | (apply when_pnE; (exact rfl); omega) | (apply br_npyE; (exact rfl); omega) | (apply br_npnE; (exact rfl); omega) | (apply when_npyE; (exact rfl); omega) | (apply when_npnE; (exact rfl); omega) | (refine mlk_i hfm ?_) | (refine sct_n _ hcat ?_ ?_; (omega)) | (refine mlk_i hft ?_) | (refine sct_n _ hcn ?_ ?_; (omega)) | ((with_reducible show Ld _ _ _ _); first | (refine ldE0 hR hi rfl ?_) | (refine ldEk hR hi rfl ?_) | (refine ldE1 hR hi rfl ?_)) | ((with_reducible show IxS _ _ _ _ _); first | ((refine ixE hR hi ?_ ?_; (first | rfl | omega)))) | ((with_reducible show LdN _ _ _ _ _); first | (refine ldNEi hR hi rfl ?_)) | ((with_reducible show CallT _ _ _ _ _ _); first | ((refine call_ws (s := bW (lnmL j ++ [58, 10])) hD hblt ?_ ?_ ?_ ?_ ?_ (fun D2 hDl => ?_); (first | exact Ent.refl | exact ent_i); (omega); (omega); (exact rfl); (exact rfl); (rw [bW_data] at hDl))) | ((refine call_pe (hfo _) ?_ ?_ ?_; (exact rfl); exact rfl)) | ((refine call_pe (hsk _) ?_ ?_ ?_; (exact rfl); exact rfl)) | ((refine call_ws (s := bW ((fmtB ⟨io, ia, ib, ic, im⟩).data.toList ++ [10])) hDl hblt ?_ ?_ ?_ ?_ ?_ (fun D3 hD3 => ?_); (first | exact Ent.refl | exact ent_i); (omega); (first | omega | (simp only [List.length_append, List.length_cons, List.length_nil]; omega)); (exact rfl); (exact rfl); (rw [bW_data] at hD3)))) | (refine ari ?_ ?_; omega) | (refine aru ?_ ?_; omega) | (apply sel; exact rfl) | (refine ix0 rfl ?_) | (refine ix1 rfl ?_) | (refine ix2 rfl ?_) | (refine ix3 rfl ?_) | (apply ixj; omega) | (refine ixn ?_ ?_; omega) | (refine ixs0 rfl ?_) | (refine ixs1 rfl ?_) | (refine ixs_j ?_ ?_; omega) | (refine ixs_n ?_ ?_; omega) | (apply ld_o; exact rfl) | (apply ldN_a; exact rfl) | (apply ldN_o; (exact rfl); exact rfl) | (apply st_o; (exact rfl); exact rfl) | (apply stN_o; (exact rfl); (exact rfl); exact rfl) | (refine new_i (fun bk hbk => ?_)) | (apply when_dE; (exact rfl); (exact rfl); all_goals intro hc) | (apply when_dF; (exact rfl); (exact rfl); all_goals intro hc) | (apply when_nE; (exact rfl); (exact rfl); all_goals intro hc) | (apply when_nF; (exact rfl); (exact rfl); all_goals intro hc) | (apply br_dE; (exact rfl); all_goals intro hc) | (apply br_nE; (exact rfl); all_goals intro hc) | (refine mm_min ?_) | (refine mm_max ?_) | (refine rem_i ?_ ?_; omega) | (refine SelN.mk ?_) | (refine cut_n ?_) | (refine Both.mk ?_ ?_) | (exact True.intro))
                refine ⟨(m + 1, (l ++ (lnmL j ++ [58, 10])) ++ ((fmtB ⟨io, ia, ib, ic, im⟩).data.toList ++ [10]), D3), ⟨by dsimp only; omega, ?_, hD3, ?_⟩, by dsimp only; omega, (by repeat' (first | exact True.intro | refine And.intro ?_ ?_ | exact rfl | exact vi (by omega) | (dsimp only; exact rfl) | (dsimp only; exact vi (by omega)))), (by first | exact ent_i | (repeat (first | exact Ent.refl | exact Ent.left | refine Ent.cons ?_ | refine Ent.app ?_)))⟩
                · dsimp only
                  simp only [List.length_append, List.length_cons, List.length_nil]
                  omega
                · dsimp only
                  rw [← hJ]
                  simp only [List.append_assoc]
            | some q =>
              rw [hit] at hft
              have hqq := hiq q hit
              have hlq := lnm_len (j := q) (by omega)
              have hin : insX T i m = uptoL (fmtB i) ++ lnmL q := by unfold insX; rw [hq2, if_pos rfl, hit]
              rw [hin] at hJ
              have hcq : (fmtB i).extract 0 (z + 1).toNat ++ bW (lnmL q) = bW (uptoL (fmtB i) ++ lnmL q) := by rw [hup]; exact ba_ext (by simp [bW, ByteArray.data_append])
              have hex : ((fmtB i).extract 0 (z + 1).toNat).size ≤ 88 := by rw [hup]; omega
              have hbq := bW_size (lnmL q)
              have hbz : (bW (uptoL (fmtB i) ++ lnmL q)).size = (uptoL (fmtB i)).length + (lnmL q).length := by rw [bW_size]; simp
              have hcn : bW (uptoL (fmtB i) ++ lnmL q) ++ (⟨#[10]⟩ : ByteArray) = bW (uptoL (fmtB i) ++ lnmL q ++ [10]) := ba_ext (by simp [bW, ByteArray.data_append])
              have hcz : (bW (uptoL (fmtB i) ++ lnmL q ++ [10])).size = (uptoL (fmtB i)).length + (lnmL q).length + 1 := by rw [bW_size]; simp only [List.length_append, List.length_singleton]
              generalize iskip i = sk at *
              obtain ⟨io, ia, ib, ic, im⟩ := i
              cases hix : idxI (m : Int) T 0 with
              | none =>
                rw [hix] at hfm
                unfold labT at hJ
                rw [hix] at hJ
                simp only [List.nil_append] at hJ
                repeat' ((try (conv => whnf)); first | (refine when_ye ?_ ?_; exact rfl) | (refine when_ne ?_ ?_; exact rfl) | (refine br_te ?_ ?_; exact rfl) | (refine br_fe ?_ ?_; exact rfl) | (apply br_pyE; (exact rfl); omega) | (apply br_pnE; (exact rfl); omega) | (apply when_pyE; (exact rfl); omega) | (apply when_pnE; (exact rfl); omega) | (apply br_npyE; (exact rfl); omega) | (apply br_npnE; (exact rfl); omega) | (apply when_npyE; (exact rfl); omega) | (apply when_npnE; (exact rfl); omega) | (refine mlk_i hfm ?_) | (refine mlk_i hft ?_) | (refine SscT.mk ⟨0, (z + 1).toNat, rfl, ?_, ?_, ?_, ?_⟩; (show z + 1 = _; omega); (omega); (omega)) | (refine sct_n _ hcq ?_ ?_; (omega)) | (refine sct_n _ hcn ?_ ?_; (omega)) | ((with_reducible show Ld _ _ _ _); first | (refine ldE0 hR hi rfl ?_) | (refine ldEk hR hi rfl ?_) | (refine ldE1 hR hi rfl ?_)) | ((with_reducible show IxS _ _ _ _ _); first | ((refine ixE hR hi ?_ ?_; (first | rfl | omega)))) | ((with_reducible show LdN _ _ _ _ _); first | (refine ldNEi hR hi rfl ?_)) | ((with_reducible show CallT _ _ _ _ _ _); first | ((refine call_pe (hlib _) ?_ ?_ ?_; (exact rfl); exact rfl)) | ((refine call_pe (hfo _) ?_ ?_ ?_; (exact rfl); exact rfl)) | ((refine call_pe (hsk _) ?_ ?_ ?_; (exact rfl); exact rfl)) | ((refine call_ws (s := bW ((uptoL (fmtB ⟨io, ia, ib, ic, im⟩) ++ lnmL q) ++ [10])) hD hblt ?_ ?_ ?_ ?_ ?_ (fun D3 hD3 => ?_); (first | exact Ent.refl | exact ent_i); (omega); (first | omega | (simp only [List.length_append, List.length_cons, List.length_nil]; omega)); (exact rfl); (exact rfl); (rw [bW_data] at hD3)))) | (refine ari ?_ ?_; omega) | (refine aru ?_ ?_; omega) | (apply sel; exact rfl) | (refine ix0 rfl ?_) | (refine ix1 rfl ?_) | (refine ix2 rfl ?_) | (refine ix3 rfl ?_) | (apply ixj; omega) | (refine ixn ?_ ?_; omega) | (refine ixs0 rfl ?_) | (refine ixs1 rfl ?_) | (refine ixs_j ?_ ?_; omega) | (refine ixs_n ?_ ?_; omega) | (apply ld_o; exact rfl) | (apply ldN_a; exact rfl) | (apply ldN_o; (exact rfl); exact rfl) | (apply st_o; (exact rfl); exact rfl) | (apply stN_o; (exact rfl); (exact rfl); exact rfl) | (refine new_i (fun bk hbk => ?_)) | (apply when_dE; (exact rfl); (exact rfl); all_goals intro hc) | (apply when_dF; (exact rfl); (exact rfl); all_goals intro hc) | (apply when_nE; (exact rfl); (exact rfl); all_goals intro hc) | (apply when_nF; (exact rfl); (exact rfl); all_goals intro hc) | (apply br_dE; (exact rfl); all_goals intro hc) | (apply br_nE; (exact rfl); all_goals intro hc) | (refine mm_min ?_) | (refine mm_max ?_) | (refine rem_i ?_ ?_; omega) | (refine SelN.mk ?_) | (refine cut_n ?_) | (refine Both.mk ?_ ?_) | (exact True.intro))
                refine ⟨(m + 1, l ++ ((uptoL (fmtB ⟨io, ia, ib, ic, im⟩) ++ lnmL q) ++ [10]), D3), ⟨by dsimp only; omega, ?_, hD3, ?_⟩, by dsimp only; omega, (by repeat' (first | exact True.intro | refine And.intro ?_ ?_ | exact rfl | exact vi (by omega) | (dsimp only; exact rfl) | (dsimp only; exact vi (by omega)))), (by first | exact ent_i | (repeat (first | exact Ent.refl | exact Ent.left | refine Ent.cons ?_ | refine Ent.app ?_)))⟩
                · dsimp only
                  simp only [List.length_append, List.length_cons, List.length_nil]
                  omega
                · dsimp only
                  rw [← hJ]
                  simp only [List.append_assoc]
              | some j =>
                rw [hix] at hfm
                have hj := hi64 j hix
                have hln := lnm_len (j := j) (by omega)
                unfold labT at hJ
                rw [hix] at hJ
                simp only at hJ
                have hs1 : (⟨#[58, 10]⟩ : ByteArray).size = 2 := rfl
                have hbs := bW_size (lnmL j)
                have hcat : bW (lnmL j) ++ (⟨#[58, 10]⟩ : ByteArray) = bW (lnmL j ++ [58, 10]) := ba_ext (by simp [bW, ByteArray.data_append])
                have hcs : (bW (lnmL j ++ [58, 10])).size = (lnmL j).length + 2 := by rw [bW_size]; simp
                repeat' ((try (conv => whnf)); first | (refine when_ye ?_ ?_; exact rfl) | (refine when_ne ?_ ?_; exact rfl) | (refine br_te ?_ ?_; exact rfl) | (refine br_fe ?_ ?_; exact rfl) | (apply br_pyE; (exact rfl); omega) | (apply br_pnE; (exact rfl); omega) | (apply when_pyE; (exact rfl); omega) | (apply when_pnE; (exact rfl); omega) | (apply br_npyE; (exact rfl); omega) | (apply br_npnE; (exact rfl); omega) | (apply when_npyE; (exact rfl); omega) | (apply when_npnE; (exact rfl); omega) | (refine mlk_i hfm ?_) | (refine sct_n _ hcat ?_ ?_; (omega)) | (refine mlk_i hft ?_) | (refine SscT.mk ⟨0, (z + 1).toNat, rfl, ?_, ?_, ?_, ?_⟩; (show z + 1 = _; omega); (omega); (omega)) | (refine sct_n _ hcq ?_ ?_; (omega)) | (refine sct_n _ hcn ?_ ?_; (omega)) | ((with_reducible show Ld _ _ _ _); first | (refine ldE0 hR hi rfl ?_) | (refine ldEk hR hi rfl ?_) | (refine ldE1 hR hi rfl ?_)) | ((with_reducible show IxS _ _ _ _ _); first | ((refine ixE hR hi ?_ ?_; (first | rfl | omega)))) | ((with_reducible show LdN _ _ _ _ _); first | (refine ldNEi hR hi rfl ?_)) | ((with_reducible show CallT _ _ _ _ _ _); first | ((refine call_ws (s := bW (lnmL j ++ [58, 10])) hD hblt ?_ ?_ ?_ ?_ ?_ (fun D2 hDl => ?_); (first | exact Ent.refl | exact ent_i); (omega); (omega); (exact rfl); (exact rfl); (rw [bW_data] at hDl))) | ((refine call_pe (hlib _) ?_ ?_ ?_; (exact rfl); exact rfl)) | ((refine call_pe (hfo _) ?_ ?_ ?_; (exact rfl); exact rfl)) | ((refine call_pe (hsk _) ?_ ?_ ?_; (exact rfl); exact rfl)) | ((refine call_ws (s := bW ((uptoL (fmtB ⟨io, ia, ib, ic, im⟩) ++ lnmL q) ++ [10])) hDl hblt ?_ ?_ ?_ ?_ ?_ (fun D3 hD3 => ?_); (first | exact Ent.refl | exact ent_i); (omega); (first | omega | (simp only [List.length_append, List.length_cons, List.length_nil]; omega)); (exact rfl); (exact rfl); (rw [bW_data] at hD3)))) | (refine ari ?_ ?_; omega) | (refine aru ?_ ?_; omega) | (apply sel; exact rfl) | (refine ix0 rfl ?_) | (refine ix1 rfl ?_) | (refine ix2 rfl ?_) | (refine ix3 rfl ?_) | (apply ixj; omega) | (refine ixn ?_ ?_; omega) | (refine ixs0 rfl ?_) | (refine ixs1 rfl ?_) | (refine ixs_j ?_ ?_; omega) | (refine ixs_n ?_ ?_; omega) | (apply ld_o; exact rfl) | (apply ldN_a; exact rfl) | (apply ldN_o; (exact rfl); exact rfl) | (apply st_o; (exact rfl); exact rfl) | (apply stN_o; (exact rfl); (exact rfl); exact rfl) | (refine new_i (fun bk hbk => ?_)) | (apply when_dE; (exact rfl); (exact rfl); all_goals intro hc) | (apply when_dF; (exact rfl); (exact rfl); all_goals intro hc) | (apply when_nE; (exact rfl); (exact rfl); all_goals intro hc) | (apply when_nF; (exact rfl); (exact rfl); all_goals intro hc) | (apply br_dE; (exact rfl); all_goals intro hc) | (apply br_nE; (exact rfl); all_goals intro hc) | (refine mm_min ?_) | (refine mm_max ?_) | (refine rem_i ?_ ?_; omega) | (refine SelN.mk ?_) | (refine cut_n ?_) | (refine Both.mk ?_ ?_) | (exact True.intro))
                refine ⟨(m + 1, (l ++ (lnmL j ++ [58, 10])) ++ ((uptoL (fmtB ⟨io, ia, ib, ic, im⟩) ++ lnmL q) ++ [10]), D3), ⟨by dsimp only; omega, ?_, hD3, ?_⟩, by dsimp only; omega, (by repeat' (first | exact True.intro | refine And.intro ?_ ?_ | exact rfl | exact vi (by omega) | (dsimp only; exact rfl) | (dsimp only; exact vi (by omega)))), (by first | exact ent_i | (repeat (first | exact Ent.refl | exact Ent.left | refine Ent.cons ?_ | refine Ent.app ?_)))⟩
                · dsimp only
                  simp only [List.length_append, List.length_cons, List.length_nil]
                  omega
                · dsimp only
                  rw [← hJ]
                  simp only [List.append_assoc]
end
end Go.Proofs.YtiimndcifcoofaaGreatDoor
namespace Go.Proofs.YtiimndcifcoofaaGreatDoor
open Go Go.RowKit
set_option maxRecDepth 10000
set_option maxHeartbeats 4000000
theorem lit_rdI {W0 : World} {b : Nat} {l : List Ins} {cs : Array Value} {own r : Own} (hc : cs = (l.map Ins.enc).flatten.toArray) (e : own = (b, fun o => o = Obj.cells cs 23 (0, 0)) :: r) : RdE Ins.enc 5 W0 own (some ⟨b, 0, none⟩) l := by
  subst hc; subst e
  exact RdE.ent (can_rd (T := 23) (b := b) (fun _ _ => rfl)) (Ent.of_sub (List.Sublist.cons_cons _ (List.nil_sublist _)))
def insL (x : Ins) : List Int := [x.op, x.a, x.b, x.c, x.imm]
theorem insL_inj : ∀ {l m : List Ins}, l.map insL = m.map insL → l = m
  | [], [], _ => rfl
  | [], _ :: _, h => by simp at h
  | _ :: _, [], h => by simp at h
  | ⟨a, b, c, d, e⟩ :: l, ⟨a', b', c', d', e'⟩ :: m, h => by
    simp only [List.map_cons, List.cons.injEq, insL, and_true] at h
    obtain ⟨⟨rfl, rfl, rfl, rfl, rfl⟩, h⟩ := h
    rw [insL_inj h]
abbrev awkS : ByteArray := ⟨#[122, 101, 114, 111, 32, 114, 49, 32, 101, 110, 100, 10, 99, 111, 110, 115, 116, 32, 114, 50, 32, 53, 32, 35, 32, 102, 105, 118, 101, 10, 101, 110, 100, 58, 10]⟩
theorem awk_asm : asmM awkS = ([⟨5, 1, 0, 0, 1⟩, ⟨1, 2, 0, 0, 5⟩], 0, 0) := by
  have h : (asmM awkS).1.map insL = [[5, 1, 0, 0, 1], [1, 2, 0, 0, 5]] ∧ (asmM awkS).2 = (0, 0) := by decide +kernel
  exact Prod.ext (insL_inj (h.1.trans rfl)) h.2
theorem awk_dis : disM [⟨4, 0, 0, 0, 0⟩] = (⟨#[106, 117, 109, 112, 32, 108, 49, 10, 108, 49, 58, 10]⟩, 0) := by
  have h : tgtT [⟨4, 0, 0, 0, 0⟩] = [1] := by
    unfold tgtT
    rw [show rawT [(⟨4, 0, 0, 0, 0⟩ : Ins)].length [⟨4, 0, 0, 0, 0⟩] 0 = [1] by decide +kernel, cs_one]
  have h2 : errP [⟨4, 0, 0, 0, 0⟩] = 0 := by decide +kernel
  unfold disM
  rw [if_neg (by decide), if_pos h2, h]
  have h3 : disR [1] [⟨4, 0, 0, 0, 0⟩] 0 = [106, 117, 109, 112, 32, 108, 49, 10, 108, 49, 58, 10] := by decide +kernel
  rw [h3]
  rfl
section
variable {W0 : World} {own : Own}
theorem sp_kprog {a b : Option Addr} {c1 c2 : Nat} {L : List Ins} (h1 : RdE Ins.enc 5 W0 own a L) (h2 : RdE Ins.enc 5 W0 own b L) (hl : L.length ≤ 9223372036854775807) : Pure Tryz.prog W0 26 [.slice a L.length c1, .slice b L.length c2] own (.bool true) := by
  refine pure_of (spec_of mixed low_kit_Program (by simp [ir_kit_Program]) ?_)
  have hne : ¬ ((L.length : Nat) : Int) ≠ L.length := by omega
  repeat' ((try (conv => whnf)); first | (refine when_ye ?_ ?_; exact rfl) | (refine when_ne ?_ ?_; exact rfl) | (refine br_te ?_ ?_; exact rfl) | (refine br_fe ?_ ?_; exact rfl) | (apply br_pyE; (exact rfl); omega) | (apply br_pnE; (exact rfl); omega) | (apply when_pyE; (exact rfl); omega) | (apply when_pnE; (exact rfl); omega) | (apply br_npyE; (exact rfl); omega) | (apply br_npnE; (exact rfl); omega) | (apply when_npyE; (exact rfl); omega) | (apply when_npnE; (exact rfl); omega) | (refine br_pyE ?_ hne ?_; exact rfl) | (refine br_pnE ?_ hne ?_; exact rfl) | (refine when_pyE ?_ hne ?_; exact rfl) | (refine when_pnE ?_ hne ?_; exact rfl) | (refine br_npyE ?_ hne ?_; exact rfl) | (refine br_npnE ?_ hne ?_; exact rfl) | (refine when_npyE ?_ hne ?_; exact rfl) | (refine when_npnE ?_ hne ?_; exact rfl) | (refine ari ?_ ?_; omega) | (refine aru ?_ ?_; omega) | (apply sel; exact rfl) | (refine ix0 rfl ?_) | (refine ix1 rfl ?_) | (refine ix2 rfl ?_) | (refine ix3 rfl ?_) | (apply ixj; omega) | (refine ixn ?_ ?_; omega) | (refine ixs0 rfl ?_) | (refine ixs1 rfl ?_) | (refine ixs_j ?_ ?_; omega) | (refine ixs_n ?_ ?_; omega) | (apply ld_o; exact rfl) | (apply ldN_a; exact rfl) | (apply ldN_o; (exact rfl); exact rfl) | (apply st_o; (exact rfl); exact rfl) | (apply stN_o; (exact rfl); (exact rfl); exact rfl) | (refine new_i (fun bk hbk => ?_)) | (apply when_dE; (exact rfl); (exact rfl); all_goals intro hc) | (apply when_dF; (exact rfl); (exact rfl); all_goals intro hc) | (apply when_nE; (exact rfl); (exact rfl); all_goals intro hc) | (apply when_nF; (exact rfl); (exact rfl); all_goals intro hc) | (apply br_dE; (exact rfl); all_goals intro hc) | (apply br_nE; (exact rfl); all_goals intro hc) | (refine mm_min ?_) | (refine mm_max ?_) | (refine rem_i ?_ ?_; omega) | (refine SelN.mk ?_) | (refine cut_n ?_) | (refine Both.mk ?_ ?_) | (exact True.intro))
  refine loop_c (σ := Nat) (fun i => [(5, .int .i64 i)]) (fun i => i ≤ L.length) (fun i => L.length - i) 0 (by omega) (by repeat' (first | exact True.intro | refine And.intro ?_ ?_ | exact rfl | exact vi (by omega) | (dsimp only; exact rfl) | (dsimp only; exact vi (by omega)))) rfl ?_
  intro i junk hi
  by_cases hlt : i < L.length
  · obtain ⟨x, hx⟩ : ∃ x, L[i]? = some x := ⟨_, List.getElem?_eq_getElem hlt⟩
    have hlt' : (i : Int) < L.length := by omega
    obtain ⟨io, ia, ib, ic, im⟩ := x
    repeat' ((try (conv => whnf)); first | (refine when_ye ?_ ?_; exact rfl) | (refine when_ne ?_ ?_; exact rfl) | (refine br_te ?_ ?_; exact rfl) | (refine br_fe ?_ ?_; exact rfl) | (apply br_pyE; (exact rfl); omega) | (apply br_pnE; (exact rfl); omega) | (apply when_pyE; (exact rfl); omega) | (apply when_pnE; (exact rfl); omega) | (apply br_npyE; (exact rfl); omega) | (apply br_npnE; (exact rfl); omega) | (apply when_npyE; (exact rfl); omega) | (apply when_npnE; (exact rfl); omega) | (refine br_pyE ?_ hlt' ?_; exact rfl) | (refine br_pnE ?_ hlt' ?_; exact rfl) | (refine when_pyE ?_ hlt' ?_; exact rfl) | (refine when_pnE ?_ hlt' ?_; exact rfl) | (refine br_npyE ?_ hlt' ?_; exact rfl) | (refine br_npnE ?_ hlt' ?_; exact rfl) | (refine when_npyE ?_ hlt' ?_; exact rfl) | (refine when_npnE ?_ hlt' ?_; exact rfl) | (refine eq_yes ?_ ?_; (simp [eqC, eqOne])) | ((with_reducible show Ld _ _ _ _); first | (refine ldE0 h1 hx rfl ?_) | (refine ldEk h1 hx rfl ?_) | (refine ldE1 h1 hx rfl ?_) | (refine ldE0 h2 hx rfl ?_) | (refine ldEk h2 hx rfl ?_) | (refine ldE1 h2 hx rfl ?_)) | ((with_reducible show IxS _ _ _ _ _); first | ((refine ixE h1 hx ?_ ?_; (first | rfl | omega))) | ((refine ixE h2 hx ?_ ?_; (first | rfl | omega)))) | ((with_reducible show LdN _ _ _ _ _); first | (refine ldNEi h1 hx rfl ?_) | (refine ldNEi h2 hx rfl ?_)) | (refine ari ?_ ?_; omega) | (refine aru ?_ ?_; omega) | (apply sel; exact rfl) | (refine ix0 rfl ?_) | (refine ix1 rfl ?_) | (refine ix2 rfl ?_) | (refine ix3 rfl ?_) | (apply ixj; omega) | (refine ixn ?_ ?_; omega) | (refine ixs0 rfl ?_) | (refine ixs1 rfl ?_) | (refine ixs_j ?_ ?_; omega) | (refine ixs_n ?_ ?_; omega) | (apply ld_o; exact rfl) | (apply ldN_a; exact rfl) | (apply ldN_o; (exact rfl); exact rfl) | (apply st_o; (exact rfl); exact rfl) | (apply stN_o; (exact rfl); (exact rfl); exact rfl) | (refine new_i (fun bk hbk => ?_)) | (apply when_dE; (exact rfl); (exact rfl); all_goals intro hc) | (apply when_dF; (exact rfl); (exact rfl); all_goals intro hc) | (apply when_nE; (exact rfl); (exact rfl); all_goals intro hc) | (apply when_nF; (exact rfl); (exact rfl); all_goals intro hc) | (apply br_dE; (exact rfl); all_goals intro hc) | (apply br_nE; (exact rfl); all_goals intro hc) | (refine mm_min ?_) | (refine mm_max ?_) | (refine rem_i ?_ ?_; omega) | (refine SelN.mk ?_) | (refine cut_n ?_) | (refine Both.mk ?_ ?_) | (exact True.intro))
    exact ⟨i + 1, by omega, by omega, (by repeat' (first | exact True.intro | refine And.intro ?_ ?_ | exact rfl | exact vi (by omega) | (dsimp only; exact rfl) | (dsimp only; exact vi (by omega)))), (by first | exact ent_i | (repeat (first | exact Ent.refl | exact Ent.left | refine Ent.cons ?_ | refine Ent.app ?_)))⟩
  · have hlt' : ¬ (i : Int) < L.length := by omega
    repeat' ((try (conv => whnf)); first | (refine when_ye ?_ ?_; exact rfl) | (refine when_ne ?_ ?_; exact rfl) | (refine br_te ?_ ?_; exact rfl) | (refine br_fe ?_ ?_; exact rfl) | (apply br_pyE; (exact rfl); omega) | (apply br_pnE; (exact rfl); omega) | (apply when_pyE; (exact rfl); omega) | (apply when_pnE; (exact rfl); omega) | (apply br_npyE; (exact rfl); omega) | (apply br_npnE; (exact rfl); omega) | (apply when_npyE; (exact rfl); omega) | (apply when_npnE; (exact rfl); omega) | (refine br_pyE ?_ hlt' ?_; exact rfl) | (refine br_pnE ?_ hlt' ?_; exact rfl) | (refine when_pyE ?_ hlt' ?_; exact rfl) | (refine when_pnE ?_ hlt' ?_; exact rfl) | (refine br_npyE ?_ hlt' ?_; exact rfl) | (refine br_npnE ?_ hlt' ?_; exact rfl) | (refine when_npyE ?_ hlt' ?_; exact rfl) | (refine when_npnE ?_ hlt' ?_; exact rfl) | (refine ari ?_ ?_; omega) | (refine aru ?_ ?_; omega) | (apply sel; exact rfl) | (refine ix0 rfl ?_) | (refine ix1 rfl ?_) | (refine ix2 rfl ?_) | (refine ix3 rfl ?_) | (apply ixj; omega) | (refine ixn ?_ ?_; omega) | (refine ixs0 rfl ?_) | (refine ixs1 rfl ?_) | (refine ixs_j ?_ ?_; omega) | (refine ixs_n ?_ ?_; omega) | (apply ld_o; exact rfl) | (apply ldN_a; exact rfl) | (apply ldN_o; (exact rfl); exact rfl) | (apply st_o; (exact rfl); exact rfl) | (apply stN_o; (exact rfl); (exact rfl); exact rfl) | (refine new_i (fun bk hbk => ?_)) | (apply when_dE; (exact rfl); (exact rfl); all_goals intro hc) | (apply when_dF; (exact rfl); (exact rfl); all_goals intro hc) | (apply when_nE; (exact rfl); (exact rfl); all_goals intro hc) | (apply when_nF; (exact rfl); (exact rfl); all_goals intro hc) | (apply br_dE; (exact rfl); all_goals intro hc) | (apply br_nE; (exact rfl); all_goals intro hc) | (refine mm_min ?_) | (refine mm_max ?_) | (refine rem_i ?_ ?_; omega) | (refine SelN.mk ?_) | (refine cut_n ?_) | (refine Both.mk ?_ ?_) | (exact True.intro))
    exact ⟨rfl, (by first | exact ent_i | (repeat (first | exact Ent.refl | exact Ent.left | refine Ent.cons ?_ | refine Ent.app ?_)))⟩
theorem sp_awake4 (hA : AsmAt W0) : Pure Tryz.prog W0 23 [] own (.bool true) := by
  refine pure_of (spec_of mixed low_law04_awake (by simp [ir_law04_awake]) ?_)
  have h1 := fun own => sp_Assemble (own := own) hA awkS (by decide)
  rw [awk_asm] at h1
  have h2 := fun (own : Own) (a : Option Addr) (h : RdE Ins.enc 5 W0 own a [⟨4, 0, 0, 0, 0⟩]) => sp_Disassemble (cap := 1) hA h (by decide) (fun i hi => by rw [List.mem_singleton.1 hi]; exact ⟨by decide, by decide⟩)
  rw [awk_dis] at h2
  dsimp only at h2
  have hx0 : [(⟨5, 1, 0, 0, 1⟩ : Ins), ⟨1, 2, 0, 0, 5⟩][0]? = some ⟨5, 1, 0, 0, 1⟩ := rfl
  have hs1 : (⟨#[106, 117, 109, 112, 32, 108, 49, 10, 108, 49, 58, 10]⟩ : ByteArray).toList = (⟨#[106, 117, 109, 112, 32, 108, 49, 10, 108, 49, 58, 10]⟩ : ByteArray).toList := rfl
  repeat' ((try (conv => whnf)); first | (refine when_ye ?_ ?_; exact rfl) | (refine when_ne ?_ ?_; exact rfl) | (refine br_te ?_ ?_; exact rfl) | (refine br_fe ?_ ?_; exact rfl) | (apply br_pyE; (exact rfl); omega) | (apply br_pnE; (exact rfl); omega) | (apply when_pyE; (exact rfl); omega) | (apply when_pnE; (exact rfl); omega) | (apply br_npyE; (exact rfl); omega) | (apply br_npnE; (exact rfl); omega) | (apply when_npyE; (exact rfl); omega) | (apply when_npnE; (exact rfl); omega) | (refine br_pyE ?_ hs1 ?_; exact rfl) | (refine br_pnE ?_ hs1 ?_; exact rfl) | (refine when_pyE ?_ hs1 ?_; exact rfl) | (refine when_pnE ?_ hs1 ?_; exact rfl) | (refine br_npyE ?_ hs1 ?_; exact rfl) | (refine br_npnE ?_ hs1 ?_; exact rfl) | (refine when_npyE ?_ hs1 ?_; exact rfl) | (refine when_npnE ?_ hs1 ?_; exact rfl) | (refine eq_yes ?_ ?_; (simp [eqC, eqOne])) | ((with_reducible show Ld _ _ _ _); first | (refine ldE0 hR hx0 rfl ?_) | (refine ldEk hR hx0 rfl ?_) | (refine ldE1 hR hx0 rfl ?_)) | ((with_reducible show IxS _ _ _ _ _); first | ((refine ixE hR hx0 ?_ ?_; (first | rfl | omega)))) | ((with_reducible show LdN _ _ _ _ _); first | (refine ldNEi hR hx0 rfl ?_)) | ((with_reducible show CallT _ _ _ _ _ _); first | ((refine call_se (h1 _) ?_ ?_ (fun v own' hv => ?_); (exact rfl); (exact rfl); (obtain ⟨a, cap, rfl, hR, hE⟩ := hv))) | ((refine call_pe (h2 _ (some ⟨bk, 0, none⟩) ?_) ?_ ?_ ?_; (exact lit_rdI (l := [⟨4, 0, 0, 0, 0⟩]) rfl rfl); (exact rfl); (exact rfl)))) | (refine ari ?_ ?_; omega) | (refine aru ?_ ?_; omega) | (apply sel; exact rfl) | (refine ix0 rfl ?_) | (refine ix1 rfl ?_) | (refine ix2 rfl ?_) | (refine ix3 rfl ?_) | (apply ixj; omega) | (refine ixn ?_ ?_; omega) | (refine ixs0 rfl ?_) | (refine ixs1 rfl ?_) | (refine ixs_j ?_ ?_; omega) | (refine ixs_n ?_ ?_; omega) | (apply ld_o; exact rfl) | (apply ldN_a; exact rfl) | (apply ldN_o; (exact rfl); exact rfl) | (apply st_o; (exact rfl); exact rfl) | (apply stN_o; (exact rfl); (exact rfl); exact rfl) | (refine new_i (fun bk hbk => ?_)) | (apply when_dE; (exact rfl); (exact rfl); all_goals intro hc) | (apply when_dF; (exact rfl); (exact rfl); all_goals intro hc) | (apply when_nE; (exact rfl); (exact rfl); all_goals intro hc) | (apply when_nF; (exact rfl); (exact rfl); all_goals intro hc) | (apply br_dE; (exact rfl); all_goals intro hc) | (apply br_nE; (exact rfl); all_goals intro hc) | (refine mm_min ?_) | (refine mm_max ?_) | (refine rem_i ?_ ?_; omega) | (refine SelN.mk ?_) | (refine cut_n ?_) | (refine Both.mk ?_ ?_) | (exact True.intro))
  exact ⟨ret1 (vb (decide_eq_true hs1)), Ent.trans (Ent.cons Ent.refl) hE⟩
end
end Go.Proofs.YtiimndcifcoofaaGreatDoor
namespace Go.Proofs.YtiimndcifcoofaaGreatDoor
open Go Go.RowKit
set_option maxRecDepth 10000
set_option maxHeartbeats 4000000
theorem res_len (lb : List (ByteArray × Int)) : ∀ (p : List Ins) (tg : List (ByteArray × Int)) (k : Nat) (acc : List Ins), (resS lb p tg k acc).2.2.length ≤ acc.length + p.length
  | [], _, _, acc => by simp [resS]
  | _ :: _, [], _, acc => by simp [resS]
  | i :: p, t :: tg, k, acc => by
    simp only [resS]
    split
    · have := res_len lb p tg (k + 1) (acc ++ [i])
      simp at this ⊢
      omega
    · split
      · simp
      · split
        · simp
        · rename_i v _ _
          have := res_len lb p tg (k + 1) (acc ++ [⟨i.op, i.a, i.b, i.c, v - k - 1⟩])
          simp at this ⊢
          omega
theorem run_inv : ∀ (l : List ByteArray) (k : Int) (σ : AS), Inv σ → Inv (runS l k σ).2.2
  | [], _, _, h => h
  | s :: r, k, σ, h => by
    simp only [runS]
    split
    · exact run_inv r (k + 1) _ (step_inv h)
    · exact h
theorem asm_len (s : ByteArray) : (asmM s).1.length ≤ 64 := by
  unfold asmM
  split
  · simp
  · have h := run_inv (linesB s) 1 AS0 inv0
    generalize runS (linesB s) 1 AS0 = q at *
    unfold finS
    split
    · have h1 := res_len q.2.2.lb q.2.2.p q.2.2.tg 0 []
      have h2 := h.max
      simp only [List.length_nil] at h1
      dsimp only
      omega
    · simp
section
variable {W0 : World} {own : Own}
theorem sp_AsmAny (hA : AsmAt W0) (s : ByteArray) : Pure Tryz.prog W0 4 [.string s] own (.bool true) := by
  refine pure_of (spec_of mixed low_law04_AsmAny (by simp [ir_law04_AsmAny]) ?_)
  have h9 := fun own => sp_awake4 (own := own) hA
  by_cases h2 : 2000 < (s.size : Int)
  · repeat' ((try (conv => whnf)); first | (refine when_ye ?_ ?_; exact rfl) | (refine when_ne ?_ ?_; exact rfl) | (refine br_te ?_ ?_; exact rfl) | (refine br_fe ?_ ?_; exact rfl) | (apply br_pyE; (exact rfl); omega) | (apply br_pnE; (exact rfl); omega) | (apply when_pyE; (exact rfl); omega) | (apply when_pnE; (exact rfl); omega) | (apply br_npyE; (exact rfl); omega) | (apply br_npnE; (exact rfl); omega) | (apply when_npyE; (exact rfl); omega) | (apply when_npnE; (exact rfl); omega) | ((with_reducible show CallT _ _ _ _ _ _); first | ((refine call_pe (h9 _) ?_ ?_ ?_; (exact rfl); exact rfl))) | (refine ari ?_ ?_; omega) | (refine aru ?_ ?_; omega) | (apply sel; exact rfl) | (refine ix0 rfl ?_) | (refine ix1 rfl ?_) | (refine ix2 rfl ?_) | (refine ix3 rfl ?_) | (apply ixj; omega) | (refine ixn ?_ ?_; omega) | (refine ixs0 rfl ?_) | (refine ixs1 rfl ?_) | (refine ixs_j ?_ ?_; omega) | (refine ixs_n ?_ ?_; omega) | (apply ld_o; exact rfl) | (apply ldN_a; exact rfl) | (apply ldN_o; (exact rfl); exact rfl) | (apply st_o; (exact rfl); exact rfl) | (apply stN_o; (exact rfl); (exact rfl); exact rfl) | (refine new_i (fun bk hbk => ?_)) | (apply when_dE; (exact rfl); (exact rfl); all_goals intro hc) | (apply when_dF; (exact rfl); (exact rfl); all_goals intro hc) | (apply when_nE; (exact rfl); (exact rfl); all_goals intro hc) | (apply when_nF; (exact rfl); (exact rfl); all_goals intro hc) | (apply br_dE; (exact rfl); all_goals intro hc) | (apply br_nE; (exact rfl); all_goals intro hc) | (refine mm_min ?_) | (refine mm_max ?_) | (refine rem_i ?_ ?_; omega) | (refine SelN.mk ?_) | (refine cut_n ?_) | (refine Both.mk ?_ ?_) | (exact True.intro))
    exact ⟨rfl, (by first | exact ent_i | (repeat (first | exact Ent.refl | exact Ent.left | refine Ent.cons ?_ | refine Ent.app ?_)))⟩
  · have h1 := fun own => sp_Assemble (own := own) hA s (by omega)
    have h3 := fun own => sp_rAssemble (W0 := W0) (own := own) s (by omega)
    have hl := asm_len s
    generalize asmM s = q at *
    obtain ⟨L, ln, e⟩ := q
    repeat' ((try (conv => whnf)); first | (refine when_ye ?_ ?_; exact rfl) | (refine when_ne ?_ ?_; exact rfl) | (refine br_te ?_ ?_; exact rfl) | (refine br_fe ?_ ?_; exact rfl) | (apply br_pyE; (exact rfl); omega) | (apply br_pnE; (exact rfl); omega) | (apply when_pyE; (exact rfl); omega) | (apply when_pnE; (exact rfl); omega) | (apply br_npyE; (exact rfl); omega) | (apply br_npnE; (exact rfl); omega) | (apply when_npyE; (exact rfl); omega) | (apply when_npnE; (exact rfl); omega) | ((with_reducible show CallT _ _ _ _ _ _); first | ((refine call_pe (h9 _) ?_ ?_ ?_; (exact rfl); exact rfl)) | ((refine call_se (h1 _) ?_ ?_ (fun v own' hv => ?_); (exact rfl); (exact rfl); (obtain ⟨a1, c1, rfl, hR1, hE1⟩ := hv))) | ((refine call_se (h3 _) ?_ ?_ (fun v own' hv => ?_); (exact rfl); (exact rfl); (obtain ⟨a2, c2, rfl, hR2, hE2⟩ := hv))) | ((refine call_pe (sp_kprog (c1 := c1) (c2 := c2) (hR1.ent hE2) hR2 (by omega)) ?_ ?_ ?_; (exact rfl); exact rfl))) | (refine ari ?_ ?_; omega) | (refine aru ?_ ?_; omega) | (apply sel; exact rfl) | (refine ix0 rfl ?_) | (refine ix1 rfl ?_) | (refine ix2 rfl ?_) | (refine ix3 rfl ?_) | (apply ixj; omega) | (refine ixn ?_ ?_; omega) | (refine ixs0 rfl ?_) | (refine ixs1 rfl ?_) | (refine ixs_j ?_ ?_; omega) | (refine ixs_n ?_ ?_; omega) | (apply ld_o; exact rfl) | (apply ldN_a; exact rfl) | (apply ldN_o; (exact rfl); exact rfl) | (apply st_o; (exact rfl); exact rfl) | (apply stN_o; (exact rfl); (exact rfl); exact rfl) | (refine new_i (fun bk hbk => ?_)) | (apply when_dE; (exact rfl); (exact rfl); all_goals intro hc) | (apply when_dF; (exact rfl); (exact rfl); all_goals intro hc) | (apply when_nE; (exact rfl); (exact rfl); all_goals intro hc) | (apply when_nF; (exact rfl); (exact rfl); all_goals intro hc) | (apply br_dE; (exact rfl); all_goals intro hc) | (apply br_nE; (exact rfl); all_goals intro hc) | (refine mm_min ?_) | (refine mm_max ?_) | (refine rem_i ?_ ?_; omega) | (refine SelN.mk ?_) | (refine cut_n ?_) | (refine Both.mk ?_ ?_) | (exact True.intro))
    exact ⟨rfl, hE2.trans hE1⟩
end
end Go.Proofs.YtiimndcifcoofaaGreatDoor
namespace Go.Proofs.YtiimndcifcoofaaGreatDoor
open Go Go.RowKit
set_option maxRecDepth 10000
set_option maxHeartbeats 4000000
def prt : List ByteArray := [⟨#[97, 58]⟩, ⟨#[98, 49, 58, 32]⟩, ⟨#[32, 99, 95, 32, 58]⟩, ⟨#[120, 95, 121, 58]⟩, ⟨#[106, 117, 109, 112, 32, 97]⟩, ⟨#[122, 101, 114, 111, 32, 114, 49, 32, 98, 49]⟩, ⟨#[110, 111, 110, 122, 101, 114, 111, 32, 114, 57, 32, 97]⟩, ⟨#[122, 101, 114, 111, 32, 114, 50, 32, 120, 95, 121]⟩, ⟨#[106, 117, 109, 112, 32, 51]⟩, ⟨#[99, 111, 110, 115, 116, 32, 114, 49, 32, 53]⟩, ⟨#[97, 100, 100, 32, 114, 49, 32, 114, 50, 32, 114, 51]⟩, ⟨#[98, 101, 103, 105, 110, 32, 50]⟩, ⟨#[99, 111, 109, 109, 105, 116]⟩, ⟨#[116, 114, 101, 97, 100, 32, 114, 48, 32, 114, 49, 32, 50]⟩, ⟨#[35, 32, 97, 108, 108]⟩, ⟨#[]⟩, ⟨#[32, 32]⟩, ⟨#[99, 111, 110, 115, 116, 32, 114, 49]⟩, ⟨#[110, 111, 112, 32, 35, 32, 97, 58]⟩, ⟨#[106, 117, 109, 112, 32, 65]⟩, ⟨#[108, 49, 58]⟩, ⟨#[122, 101, 114, 111, 32, 114, 55, 32, 108, 49]⟩, ⟨#[110, 111, 110, 122, 101, 114, 111, 32, 114, 48, 32, 110, 111, 119, 104, 101, 114, 101]⟩, ⟨#[98, 101, 103, 105, 110, 32, 57]⟩]
theorem prt_at {j : Nat} (h : j < 24) : ∃ x, prt[j]? = some x ∧ x.size ≤ 20 := by
  have hl : prt.length = 24 := rfl
  have hall : ∀ x ∈ prt, x.size ≤ 20 := by decide +kernel
  exact ⟨_, List.getElem?_eq_getElem (by omega), hall _ (List.getElem_mem _)⟩
theorem rep_one (x : UInt8) (c : Nat) : Go.Lib.repeatL [x] c = List.replicate c x := by
  have := Go.Lib.repeatL_replicate x 1 c
  rw [Nat.mul_one] at this
  exact this
theorem ln_sps : ∀ (k : Nat) (cur : List UInt8), lnL cur (List.replicate k 32) = if cur ++ List.replicate k 32 = [] then [] else [cur ++ List.replicate k 32]
  | 0, cur => by rw [List.replicate_zero, List.append_nil]; rfl
  | k + 1, cur => by
    rw [List.replicate_succ, ln_cons, if_neg (by decide), ln_sps k]
    simp
theorem asm_spaces {k : Nat} (h0 : 0 < k) (h1 : k ≤ 65536) : asmM (bW (List.replicate k 32)) = ([], 0, 0) := by
  have hne : List.replicate k (32 : UInt8) ≠ [] := fun e => by have := congrArg List.length e; simp at this; omega
  have hl : linesB (bW (List.replicate k 32)) = [bW (List.replicate k 32)] := by
    unfold linesB
    rw [bW_data, ln_sps, List.nil_append, if_neg hne]
    rfl
  have hc : bareS (bW (List.replicate k 32)) = bW (List.replicate k 32) := by
    unfold bareS cutL
    rw [bW_data]
    congr 1
    have : ∀ n : Nat, (List.replicate n (32 : UInt8)).takeWhile (· != 35) = List.replicate n 32 := by
      intro n
      induction n with
      | zero => rfl
      | succ n ih => rw [List.replicate_succ, List.takeWhile_cons_of_pos (by decide), ih]
    exact this k
  have hw : wordsM (bW (List.replicate k 32)) = [] := by
    have h2 : (wordsM (bW (List.replicate k 32))).map (fun x => x.data.toList) = [] := by
      rw [words_wl, bW_data]
      have := wl_ends k []
      rw [List.nil_append] at this
      rw [this]
      rfl
    exact List.map_eq_nil_iff.1 h2
  unfold asmM
  rw [if_neg (by rw [bW_size, List.length_replicate]; omega), hl]
  have hst : stepS AS0 (bW (List.replicate k 32)) 1 = (0, AS0) := by
    unfold stepS
    rw [hc, hw, if_pos rfl]
  simp only [runS]
  rw [hst, if_pos rfl]
  rfl
section
variable {W0 : World} {own : Own}
theorem sp_repeat (s : ByteArray) (c : Nat) (hc : c ≤ 9223372036854775807) (hl : s.size * c ≤ 140737488355328) : Pure Tryz.prog W0 34 [.string s, .int .i64 c] own (.string (bW (Go.Lib.repeatL s.data.toList c))) := fun w hw => by
  refine (shelf_strings_Repeat s c w hc hl).mono ?_
  rintro e w' ⟨rfl, hb⟩
  exact ⟨rfl, hw.below hb⟩
theorem sp_Text {a : Option Addr} {cap : Nat} {l : List Int} (hR : RdE encI 1 W0 own a l) (hl : l.length ≤ 40) : Spec Tryz.prog W0 33 [.slice a l.length cap] own fun v own' => ∃ t : { t : ByteArray // t.size ≤ 2000 }, v = .string t.1 ∧ Ent W0 own' own := by
  refine spec_of mixed low_law04_Text (by simp [ir_law04_Text]) ?_
  repeat' ((try (conv => whnf)); first | (refine when_ye ?_ ?_; exact rfl) | (refine when_ne ?_ ?_; exact rfl) | (refine br_te ?_ ?_; exact rfl) | (refine br_fe ?_ ?_; exact rfl) | (apply br_pyE; (exact rfl); omega) | (apply br_pnE; (exact rfl); omega) | (apply when_pyE; (exact rfl); omega) | (apply when_pnE; (exact rfl); omega) | (apply br_npyE; (exact rfl); omega) | (apply br_npnE; (exact rfl); omega) | (apply when_npyE; (exact rfl); omega) | (apply when_npnE; (exact rfl); omega) | (refine ari ?_ ?_; omega) | (refine aru ?_ ?_; omega) | (apply sel; exact rfl) | (refine ix0 rfl ?_) | (refine ix1 rfl ?_) | (refine ix2 rfl ?_) | (refine ix3 rfl ?_) | (apply ixj; omega) | (refine ixn ?_ ?_; omega) | (refine ixs0 rfl ?_) | (refine ixs1 rfl ?_) | (refine ixs_j ?_ ?_; omega) | (refine ixs_n ?_ ?_; omega) | (apply ld_o; exact rfl) | (apply ldN_a; exact rfl) | (apply ldN_o; (exact rfl); exact rfl) | (apply st_o; (exact rfl); exact rfl) | (apply stN_o; (exact rfl); (exact rfl); exact rfl) | (refine new_i (fun bk hbk => ?_)) | (apply when_dE; (exact rfl); (exact rfl); all_goals intro hc) | (apply when_dF; (exact rfl); (exact rfl); all_goals intro hc) | (apply when_nE; (exact rfl); (exact rfl); all_goals intro hc) | (apply when_nF; (exact rfl); (exact rfl); all_goals intro hc) | (apply br_dE; (exact rfl); all_goals intro hc) | (apply br_nE; (exact rfl); all_goals intro hc) | (refine mm_min ?_) | (refine mm_max ?_) | (refine rem_i ?_ ?_; omega) | (refine SelN.mk ?_) | (refine cut_n ?_) | (refine Both.mk ?_ ?_) | (exact True.intro))
  refine loop_c (σ := Nat × ByteArray) (fun x => [(4, .string x.2), (5, .int .i64 x.1)]) (fun x => x.1 ≤ l.length ∧ x.2.size ≤ 40 * x.1) (fun x => l.length - x.1) (0, ⟨#[]⟩) ⟨Nat.zero_le _, Nat.le_refl _⟩ (by repeat' (first | exact True.intro | refine And.intro ?_ ?_ | exact rfl | exact vi (by omega) | (dsimp only; exact rfl) | (dsimp only; exact vi (by omega)))) rfl ?_
  rintro ⟨i, t⟩ junk ⟨hi, ht⟩
  dsimp only at hi ht ⊢
  by_cases hlt : i < l.length
  · have hlt' : (i : Int) < l.length := by omega
    obtain ⟨x, hx⟩ : ∃ x, l[i]? = some x := ⟨_, List.getElem?_eq_getElem hlt⟩
    have hp1 := fun own => sp_place W0 own x (n := 24) ⟨by omega, by omega⟩
    have hr1 := plc_rng x (n := 24) (by omega)
    obtain ⟨j1, hj1⟩ : ∃ j : Nat, plc x 24 = j := ⟨(plc x 24).toNat, by omega⟩
    rw [hj1] at hp1 hr1
    obtain ⟨x1, hx1, hs1⟩ := prt_at (j := j1) (by omega)
    have hk1 : (prt.map Value.string)[0 + j1 * 1]? = some (.string x1) := by
      have e : 0 + j1 * 1 = j1 := by omega
      rw [e, List.getElem?_map, hx1]; rfl
    have hp2 := fun own => sp_place W0 own (IntKind.i64.wrap (x.tdiv 24)) (n := 20) ⟨by omega, by omega⟩
    have hr2 := plc_rng (IntKind.i64.wrap (x.tdiv 24)) (n := 20) (by omega)
    generalize plc (IntKind.i64.wrap (x.tdiv 24)) 20 = p2 at *
    have hn1 : (⟨#[10]⟩ : ByteArray).size = 1 := rfl
    by_cases h2 : p2 > 0
    · repeat' ((try (conv => whnf)); first | (refine when_ye ?_ ?_; exact rfl) | (refine when_ne ?_ ?_; exact rfl) | (refine br_te ?_ ?_; exact rfl) | (refine br_fe ?_ ?_; exact rfl) | (apply br_pyE; (exact rfl); omega) | (apply br_pnE; (exact rfl); omega) | (apply when_pyE; (exact rfl); omega) | (apply when_pnE; (exact rfl); omega) | (apply br_npyE; (exact rfl); omega) | (apply br_npnE; (exact rfl); omega) | (apply when_npyE; (exact rfl); omega) | (apply when_npnE; (exact rfl); omega) | (refine ld_own _ (List.Mem.head _) hk1 ?_) | (refine Quo.mk ⟨show (24 : Int) ≠ 0 by decide, ?_⟩) | (refine SctT.mk ⟨?_, ?_⟩; (first | omega | (simp only [ByteArray.size_append]; omega))) | ((with_reducible show Ld _ _ _ _); first | (refine ldE0 hR hx rfl ?_) | (refine ldEk hR hx rfl ?_) | (refine ldE1 hR hx rfl ?_)) | ((with_reducible show IxS _ _ _ _ _); first | ((refine ixE hR hx ?_ ?_; (first | rfl | omega)))) | ((with_reducible show LdN _ _ _ _ _); first | (refine ldNEi hR hx rfl ?_)) | ((with_reducible show CallT _ _ _ _ _ _); first | ((refine call_pe (hp1 _) ?_ ?_ ?_; (exact rfl); exact rfl)) | ((refine call_pe (hp2 _) ?_ ?_ ?_; (exact rfl); exact rfl))) | (refine ari ?_ ?_; omega) | (refine aru ?_ ?_; omega) | (apply sel; exact rfl) | (refine ix0 rfl ?_) | (refine ix1 rfl ?_) | (refine ix2 rfl ?_) | (refine ix3 rfl ?_) | (apply ixj; omega) | (refine ixn ?_ ?_; omega) | (refine ixs0 rfl ?_) | (refine ixs1 rfl ?_) | (refine ixs_j ?_ ?_; omega) | (refine ixs_n ?_ ?_; omega) | (apply ld_o; exact rfl) | (apply ldN_a; exact rfl) | (apply ldN_o; (exact rfl); exact rfl) | (apply st_o; (exact rfl); exact rfl) | (apply stN_o; (exact rfl); (exact rfl); exact rfl) | (refine new_i (fun bk hbk => ?_)) | (apply when_dE; (exact rfl); (exact rfl); all_goals intro hc) | (apply when_dF; (exact rfl); (exact rfl); all_goals intro hc) | (apply when_nE; (exact rfl); (exact rfl); all_goals intro hc) | (apply when_nF; (exact rfl); (exact rfl); all_goals intro hc) | (apply br_dE; (exact rfl); all_goals intro hc) | (apply br_nE; (exact rfl); all_goals intro hc) | (refine mm_min ?_) | (refine mm_max ?_) | (refine rem_i ?_ ?_; omega) | (refine SelN.mk ?_) | (refine cut_n ?_) | (refine Both.mk ?_ ?_) | (exact True.intro))
      exact ⟨(i + 1, t ++ x1 ++ ⟨#[10]⟩), ⟨by dsimp only; omega, by dsimp only; simp only [ByteArray.size_append]; omega⟩, by dsimp only; omega, (by repeat' (first | exact True.intro | refine And.intro ?_ ?_ | exact rfl | exact vi (by omega) | (dsimp only; exact rfl) | (dsimp only; exact vi (by omega)))), (by first | exact ent_i | (repeat (first | exact Ent.refl | exact Ent.left | refine Ent.cons ?_ | refine Ent.app ?_)))⟩
    · repeat' ((try (conv => whnf)); first | (refine when_ye ?_ ?_; exact rfl) | (refine when_ne ?_ ?_; exact rfl) | (refine br_te ?_ ?_; exact rfl) | (refine br_fe ?_ ?_; exact rfl) | (apply br_pyE; (exact rfl); omega) | (apply br_pnE; (exact rfl); omega) | (apply when_pyE; (exact rfl); omega) | (apply when_pnE; (exact rfl); omega) | (apply br_npyE; (exact rfl); omega) | (apply br_npnE; (exact rfl); omega) | (apply when_npyE; (exact rfl); omega) | (apply when_npnE; (exact rfl); omega) | (refine ld_own _ (List.Mem.head _) hk1 ?_) | (refine Quo.mk ⟨show (24 : Int) ≠ 0 by decide, ?_⟩) | (refine SctT.mk ⟨?_, ?_⟩; (first | omega | (simp only [ByteArray.size_append]; omega))) | ((with_reducible show Ld _ _ _ _); first | (refine ldE0 hR hx rfl ?_) | (refine ldEk hR hx rfl ?_) | (refine ldE1 hR hx rfl ?_)) | ((with_reducible show IxS _ _ _ _ _); first | ((refine ixE hR hx ?_ ?_; (first | rfl | omega)))) | ((with_reducible show LdN _ _ _ _ _); first | (refine ldNEi hR hx rfl ?_)) | ((with_reducible show CallT _ _ _ _ _ _); first | ((refine call_pe (hp1 _) ?_ ?_ ?_; (exact rfl); exact rfl)) | ((refine call_pe (hp2 _) ?_ ?_ ?_; (exact rfl); exact rfl))) | (refine ari ?_ ?_; omega) | (refine aru ?_ ?_; omega) | (apply sel; exact rfl) | (refine ix0 rfl ?_) | (refine ix1 rfl ?_) | (refine ix2 rfl ?_) | (refine ix3 rfl ?_) | (apply ixj; omega) | (refine ixn ?_ ?_; omega) | (refine ixs0 rfl ?_) | (refine ixs1 rfl ?_) | (refine ixs_j ?_ ?_; omega) | (refine ixs_n ?_ ?_; omega) | (apply ld_o; exact rfl) | (apply ldN_a; exact rfl) | (apply ldN_o; (exact rfl); exact rfl) | (apply st_o; (exact rfl); exact rfl) | (apply stN_o; (exact rfl); (exact rfl); exact rfl) | (refine new_i (fun bk hbk => ?_)) | (apply when_dE; (exact rfl); (exact rfl); all_goals intro hc) | (apply when_dF; (exact rfl); (exact rfl); all_goals intro hc) | (apply when_nE; (exact rfl); (exact rfl); all_goals intro hc) | (apply when_nF; (exact rfl); (exact rfl); all_goals intro hc) | (apply br_dE; (exact rfl); all_goals intro hc) | (apply br_nE; (exact rfl); all_goals intro hc) | (refine mm_min ?_) | (refine mm_max ?_) | (refine rem_i ?_ ?_; omega) | (refine SelN.mk ?_) | (refine cut_n ?_) | (refine Both.mk ?_ ?_) | (exact True.intro))
      exact ⟨(i + 1, t ++ x1), ⟨by dsimp only; omega, by dsimp only; simp only [ByteArray.size_append]; omega⟩, by dsimp only; omega, (by repeat' (first | exact True.intro | refine And.intro ?_ ?_ | exact rfl | exact vi (by omega) | (dsimp only; exact rfl) | (dsimp only; exact vi (by omega)))), (by first | exact ent_i | (repeat (first | exact Ent.refl | exact Ent.left | refine Ent.cons ?_ | refine Ent.app ?_)))⟩
  · have hlt' : ¬ (i : Int) < l.length := by omega
    repeat' ((try (conv => whnf)); first | (refine when_ye ?_ ?_; exact rfl) | (refine when_ne ?_ ?_; exact rfl) | (refine br_te ?_ ?_; exact rfl) | (refine br_fe ?_ ?_; exact rfl) | (apply br_pyE; (exact rfl); omega) | (apply br_pnE; (exact rfl); omega) | (apply when_pyE; (exact rfl); omega) | (apply when_pnE; (exact rfl); omega) | (apply br_npyE; (exact rfl); omega) | (apply br_npnE; (exact rfl); omega) | (apply when_npyE; (exact rfl); omega) | (apply when_npnE; (exact rfl); omega) | (refine ari ?_ ?_; omega) | (refine aru ?_ ?_; omega) | (apply sel; exact rfl) | (refine ix0 rfl ?_) | (refine ix1 rfl ?_) | (refine ix2 rfl ?_) | (refine ix3 rfl ?_) | (apply ixj; omega) | (refine ixn ?_ ?_; omega) | (refine ixs0 rfl ?_) | (refine ixs1 rfl ?_) | (refine ixs_j ?_ ?_; omega) | (refine ixs_n ?_ ?_; omega) | (apply ld_o; exact rfl) | (apply ldN_a; exact rfl) | (apply ldN_o; (exact rfl); exact rfl) | (apply st_o; (exact rfl); exact rfl) | (apply stN_o; (exact rfl); (exact rfl); exact rfl) | (refine new_i (fun bk hbk => ?_)) | (apply when_dE; (exact rfl); (exact rfl); all_goals intro hc) | (apply when_dF; (exact rfl); (exact rfl); all_goals intro hc) | (apply when_nE; (exact rfl); (exact rfl); all_goals intro hc) | (apply when_nF; (exact rfl); (exact rfl); all_goals intro hc) | (apply br_dE; (exact rfl); all_goals intro hc) | (apply br_nE; (exact rfl); all_goals intro hc) | (refine mm_min ?_) | (refine mm_max ?_) | (refine rem_i ?_ ?_; omega) | (refine SelN.mk ?_) | (refine cut_n ?_) | (refine Both.mk ?_ ?_) | (exact True.intro))
    exact ⟨⟨t, by omega⟩, rfl, (by first | exact ent_i | (repeat (first | exact Ent.refl | exact Ent.left | refine Ent.cons ?_ | refine Ent.app ?_)))⟩
theorem sp_AsmTexts (hA : AsmAt W0) {a : Option Addr} {cap : Nat} {l : List Int} (hR : RdE encI 1 W0 own a l) (many : Int) : Pure Tryz.prog W0 8 [.slice a l.length cap, .int .i64 many] own (.bool true) := by
  refine pure_of (spec_of mixed low_law04_AsmTexts (by simp [ir_law04_AsmTexts]) ?_)
  have h9 := fun own => sp_awake4 (own := own) hA
  by_cases h2 : 40 < (l.length : Int)
  · repeat' ((try (conv => whnf)); first | (refine when_ye ?_ ?_; exact rfl) | (refine when_ne ?_ ?_; exact rfl) | (refine br_te ?_ ?_; exact rfl) | (refine br_fe ?_ ?_; exact rfl) | (apply br_pyE; (exact rfl); omega) | (apply br_pnE; (exact rfl); omega) | (apply when_pyE; (exact rfl); omega) | (apply when_pnE; (exact rfl); omega) | (apply br_npyE; (exact rfl); omega) | (apply br_npnE; (exact rfl); omega) | (apply when_npyE; (exact rfl); omega) | (apply when_npnE; (exact rfl); omega) | ((with_reducible show CallT _ _ _ _ _ _); first | ((refine call_pe (h9 _) ?_ ?_ ?_; (exact rfl); exact rfl))) | (refine ari ?_ ?_; omega) | (refine aru ?_ ?_; omega) | (apply sel; exact rfl) | (refine ix0 rfl ?_) | (refine ix1 rfl ?_) | (refine ix2 rfl ?_) | (refine ix3 rfl ?_) | (apply ixj; omega) | (refine ixn ?_ ?_; omega) | (refine ixs0 rfl ?_) | (refine ixs1 rfl ?_) | (refine ixs_j ?_ ?_; omega) | (refine ixs_n ?_ ?_; omega) | (apply ld_o; exact rfl) | (apply ldN_a; exact rfl) | (apply ldN_o; (exact rfl); exact rfl) | (apply st_o; (exact rfl); exact rfl) | (apply stN_o; (exact rfl); (exact rfl); exact rfl) | (refine new_i (fun bk hbk => ?_)) | (apply when_dE; (exact rfl); (exact rfl); all_goals intro hc) | (apply when_dF; (exact rfl); (exact rfl); all_goals intro hc) | (apply when_nE; (exact rfl); (exact rfl); all_goals intro hc) | (apply when_nF; (exact rfl); (exact rfl); all_goals intro hc) | (apply br_dE; (exact rfl); all_goals intro hc) | (apply br_nE; (exact rfl); all_goals intro hc) | (refine mm_min ?_) | (refine mm_max ?_) | (refine rem_i ?_ ?_; omega) | (refine SelN.mk ?_) | (refine cut_n ?_) | (refine Both.mk ?_ ?_) | (exact True.intro))
    exact ⟨rfl, (by first | exact ent_i | (repeat (first | exact Ent.refl | exact Ent.left | refine Ent.cons ?_ | refine Ent.app ?_)))⟩
  · have hT := sp_Text (cap := cap) hR (by omega)
    repeat' ((try (conv => whnf)); first | (refine when_ye ?_ ?_; exact rfl) | (refine when_ne ?_ ?_; exact rfl) | (refine br_te ?_ ?_; exact rfl) | (refine br_fe ?_ ?_; exact rfl) | (apply br_pyE; (exact rfl); omega) | (apply br_pnE; (exact rfl); omega) | (apply when_pyE; (exact rfl); omega) | (apply when_pnE; (exact rfl); omega) | (apply br_npyE; (exact rfl); omega) | (apply br_npnE; (exact rfl); omega) | (apply when_npyE; (exact rfl); omega) | (apply when_npnE; (exact rfl); omega) | ((with_reducible show CallT _ _ _ _ _ _); first | ((refine call_x (σ := { t : ByteArray // t.size ≤ 2000 }) (R := fun t v => v = .string t.1) (O := fun _ => own) hT ?_ ?_ (fun y v hv => ?_); (exact rfl); (exact rfl); (obtain ⟨t, ht⟩ := y; dsimp only at hv; subst hv; apply Stop.h)))) | (refine ari ?_ ?_; omega) | (refine aru ?_ ?_; omega) | (apply sel; exact rfl) | (refine ix0 rfl ?_) | (refine ix1 rfl ?_) | (refine ix2 rfl ?_) | (refine ix3 rfl ?_) | (apply ixj; omega) | (refine ixn ?_ ?_; omega) | (refine ixs0 rfl ?_) | (refine ixs1 rfl ?_) | (refine ixs_j ?_ ?_; omega) | (refine ixs_n ?_ ?_; omega) | (apply ld_o; exact rfl) | (apply ldN_a; exact rfl) | (apply ldN_o; (exact rfl); exact rfl) | (apply st_o; (exact rfl); exact rfl) | (apply stN_o; (exact rfl); (exact rfl); exact rfl) | (refine new_i (fun bk hbk => ?_)) | (apply when_dE; (exact rfl); (exact rfl); all_goals intro hc) | (apply when_dF; (exact rfl); (exact rfl); all_goals intro hc) | (apply when_nE; (exact rfl); (exact rfl); all_goals intro hc) | (apply when_nF; (exact rfl); (exact rfl); all_goals intro hc) | (apply br_dE; (exact rfl); all_goals intro hc) | (apply br_nE; (exact rfl); all_goals intro hc) | (refine mm_min ?_) | (refine mm_max ?_) | (refine rem_i ?_ ?_; omega) | (refine SelN.mk ?_) | (refine cut_n ?_) | (refine Both.mk ?_ ?_) | (exact True.intro))
    refine Stop.mk ?_
    have hp := fun own => sp_place W0 own many (n := 80) ⟨by omega, by omega⟩
    have hr := plc_rng many (n := 80) (by omega)
    obtain ⟨c, hc⟩ : ∃ c : Nat, plc many 80 = c := ⟨(plc many 80).toNat, by omega⟩
    rw [hc] at hp hr
    have h4 : (⟨#[110, 111, 112, 10]⟩ : ByteArray).size = 4 := rfl
    have hrp := fun own => sp_repeat (W0 := W0) (own := own) ⟨#[110, 111, 112, 10]⟩ c (by omega) (by rw [h4]; omega)
    have hrs : (bW (Go.Lib.repeatL (⟨#[110, 111, 112, 10]⟩ : ByteArray).data.toList c)).size = c * 4 := by rw [bW_size, Go.Lib.repeatL_length]; rfl
    generalize bW (Go.Lib.repeatL (⟨#[110, 111, 112, 10]⟩ : ByteArray).data.toList c) = rp at *
    obtain ⟨u, hu⟩ : ∃ u, t ++ rp = u := ⟨_, rfl⟩
    have hus : u.size ≤ 2320 := by rw [← hu, ByteArray.size_append]; omega
    have k1 := fun own => sp_Assemble (own := own) hA t (by omega)
    have k2 := fun own => sp_rAssemble (W0 := W0) (own := own) t (by omega)
    have k3 := fun own => sp_Assemble (own := own) hA u (by omega)
    have k4 := fun own => sp_rAssemble (W0 := W0) (own := own) u (by omega)
    have l1 := asm_len t
    have l2 := asm_len u
    generalize asmM t = q at *
    generalize asmM u = q2 at *
    obtain ⟨L, ln, e⟩ := q
    obtain ⟨L2, ln2, e2⟩ := q2
    repeat' ((try (conv => whnf)); first | (refine when_ye ?_ ?_; exact rfl) | (refine when_ne ?_ ?_; exact rfl) | (refine br_te ?_ ?_; exact rfl) | (refine br_fe ?_ ?_; exact rfl) | (apply br_pyE; (exact rfl); omega) | (apply br_pnE; (exact rfl); omega) | (apply when_pyE; (exact rfl); omega) | (apply when_pnE; (exact rfl); omega) | (apply br_npyE; (exact rfl); omega) | (apply br_npnE; (exact rfl); omega) | (apply when_npyE; (exact rfl); omega) | (apply when_npnE; (exact rfl); omega) | (refine sct_n _ hu ?_ ?_; (omega)) | ((with_reducible show CallT _ _ _ _ _ _); first | ((refine call_pe (h9 _) ?_ ?_ ?_; (exact rfl); exact rfl)) | ((refine call_pe (hp _) ?_ ?_ ?_; (exact rfl); exact rfl)) | ((refine call_pe (hrp _) ?_ ?_ ?_; (exact rfl); exact rfl)) | ((refine call_se (k1 _) ?_ ?_ (fun v own' hv => ?_); (exact rfl); (exact rfl); (obtain ⟨a1, c1, rfl, hR1, hE1⟩ := hv))) | ((refine call_se (k2 _) ?_ ?_ (fun v own' hv => ?_); (exact rfl); (exact rfl); (obtain ⟨a2, c2, rfl, hR2, hE2⟩ := hv))) | ((refine call_se (k3 _) ?_ ?_ (fun v own' hv => ?_); (exact rfl); (exact rfl); (obtain ⟨a3, c3, rfl, hR3, hE3⟩ := hv))) | ((refine call_se (k4 _) ?_ ?_ (fun v own' hv => ?_); (exact rfl); (exact rfl); (obtain ⟨a4, c4, rfl, hR4, hE4⟩ := hv))) | ((refine call_pe (sp_kprog (c1 := c1) (c2 := c2) (hR1.ent (hE4.trans (hE3.trans hE2))) (hR2.ent (hE4.trans hE3)) (by omega)) ?_ ?_ ?_; (exact rfl); exact rfl)) | ((refine call_pe (sp_kprog (c1 := c3) (c2 := c4) (hR3.ent hE4) hR4 (by omega)) ?_ ?_ ?_; (exact rfl); exact rfl))) | (refine ari ?_ ?_; omega) | (refine aru ?_ ?_; omega) | (apply sel; exact rfl) | (refine ix0 rfl ?_) | (refine ix1 rfl ?_) | (refine ix2 rfl ?_) | (refine ix3 rfl ?_) | (apply ixj; omega) | (refine ixn ?_ ?_; omega) | (refine ixs0 rfl ?_) | (refine ixs1 rfl ?_) | (refine ixs_j ?_ ?_; omega) | (refine ixs_n ?_ ?_; omega) | (apply ld_o; exact rfl) | (apply ldN_a; exact rfl) | (apply ldN_o; (exact rfl); exact rfl) | (apply st_o; (exact rfl); exact rfl) | (apply stN_o; (exact rfl); (exact rfl); exact rfl) | (refine new_i (fun bk hbk => ?_)) | (apply when_dE; (exact rfl); (exact rfl); all_goals intro hc) | (apply when_dF; (exact rfl); (exact rfl); all_goals intro hc) | (apply when_nE; (exact rfl); (exact rfl); all_goals intro hc) | (apply when_nF; (exact rfl); (exact rfl); all_goals intro hc) | (apply br_dE; (exact rfl); all_goals intro hc) | (apply br_nE; (exact rfl); all_goals intro hc) | (refine mm_min ?_) | (refine mm_max ?_) | (refine rem_i ?_ ?_; omega) | (refine SelN.mk ?_) | (refine cut_n ?_) | (refine Both.mk ?_ ?_) | (exact True.intro))
    exact ⟨rfl, hE4.trans (hE3.trans (hE2.trans hE1))⟩
theorem sp_AsmLimits (hA : AsmAt W0) (n : Int) : Pure Tryz.prog W0 9 [.int .i64 n] own (.bool true) := by
  refine pure_of (spec_of mixed low_law04_AsmLimits (by simp [ir_law04_AsmLimits]) ?_)
  have h9 := fun own => sp_awake4 (own := own) hA
  have hp := fun own => sp_place W0 own n (n := 3) ⟨by omega, by omega⟩
  have hr := plc_rng n (n := 3) (by omega)
  obtain ⟨c, hc⟩ : ∃ c : Nat, plc n 3 = c := ⟨(plc n 3).toNat, by omega⟩
  rw [hc] at hp hr
  have h1s : (⟨#[32]⟩ : ByteArray).size = 1 := rfl
  have h3s : (⟨#[110, 111, 112]⟩ : ByteArray).size = 3 := rfl
  have h4s : (⟨#[110, 111, 112, 10]⟩ : ByteArray).size = 4 := rfl
  have r1 := fun own => sp_repeat (W0 := W0) (own := own) ⟨#[32]⟩ (65535 + c) (by omega) (by rw [h1s]; omega)
  have r2 := fun own => sp_repeat (W0 := W0) (own := own) ⟨#[32]⟩ (197 + c) (by omega) (by rw [h1s]; omega)
  rw [show Go.Lib.repeatL (⟨#[32]⟩ : ByteArray).data.toList (65535 + c) = List.replicate (65535 + c) 32 from rep_one 32 _] at r1
  rw [show Go.Lib.repeatL (⟨#[32]⟩ : ByteArray).data.toList (197 + c) = List.replicate (197 + c) 32 from rep_one 32 _] at r2
  rw [show (((65535 + c : Nat)) : Int) = 65535 + (c : Int) by omega] at r1
  rw [show (((197 + c : Nat)) : Int) = 197 + (c : Int) by omega] at r2
  have hz1 : (bW (List.replicate (65535 + c) 32)).size = 65535 + c := by rw [bW_size, List.length_replicate]
  have hz2 : (bW (List.replicate (197 + c) 32)).size = 197 + c := by rw [bW_size, List.length_replicate]
  have ha1 : asmM (bW (List.replicate (65535 + c) 32)) = ([], 0, if c = 2 then 3 else 0) := by
    by_cases h2 : c = 2
    · rw [if_pos h2]
      unfold asmM
      rw [if_pos (by omega)]
    · rw [if_neg h2]
      exact asm_spaces (by omega) (by omega)
  have k1 := fun own => sp_Assemble (own := own) hA (bW (List.replicate (65535 + c) 32)) (by omega)
  rw [ha1] at k1
  generalize bW (List.replicate (65535 + c) 32) = s1 at *
  generalize bW (List.replicate (197 + c) 32) = s2 at *
  obtain ⟨u, hu⟩ : ∃ u, (⟨#[110, 111, 112]⟩ : ByteArray) ++ s2 = u := ⟨_, rfl⟩
  have hus : u.size = 3 + s2.size := by rw [← hu, ByteArray.size_append, h3s]
  obtain ⟨u2, hu2⟩ : ∃ u2, (⟨#[110, 111, 112, 10]⟩ : ByteArray) ++ u = u2 := ⟨_, rfl⟩
  have hus2 : u2.size = 4 + u.size := by rw [← hu2, ByteArray.size_append, h4s]
  have k3 := fun own => sp_Assemble (own := own) hA u2 (by omega)
  have k4 := fun own => sp_rAssemble (W0 := W0) (own := own) u2 (by omega)
  have l2 := asm_len u2
  generalize asmM u2 = q2 at *
  obtain ⟨L2, ln2, e2⟩ := q2
  by_cases h2 : c = 2
  · rw [if_pos h2] at k1
    have h2' : (c : Int) = 2 := by omega
    repeat' ((try (conv => whnf)); first | (refine when_ye ?_ ?_; exact rfl) | (refine when_ne ?_ ?_; exact rfl) | (refine br_te ?_ ?_; exact rfl) | (refine br_fe ?_ ?_; exact rfl) | (apply br_pyE; (exact rfl); omega) | (apply br_pnE; (exact rfl); omega) | (apply when_pyE; (exact rfl); omega) | (apply when_pnE; (exact rfl); omega) | (apply br_npyE; (exact rfl); omega) | (apply br_npnE; (exact rfl); omega) | (apply when_npyE; (exact rfl); omega) | (apply when_npnE; (exact rfl); omega) | (refine sct_n _ hu ?_ ?_; (omega)) | (refine sct_n _ hu2 ?_ ?_; (omega)) | ((with_reducible show CallT _ _ _ _ _ _); first | ((refine call_pe (h9 _) ?_ ?_ ?_; (exact rfl); exact rfl)) | ((refine call_pe (hp _) ?_ ?_ ?_; (exact rfl); exact rfl)) | ((refine call_pe (r1 _) ?_ ?_ ?_; (exact rfl); exact rfl)) | ((refine call_pe (r2 _) ?_ ?_ ?_; (exact rfl); exact rfl)) | ((refine call_se (k1 _) ?_ ?_ (fun v own' hv => ?_); (exact rfl); (exact rfl); (obtain ⟨a1, c1, rfl, hR1, hE1⟩ := hv))) | ((refine call_se (k3 _) ?_ ?_ (fun v own' hv => ?_); (exact rfl); (exact rfl); (obtain ⟨a3, c3, rfl, hR3, hE3⟩ := hv))) | ((refine call_se (k4 _) ?_ ?_ (fun v own' hv => ?_); (exact rfl); (exact rfl); (obtain ⟨a4, c4, rfl, hR4, hE4⟩ := hv))) | ((refine call_pe (sp_kprog (c1 := c3) (c2 := c4) (hR3.ent hE4) hR4 (by omega)) ?_ ?_ ?_; (exact rfl); exact rfl))) | (refine ari ?_ ?_; omega) | (refine aru ?_ ?_; omega) | (apply sel; exact rfl) | (refine ix0 rfl ?_) | (refine ix1 rfl ?_) | (refine ix2 rfl ?_) | (refine ix3 rfl ?_) | (apply ixj; omega) | (refine ixn ?_ ?_; omega) | (refine ixs0 rfl ?_) | (refine ixs1 rfl ?_) | (refine ixs_j ?_ ?_; omega) | (refine ixs_n ?_ ?_; omega) | (apply ld_o; exact rfl) | (apply ldN_a; exact rfl) | (apply ldN_o; (exact rfl); exact rfl) | (apply st_o; (exact rfl); exact rfl) | (apply stN_o; (exact rfl); (exact rfl); exact rfl) | (refine new_i (fun bk hbk => ?_)) | (apply when_dE; (exact rfl); (exact rfl); all_goals intro hc) | (apply when_dF; (exact rfl); (exact rfl); all_goals intro hc) | (apply when_nE; (exact rfl); (exact rfl); all_goals intro hc) | (apply when_nF; (exact rfl); (exact rfl); all_goals intro hc) | (apply br_dE; (exact rfl); all_goals intro hc) | (apply br_nE; (exact rfl); all_goals intro hc) | (refine mm_min ?_) | (refine mm_max ?_) | (refine rem_i ?_ ?_; omega) | (refine SelN.mk ?_) | (refine cut_n ?_) | (refine Both.mk ?_ ?_) | (exact True.intro))
    exact ⟨rfl, hE4.trans (hE3.trans hE1)⟩
  · rw [if_neg h2] at k1
    have h2' : ¬ (c : Int) = 2 := by omega
    repeat' ((try (conv => whnf)); first | (refine when_ye ?_ ?_; exact rfl) | (refine when_ne ?_ ?_; exact rfl) | (refine br_te ?_ ?_; exact rfl) | (refine br_fe ?_ ?_; exact rfl) | (apply br_pyE; (exact rfl); omega) | (apply br_pnE; (exact rfl); omega) | (apply when_pyE; (exact rfl); omega) | (apply when_pnE; (exact rfl); omega) | (apply br_npyE; (exact rfl); omega) | (apply br_npnE; (exact rfl); omega) | (apply when_npyE; (exact rfl); omega) | (apply when_npnE; (exact rfl); omega) | (refine sct_n _ hu ?_ ?_; (omega)) | (refine sct_n _ hu2 ?_ ?_; (omega)) | ((with_reducible show CallT _ _ _ _ _ _); first | ((refine call_pe (h9 _) ?_ ?_ ?_; (exact rfl); exact rfl)) | ((refine call_pe (hp _) ?_ ?_ ?_; (exact rfl); exact rfl)) | ((refine call_pe (r1 _) ?_ ?_ ?_; (exact rfl); exact rfl)) | ((refine call_pe (r2 _) ?_ ?_ ?_; (exact rfl); exact rfl)) | ((refine call_se (k1 _) ?_ ?_ (fun v own' hv => ?_); (exact rfl); (exact rfl); (obtain ⟨a1, c1, rfl, hR1, hE1⟩ := hv))) | ((refine call_se (k3 _) ?_ ?_ (fun v own' hv => ?_); (exact rfl); (exact rfl); (obtain ⟨a3, c3, rfl, hR3, hE3⟩ := hv))) | ((refine call_se (k4 _) ?_ ?_ (fun v own' hv => ?_); (exact rfl); (exact rfl); (obtain ⟨a4, c4, rfl, hR4, hE4⟩ := hv))) | ((refine call_pe (sp_kprog (c1 := c3) (c2 := c4) (hR3.ent hE4) hR4 (by omega)) ?_ ?_ ?_; (exact rfl); exact rfl))) | (refine ari ?_ ?_; omega) | (refine aru ?_ ?_; omega) | (apply sel; exact rfl) | (refine ix0 rfl ?_) | (refine ix1 rfl ?_) | (refine ix2 rfl ?_) | (refine ix3 rfl ?_) | (apply ixj; omega) | (refine ixn ?_ ?_; omega) | (refine ixs0 rfl ?_) | (refine ixs1 rfl ?_) | (refine ixs_j ?_ ?_; omega) | (refine ixs_n ?_ ?_; omega) | (apply ld_o; exact rfl) | (apply ldN_a; exact rfl) | (apply ldN_o; (exact rfl); exact rfl) | (apply st_o; (exact rfl); exact rfl) | (apply stN_o; (exact rfl); (exact rfl); exact rfl) | (refine new_i (fun bk hbk => ?_)) | (apply when_dE; (exact rfl); (exact rfl); all_goals intro hc) | (apply when_dF; (exact rfl); (exact rfl); all_goals intro hc) | (apply when_nE; (exact rfl); (exact rfl); all_goals intro hc) | (apply when_nF; (exact rfl); (exact rfl); all_goals intro hc) | (apply br_dE; (exact rfl); all_goals intro hc) | (apply br_nE; (exact rfl); all_goals intro hc) | (refine mm_min ?_) | (refine mm_max ?_) | (refine rem_i ?_ ?_; omega) | (refine SelN.mk ?_) | (refine cut_n ?_) | (refine Both.mk ?_ ?_) | (exact True.intro))
    exact ⟨rfl, hE4.trans (hE3.trans hE1)⟩
end
end Go.Proofs.YtiimndcifcoofaaGreatDoor
