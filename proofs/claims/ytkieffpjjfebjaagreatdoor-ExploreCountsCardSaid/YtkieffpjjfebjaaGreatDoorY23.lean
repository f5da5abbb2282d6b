/- What the laws share, part 23. No condition. -/
import Derived.Test.YtkieffpjjfebjaaGreatDoorY22
namespace Go.Proofs.YtkieffpjjfebjaaGreatDoor
open Go
set_option maxRecDepth 10000
set_option maxHeartbeats 8000000
abbrev encC (x : ChM) : List Value := [.int .i64 x.t, .int .i64 x.f, .slice none 0 0]
section
variable {W0 : World} {own : Own}
theorem sp_clone_Choice {a : Option Addr} {l : List ChM} {cap : Nat} (hR : RdE encC 3 W0 own a l) (hl : l.length ≤ 1000000000) :
    Spec Tryz.prog W0 29 [.slice a l.length cap] own fun v own' => ∃ s : Option Addr × Nat × Own, (v = .slice s.1 l.length s.2.1 ∧ BufE encC 79 3 s.1 s.2.1 l s.2.2) ∧ Ent W0 own' (s.2.2 ++ own) := by
  refine spec_of mixed low_slices_Clone_Choice (by simp [ir_slices_Clone_Choice]) ?_
  cases a with
  | none =>
    have hn : l = [] := by
      by_cases h : l = []
      · exact h
      · have := hR.isS h; cases this
    subst hn
    repeat' ((try (conv => whnf)); first | (refine br_te ?_ ?_; exact rfl))
    exact ⟨(none, 0, []), ⟨rfl, BufE.nil⟩, (by first | exact ent_i | (repeat (first | exact Ent.refl | exact Ent.left | refine Ent.cons ?_ | refine Ent.app ?_)))⟩
  | some a =>
    repeat' ((try (conv => whnf)); first | (refine br_fe ?_ ?_; exact rfl) | (refine app_c (enc := encC) (l := []) (l2 := l) BufE.nil (At.head (D := []) (r := _)) hR.up rfl rfl (by omega) (fun _ _ => rfl) (fun _ => by simp; omega) (fun a1 c1 D1 hB1 => ?_); (rw [List.length_nil, Nat.zero_add l.length]); (apply Stop.h)) | (refine new_i (fun bk hbk => ?_)))
    refine Stop.mk ?_
    rw [List.nil_append] at hB1
    skip
    exact ⟨(a1, c1, D1), ⟨rfl, hB1⟩, Ent.of_sub ((List.sublist_cons_self _ own).append_left D1)⟩
theorem sp_clone_Event {a : Option Addr} {l : List EH} {cap : Nat} (hR : RdE EH.enc 6 W0 own a l) (hl : l.length ≤ 1000000000) :
    Spec Tryz.prog W0 63 [.slice a l.length cap] own fun v own' => ∃ s : Option Addr × Nat × Own, (v = .slice s.1 l.length s.2.1 ∧ BufE EH.enc 116 6 s.1 s.2.1 l s.2.2) ∧ Ent W0 own' (s.2.2 ++ own) := by
  refine spec_of mixed low_slices_Clone_Event (by simp [ir_slices_Clone_Event]) ?_
  cases a with
  | none =>
    have hn : l = [] := by
      by_cases h : l = []
      · exact h
      · have := hR.isS h; cases this
    subst hn
    repeat' ((try (conv => whnf)); first | (refine br_te ?_ ?_; exact rfl))
    exact ⟨(none, 0, []), ⟨rfl, BufE.nil⟩, (by first | exact ent_i | (repeat (first | exact Ent.refl | exact Ent.left | refine Ent.cons ?_ | refine Ent.app ?_)))⟩
  | some a =>
    repeat' ((try (conv => whnf)); first | (refine br_fe ?_ ?_; exact rfl) | (refine app_c (enc := EH.enc) (l := []) (l2 := l) BufE.nil (At.head (D := []) (r := _)) hR.up rfl rfl (by omega) (fun _ _ => rfl) (fun _ => by simp; omega) (fun a1 c1 D1 hB1 => ?_); (rw [List.length_nil, Nat.zero_add l.length]); (apply Stop.h)) | (refine new_i (fun bk hbk => ?_)))
    refine Stop.mk ?_
    rw [List.nil_append] at hB1
    skip
    exact ⟨(a1, c1, D1), ⟨rfl, hB1⟩, Ent.of_sub ((List.sublist_cons_self _ own).append_left D1)⟩
theorem slA_0 {a : Option Addr} {n sz : Nat} : slA a n 0 sz = a := by
  unfold slA
  split
  · rfl
  · cases a with
    | none => rfl
    | some a => rw [Nat.zero_mul]; show some (a.add 0) = some a; simp [Addr.add]
theorem sls_c {a : Option Addr} {n c sz : Nat} {K : Value → Prop} (hc : n ≤ c) (h : K (.slice a n n)) : SlsT a n c sz none (some (n : Int)) (some (n : Int)) K :=
  ⟨0, n, n, rfl, rfl, rfl, Nat.zero_le _, fun _ => Nat.le_refl _, fun _ => hc, fun _ => rfl, by rw [slA_0]; exact h⟩
theorem sp_clip {a : Option Addr} {n c : Nat} (hc : n ≤ c) : Pure Tryz.prog W0 35 [.slice a n c] own (.slice a n n) := by
  refine pure_of (spec_of mixed low_slices_Clip_Choice (by simp [ir_slices_Clip_Choice]) ?_)
  repeat' ((try (conv => whnf)); first | (refine sls_c hc ?_))
  exact ⟨rfl, (by first | exact ent_i | (repeat (first | exact Ent.refl | exact Ent.left | refine Ent.cons ?_ | refine Ent.app ?_)))⟩
end
abbrev GP.A (g : GP) (c : Cfg) (np : Nat) (s : GS) : Own := (g.gb, fun o => o = Obj.cells (g.cells c np s).toArray 122 (0, 0)) :: (g.dD ++ ((g.mb, mapO (mpV g.ml)) :: (g.tD ++ (g.eD ++ (g.oD ++ ownS g.S)))))
section
variable {W0 : World} {Kp Y : Own} {g g' : GP} {c : Cfg} {ps : List PH} {s s' : GS}
theorem GP.back {np np' : Nat} {q : Own} (h : ∃ Z, g'.X = Z ++ g.X) : Ent W0 (g'.O c np' s' ++ (g.A c np s ++ q)) (g.O c np s ++ q) := by
  obtain ⟨Z, hZ⟩ := h
  have : ∀ X' : Own, X' = Z ++ g.X → Ent W0 (({ g' with X := X' } : GP).O c np' s' ++ (g.A c np s ++ q)) (g.O c np s ++ q) := fun X' hX => by
    subst hX
    refine ent_cnt (({ g' with X := [] } : GP).O c np' s' ++ Z) fun a => ?_
    simp only [GP.O, GP.A, GP.cells, cnt_app, cnt_cons, cnt_nil]
    omega
  exact this g'.X hZ
theorem ent_cl1 {e1 e2 m1 m2 : Nat × (Obj → Prop)} {dD tD eD oD S D1 D2 D3 D4 S' X q : Own} : Ent W0 (D4 ++ (S' ++ (D3 ++ (D2 ++ (D1 ++ (m1 :: (e1 :: ((e2 :: (dD ++ (m2 :: (tD ++ (eD ++ (oD ++ (S ++ X))))))) ++ q)))))))) ((e1 :: (D1 ++ (m1 :: (D2 ++ (D3 ++ (D4 ++ (S' ++ X))))))) ++ ((e2 :: (dD ++ (m2 :: (tD ++ (eD ++ (oD ++ S)))))) ++ q)) :=
  ent_cnt [] fun a => by simp only [cnt_app, cnt_cons, cnt_nil]; omega
theorem ent_cl2 {b1 : Nat × (Obj → Prop)} {D D4 S' R : Own} : Ent W0 (b1 :: (D4 ++ (S' ++ (D ++ R)))) (D4 ++ ((S' ++ D) ++ R)) := ent_cnt [b1] fun a => by simp only [cnt_app, cnt_cons, cnt_nil]; omega
theorem ent_cl3 {b1 : Nat × (Obj → Prop)} {D D4 S' R : Own} : Ent W0 (b1 :: (D ++ (D4 ++ (S' ++ R)))) (D4 ++ ((S' ++ D) ++ R)) := ent_cnt [b1] fun a => by simp only [cnt_app, cnt_cons, cnt_nil]; omega
theorem sp_gclone (h : g.ok W0 Kp ps s) (hv : g.ev W0 Y) (hz : SzG s) (q : Own) :
    Spec Tryz.prog W0 32 [.pointer (some ⟨g.gb, 0, none⟩)] (g.O c ps.length s ++ q) fun v own' => ∃ g' : GP,
      (v = .pointer (some ⟨g'.gb, 0, none⟩) ∧ g'.ok W0 Kp ps s ∧ g'.ev W0 g.X) ∧ Ent W0 own' (g'.O c ps.length s ++ (g.A c ps.length s ++ q)) := by
  have hEl : g.L.length = s.E.length := by rw [← h.em, List.length_map]
  have hSl : g.S.length = s.O.length := by rw [← h.ol, List.length_map]
  have hOR := h.o.rd (W0 := W0)
  have hd := hz.d
  have ht := hz.t
  have hE := hz.e
  have hO := hz.o
  refine spec_of mixed low_sgl_Global_Clone (by simp [ir_sgl_Global_Clone]) ?_
  have hcm := fun (own' : Own) [EntC own' g.dD] [MemC g.mb (mapO (mpV g.ml)) own'] => sp_mem_clone (own := own') (dc := g.dc) (mb := g.mb) (ml := g.ml) (RdE.up (h.d.rd (W0 := W0))) (by omega)
  have hct := fun (own' : Own) [EntC own' g.tD] => sp_clone_Thread (cap := g.tc) (RdE.up (own := own') (h.t.rd (W0 := W0))) (by omega)
  have hce := fun (own' : Own) [EntC own' g.eD] => sp_clone_Event (cap := g.ec) (RdE.up (own := own') (h.e.rd (W0 := W0))) (by omega)
  repeat' ((try (conv => whnf)); first | (refine new_i (fun b3 h3 => ?_)) | ((with_reducible show CallT _ _ _ _ _ _); first | ((refine call_x (hcm _) ?_ ?_ (fun y v hv => ?_); (exact rfl); (exact rfl); (obtain ⟨⟨a1, c1, D1⟩, mb1⟩ := y; obtain ⟨rfl, hB1⟩ := hv; dsimp only at hB1))) | ((refine call_x (hct _) ?_ ?_ (fun y v hv => ?_); (exact rfl); (exact rfl); (obtain ⟨a2, c2, D2⟩ := y; obtain ⟨rfl, hB2⟩ := hv; dsimp only at hB2))) | ((refine call_x (hce _) ?_ ?_ (fun y v hv => ?_); (exact rfl); (exact rfl); (obtain ⟨a3, c3, D3⟩ := y; obtain ⟨rfl, hB3⟩ := hv; dsimp only at hB3)))) | (apply ld_o; exact rfl) | (apply ldN_a; exact rfl) | (apply ldN_o; (exact rfl); exact rfl) | (apply st_o; (exact rfl); exact rfl) | (apply stN_o; (exact rfl); (exact rfl); exact rfl))
  refine loop_i (σ := Nat × List ObS × Option Addr × Nat × Own) (fun y => [(33, .int .i64 y.1)])
    (fun y => y.2.2.2.2 ++ (ownS y.2.1 ++ (D3 ++ (D2 ++ (D1 ++ ((mb1, mapO (mpV g.ml)) :: ((b3, fun o => o = Obj.cells (.slice a1 s.d.length c1 :: .map (some mb1) :: cfL c [.slice g.ka ps.length g.kc, .slice a2 s.T.length c2, .slice a3 g.L.length c3, .slice y.2.2.1 y.2.1.length y.2.2.2.1, .int .i64 s.n]).toArray 122 (0, 0)) :: (g.O c ps.length s ++ q))))))))
    (fun y => y.1 ≤ g.S.length ∧ y.2.1.map ObS.l = (g.S.take y.1).map ObS.l ∧ BufE ObS.enc 124 1 y.2.2.1 y.2.2.2.1 y.2.1 y.2.2.2.2 ∧ ∀ x ∈ y.2.1, BufE ObM.enc 127 3 x.a x.cap x.l x.D)
    (fun y => g.S.length - y.1) (0, [], none, 0, []) ⟨Nat.zero_le _, rfl, BufE.nil, fun _ h => by cases h⟩ (by repeat' (first | exact True.intro | refine And.intro ?_ ?_ | exact rfl | exact vi (by omega) | (dsimp only; exact rfl) | (dsimp only; exact vi (by omega)))) ?_ rfl ?_
  · exact Ent.refl
  · rintro ⟨j, S', oa, oc, oD⟩ junk ⟨hj, hmS, hBS, hSS⟩
    dsimp only at hj hmS hBS hSS ⊢
    have hllS := len_m hmS hj
    by_cases hjl : j < g.S.length
    · obtain ⟨x, hx⟩ : ∃ x, g.S[j]? = some x := ⟨_, List.getElem?_eq_getElem hjl⟩
      have hxm := List.mem_of_getElem? hx
      have hxB := (h.os x hxm).rd (W0 := W0)
      have hxl := hz.ol x.l (by rw [← h.ol]; exact List.mem_map_of_mem hxm)
      have hsp := ownS_split hx
      obtain ⟨xa, xc, xl, xD⟩ := x
      dsimp only at hxB hxl hsp
      have hco := fun (own' : Own) [EntC own' xD] => sp_clone_Obs (cap := xc) (RdE.up (own := own') hxB) (by omega)
      dsimp only [GP.O]
      rw [hsp]
      repeat' ((try (conv => whnf)); first | (apply br_pyE; (exact rfl); omega) | (apply app_i (enc := ObS.enc) (T := 124) ⟨a4, c4, xl, D4⟩ hBS; (exact rfl); (exact rfl); (omega); (exact rfl); (exact rfl); (omega); intro a9 c9 D5 hb1) | ((with_reducible show Ld _ _ _ _); first | (refine ldE0 hOR hx rfl ?_)) | ((with_reducible show IxS _ _ _ _ _); first | ((refine ixE hOR hx ?_ ?_; (first | rfl | omega)))) | ((with_reducible show CallT _ _ _ _ _ _); first | ((refine call_x (hco _) ?_ ?_ (fun y v hv => ?_); (exact rfl); (exact rfl); (obtain ⟨a4, c4, D4⟩ := y; obtain ⟨rfl, hB4⟩ := hv; dsimp only at hB4)))) | (refine ari ?_ ?_; omega) | (apply ld_o; exact rfl) | (apply st_o; (exact rfl); exact rfl) | (refine new_i (fun bk hbk => ?_)) | (refine Both.mk ?_ ?_))
      all_goals
        refine ⟨(j + 1, S' ++ [⟨a4, c4, xl, D4⟩], a9, c9, D5), ⟨hjl, take_m hmS hx rfl, hb1, fun e he => ?_⟩, (by show g.S.length - (j + 1) < g.S.length - j; omega), (by repeat' (first | exact True.intro | refine And.intro ?_ ?_ | exact rfl | exact vi (by omega) | (dsimp only; exact rfl) | (dsimp only; exact vi (by omega)))), ?_⟩
        · rcases List.mem_append.1 he with he | he
          · exact hSS e he
          · rw [List.mem_singleton.1 he]
            exact hB4
        · have hlen : (S' ++ [(⟨a4, c4, xl, D4⟩ : ObS)]).length = S'.length + 1 := by simp
          dsimp only
          rw [hlen, ownS_app]
          first | exact ent_cl2 | exact ent_cl3
    · have hjN : j = g.S.length := by omega
      subst hjN
      rw [List.take_length] at hmS
      repeat' ((try (conv => whnf)); first | (apply br_pnE; (exact rfl); omega))
      refine ⟨⟨b3, mb1, g.ml, a1, c1, D1, g.ka, g.kc, a2, c2, D2, a3, c3, D3, g.L, g.X, oa, oc, oD, S'⟩, ⟨rfl, ⟨hB1, h.m, h.k, h.kp, hB2, hB3, h.em, hBS, hSS, by rw [hmS, h.ol]⟩, hv.1, [], rfl⟩, ?_⟩
      dsimp only [GP.O, GP.A]
      exact ent_cl1
end
end Go.Proofs.YtkieffpjjfebjaaGreatDoor
namespace Go.Proofs.YtkieffpjjfebjaaGreatDoor
open Go
set_option maxRecDepth 10000
set_option maxHeartbeats 8000000
section
variable {P : Program} {W0 : World} {own own2 : Own} {k k0 : FuncId} {args args0 : List Value} {v : Value}
theorem call_pto {K : Value → Own → Prop} (h : Pure P W0 k0 args0 own2 v) (he : Ent W0 own own2) (ek : k = k0) (ea : args = args0) (hk : K v own2) : CallT P W0 own k args K := by
  subst ek; subst ea
  exact ⟨fun w hw => (h w (he w hw)).mono fun _ _ ⟨h1, h2⟩ => ⟨v, own2, h1, h2, hk⟩⟩
end
theorem sp_isLocal (W0 : World) (own : Own) (i : Ins) : Pure Tryz.prog W0 64 [i.v] own (.bool (isL i)) := by
  refine pure_of (spec_of mixed low_explore_isLocal (by simp [ir_explore_isLocal]) ?_)
  unfold isL
  obtain ⟨op, a, b, c, imm⟩ := i
  dsimp only [Ins.v]
  repeat' ((try (conv => whnf)); first | (apply br_pyE; (exact rfl); omega) | (apply ld_o; exact rfl) | (refine new_i (fun bk hbk => ?_)) | (apply br_dE; (exact rfl); all_goals intro hc))
  all_goals first | exact ⟨ret1 (vb (dt (by omega))), (by first | exact ent_i | (repeat (first | exact Ent.refl | exact Ent.left | refine Ent.cons ?_ | refine Ent.app ?_)))⟩ | exact ⟨ret1 (vb (df (by omega))), (by first | exact ent_i | (repeat (first | exact Ent.refl | exact Ent.left | refine Ent.cons ?_ | refine Ent.app ?_)))⟩
def nxV (o : Option Ins) : Ins := o.getD ⟨0, 0, 0, 0, 0⟩
section
variable {W0 : World} {Kp K Y : Own} {g : GP} {c : Cfg} {ps : List PH} {P : List (List Ins)} {s : GS}
theorem sp_nx (h : g.ok W0 Kp ps s) (hG : GOk c P s) (hP : ps.map PH.p = P) (t : Nat) (q : Own) [ek : EntC q Kp] :
    Pure Tryz.prog W0 31 [.pointer (some ⟨g.gb, 0, none⟩), .int .i64 t] (g.O c ps.length s ++ q) (.tuple #[(nxV (nxM P s t)).v, .bool (nxM P s t).isSome]) := by
  cases hn : nxM P s t with
  | none =>
    have hd := (nx_none hG).1 hn
    refine sp_next_n h ?_ q
    unfold dnB at hd
    by_cases ht : t < s.T.length
    · rw [List.getElem?_eq_getElem ht] at hd
      exact .inr (.inr ⟨t, s.T[t], rfl, List.getElem?_eq_getElem ht, hd⟩)
    · exact .inr (.inl (by omega))
  | some i =>
    obtain ⟨th, p, hth, hp, hdn, hx⟩ := nx_some hn
    subst hP
    rw [List.getElem?_map] at hp
    obtain ⟨ph, hph, rfl⟩ := Option.map_eq_some_iff.1 hp
    exact sp_next_y h hth hph hdn hx q
theorem ent_ad1 {b8 : Nat × (Obj → Prop)} {G D q : Own} : Ent W0 (b8 :: (G ++ (D ++ q))) (G ++ (D ++ (b8 :: q))) := ent_cnt [] fun a => by simp only [cnt_app, cnt_cons, cnt_nil]; omega
theorem ent_ad2 {b8 b10 : Nat × (Obj → Prop)} {G D q : Own} : Ent W0 (b10 :: (G ++ (D ++ (b8 :: q)))) (G ++ (b10 :: (D ++ (b8 :: q)))) := ent_cnt [] fun a => by simp only [cnt_app, cnt_cons, cnt_nil]; omega
theorem ent_ad3 {b l b8 b10 : Nat × (Obj → Prop)} {G D q : Own} : Ent W0 (b :: (l :: (G ++ (b10 :: (D ++ (b8 :: q)))))) (G ++ (b :: (D ++ q))) := ent_cnt [l, b10, b8] fun a => by simp only [cnt_app, cnt_cons, cnt_nil]; omega
theorem ent_ad4 {b : Nat × (Obj → Prop)} {G D q : Own} : Ent W0 (G ++ (b :: (D ++ q))) (G ++ (D ++ (b :: q))) := ent_cnt [] fun a => by simp only [cnt_app, cnt_cons, cnt_nil]; omega
theorem ent_ad5 {b8 : Nat × (Obj → Prop)} {G D q : Own} : Ent W0 (G ++ (D ++ (b8 :: q))) (G ++ (D ++ q)) := ent_cnt [b8] fun a => by simp only [cnt_app, cnt_cons, cnt_nil]; omega
theorem adv_step {t n : Nat} {l : List ChM} (h : locB P s t = true) : advM c P t (n + 1) s l = advM c P t n (doM c P s (ch0 t)).2 (l ++ [ch0 t]) := by
  rw [advM, if_pos h]
theorem adv_stop {t n : Nat} {l : List ChM} (h : locB P s t = false) : advM c P t n s l = (s, l) := by
  cases n with
  | zero => rfl
  | succ n => rw [advM, h]; rfl
theorem adv_len (t : Nat) : ∀ (n : Nat) (s : GS) (l : List ChM), (advM c P t n s l).2.length ≤ l.length + n
  | 0, _, _ => Nat.le_refl _
  | n + 1, s, l => by
    unfold advM
    split
    · have := adv_len t n (doM c P s (ch0 t)).2 (l ++ [ch0 t])
      rw [List.length_append, List.length_singleton] at this
      omega
    · show l.length ≤ _; omega
theorem sp_advance (hF : FormsAt W0) (h : g.ok W0 Kp ps s) (hv : g.ev W0 Y) (hG : GOk c P s) (hna : noAl P) (hP : ps.map PH.p = P) (hn : s.n + measM P s ≤ 5000) (t : Nat) {la : Option Addr} {l : List ChM} {lc : Nat} (hL : RdE encC 3 W0 K la l) (hll : l.length ≤ 100000) (q : Own) [ek : EntC q Kp] [ek2 : EntC q K] :
    Spec Tryz.prog W0 33 [.pointer (some ⟨g.gb, 0, none⟩), .int .i64 t, .slice la l.length lc] (g.O c ps.length s ++ q) fun v own' => ∃ y : GP × Option Addr × Nat × Own,
      (v = .slice y.2.1 (advM c P t 64 s l).2.length y.2.2.1 ∧ y.1.ok W0 Kp ps (advM c P t 64 s l).1 ∧ y.1.ev W0 Y ∧ y.1.gb = g.gb ∧ BufE encC 79 3 y.2.1 y.2.2.1 (advM c P t 64 s l).2 y.2.2.2) ∧ Ent W0 own' (y.1.O c ps.length (advM c P t 64 s l).1 ++ (y.2.2.2 ++ q)) := by
  refine spec_of mixed low_explore_advance (by simp [ir_explore_advance]) ?_
  have hcl := fun (own' : Own) [EntC own' K] => sp_clone_Choice (cap := lc) (hL.up (own := own')) (by omega)
  have hnx := fun (q : Own) [EntC q Kp] => sp_nx (c := c) h hG hP t q
  have hil := fun own' i => sp_isLocal W0 own' i
  have hr64 := rem_64 (t := t) hG
  repeat' ((try (conv => whnf)); first | (refine new_i (fun b8 hb8 => ?_)) | ((with_reducible show CallT _ _ _ _ _ _); first | ((refine call_x (hcl _) ?_ ?_ (fun y v hv => ?_); (exact rfl); (exact rfl); (obtain ⟨a1, c1, D1⟩ := y; obtain ⟨rfl, hB1⟩ := hv; dsimp only at hB1))) | ((refine call_pto (hnx (D1 ++ q)) ?_ ?_ ?_ ?_; (exact ent_cnt [] fun a => by simp only [cnt_app, cnt_nil]; omega); (exact rfl); (exact rfl)))) | (apply sel; exact rfl) | (apply stN_o; (exact rfl); (exact rfl); exact rfl))
  generalize hres : advM c P t 64 s l = res at *
  obtain ⟨rs, rl⟩ := res
  have hrl : rl.length ≤ l.length + 64 := by have := adv_len (c := c) (P := P) t 64 s l; rw [hres] at this; exact this
  refine loop_i (σ := Nat × GP × GS × List ChM × (Option Addr × Nat × Own) × Nat) (fun y => [(8, .pointer (some ⟨y.2.2.2.2.2, 0, none⟩)), (9, .bool (nxM P y.2.2.1 t).isSome), (7, .slice y.2.2.2.2.1.1 y.2.2.2.1.length y.2.2.2.2.1.2.1)])
    (fun y => y.2.1.O c ps.length y.2.2.1 ++ (y.2.2.2.2.1.2.2 ++ ((y.2.2.2.2.2, fun o => o = Obj.cells (nxV (nxM P y.2.2.1 t)).enc.toArray 69 (0, 0)) :: q)))
    (fun y => y.2.1.ok W0 Kp ps y.2.2.1 ∧ y.2.1.ev W0 Y ∧ y.2.1.gb = g.gb ∧ GOk c P y.2.2.1 ∧ y.2.2.1.n + measM P y.2.2.1 ≤ 5000 ∧ remM P y.2.2.1 t ≤ y.1 ∧ y.2.2.2.1.length + y.1 ≤ l.length + 64 ∧ advM c P t y.1 y.2.2.1 y.2.2.2.1 = (rs, rl) ∧ BufE encC 79 3 y.2.2.2.2.1.1 y.2.2.2.2.1.2.1 y.2.2.2.1 y.2.2.2.2.1.2.2)
    (fun y => remM P y.2.2.1 t) (64, g, s, l, (a1, c1, D1), b8) ⟨h, hv, rfl, hG, hn, hr64, Nat.le_refl _, hres, hB1⟩ (by repeat' (first | exact True.intro | refine And.intro ?_ ?_ | exact rfl | exact vi (by omega) | (dsimp only; exact rfl) | (dsimp only; exact vi (by omega)))) ?_ rfl ?_
  · exact ent_ad1
  · rintro ⟨k, g1, s1, l1, ⟨a2, c2, D2⟩, b9⟩ junk ⟨hok1, hev1, hgb1, hG1, hn1, hr1, hl1, hadv, hB2⟩
    dsimp only at hok1 hev1 hgb1 hG1 hn1 hr1 hl1 hadv hB2 ⊢
    cases hloc : locB P s1 t with
    | true =>
      obtain ⟨i, hi, hLi⟩ := loc_nx hloc
      obtain ⟨-, g1', g2', g3', g4', -⟩ : (doM c P s1 (ch0 t)).1 = 0 ∧ GOk c P (doM c P s1 (ch0 t)).2 ∧ (doM c P s1 (ch0 t)).2.n = s1.n + 1 ∧ remM P (doM c P s1 (ch0 t)).2 t < remM P s1 t ∧ (doM c P s1 (ch0 t)).2.n + measM P (doM c P s1 (ch0 t)).2 ≤ s1.n + measM P s1 ∧ measM P (doM c P s1 (ch0 t)).2 < measM P s1 := do_meas hG1 hna hi (.inl rfl)
      obtain ⟨k', rfl⟩ : ∃ k', k = k' + 1 := ⟨k - 1, by omega⟩
      rw [adv_step hloc] at hadv
      have hd1 := fun (Q : Own) [EntC Q Kp] => sp_doL (K := Kp) (c := c) hF hgb1 hok1 hev1 hG1 hP (by omega) t 0 (aa := none) (ad := []) (ac := 0) RdE.nil (Nat.le_refl _) (fun _ h => (by cases h)) Q
      have hd2 : ∀ g2 : GP, g2.ok W0 Kp ps (doM c P s1 (ch0 t)).2 → g2.gb = g.gb → ∀ (Q : Own) [EntC Q Kp], Pure Tryz.prog W0 31 [.pointer (some ⟨g.gb, 0, none⟩), .int .i64 t] (g2.O c ps.length (doM c P s1 (ch0 t)).2 ++ Q) (.tuple #[(nxV (nxM P (doM c P s1 (ch0 t)).2 t)).v, .bool (nxM P (doM c P s1 (ch0 t)).2 t).isSome]) := fun g2 h2 hgb Q _ => hgb ▸ sp_nx (c := c) h2 g1' hP t Q
      have hlen : (l1 ++ [ch0 t]).length = l1.length + 1 := by simp
      rw [hi]
      change ∀ (Q : Own) [EntC Q Kp], Spec _ _ _ _ _ (fun v own' => ∃ g' : GP, (v = .int .i64 (doM c P s1 (ch0 t)).1 ∧ g'.ok W0 Kp ps (doM c P s1 (ch0 t)).2 ∧ g'.ev W0 Y ∧ g'.gb = g.gb) ∧ Ent W0 own' (g'.O c ps.length (doM c P s1 (ch0 t)).2 ++ Q)) at hd1
      generalize doM c P s1 (ch0 t) = z at *
      obtain ⟨zc, s2⟩ := z
      dsimp only at g1' g2' g3' g4' hadv hd1 hd2
      have hiv : (nxV (some i)) = i := rfl
      rw [hiv]
      have hil1 := fun own' => hil own' i
      rw [hLi] at hil1
      repeat' ((try (conv => whnf)); first | (refine when_ye ?_ ?_; exact rfl) | (refine br_te ?_ ?_; exact rfl) | (refine new_i (fun b10 hb10 => ?_)) | (apply app_i (enc := encC) (T := 79) (ch0 t) hB2; (exact rfl); (exact rfl); (omega); (exact rfl); (exact rfl); (omega); intro a3 c3 D3 hb3) | ((with_reducible show CallT _ _ _ _ _ _); first | ((refine call_pe (hil1 _) ?_ ?_ ?_; (exact rfl); exact rfl)) | ((refine call_to (hd1 _) ent_ad2 ?_ ?_ (fun g2 v hv => ?_); (exact rfl); (exact rfl); (obtain ⟨rfl, hok2, hev2, hgb2⟩ := hv))) | ((refine call_pto (hd2 g2 hok2 hgb2 _) ent_ad3 ?_ ?_ ?_; (exact rfl); (exact rfl)))) | (apply sel; exact rfl) | (apply ldN_a; exact rfl) | (apply stN_o; (exact rfl); (exact rfl); exact rfl))
      all_goals exact ⟨(k', g2, s2, l1 ++ [ch0 t], (a3, c3, D3), b10), ⟨hok2, hev2, hgb2, g1', by show s2.n + measM P s2 ≤ 5000; omega, by show remM P s2 t ≤ k'; omega, by show (l1 ++ [ch0 t]).length + k' ≤ l.length + 64; rw [hlen]; omega, hadv, hb3⟩, g3', by rw [hlen]; exact (by repeat' (first | exact True.intro | refine And.intro ?_ ?_ | exact rfl | exact vi (by omega) | (dsimp only; exact rfl) | (dsimp only; exact vi (by omega)))), ent_ad4⟩
    | false =>
      rw [adv_stop hloc] at hadv
      simp only [Prod.mk.injEq] at hadv
      obtain ⟨rfl, rfl⟩ := hadv
      cases hnn : nxM P s1 t with
      | none =>
        repeat' ((try (conv => whnf)); first | (refine when_ne ?_ ?_; exact rfl) | (refine br_fe ?_ ?_; exact rfl))
        all_goals exact ⟨(g1, a2, c2, D2), ⟨rfl, hok1, hev1, hgb1, hB2⟩, ent_ad5⟩
      | some i =>
        have hLi : isL i = false := by unfold locB at hloc; rw [hnn] at hloc; exact hloc
        have hiv : (nxV (some i)) = i := rfl
        rw [hiv]
        have hil1 := fun own' => hil own' i
        rw [hLi] at hil1
        repeat' ((try (conv => whnf)); first | (refine when_ye ?_ ?_; exact rfl) | (refine br_fe ?_ ?_; exact rfl) | ((with_reducible show CallT _ _ _ _ _ _); first | ((refine call_pe (hil1 _) ?_ ?_ ?_; (exact rfl); exact rfl))) | (apply ldN_a; exact rfl))
        all_goals exact ⟨(g1, a2, c2, D2), ⟨rfl, hok1, hev1, hgb1, hB2⟩, ent_ad5⟩
end
end Go.Proofs.YtkieffpjjfebjaaGreatDoor
namespace Go.Proofs.YtkieffpjjfebjaaGreatDoor
open Go
set_option maxRecDepth 10000
set_option maxHeartbeats 8000000
def ifxG {α : Type} (p : α → Bool) (l : List α) : Int := match l.findIdx? p with
  | some i => i
  | none => -1
theorem ifxG_any {α : Type} (p : α → Bool) (l : List α) : decide (ifxG p l ≥ 0) = l.any p := by
  unfold ifxG
  cases h : l.findIdx? p with
  | none =>
    have := List.findIdx?_eq_none_iff.1 h
    rw [show l.any p = false from List.any_eq_false.2 fun x hx => by simpa using this x hx]
    decide
  | some i =>
    obtain ⟨hi, hp, -⟩ := List.findIdx?_eq_some_iff_getElem.1 h
    rw [show l.any p = true from List.any_eq_true.2 ⟨_, List.getElem_mem hi, hp⟩]
    show decide (((i : Nat) : Int) ≥ 0) = true
    exact decide_eq_true (by omega)
section
variable {W0 : World} {own : Own} {a : Option Addr} {cap : Nat}
theorem sp_indexf_Instr {g : FuncId} {p : Ins → Bool} {l : List Ins} (hg : okF Tryz.prog g = true) (hR : RdE Ins.enc 5 W0 own a l) (hl : l.length ≤ 9223372036854775807) (hp : ∀ x ∈ l, Pure Tryz.prog W0 g [x.v] own (.bool (p x))) :
    Pure Tryz.prog W0 113 [.slice a l.length cap, .func (.func g) #[] #[]] own (.int .i64 (ifxG p l)) := by
  refine pure_of (spec_of mixed low_slices_IndexFunc_Instr (by simp [ir_slices_IndexFunc_Instr]) ?_)
  skip
  refine loop_c (σ := Nat) (fun i => [(8, .int .i64 i)]) (fun i => i ≤ l.length ∧ ∀ j x, j < i → l[j]? = some x → p x = false) (fun i => l.length - i) 0 ⟨by omega, fun j x h => by omega⟩ (by repeat' (first | exact True.intro | refine And.intro ?_ ?_ | exact rfl | exact vi (by omega) | (dsimp only; exact rfl) | (dsimp only; exact vi (by omega)))) rfl ?_
  rintro i junk ⟨hi, hI⟩
  by_cases hlt : i < l.length
  · obtain ⟨x, hx⟩ : ∃ x, l[i]? = some x := ⟨_, List.getElem?_eq_getElem hlt⟩
    have hlt' : (i : Int) < l.length := by omega
    have hpx := hp x (List.mem_of_getElem? hx)
    cases hb : p x with
    | true =>
      rw [hb] at hpx
      repeat' ((try (conv => whnf)); first | (refine br_te ?_ ?_; exact rfl) | (apply br_pyE; (exact rfl); omega) | (refine ⟨hg, call_p hpx ?_⟩) | ((with_reducible show IxS _ _ _ _ _); first | ((refine ixE hR hx ?_ ?_; (first | rfl | omega)))) | ((with_reducible show LdN _ _ _ _ _); first | (refine ldNEi hR hx rfl ?_)))
      refine ⟨ret1 (vi ?_), (by first | exact ent_i | (repeat (first | exact Ent.refl | exact Ent.left | refine Ent.cons ?_ | refine Ent.app ?_)))⟩
      have : l.findIdx? p = some i := by
        rw [List.findIdx?_eq_some_iff_getElem]
        have hx2 := (List.getElem?_eq_some_iff.1 hx).2
        refine ⟨hlt, by rw [hx2]; exact hb, fun j hj => ?_⟩
        have := hI j (l[j]'(by omega)) hj (List.getElem?_eq_getElem (by omega))
        simp [this]
      unfold ifxG; rw [this]
    | false =>
      rw [hb] at hpx
      repeat' ((try (conv => whnf)); first | (refine br_fe ?_ ?_; exact rfl) | (apply br_pyE; (exact rfl); omega) | (refine ⟨hg, call_p hpx ?_⟩) | ((with_reducible show IxS _ _ _ _ _); first | ((refine ixE hR hx ?_ ?_; (first | rfl | omega)))) | ((with_reducible show LdN _ _ _ _ _); first | (refine ldNEi hR hx rfl ?_)) | (refine ari ?_ ?_; omega))
      refine ⟨i + 1, ⟨by omega, fun j y hj hy => ?_⟩, by omega, (by repeat' (first | exact True.intro | refine And.intro ?_ ?_ | exact rfl | exact vi (by omega) | (dsimp only; exact rfl) | (dsimp only; exact vi (by omega)))), (by first | exact ent_i | (repeat (first | exact Ent.refl | exact Ent.left | refine Ent.cons ?_ | refine Ent.app ?_)))⟩
      by_cases hji : j = i
      · subst hji
        rw [hx] at hy
        obtain rfl := Option.some.inj hy
        exact hb
      · exact hI j y (by omega) hy
  · have hlt' : ¬ (i : Int) < l.length := by omega
    repeat' ((try (conv => whnf)); first | (apply br_pnE; (exact rfl); omega))
    refine ⟨ret1 (vi ?_), (by first | exact ent_i | (repeat (first | exact Ent.refl | exact Ent.left | refine Ent.cons ?_ | refine Ent.app ?_)))⟩
    have : l.findIdx? p = none := by
      rw [List.findIdx?_eq_none_iff]
      intro x hx
      obtain ⟨j, hj⟩ := List.getElem?_of_mem hx
      exact hI j x (by have := (List.getElem?_eq_some_iff.1 hj).1; omega) hj
    unfold ifxG; rw [this]
theorem sp_containsf_Instr {g : FuncId} {p : Ins → Bool} {l : List Ins} (hg : okF Tryz.prog g = true) (hR : RdE Ins.enc 5 W0 own a l) (hl : l.length ≤ 9223372036854775807) (hp : ∀ x ∈ l, Pure Tryz.prog W0 g [x.v] own (.bool (p x))) :
    Pure Tryz.prog W0 82 [.slice a l.length cap, .func (.func g) #[] #[]] own (.bool (l.any p)) := by
  refine pure_of (spec_of mixed low_slices_ContainsFunc_Instr (by simp [ir_slices_ContainsFunc_Instr]) ?_)
  have h := sp_indexf_Instr (cap := cap) hg hR hl hp
  have e := ifxG_any p l
  generalize ifxG p l = z at *
  repeat' ((try (conv => whnf)); first | ((with_reducible show CallT _ _ _ _ _ _); first | ((refine call_pe (h) ?_ ?_ ?_; (exact rfl); exact rfl))))
  all_goals exact ⟨ret1 (vb e), (by first | exact ent_i | (repeat (first | exact Ent.refl | exact Ent.left | refine Ent.cons ?_ | refine Ent.app ?_)))⟩
theorem sp_indexf_Instr_of {g : FuncId} {p : PH → Bool} {l : List PH} (hg : okF Tryz.prog g = true) (hR : RdE PH.enc 1 W0 own a l) (hl : l.length ≤ 9223372036854775807) (hp : ∀ x ∈ l, Pure Tryz.prog W0 g [.slice x.a x.p.length x.cap] own (.bool (p x))) :
    Pure Tryz.prog W0 81 [.slice a l.length cap, .func (.func g) #[] #[]] own (.int .i64 (ifxG p l)) := by
  refine pure_of (spec_of mixed low_slices_IndexFunc_Instr_of (by simp [ir_slices_IndexFunc_Instr_of]) ?_)
  skip
  refine loop_c (σ := Nat) (fun i => [(8, .int .i64 i)]) (fun i => i ≤ l.length ∧ ∀ j x, j < i → l[j]? = some x → p x = false) (fun i => l.length - i) 0 ⟨by omega, fun j x h => by omega⟩ (by repeat' (first | exact True.intro | refine And.intro ?_ ?_ | exact rfl | exact vi (by omega) | (dsimp only; exact rfl) | (dsimp only; exact vi (by omega)))) rfl ?_
  rintro i junk ⟨hi, hI⟩
  by_cases hlt : i < l.length
  · obtain ⟨x, hx⟩ : ∃ x, l[i]? = some x := ⟨_, List.getElem?_eq_getElem hlt⟩
    have hlt' : (i : Int) < l.length := by omega
    have hpx := hp x (List.mem_of_getElem? hx)
    cases hb : p x with
    | true =>
      rw [hb] at hpx
      repeat' ((try (conv => whnf)); first | (refine br_te ?_ ?_; exact rfl) | (apply br_pyE; (exact rfl); omega) | (refine ⟨hg, call_p hpx ?_⟩) | ((with_reducible show Ld _ _ _ _); first | (refine ldE0 hR hx rfl ?_)) | ((with_reducible show IxS _ _ _ _ _); first | ((refine ixE hR hx ?_ ?_; (first | rfl | omega)))))
      refine ⟨ret1 (vi ?_), (by first | exact ent_i | (repeat (first | exact Ent.refl | exact Ent.left | refine Ent.cons ?_ | refine Ent.app ?_)))⟩
      have : l.findIdx? p = some i := by
        rw [List.findIdx?_eq_some_iff_getElem]
        have hx2 := (List.getElem?_eq_some_iff.1 hx).2
        refine ⟨hlt, by rw [hx2]; exact hb, fun j hj => ?_⟩
        have := hI j (l[j]'(by omega)) hj (List.getElem?_eq_getElem (by omega))
        simp [this]
      unfold ifxG; rw [this]
    | false =>
      rw [hb] at hpx
      repeat' ((try (conv => whnf)); first | (refine br_fe ?_ ?_; exact rfl) | (apply br_pyE; (exact rfl); omega) | (refine ⟨hg, call_p hpx ?_⟩) | ((with_reducible show Ld _ _ _ _); first | (refine ldE0 hR hx rfl ?_)) | ((with_reducible show IxS _ _ _ _ _); first | ((refine ixE hR hx ?_ ?_; (first | rfl | omega)))) | (refine ari ?_ ?_; omega))
      refine ⟨i + 1, ⟨by omega, fun j y hj hy => ?_⟩, by omega, (by repeat' (first | exact True.intro | refine And.intro ?_ ?_ | exact rfl | exact vi (by omega) | (dsimp only; exact rfl) | (dsimp only; exact vi (by omega)))), (by first | exact ent_i | (repeat (first | exact Ent.refl | exact Ent.left | refine Ent.cons ?_ | refine Ent.app ?_)))⟩
      by_cases hji : j = i
      · subst hji
        rw [hx] at hy
        obtain rfl := Option.some.inj hy
        exact hb
      · exact hI j y (by omega) hy
  · have hlt' : ¬ (i : Int) < l.length := by omega
    repeat' ((try (conv => whnf)); first | (apply br_pnE; (exact rfl); omega))
    refine ⟨ret1 (vi ?_), (by first | exact ent_i | (repeat (first | exact Ent.refl | exact Ent.left | refine Ent.cons ?_ | refine Ent.app ?_)))⟩
    have : l.findIdx? p = none := by
      rw [List.findIdx?_eq_none_iff]
      intro x hx
      obtain ⟨j, hj⟩ := List.getElem?_of_mem hx
      exact hI j x (by have := (List.getElem?_eq_some_iff.1 hj).1; omega) hj
    unfold ifxG; rw [this]
theorem sp_containsf_Instr_of {g : FuncId} {p : PH → Bool} {l : List PH} (hg : okF Tryz.prog g = true) (hR : RdE PH.enc 1 W0 own a l) (hl : l.length ≤ 9223372036854775807) (hp : ∀ x ∈ l, Pure Tryz.prog W0 g [.slice x.a x.p.length x.cap] own (.bool (p x))) :
    Pure Tryz.prog W0 53 [.slice a l.length cap, .func (.func g) #[] #[]] own (.bool (l.any p)) := by
  refine pure_of (spec_of mixed low_slices_ContainsFunc_Instr_of (by simp [ir_slices_ContainsFunc_Instr_of]) ?_)
  have h := sp_indexf_Instr_of (cap := cap) hg hR hl hp
  have e := ifxG_any p l
  generalize ifxG p l = z at *
  repeat' ((try (conv => whnf)); first | ((with_reducible show CallT _ _ _ _ _ _); first | ((refine call_pe (h) ?_ ?_ ?_; (exact rfl); exact rfl))))
  all_goals exact ⟨ret1 (vb e), (by first | exact ent_i | (repeat (first | exact Ent.refl | exact Ent.left | refine Ent.cons ?_ | refine Ent.app ?_)))⟩
def alI (x : Ins) : Bool := decide (x.op = 14) || decide (x.op = 15)
def alQ (ps : List PH) : Bool := ps.any fun h => h.p.any alI
theorem al_no {ps : List PH} (h : alQ ps = false) : noAl (ps.map PH.p) := by
  intro p hp x hx
  obtain ⟨y, hy, rfl⟩ := List.mem_map.1 hp
  have h1 := List.any_eq_false.1 h y hy
  have h2 := List.any_eq_false.1 (by simpa using h1) x hx
  unfold alI at h2
  simp only [Bool.or_eq_true, decide_eq_true_eq, not_or] at h2
  exact h2
theorem sp_alI (W0 : World) (own : Own) (x : Ins) : Pure Tryz.prog W0 83 [x.v] own (.bool (alI x)) := by
  refine pure_of (spec_of mixed low_explore_allocates_1 (by simp [ir_explore_allocates_1]) ?_)
  unfold alI
  obtain ⟨op, a, b, c, imm⟩ := x
  dsimp only [Ins.v]
  by_cases h1 : op = 14
  · rw [decide_eq_true h1, Bool.true_or]
    repeat' ((try (conv => whnf)); first | (refine when_ne ?_ ?_; exact rfl) | (apply when_pyE; (exact rfl); omega) | (apply ld_o; exact rfl) | (refine new_i (fun bk hbk => ?_)))
    all_goals exact ⟨ret1 rfl, (by first | exact ent_i | (repeat (first | exact Ent.refl | exact Ent.left | refine Ent.cons ?_ | refine Ent.app ?_)))⟩
  · rw [decide_eq_false h1, Bool.false_or]
    repeat' ((try (conv => whnf)); first | (refine when_ye ?_ ?_; exact rfl) | (apply when_pnE; (exact rfl); omega) | (apply ld_o; exact rfl) | (refine new_i (fun bk hbk => ?_)))
    all_goals exact ⟨ret1 rfl, (by first | exact ent_i | (repeat (first | exact Ent.refl | exact Ent.left | refine Ent.cons ?_ | refine Ent.app ?_)))⟩
theorem ok_alI : okF Tryz.prog 83 = true := by kernel_rfl
theorem ok_alP : okF Tryz.prog 54 = true := by kernel_rfl
theorem sp_alP {l : List Ins} (hR : RdE Ins.enc 5 W0 own a l) (hl : l.length ≤ 9223372036854775807) : Pure Tryz.prog W0 54 [.slice a l.length cap] own (.bool (l.any alI)) := by
  refine pure_of (spec_of mixed low_explore_allocates (by simp [ir_explore_allocates]) ?_)
  have h := sp_containsf_Instr (cap := cap) ok_alI hR hl fun x _ => sp_alI W0 own x
  generalize l.any alI = z at *
  repeat' ((try (conv => whnf)); first | ((with_reducible show CallT _ _ _ _ _ _); first | ((refine call_pe (h) ?_ ?_ ?_; (exact rfl); exact rfl))))
  all_goals exact ⟨rfl, (by first | exact ent_i | (repeat (first | exact Ent.refl | exact Ent.left | refine Ent.cons ?_ | refine Ent.app ?_)))⟩
theorem sp_alPs {ps : List PH} (hR : RdE PH.enc 1 W0 own a ps) (hl : ps.length ≤ 9223372036854775807) (hQ : ∀ h ∈ ps, RdE Ins.enc 5 W0 own h.a h.p ∧ h.p.length ≤ 9223372036854775807) :
    Pure Tryz.prog W0 53 [.slice a ps.length cap, .func (.func 54) #[] #[]] own (.bool (alQ ps)) :=
  sp_containsf_Instr_of ok_alP hR hl fun x hx => sp_alP (hQ x hx).1 (hQ x hx).2
end
def foB (fo : List Int) : Bool := fo.all fun k => decide (3 ≤ k ∧ k ≤ 6)
def argM (c : Cfg) (il : Nat) (ps : List PH) (fo : List Int) (lim : Int) : Int :=
  if (csM c il ps []).2.2 ≠ 0 then (csM c il ps []).2.2 else if c.strong = true ∨ alQ ps = true then 1 else if lim < 1 ∨ 100000 < lim ∨ (4 : Int) < fo.length then 2 else if foB fo then 0 else 2
section
variable {W0 : World} {own : Own} {c : Cfg} {ia pa ka : Option Addr} {ic pc kc : Nat} {ps : List PH} {il ks : List Int} {fa : Option Addr} {fc : Nat} {fo : List Int}
theorem fo_take {i : Nat} {x : Int} (hx : fo[i]? = some x) (h : foB (fo.take i) = true) (hk : 3 ≤ x ∧ x ≤ 6) : foB (fo.take (i + 1)) = true := by
  unfold foB at *
  rw [List.take_add_one, hx, List.all_append, h]
  simp [hk]
theorem fo_not {i : Nat} {x : Int} (hx : fo[i]? = some x) (hk : ¬ (3 ≤ x ∧ x ≤ 6)) : foB fo = false := by
  unfold foB
  rw [List.all_eq_false]
  exact ⟨x, List.mem_of_getElem? hx, by simpa using hk⟩
theorem sp_echeck (hF : FormsAt W0) (hI : RdE encU 1 W0 own ia il) (hil : il.length ≤ 500000) (hP : RdE PH.enc 1 W0 own pa ps) (hpl : ps.length ≤ 1000000) (hQ : ∀ h ∈ ps, RdE Ins.enc 5 W0 own h.a h.p) (hfo : RdE encI 1 W0 own fa fo) (lim : Int) :
    Spec Tryz.prog W0 25 [scrV c ia il.length ic pa ps.length pc ka ks.length kc, .slice fa fo.length fc, .int .i64 lim] own fun v own' => v = .int .i64 (argM c il.length ps fo lim) ∧ Ent W0 own' own := by
  refine spec_of mixed low_explore_check (by simp [ir_explore_check]) ?_
  have hnw := fun (own' : Own) [EntC own' own] => sp_new (own := own') (c := c) (ic := ic) (pc := pc) (ka := ka) (ks := ks) (kc := kc) hF hI.up (by omega) hP.up (fun h hh => (hQ h hh).up)
  repeat' ((try (conv => whnf)); first | (refine new_i (fun b3 h3 => ?_); (apply Stop.h)))
  refine Stop.mk ?_
  repeat' ((try (conv => whnf)); first | ((with_reducible show CallT _ _ _ _ _ _); first | ((refine call_or (hnw _) Ent.refl ?_ ?_ (fun v hv => ?_) (fun y v hv => ?_); (exact rfl); (exact rfl); all_goals (apply Stop.h)))) | (apply ldN_a; exact rfl))
  · obtain ⟨rfl, he⟩ := hv
    unfold argM
    rw [if_pos he]
    refine Stop.mk ?_
    repeat' ((try (conv => whnf)); first | (apply br_pyE; (exact rfl); omega) | (apply sel; exact rfl))
    all_goals exact ⟨rfl, (by first | exact ent_i | (repeat (first | exact Ent.refl | exact Ent.left | refine Ent.cons ?_ | refine Ent.app ?_)))⟩
  · obtain ⟨g, ys, kD⟩ := y
    obtain ⟨rfl, h0, -⟩ := hv
    obtain ⟨-, hc0, hpl2, hiw, hck⟩ := csM_0 (by rw [h0] : (csM c il.length ps []).2.2 = 0)
    unfold argM
    rw [h0, if_neg (by simp)]
    have hal := fun (own' : Own) [EntC own' own] => sp_alPs (own := own') (cap := pc) hP.up (by omega) (fun h hh => ⟨(hQ h hh).up, by have := ck_len (hck h hh); omega⟩)
    generalize alQ ps = z at *
    generalize g.O c (ys.map PB.h).length (newM c il (ps.map PH.p)) = G
    generalize kD ++ ownL ys = KD
    clear hnw
    obtain ⟨q0, q1, q2, q3, q4, q5, q6, q7, q8, q9, q10, q11, st⟩ := c
    dsimp only at *
    refine Stop.mk ?_
    by_cases h1 : st = true ∨ z = true
    · rw [if_pos h1]
      cases st with
      | true =>
        repeat' ((try (conv => whnf)); first | (refine when_ne ?_ ?_; exact rfl) | (refine br_te ?_ ?_; exact rfl) | (refine br_fe ?_ ?_; exact rfl) | (apply sel; exact rfl) | (apply ld_o; exact rfl))
        all_goals exact ⟨rfl, (by first | exact ent_i | (repeat (first | exact Ent.refl | exact Ent.left | refine Ent.cons ?_ | refine Ent.app ?_)))⟩
      | false =>
        have hz : z = true := by rcases h1 with h1 | h1; (cases h1); exact h1
        subst hz
        repeat' ((try (conv => whnf)); first | (refine when_ye ?_ ?_; exact rfl) | (refine br_te ?_ ?_; exact rfl) | (refine br_fe ?_ ?_; exact rfl) | ((with_reducible show CallT _ _ _ _ _ _); first | ((refine call_pe (hal _) ?_ ?_ ?_; (exact rfl); exact rfl))) | (apply sel; exact rfl) | (apply ld_o; exact rfl))
        all_goals exact ⟨rfl, (by first | exact ent_i | (repeat (first | exact Ent.refl | exact Ent.left | refine Ent.cons ?_ | refine Ent.app ?_)))⟩
    · rw [if_neg h1]
      obtain rfl : st = false := by simpa using fun h => h1 (.inl h)
      obtain rfl : z = false := by simpa using fun h => h1 (.inr h)
      by_cases h2 : lim < 1 ∨ 100000 < lim ∨ (4 : Int) < fo.length
      · rw [if_pos h2]
        repeat' ((try (conv => whnf)); first | (refine when_ye ?_ ?_; exact rfl) | (refine when_ne ?_ ?_; exact rfl) | (refine br_te ?_ ?_; exact rfl) | (refine br_fe ?_ ?_; exact rfl) | (apply br_pyE; (exact rfl); omega) | ((with_reducible show CallT _ _ _ _ _ _); first | ((refine call_pe (hal _) ?_ ?_ ?_; (exact rfl); exact rfl))) | (apply sel; exact rfl) | (apply ld_o; exact rfl) | (apply when_dF; (exact rfl); (exact rfl); all_goals intro hc))
        all_goals exact ⟨rfl, (by first | exact ent_i | (repeat (first | exact Ent.refl | exact Ent.left | refine Ent.cons ?_ | refine Ent.app ?_)))⟩
      · rw [if_neg h2]
        have h2' : (fo.length : Int) ≤ 4 := by omega
        repeat' ((try (conv => whnf)); first | (refine when_ye ?_ ?_; exact rfl) | (refine br_fe ?_ ?_; exact rfl) | (apply br_pnE; (exact rfl); omega) | (apply when_pnE; (exact rfl); omega) | ((with_reducible show CallT _ _ _ _ _ _); first | ((refine call_pe (hal _) ?_ ?_ ?_; (exact rfl); exact rfl))) | (apply sel; exact rfl) | (apply ld_o; exact rfl))
        refine loop_i (σ := Nat) (fun i => [(44, .int .i64 i)]) (fun _ => own) (fun i => i ≤ fo.length ∧ foB (fo.take i) = true) (fun i => fo.length - i) 0 ⟨Nat.zero_le _, rfl⟩ (by repeat' (first | exact True.intro | refine And.intro ?_ ?_ | exact rfl | exact vi (by omega) | (dsimp only; exact rfl) | (dsimp only; exact vi (by omega)))) ?_ rfl ?_
        · exact (by first | exact ent_i | (repeat (first | exact Ent.refl | exact Ent.left | refine Ent.cons ?_ | refine Ent.app ?_)))
        rintro i junk ⟨hi, hI2⟩
        by_cases hil2 : i < fo.length
        · obtain ⟨x, hx⟩ : ∃ x, fo[i]? = some x := ⟨_, List.getElem?_eq_getElem hil2⟩
          by_cases hk : 3 ≤ x ∧ x ≤ 6
          · repeat' ((try (conv => whnf)); first | (refine when_ye ?_ ?_; exact rfl) | (apply br_pyE; (exact rfl); omega) | (apply br_pnE; (exact rfl); omega) | (apply when_pnE; (exact rfl); omega) | ((with_reducible show Ld _ _ _ _); first | (refine ldE0 hfo hx rfl ?_)) | ((with_reducible show IxS _ _ _ _ _); first | ((refine ixE hfo hx ?_ ?_; (first | rfl | omega)))) | (refine ari ?_ ?_; omega))
            all_goals exact ⟨i + 1, ⟨hil2, fo_take hx hI2 hk⟩, by omega, (by repeat' (first | exact True.intro | refine And.intro ?_ ?_ | exact rfl | exact vi (by omega) | (dsimp only; exact rfl) | (dsimp only; exact vi (by omega)))), Ent.refl⟩
          · rw [fo_not hx hk]
            repeat' ((try (conv => whnf)); first | (refine when_ye ?_ ?_; exact rfl) | (refine when_ne ?_ ?_; exact rfl) | (refine br_te ?_ ?_; exact rfl) | (apply br_pyE; (exact rfl); omega) | ((with_reducible show Ld _ _ _ _); first | (refine ldE0 hfo hx rfl ?_)) | ((with_reducible show IxS _ _ _ _ _); first | ((refine ixE hfo hx ?_ ?_; (first | rfl | omega)))) | (apply when_dF; (exact rfl); (exact rfl); all_goals intro hc))
            all_goals first | exact ⟨rfl, (by first | exact ent_i | (repeat (first | exact Ent.refl | exact Ent.left | refine Ent.cons ?_ | refine Ent.app ?_)))⟩ | (exfalso; omega)
        · have hiN : i = fo.length := by omega
          subst hiN
          rw [List.take_length] at hI2
          rw [hI2]
          repeat' ((try (conv => whnf)); first | (apply br_pnE; (exact rfl); omega))
          all_goals exact ⟨rfl, (by first | exact ent_i | (repeat (first | exact Ent.refl | exact Ent.left | refine Ent.cons ?_ | refine Ent.app ?_)))⟩
end
end Go.Proofs.YtkieffpjjfebjaaGreatDoor
namespace Go.Proofs.YtkieffpjjfebjaaGreatDoor
open Go
set_option maxRecDepth 10000
section
variable (rc : List EvM → Bool) (c : Cfg) (P : List (List Ins)) (fo : List Int) (lim : Int) (n : Nat)
def stepC (b : GS) (l : List ChM) (t : Nat) (x : SS) (k : Int) : SS := if x.stop then x else visM rc c P fo lim n (doM c P b ⟨t, k, []⟩).2 (l ++ [⟨t, k, []⟩]) x
def stepT (s : GS) (l : List ChM) (x : SS) (t : Nat) : SS := if x.stop then x else if dnB s t then x else
  if dnB (advM c P t 64 s l).1 t then visM rc c P fo lim n (advM c P t 64 s l).1 (advM c P t 64 s l).2 x
  else (codesM fo (nxM P (advM c P t 64 s l).1 t)).foldl (stepC rc c P fo lim n (advM c P t 64 s l).1 (advM c P t 64 s l).2 t) x
theorem vis_eq (s : GS) (l : List ChM) (x : SS) : visM rc c P fo lim (n + 1) s l x = if doneM s then finM rc lim s l x else (List.range s.T.length).foldl (stepT rc c P fo lim n s l) x := rfl
end
section
variable {rc : List EvM → Bool} {c : Cfg} {P : List (List Ins)} {fo : List Int} {lim : Int}
theorem stepC_abs {n : Nat} {b : GS} {l : List ChM} {t : Nat} (x : SS) (k : Int) (h : x.stop = true) : stepC rc c P fo lim n b l t x k = x := by unfold stepC; rw [if_pos h]
theorem stepT_abs {n : Nat} {s : GS} {l : List ChM} (x : SS) (t : Nat) (h : x.stop = true) : stepT rc c P fo lim n s l x t = x := by unfold stepT; rw [if_pos h]
theorem fold_pres {α : Type} {g : SS → α → SS} {Q : SS → Prop} (hg : ∀ x a, Q x → Q (g x a)) : ∀ (l : List α) (x : SS), Q x → Q (l.foldl g x)
  | [], _, h => h
  | a :: l, x, h => fold_pres hg l _ (hg x a h)
theorem vis_pres {Q : SS → Prop} (hf : ∀ s l x, x.stop = false → Q x → Q (finM rc lim s l x)) : ∀ (n : Nat) (s : GS) (l : List ChM) (x : SS), x.stop = false → Q x → Q (visM rc c P fo lim n s l x)
  | 0, _, _, _, _, h => h
  | n + 1, s, l, x, hx, h => by
    rw [vis_eq]
    split
    · exact hf s l x hx h
    · refine fold_pres (fun y t hy => ?_) _ x h
      unfold stepT
      split
      · exact hy
      · rename_i hys
        have hys' : y.stop = false := by simpa using hys
        split
        · exact hy
        · split
          · exact vis_pres hf n _ _ y hys' hy
          · refine fold_pres (fun z k hz => ?_) _ y hy
            unfold stepC
            split
            · exact hz
            · rename_i hzs
              exact vis_pres hf n _ _ z (by simpa using hzs) hz
theorem vis_runs {n : Nat} {s : GS} {l : List ChM} {x : SS} (hx : x.stop = false) (h : (x.runs : Int) ≤ lim) : ((visM rc c P fo lim n s l x).runs : Int) ≤ lim := by
  refine vis_pres (Q := fun x => (x.runs : Int) ≤ lim) (fun s l x _ h => ?_) n s l x hx h
  unfold finM
  split
  · exact h
  · split
    · show ((x.runs + 1 : Nat) : Int) ≤ lim; omega
    · show ((x.runs + 1 : Nat) : Int) ≤ lim; omega
theorem vis_found {n : Nat} {s : GS} {l : List ChM} {x : SS} (hx : x.stop = false) (h : x.found = []) (hr : (visM rc c P fo lim n s l x).racy = false) : (visM rc c P fo lim n s l x).found = [] := by
  refine vis_pres (Q := fun x => x.racy = false → x.found = []) (fun s l x _ h => ?_) n s l x hx (fun _ => h) hr
  unfold finM
  split
  · exact h
  · split
    · intro h2; cases h2
    · exact h
theorem range_drop {N t : Nat} (h : t < N) : (List.range N).drop t = t :: (List.range N).drop (t + 1) := by
  have : (List.range N)[t]? = some t := by rw [List.getElem?_range h]
  exact drop_of this
theorem adv_n (hna : noAl P) (t : Nat) : ∀ (n : Nat) (s : GS) (l : List ChM), GOk c P s → l.length ≤ s.n → (advM c P t n s l).2.length ≤ (advM c P t n s l).1.n
  | 0, _, _, _, h => h
  | n + 1, s, l, hG, h => by
    unfold advM
    cases hb : locB P s t with
    | false => exact h
    | true =>
      rw [if_pos rfl]
      obtain ⟨i, hi, -⟩ := loc_nx hb
      obtain ⟨-, h1, h2, -⟩ : (doM c P s (ch0 t)).1 = 0 ∧ GOk c P (doM c P s (ch0 t)).2 ∧ (doM c P s (ch0 t)).2.n = s.n + 1 ∧ _ := do_meas hG hna hi (.inl rfl)
      exact adv_n hna t n _ _ h1 (by rw [List.length_append, List.length_singleton]; omega)
end
end Go.Proofs.YtkieffpjjfebjaaGreatDoor
