/- What the laws share, part 2. No condition. -/
import Derived.Test.YtfompmhncnkcfaaGreatDoorRows
import Derived.ProofKit
import Derived.OpenShut
import Derived.ChangeOld
import Derived.Below
import Derived.LaidMore
import Derived.Lay
import Derived.LaidByTextLater
import Derived.Stop.Joined
import Derived.SevenTiedAt
import Derived.Laws.FloatBits
import Derived.Test.YtfompmhncnkcfaaGreatDoorChecked
import Derived.Shelf.SlMaps.Clone
import Derived.Test.YtfompmhncnkcfaaGreatDoorY1
namespace Go.Proofs.YtfompmhncnkcfaaGreatDoor
open Go Go.ChangeShapes Go.WideShapes Go.ChangeAt Go.RowKit
section
variable {P : Program} {w : World} {b0 : Nat} {t : TypeId} {v : Value}
theorem val_int {k : IntKind} (ht : P.underlying t = some (.int k)) (h : Value.okWide P w .any b0 t v) : ∃ n, v = .int k n ∧ inK k n := by
  simp only [Value.okWide, ht] at h
  exact cell_int ht h
end
end Go.Proofs.YtfompmhncnkcfaaGreatDoor
namespace Go.Proofs.YtfompmhncnkcfaaGreatDoor
open Go
set_option maxRecDepth 10000
set_option maxHeartbeats 8000000
section
variable {c : Cfg} {P : List (List Ins)} {s : GS} {t : Nat} {th : Thr} {p : List Ins} {x : Ins}
theorem ch_eq (hth : s.T[t]? = some th) (hp : P[t]? = some p) (hd : th.dn = false) (hx : p[th.pc]? = some x) (f : Int) : chM c P s ⟨t, f, []⟩ = if x.op = 7 then txM c p s th t f [] else sgM c p s th t f x := by
  unfold chM
  rw [if_neg (by show ¬ ((t : Nat) : Int) < 0; omega)]
  simp only [Int.toNat_natCast, hth, hp, hd, Bool.false_eq_true, if_false, hx, if_true]
end
end Go.Proofs.YtfompmhncnkcfaaGreatDoor
namespace Go.Proofs.YtfompmhncnkcfaaGreatDoor
open Go
set_option maxRecDepth 10000
set_option maxHeartbeats 16000000
section
variable {W0 : World} {b : Nat × (Obj → Prop)} {D R K G Z : Own}
theorem ent_at1 : Ent W0 (b :: (D ++ (R ++ (K ++ (G ++ Z))))) (R ++ (b :: (D ++ (K ++ (G ++ Z))))) := ent_cnt [] fun a => by simp only [cnt_app, cnt_cons, cnt_nil]; omega
theorem ent_at2 : Ent W0 (R ++ (b :: (D ++ (K ++ (G ++ Z))))) (G ++ (R ++ (b :: (D ++ (K ++ Z))))) := ent_cnt [] fun a => by simp only [cnt_app, cnt_cons, cnt_nil]; omega
theorem ent_at3 : Ent W0 (G ++ (R ++ (b :: (D ++ (K ++ Z))))) (R ++ (K ++ (G ++ Z))) := ent_cnt (b :: D) fun a => by simp only [cnt_app, cnt_cons]; omega
theorem ent_at4 : Ent W0 (R ++ (K ++ (G ++ Z))) (G ++ (R ++ (K ++ Z))) := ent_cnt [] fun a => by simp only [cnt_app, cnt_nil]; omega
theorem ent_at5 {a c : Nat × (Obj → Prop)} {E M A B : Own} : Ent W0 (E ++ (G ++ (R ++ (K ++ (A ++ (M ++ ([a, c] ++ B))))))) B := ent_cnt (E ++ (G ++ (R ++ (K ++ (A ++ (M ++ [a, c])))))) fun a => by simp only [cnt_app, cnt_cons, cnt_nil]; omega
end
theorem lit_buf {T : TypeId} {b : Nat} {w : Int} : BufE encI T 1 (some ⟨b, 0, none⟩) 1 [w] [(b, fun o => o = Obj.cells #[.int .i64 w] T)] := can_buf (l := [w]) fun _ _ => rfl
theorem app_k {α : Type} {enc : α → List Value} {sz : Nat} {W0 : World} {own own' : Own} {l : List α} {a : Option Addr} {T : TypeId} {bytes cap m n : Nat} {zs : List Value} {D : Own} {C : Own → Own} {a2 : Option Addr} {l2 : List α} {K : Value → Own → Prop} (hB : BufE enc T sz a cap l D) (hx : RdE enc sz W0 own' a2 l2) [mm : AtC D own C] [me : EntC own own'] (hm : m = l2.length) (hn : n = l.length)
    (hz : zs.length = sz) (hs : 0 < sz) (h1 : ∀ x ∈ l2, (enc x).all oneC = true) (hb : (l.length + l2.length) * bytes ≤ 140737488355328)
    (hk : ∀ a' cap' D', BufE enc T sz a' cap' (l ++ l2) D' → K (.slice a' (l ++ l2).length cap') (C D')) : AppT W0 own T sz bytes zs a n cap a2 m K := by
  subst hn
  refine app_l hB hx hm hz hs h1 (fun _ => hb) fun a' cap' D' h => ?_
  rw [← List.length_append]
  exact hk a' cap' D' h
theorem oneI {l : List Int} : ∀ x ∈ l, (encI x).all oneC = true := fun _ _ => rfl
section
variable {W0 : World} {own : Own} {la : Option Addr} {lc : Nat} {ls : List IH} {pa : Option Addr} {pc : Nat} {pl : List CH}
theorem sp_SglAtomic (hF : FormsAt W0) (n0 n1 n2 n3 n4 : Int) (hh : inKs [n0, n1, n2, n3, n4]) (hL : RdE IH.enc 1 W0 own la ls) (hll : ls.length ≤ 17592186043904) (hQ : ∀ h ∈ ls, RdE encI 1 W0 own h.a h.l ∧ h.l.length ≤ 17592186043904)
    (hPi : RdE CH.enc 3 W0 own pa pl) (hPa : ∀ x ∈ pl, RdE encI 1 W0 own x.a x.ad ∧ ∀ a ∈ x.ad, a ≤ 9223372036854775807) :
    Pure Tryz.prog W0 6 [arrV n0 n1 n2 n3 n4, .slice la ls.length lc, .slice pa pl.length pc] own (.bool true) := by
  refine pure_of (spec_of mixed low_law22_SglAtomic (by simp [ir_law22_SglAtomic]) ?_)
  have haw := fun own => sp_awake (W0 := W0) (own := own) hF
  have hsc := fun (own' : Own) [EntC own' own] => sp_lscript (lc := lc) (own := own') n0 n1 n2 n3 n4 hh hL.up hll (fun h hx => ⟨(hQ h hx).1.up, (hQ h hx).2⟩) false
  repeat' ((try (conv => whnf)); first | (refine new_i (fun b3 h3 => ?_); (apply Stop.h)))
  refine Stop.mk ?_
  repeat' ((try (conv => whnf)); first | ((with_reducible show CallT _ _ _ _ _ _); first | ((refine call_or (hsc _) Ent.refl ?_ ?_ (fun v hv => ?_) (fun m v hv => ?_); (exact rfl); (exact rfl); all_goals (apply Stop.h)))) | (apply ldN_a; exact rfl))
  · subst hv
    refine Stop.mk ?_
    repeat' ((try (conv => whnf)); first | (refine when_ne ?_ ?_; exact rfl) | (refine br_te ?_ ?_; exact rfl) | ((with_reducible show CallT _ _ _ _ _ _); first | ((refine call_pe (haw _) ?_ ?_ ?_; (exact rfl); exact rfl))) | (apply sel; exact rfl) | (apply stN_o; (exact rfl); (exact rfl); exact rfl) | (refine new_i (fun bk hbk => ?_)))
    all_goals exact ⟨rfl, (by first | exact ent_i | (repeat (first | exact Ent.refl | exact Ent.left | refine Ent.cons ?_ | refine Ent.app ?_)))⟩
  · obtain ⟨rfl, hm⟩ := hv
    have hmv : m.v = scrV m.c m.ia m.il.length m.ic m.pa (m.ps.map PB.h).length m.pc m.ka 0 m.kc := by simp only [MS.v, List.length_map]
    rw [hmv]
    refine Stop.mk ?_
    by_cases hp60 : pl.length ≤ 60
    · have hp60' : ¬ (60 : Int) < pl.length := by omega
      repeat' ((try (conv => whnf)); first | (refine new_i (fun b7 h7 => ?_); (apply Stop.h)) | (apply sel; exact rfl))
      refine Stop.mk ?_
      have hnw := sp_newm hF hm ([(b7, fun o => o = Obj.cells (scrC m.c (.slice m.ia m.il.length m.ic) (.slice m.pa (m.ps.map PB.h).length m.pc) (.slice m.ka 0 m.kc)) 32 (0, 0)), (b3, fun o => o = Obj.cells #[.int .i64 n0, .int .i64 n1, .int .i64 n2, .int .i64 n3, .int .i64 n4] 22 (0, 0))] ++ own)
      rw [hmv] at hnw
      repeat' ((try (conv => whnf)); first | (refine when_ye ?_ ?_; exact rfl) | (apply br_pnE; (exact rfl); omega) | ((with_reducible show CallT _ _ _ _ _ _); first | ((refine call_to hnw ?_ ?_ ?_ (fun y v hv => ?_); (exact ent_l1); (exact rfl); (exact rfl); (apply Stop.h)))) | (apply ldN_a; exact rfl) | (apply stN_o; (exact rfl); (exact rfl); exact rfl))
      obtain ⟨g, ys, kD⟩ := y
      obtain ⟨rfl, hok, hev, hpp⟩ := hv
      dsimp only at hok hev hpp ⊢
      have hrn := fun (own' : Own) [EntC own' m.O] => sp_rnewm (W0 := W0) (own := own') hm
      refine Stop.mk ?_
      repeat' ((try (conv => whnf)); first | ((with_reducible show CallT _ _ _ _ _ _); first | ((refine call_x (hrn _) ?_ ?_ (fun y v hv => ?_); (exact rfl); (exact rfl); (apply Stop.h)))) | (apply sel; exact rfl) | (apply ldN_a; exact rfl))
      obtain ⟨r, zs, rD⟩ := y
      obtain ⟨rfl, hrok, hrp⟩ := hv
      dsimp only at hrok hrp ⊢
      have hG := hm.g0
      have hP16 := hm.pl16
      have hn0' : (newM m.c m.il m.P).n = 0 := rfl
      generalize newM m.c m.il m.P = s0 at *
      generalize m.P = P at *
      generalize hKp : kD ++ ownL ys = Kp at *
      generalize hKr : rD ++ ownL zs = Kr at *
      generalize ys.map PB.h = pk at *
      generalize zs.map PB.h = pr at *
      have hpx := hPi
      refine Stop.mk ?_
      repeat' ((try (conv => whnf)); first | (refine when_ye ?_ ?_; exact rfl) | (refine br_fe ?_ ?_; exact rfl))
      refine loop_i (σ := Nat × GP × DP × GS) (fun y => [(14, .int .i64 y.1)])
        (fun y => y.2.2.1.O m.c pr.length y.2.2.2 ++ (Kr ++ (y.2.1.O m.c pk.length y.2.2.2 ++ (Kp ++ (m.O ++ ([(b7, fun o => o = Obj.cells (scrC m.c (.slice m.ia m.il.length m.ic) (.slice m.pa (m.ps.map PB.h).length m.pc) (.slice m.ka 0 m.kc)) 32 (0, 0)), (b3, fun o => o = Obj.cells #[.int .i64 n0, .int .i64 n1, .int .i64 n2, .int .i64 n3, .int .i64 n4] 22 (0, 0))] ++ own))))))
        (fun y => y.1 ≤ pl.length ∧ y.2.1.ok W0 Kp pk y.2.2.2 ∧ y.2.1.ev W0 ∧ y.2.1.gb = g.gb ∧ y.2.2.1.ok W0 Kr pr y.2.2.2 ∧ y.2.2.1.rb = r.rb ∧ GOk m.c P y.2.2.2 ∧ y.2.2.2.n ≤ y.1)
        (fun y => pl.length - y.1) (0, g, r, s0) ⟨Nat.zero_le _, hok, hev, rfl, hrok, rfl, hG, by show s0.n ≤ 0; omega⟩ (by repeat' (first | exact True.intro | refine And.intro ?_ ?_ | exact rfl | exact vi (by omega) | (dsimp only; exact rfl) | (dsimp only; exact vi (by omega)))) Ent.refl rfl ?_
      rintro ⟨k, g1, r1, s1⟩ junk ⟨hk, hok1, hev1, hgb1, hrk1, hrb1, hG1, hn1⟩
      dsimp only at hk hok1 hev1 hgb1 hrk1 hrb1 hG1 hn1 ⊢
      by_cases hkl : k < pl.length
      · obtain ⟨x, hx⟩ : ∃ x, pl[k]? = some x := ⟨_, List.getElem?_eq_getElem hkl⟩
        obtain ⟨hxA, hxr⟩ := hPa x (List.mem_of_getElem? hx)
        obtain ⟨xt, xf, xa, xad, xac⟩ := x
        dsimp only at hxA hxr
        have hch := fun (Q : Own) [EntC Q Kr] [EntC Q own] => sp_choiceL (c := m.c) (kc := xac) hrb1 hrk1 hG1 hrp hP16 xt xf hxA hxr Q
        repeat' ((try (conv => whnf)); first | (apply br_pyE; (exact rfl); omega) | ((with_reducible show IxS _ _ _ _ _); first | ((refine ixE hpx hx ?_ ?_; (first | rfl | omega)))) | ((with_reducible show LdN _ _ _ _ _); first | (refine ldNEi hpx hx rfl ?_)) | ((with_reducible show CallT _ _ _ _ _ _); first | ((refine call_to (hch _) Ent.refl ?_ ?_ (fun y v hv => ?_); (exact rfl); (exact rfl); (apply Stop.h)))))
        obtain ⟨⟨ct, cf, ca, cad, cac⟩, cD⟩ := y
        obtain ⟨rfl, hcA, hcl, hcr⟩ := hv
        dsimp only at hcA hcl hcr ⊢
        have hd1 := fun (Q : Own) [EntC Q Kp] [EntC Q cD] => sp_doL (c := m.c) hF hgb1 hok1 hev1 hG1 hpp (by omega) ct cf hcA hcl hcr Q
        have hd2 := fun (Q : Own) [EntC Q Kr] [EntC Q cD] => sp_rdoL (c := m.c) hrb1 hrk1 hG1 hrp (by omega) ct cf hcA hcl hcr Q
        have hG2 := do_ok hG1 (ch := ⟨ct, cf, cad⟩) hcr
        have hn2 := do_le (c := m.c) (P := P) (s := s1) (ch := ⟨ct, cf, cad⟩)
        generalize doM m.c P s1 ⟨ct, cf, cad⟩ = z at *
        obtain ⟨zc, s2⟩ := z
        dsimp only at hd1 hd2 hG2 hn2
        refine Stop.mk ?_
        repeat' ((try (conv => whnf)); first | ((with_reducible show CallT _ _ _ _ _ _); first | ((refine call_to (hd2 _) ent_at1 ?_ ?_ (fun r2 v hv => ?_); (exact rfl); (exact rfl); (apply Stop.h)))) | (apply ldN_a; exact rfl) | (apply stN_o; (exact rfl); (exact rfl); exact rfl) | (refine new_i (fun bk hbk => ?_)))
        obtain ⟨rfl, hrk2, hrb2⟩ := hv
        refine Stop.mk ?_
        repeat' ((try (conv => whnf)); first | ((with_reducible show CallT _ _ _ _ _ _); first | ((refine call_to (hd1 _) ent_at2 ?_ ?_ (fun g2 v hv => ?_); (exact rfl); (exact rfl); (apply Stop.h)))) | (apply ldN_a; exact rfl))
        obtain ⟨rfl, hok2, hev2, hgb2⟩ := hv
        refine Stop.mk ?_
        repeat' ((try (conv => whnf)); first | (refine ari ?_ ?_; omega))
        exact ⟨(k + 1, g2, r2, s2), ⟨hkl, hok2, hev2, hgb2, hrk2, hrb2, hG2, by show s2.n ≤ k + 1; omega⟩, (by show pl.length - (k + 1) < pl.length - k; omega), (by repeat' (first | exact True.intro | refine And.intro ?_ ?_ | exact rfl | exact vi (by omega) | (dsimp only; exact rfl) | (dsimp only; exact vi (by omega)))), ent_at3⟩
      · have hkN : k = pl.length := by omega
        subst hkN
        have hz2 := hG1.sz (by omega) hP16
        have hr1 := fun q => sp_resL (c := m.c) hgb1 hok1 hev1 hz2 q
        have hEv := hG1.ev
        repeat' ((try (conv => whnf)); first | (apply br_pnE; (exact rfl); omega) | ((with_reducible show CallT _ _ _ _ _ _); first | ((refine call_to (hr1 _) ent_at4 ?_ ?_ (fun y1 v hv => ?_); (exact rfl); (exact rfl); (apply Stop.h)))))
        obtain ⟨rfl, hy1⟩ := hv
        have hLb : y1.L.length ≤ 500000 := by rw [(hy1.at (own := y1.D) Ent.refl).el]; exact hz2.e
        obtain ⟨-, -, hE, hem, heb, -, -, -⟩ := hy1.at (own := y1.D) Ent.refl
        refine Stop.mk ?_
        repeat' ((try (conv => whnf)); first | (apply sel; exact rfl))
        refine loop_c (σ := Nat) (fun i => [(17, .int .i64 i)]) (fun i => i ≤ y1.L.length) (fun i => y1.L.length - i) 0 (Nat.zero_le _) (by repeat' (first | exact True.intro | refine And.intro ?_ ?_ | exact rfl | exact vi (by omega) | (dsimp only; exact rfl) | (dsimp only; exact vi (by omega)))) rfl ?_
        intro i junk hi
        by_cases hil : i < y1.L.length
        · obtain ⟨e, he⟩ : ∃ e, y1.L[i]? = some e := ⟨_, List.getElem?_eq_getElem hil⟩
          obtain ⟨hR, hW⟩ := heb e (List.mem_of_getElem? he)
          have hm0 : s1.E[i]? = some e.m := by rw [← hem, List.getElem?_map, he]; rfl
          obtain ⟨⟨hw0, hw1⟩, hrr, hww, hrl, hwl⟩ : (0 ≤ e.w ∧ e.w < m.c.words) ∧ (∀ x ∈ e.rl, 0 ≤ x ∧ x < m.c.words) ∧ (∀ x ∈ e.wl, 0 ≤ x ∧ x < m.c.words) ∧ e.rl.length ≤ 1000 ∧ e.wl.length ≤ 1000 := hEv.1 _ (List.mem_of_getElem? hm0)
          have hal : ∀ x ∈ ([e.w] ++ e.rl) ++ e.wl, 0 ≤ x ∧ x < m.c.words := fun x hx => by
            rcases List.mem_append.1 hx with hx | hx
            · rcases List.mem_append.1 hx with hx | hx
              · rw [List.mem_singleton.1 hx]; exact ⟨hw0, hw1⟩
              · exact hrr x hx
            · exact hww x hx
          have hnext : e.k = 3 → ∃ e2, y1.L[i + 1]? = some e2 ∧ e2.k = 4 ∧ e2.t = e.t ∧ e2.ev = e.ev := fun h3 => by
            obtain ⟨b, hb, h4, ht, hv⟩ := hEv.2 i _ hm0 h3
            rw [← hem, List.getElem?_map] at hb
            obtain ⟨e2, he2, rfl⟩ := Option.map_eq_some_iff.1 hb
            exact ⟨e2, he2, h4, ht, hv⟩
          clear hEv hem
          by_cases h3 : e.k = 3
          · obtain ⟨e2, he2, h4, ht, hv⟩ := hnext h3
            have hil2 : i + 1 < y1.L.length := (List.getElem?_eq_some_iff.1 he2).1
            repeat' ((try (conv => whnf)); first | (refine when_ye ?_ ?_; exact rfl) | (apply br_pyE; (exact rfl); omega) | (apply br_pnE; (exact rfl); omega) | (apply when_pyE; (exact rfl); omega) | (apply when_pnE; (exact rfl); omega) | (refine new_i (fun bk hbk => ?_); (dsimp only [List.set])) | (refine app_k (lit_buf (w := e.w)) hR ?_ ?_ ?_ ?_ oneI ?_ (fun a1 c1 D1 hB1 => ?_); (exact rfl); (exact rfl); (exact rfl); (omega); (simp only [List.length_cons, List.length_nil]; omega)) | (refine app_k hB1 hW ?_ ?_ ?_ ?_ oneI ?_ (fun a2 c2 D2 hB2 => ?_); (exact rfl); (exact rfl); (exact rfl); (omega); (simp only [List.length_append, List.length_cons, List.length_nil]; omega)) | ((with_reducible show Ld _ _ _ _); first | (refine ldE0 hE he rfl ?_) | (refine ldEk hE he rfl ?_) | (refine ldE0 hE he2 rfl ?_) | (refine ldEk hE he2 rfl ?_)) | ((with_reducible show IxS _ _ _ _ _); first | ((refine ixE hE he ?_ ?_; (first | rfl | omega))) | ((refine ixE hE he2 ?_ ?_; (first | rfl | omega)))) | (refine ari ?_ ?_; omega) | (refine Both.mk ?_ ?_))
            all_goals
              have hA := hB2.rd (W0 := W0)
              have hall : (([e.w] ++ e.rl) ++ e.wl).length ≤ 2001 := by simp only [List.length_append, List.length_cons, List.length_nil]; omega
              generalize ([e.w] ++ e.rl) ++ e.wl = al at *
              refine loop_c (σ := Nat) (fun j => [(19, .int .i64 j)]) (fun j => j ≤ al.length) (fun j => al.length - j) 0 (Nat.zero_le _) (by repeat' (first | exact True.intro | refine And.intro ?_ ?_ | exact rfl | exact vi (by omega) | (dsimp only; exact rfl) | (dsimp only; exact vi (by omega)))) rfl ?_
              intro j junk2 hj
              by_cases hjl : j < al.length
              · obtain ⟨x, hx⟩ : ∃ x, al[j]? = some x := ⟨_, List.getElem?_eq_getElem hjl⟩
                obtain ⟨hx0, hx1⟩ := hal x (List.mem_of_getElem? hx)
                repeat' ((try (conv => whnf)); first | (refine when_ye ?_ ?_; exact rfl) | (apply br_pyE; (exact rfl); omega) | (apply br_pnE; (exact rfl); omega) | (apply when_pnE; (exact rfl); omega) | ((with_reducible show Ld _ _ _ _); first | (refine ldE0 hA hx rfl ?_)) | ((with_reducible show IxS _ _ _ _ _); first | ((refine ixE hA hx ?_ ?_; (first | rfl | omega)))) | (refine ari ?_ ?_; omega) | (apply ld_o; exact rfl))
                all_goals exact ⟨j + 1, hjl, (by show al.length - (j + 1) < al.length - j; omega), (by repeat' (first | exact True.intro | refine And.intro ?_ ?_ | exact rfl | exact vi (by omega) | (dsimp only; exact rfl) | (dsimp only; exact vi (by omega)))), (by first | exact ent_i | (repeat (first | exact Ent.refl | exact Ent.left | refine Ent.cons ?_ | refine Ent.app ?_)))⟩
              · have hjN : j = al.length := by omega
                subst hjN
                repeat' ((try (conv => whnf)); first | (apply br_pnE; (exact rfl); omega) | (refine ari ?_ ?_; omega))
                all_goals exact ⟨i + 1, hil, (by show y1.L.length - (i + 1) < y1.L.length - i; omega), (by repeat' (first | exact True.intro | refine And.intro ?_ ?_ | exact rfl | exact vi (by omega) | (dsimp only; exact rfl) | (dsimp only; exact vi (by omega)))), (by first | exact ent_i | (repeat (first | exact Ent.refl | exact Ent.left | refine Ent.cons ?_ | refine Ent.app ?_)))⟩
          · clear hnext
            repeat' ((try (conv => whnf)); first | (refine when_ne ?_ ?_; exact rfl) | (refine br_fe ?_ ?_; exact rfl) | (apply br_pyE; (exact rfl); omega) | (apply when_pnE; (exact rfl); omega) | (refine new_i (fun bk hbk => ?_); (dsimp only [List.set])) | (refine app_k (lit_buf (w := e.w)) hR ?_ ?_ ?_ ?_ oneI ?_ (fun a1 c1 D1 hB1 => ?_); (exact rfl); (exact rfl); (exact rfl); (omega); (simp only [List.length_cons, List.length_nil]; omega)) | (refine app_k hB1 hW ?_ ?_ ?_ ?_ oneI ?_ (fun a2 c2 D2 hB2 => ?_); (exact rfl); (exact rfl); (exact rfl); (omega); (simp only [List.length_append, List.length_cons, List.length_nil]; omega)) | ((with_reducible show Ld _ _ _ _); first | (refine ldEk hE he rfl ?_)) | ((with_reducible show IxS _ _ _ _ _); first | ((refine ixE hE he ?_ ?_; (first | rfl | omega)))) | (refine Both.mk ?_ ?_))
            all_goals
              have hA := hB2.rd (W0 := W0)
              have hall : (([e.w] ++ e.rl) ++ e.wl).length ≤ 2001 := by simp only [List.length_append, List.length_cons, List.length_nil]; omega
              generalize ([e.w] ++ e.rl) ++ e.wl = al at *
              refine loop_c (σ := Nat) (fun j => [(19, .int .i64 j)]) (fun j => j ≤ al.length) (fun j => al.length - j) 0 (Nat.zero_le _) (by repeat' (first | exact True.intro | refine And.intro ?_ ?_ | exact rfl | exact vi (by omega) | (dsimp only; exact rfl) | (dsimp only; exact vi (by omega)))) rfl ?_
              intro j junk2 hj
              by_cases hjl : j < al.length
              · obtain ⟨x, hx⟩ : ∃ x, al[j]? = some x := ⟨_, List.getElem?_eq_getElem hjl⟩
                obtain ⟨hx0, hx1⟩ := hal x (List.mem_of_getElem? hx)
                repeat' ((try (conv => whnf)); first | (refine when_ye ?_ ?_; exact rfl) | (apply br_pyE; (exact rfl); omega) | (apply br_pnE; (exact rfl); omega) | (apply when_pnE; (exact rfl); omega) | ((with_reducible show Ld _ _ _ _); first | (refine ldE0 hA hx rfl ?_)) | ((with_reducible show IxS _ _ _ _ _); first | ((refine ixE hA hx ?_ ?_; (first | rfl | omega)))) | (refine ari ?_ ?_; omega) | (apply ld_o; exact rfl))
                all_goals exact ⟨j + 1, hjl, (by show al.length - (j + 1) < al.length - j; omega), (by repeat' (first | exact True.intro | refine And.intro ?_ ?_ | exact rfl | exact vi (by omega) | (dsimp only; exact rfl) | (dsimp only; exact vi (by omega)))), (by first | exact ent_i | (repeat (first | exact Ent.refl | exact Ent.left | refine Ent.cons ?_ | refine Ent.app ?_)))⟩
              · have hjN : j = al.length := by omega
                subst hjN
                repeat' ((try (conv => whnf)); first | (apply br_pnE; (exact rfl); omega) | (refine ari ?_ ?_; omega))
                all_goals exact ⟨i + 1, hil, (by show y1.L.length - (i + 1) < y1.L.length - i; omega), (by repeat' (first | exact True.intro | refine And.intro ?_ ?_ | exact rfl | exact vi (by omega) | (dsimp only; exact rfl) | (dsimp only; exact vi (by omega)))), (by first | exact ent_i | (repeat (first | exact Ent.refl | exact Ent.left | refine Ent.cons ?_ | refine Ent.app ?_)))⟩
        · have hiN : i = y1.L.length := by omega
          subst hiN
          repeat' ((try (conv => whnf)); first | (apply br_pnE; (exact rfl); omega) | ((with_reducible show CallT _ _ _ _ _ _); first | ((refine call_pe (haw _) ?_ ?_ ?_; (exact rfl); exact rfl))))
          all_goals exact ⟨ret1 rfl, ent_at5⟩
    · have hp60' : (60 : Int) < pl.length := by omega
      repeat' ((try (conv => whnf)); first | (refine when_ye ?_ ?_; exact rfl) | (apply br_pyE; (exact rfl); omega) | ((with_reducible show CallT _ _ _ _ _ _); first | ((refine call_pe (haw _) ?_ ?_ ?_; (exact rfl); exact rfl))) | (apply sel; exact rfl) | (apply stN_o; (exact rfl); (exact rfl); exact rfl) | (refine new_i (fun bk hbk => ?_)))
      all_goals exact ⟨rfl, (by first | exact ent_i | (repeat (first | exact Ent.refl | exact Ent.left | refine Ent.cons ?_ | refine Ent.app ?_)))⟩
end
end Go.Proofs.YtfompmhncnkcfaaGreatDoor
namespace Go.Proofs.YtfompmhncnkcfaaGreatDoor
open Go
set_option maxRecDepth 10000
structure Sw (s s1 : GS) (x : Nat) (h : Thr) : Prop where
  d : s1.d = s.d
  k : s1.tk = s.tk
  T : s1.T = s.T.set x h
  O : s1.O = s.O
  E : s1.E.length = s.E.length
def SwO (x : Nat) (h : Thr) : Option GS → Option GS → Prop
  | some a, some b => Sw a b x h
  | none, none => True
  | _, _ => False
section
variable {c : Cfg} {P : List (List Ins)} {s s1 : GS} {x t : Nat} {h th : Thr} {p : List Ins} {i : Ins} {f : Int} {ad : List Int}
theorem Sw.fin (w : Sw s s1 x h) (ht : t ≠ x) (l : List ObM) : Sw (s.fin t th l) (s1.fin t th l) x h :=
  ⟨w.d, w.k, by show s1.T.set t th = (s.T.set t th).set x h; rw [w.T, List.set_comm _ _ (fun e => ht e.symm)], by show s1.O.set t (s1.O.getD t [] ++ l) = _; rw [w.O]; rfl, w.E⟩
theorem Sw.ev (w : Sw s s1 x h) {l l1 : List EvM} (hl : l1.length = l.length) : Sw (s.ev l) (s1.ev l1) x h :=
  ⟨w.d, w.k, w.T, w.O, by show (s1.E ++ l1).length = (s.E ++ l).length; rw [List.length_append, List.length_append, w.E, hl]⟩
theorem Sw.mem (w : Sw s s1 x h) (d : List Int) (tk : List Bool) : Sw (s.mem d tk) (s1.mem d tk) x h := ⟨rfl, rfl, w.T, w.O, w.E⟩
theorem plE_len {n m t : Nat} {k a : Int} : (plE c n t k a).length = (plE c m t k a).length := by
  unfold plE
  split <;> rfl
theorem Sw.sg (w : Sw s s1 x h) (ht : t ≠ x) : SwO x h (sgM c p s th t f i) (sgM c p s1 th t f i) := by
  unfold sgM
  generalize adr th.rg (if i.op = 12 then i.b else i.a) i.imm = a
  dsimp only
  rw [w.d, w.k]
  split
  · split
    · split
      · exact w.fin ht _
      · exact trivial
    · split
      · exact w.fin ht _
      · split
        · exact (w.ev plE_len).fin ht _
        · exact ((w.mem _ _).ev plE_len).fin ht _
  · split
    · exact trivial
    · exact w.fin ht _
theorem Sw.tx (w : Sw s s1 x h) (ht : t ≠ x) : SwO x h (txM c p s th t f ad) (txM c p s1 th t f ad) := by
  unfold txM
  rw [w.d, w.k]
  split
  · split
    · exact w.fin ht _
    · exact trivial
  · generalize runM c p p.length _ = r
    obtain ⟨b, o⟩ := r
    dsimp only
    split
    · exact trivial
    · split
      · refine Sw.fin (s := (s.mem b.d b.tk).ev _) (s1 := (s1.mem b.d b.tk).ev _) ((w.mem b.d b.tk).ev ?_) ht _
        rfl
      · refine Sw.fin (s := s.ev _) (s1 := s1.ev _) (w.ev ?_) ht _
        rfl
theorem Sw.ch (w : Sw s s1 x h) (ht : t ≠ x) : SwO x h (chM c P s ⟨t, f, ad⟩) (chM c P s1 ⟨t, f, ad⟩) := by
  unfold chM
  dsimp only
  have e : s1.T[t]? = s.T[t]? := by rw [w.T, List.getElem?_set_ne (fun e => ht e.symm)]
  rw [if_neg (by omega), if_neg (by omega), Int.toNat_natCast, e]
  cases hT : s.T[t]? with
  | none => exact trivial
  | some th =>
    cases hp : P[t]? with
    | none => exact trivial
    | some p =>
      dsimp only
      split
      · exact trivial
      · cases hx : p[th.pc]? with
        | none => exact trivial
        | some i =>
          dsimp only
          split
          · exact w.tx ht
          · split
            · exact w.sg ht
            · exact trivial
theorem Sw.do (w : Sw s s1 x h) (ht : t ≠ x) : (doM c P s1 ⟨t, f, ad⟩).1 = (doM c P s ⟨t, f, ad⟩).1 ∧ Sw (doM c P s ⟨t, f, ad⟩).2 (doM c P s1 ⟨t, f, ad⟩).2 x h := by
  have := w.ch (c := c) (P := P) (f := f) (ad := ad) ht
  unfold doM
  cases ha : chM c P s ⟨t, f, ad⟩ with
  | none =>
    cases hb : chM c P s1 ⟨t, f, ad⟩ with
    | none => exact ⟨rfl, w⟩
    | some b => rw [ha, hb] at this; exact this.elim
  | some a =>
    cases hb : chM c P s1 ⟨t, f, ad⟩ with
    | none => rw [ha, hb] at this; exact this.elim
    | some b => rw [ha, hb] at this; exact ⟨rfl, ⟨this.d, this.k, this.T, this.O, this.E⟩⟩
theorem loc_sw (hth : s.T[x]? = some th) (hp : P[x]? = some p) (hd : th.dn = false) (hx : p[th.pc]? = some i) (hop : i.op ≠ 7 ∧ i.op ≠ 12 ∧ i.op ≠ 13 ∧ i.op ≠ 16) :
    (doM c P s ⟨x, 0, []⟩).1 = 0 ∧ Sw s (doM c P s ⟨x, 0, []⟩).2 x { locM th i with dn := decide ((locM th i).pc = p.length) } := by
  have e : chM c P s ⟨x, 0, []⟩ = some (s.fin x { locM th i with dn := decide ((locM th i).pc = p.length) } []) := by
    rw [ch_eq hth hp hd hx, if_neg hop.1]
    unfold sgM
    generalize adr th.rg (if i.op = 12 then i.b else i.a) i.imm = a
    rw [if_neg (by omega), if_neg (by simp), if_neg hop.2.2.2]
  unfold doM
  rw [e]
  refine ⟨rfl, rfl, rfl, rfl, ?_, rfl⟩
  show s.O.set x (s.O.getD x [] ++ []) = s.O
  rw [List.append_nil]
  by_cases hl : x < s.O.length
  · apply List.ext_getElem? ; intro j
    by_cases hj : x = j
    · subst hj
      rw [List.getElem?_set_self hl, List.getD_eq_getElem?_getD, List.getElem?_eq_getElem hl]
      rfl
    · rw [List.getElem?_set_ne hj]
  · exact List.set_eq_of_length_le (by omega)
theorem fin_T {s' : GS} {l : List ObM} {y : Nat} (h : some (s.fin t th l) = some s') (hy : y ≠ t) : s'.T[y]? = s.T[y]? := by
  obtain rfl := Option.some.inj h
  show (s.T.set t th)[y]? = _
  rw [List.getElem?_set_ne (fun e => hy e.symm)]
theorem fin_T2 {s' : GS} {l : List ObM} {y : Nat} {d : List Int} {tk : List Bool} {E : List EvM} (h : some (((s.mem d tk).ev E).fin t th l) = some s') (hy : y ≠ t) : s'.T[y]? = s.T[y]? := (fin_T h hy : s'.T[y]? = ((s.mem d tk).ev E).T[y]?)
theorem sg_T {s' : GS} {y : Nat} (h : sgM c p s th t f i = some s') (hy : y ≠ t) : s'.T[y]? = s.T[y]? := by
  unfold sgM at h
  generalize adr th.rg (if i.op = 12 then i.b else i.a) i.imm = a at h
  dsimp only at h
  split at h
  · split at h
    · split at h
      · exact fin_T h hy
      · cases h
    · split at h
      · exact fin_T h hy
      · split at h
        · exact (fin_T (s := s.ev _) h hy)
        · exact (fin_T2 h hy)
  · split at h
    · cases h
    · exact fin_T h hy
theorem tx_T {s' : GS} {y : Nat} (h : txM c p s th t f ad = some s') (hy : y ≠ t) : s'.T[y]? = s.T[y]? := by
  unfold txM at h
  split at h
  · split at h
    · exact fin_T h hy
    · cases h
  · generalize runM c p p.length _ = r at h
    obtain ⟨b, o⟩ := r
    dsimp only at h
    split at h
    · cases h
    · split at h
      · exact (fin_T2 h hy)
      · exact (fin_T (s := s.ev _) h hy)
theorem do_T {y : Nat} (hy : y ≠ t) : (doM c P s ⟨t, f, ad⟩).2.T[y]? = s.T[y]? := by
  unfold doM
  cases ha : chM c P s ⟨t, f, ad⟩ with
  | none => rfl
  | some s' =>
    show s'.T[y]? = _
    unfold chM at ha
    dsimp only at ha
    rw [if_neg (by omega), Int.toNat_natCast] at ha
    split at ha
    · split at ha
      · cases ha
      · split at ha
        · split at ha
          · exact tx_T ha hy
          · split at ha
            · exact sg_T ha hy
            · cases ha
        · cases ha
    · cases ha
theorem exch {y : Nat} (hxy : y ≠ x) (hth : s.T[x]? = some th) (hp : P[x]? = some p) (hd : th.dn = false) (hx : p[th.pc]? = some i) (hop : i.op ≠ 7 ∧ i.op ≠ 12 ∧ i.op ≠ 13 ∧ i.op ≠ 16) :
    (doM c P (doM c P s ⟨x, 0, []⟩).2 ⟨y, 0, []⟩).1 = (doM c P s ⟨y, 0, []⟩).1 ∧
      Sw (doM c P s ⟨y, 0, []⟩).2 (doM c P (doM c P s ⟨x, 0, []⟩).2 ⟨y, 0, []⟩).2 x { locM th i with dn := decide ((locM th i).pc = p.length) } ∧
      Sw (doM c P s ⟨y, 0, []⟩).2 (doM c P (doM c P s ⟨y, 0, []⟩).2 ⟨x, 0, []⟩).2 x { locM th i with dn := decide ((locM th i).pc = p.length) } := by
  obtain ⟨-, h1⟩ := loc_sw (c := c) hth hp hd hx hop
  obtain ⟨h2, h3⟩ := h1.do (c := c) (P := P) (f := 0) (ad := []) hxy
  exact ⟨h2, h3, (loc_sw (c := c) ((do_T (fun e => hxy e.symm)).trans hth) hp hd hx hop).2⟩
end
end Go.Proofs.YtfompmhncnkcfaaGreatDoor
namespace Go.Proofs.YtfompmhncnkcfaaGreatDoor
open Go
set_option maxRecDepth 10000
set_option maxHeartbeats 16000000
section
variable {W0 : World} {b : Nat × (Obj → Prop)} {D R K G Kg H Kh M Z U V : Own}
theorem ent_ex0 : Ent W0 (G ++ (K ++ (M ++ Z))) (M ++ (G ++ (K ++ Z))) := ent_cnt [] fun a => by simp only [cnt_app, cnt_nil]; omega
theorem ent_ex1 : Ent W0 (R ++ (K ++ (H ++ (Kh ++ (M ++ (G ++ (Kg ++ Z))))))) (R ++ (K ++ (G ++ (Kg ++ (H ++ (Kh ++ (M ++ Z))))))) := ent_cnt [] fun a => by simp only [cnt_app, cnt_nil]; omega
theorem ent_ex2 : Ent W0 (b :: (D ++ (R ++ Z))) (R ++ (b :: (D ++ Z))) := ent_cnt [] fun a => by simp only [cnt_app, cnt_cons, cnt_nil]; omega
theorem ent_ex3 : Ent W0 (R ++ (b :: (D ++ (K ++ (G ++ Z))))) (G ++ (R ++ (b :: (D ++ (K ++ Z))))) := ent_cnt [] fun a => by simp only [cnt_app, cnt_cons, cnt_nil]; omega
theorem ent_ex4 : Ent W0 (G ++ (R ++ (b :: (D ++ (K ++ (Kg ++ (H ++ Z))))))) (H ++ (G ++ (R ++ (b :: (D ++ (K ++ (Kg ++ Z))))))) := ent_cnt [] fun a => by simp only [cnt_app, cnt_cons, cnt_nil]; omega
theorem ent_ex5 : Ent W0 (H ++ (G ++ (R ++ (b :: (D ++ (K ++ (Kg ++ Z))))))) (R ++ (K ++ (G ++ (Kg ++ (H ++ Z))))) := ent_cnt (b :: D) fun a => by simp only [cnt_app, cnt_cons]; omega
theorem ent_ex6 : Ent W0 (R ++ (K ++ (G ++ Z))) (G ++ (R ++ (K ++ Z))) := ent_cnt [] fun a => by simp only [cnt_app, cnt_nil]; omega
theorem ent_ex7 : Ent W0 (G ++ (R ++ (K ++ (Kg ++ (H ++ Z))))) (H ++ (G ++ (R ++ (K ++ (Kg ++ Z))))) := ent_cnt [] fun a => by simp only [cnt_app, cnt_nil]; omega
theorem ent_ex8 : Ent W0 (H ++ (G ++ Z)) (G ++ (H ++ Z)) := ent_cnt [] fun a => by simp only [cnt_app, cnt_nil]; omega
theorem ent_ex9 : Ent W0 (U ++ (G ++ (H ++ Z))) (H ++ (U ++ (G ++ Z))) := ent_cnt [] fun a => by simp only [cnt_app, cnt_nil]; omega
end
section
variable {W0 : World} {own : Own} {la : Option Addr} {lc : Nat} {ls : List IH} {pa : Option Addr} {pc : Nat} {pl : List CH}
theorem sp_SglExchanges (hF : FormsAt W0) (n0 n1 n2 n3 n4 : Int) (hh : inKs [n0, n1, n2, n3, n4]) (hL : RdE IH.enc 1 W0 own la ls) (hll : ls.length ≤ 17592186043904) (hQ : ∀ h ∈ ls, RdE encI 1 W0 own h.a h.l ∧ h.l.length ≤ 17592186043904)
    (hPi : RdE CH.enc 3 W0 own pa pl) (hPa : ∀ x ∈ pl, RdE encI 1 W0 own x.a x.ad ∧ ∀ a ∈ x.ad, a ≤ 9223372036854775807) (pa0 pb0 : Int) :
    Pure Tryz.prog W0 7 [arrV n0 n1 n2 n3 n4, .slice la ls.length lc, .slice pa pl.length pc, .int .i64 pa0, .int .i64 pb0] own (.bool true) := by
  refine pure_of (spec_of mixed low_law22_SglExchanges (by simp [ir_law22_SglExchanges]) ?_)
  have haw := fun own => sp_awake (W0 := W0) (own := own) hF
  have hsc := fun (own' : Own) [EntC own' own] => sp_lscript (lc := lc) (own := own') n0 n1 n2 n3 n4 hh hL.up hll (fun h hx => ⟨(hQ h hx).1.up, (hQ h hx).2⟩) false
  repeat' ((try (conv => whnf)); first | (refine new_i (fun b3 h3 => ?_); (apply Stop.h)))
  refine Stop.mk ?_
  repeat' ((try (conv => whnf)); first | ((with_reducible show CallT _ _ _ _ _ _); first | ((refine call_or (hsc _) Ent.refl ?_ ?_ (fun v hv => ?_) (fun m v hv => ?_); (exact rfl); (exact rfl); all_goals (apply Stop.h)))) | (apply ldN_a; exact rfl))
  · subst hv
    refine Stop.mk ?_
    repeat' ((try (conv => whnf)); first | (refine when_ne ?_ ?_; exact rfl) | (refine br_te ?_ ?_; exact rfl) | ((with_reducible show CallT _ _ _ _ _ _); first | ((refine call_pe (haw _) ?_ ?_ ?_; (exact rfl); exact rfl))) | (apply sel; exact rfl) | (apply stN_o; (exact rfl); (exact rfl); exact rfl) | (refine new_i (fun bk hbk => ?_)))
    all_goals exact ⟨rfl, (by first | exact ent_i | (repeat (first | exact Ent.refl | exact Ent.left | refine Ent.cons ?_ | refine Ent.app ?_)))⟩
  · obtain ⟨rfl, hm⟩ := hv
    have hmv : m.v = scrV m.c m.ia m.il.length m.ic m.pa (m.ps.map PB.h).length m.pc m.ka 0 m.kc := by simp only [MS.v, List.length_map]
    rw [hmv]
    refine Stop.mk ?_
    by_cases hp60 : pl.length ≤ 30
    · have hp60' : ¬ (30 : Int) < pl.length := by omega
      repeat' ((try (conv => whnf)); first | (refine new_i (fun b7 h7 => ?_); (apply Stop.h)) | (apply sel; exact rfl))
      refine Stop.mk ?_
      have hnw := fun q => sp_newm hF hm q
      rw [hmv] at hnw
      repeat' ((try (conv => whnf)); first | (refine when_ye ?_ ?_; exact rfl) | (apply br_pnE; (exact rfl); omega) | ((with_reducible show CallT _ _ _ _ _ _); first | ((refine call_to (hnw ([(b7, fun o => o = Obj.cells (scrC m.c (.slice m.ia m.il.length m.ic) (.slice m.pa (m.ps.map PB.h).length m.pc) (.slice m.ka 0 m.kc)) 32 (0, 0)), (b3, fun o => o = Obj.cells #[.int .i64 n0, .int .i64 n1, .int .i64 n2, .int .i64 n3, .int .i64 n4] 22 (0, 0))] ++ own)) ?_ ?_ ?_ (fun y v hv => ?_); (exact ent_l1); (exact rfl); (exact rfl); (apply Stop.h)))) | (apply ldN_a; exact rfl) | (apply stN_o; (exact rfl); (exact rfl); exact rfl))
      obtain ⟨g, ys, kD⟩ := y
      obtain ⟨rfl, hok, hev, hpp⟩ := hv
      dsimp only at hok hev hpp ⊢
      refine Stop.mk ?_
      repeat' ((try (conv => whnf)); first | ((with_reducible show CallT _ _ _ _ _ _); first | ((refine call_to (hnw _) ent_ex0 ?_ ?_ (fun y v hv => ?_); (exact rfl); (exact rfl); (apply Stop.h)))) | (apply sel; exact rfl) | (apply ldN_a; exact rfl))
      obtain ⟨h0, us, hD⟩ := y
      obtain ⟨rfl, hhk, hhv, hph⟩ := hv
      dsimp only at hhk hhv hph ⊢
      have hrn := fun (own' : Own) [EntC own' m.O] => sp_rnewm (W0 := W0) (own := own') hm
      refine Stop.mk ?_
      repeat' ((try (conv => whnf)); first | ((with_reducible show CallT _ _ _ _ _ _); first | ((refine call_x (hrn _) ?_ ?_ (fun y v hv => ?_); (exact rfl); (exact rfl); (apply Stop.h)))) | (apply sel; exact rfl) | (apply ldN_a; exact rfl))
      obtain ⟨r, zs, rD⟩ := y
      obtain ⟨rfl, hrok, hrp⟩ := hv
      dsimp only at hrok hrp ⊢
      have hMP := hm.rp (W0 := W0)
      have hMQ := hm.rq (W0 := W0)
      have hPe : m.P = (m.ps.map PB.h).map PH.p := rfl
      have hP2 : 2 ≤ m.P.length := by have := hm.pl; simp only [List.length_map]; omega
      have hG := hm.g0
      have hP16 := hm.pl16
      have hn0' : (newM m.c m.il m.P).n = 0 := rfl
      generalize newM m.c m.il m.P = s0 at *
      generalize m.P = P at *
      generalize hKp : kD ++ ownL ys = Kp at *
      generalize hKr : rD ++ ownL zs = Kr at *
      generalize ys.map PB.h = pk at *
      generalize zs.map PB.h = pr at *
      generalize hKh : hD ++ ownL us = Kh at *
      generalize us.map PB.h = pu at *
      generalize m.ps.map PB.h = pl0 at *
      have hpx := hPi
      refine Stop.mk ?_
      repeat' ((try (conv => whnf)); first | (refine when_ye ?_ ?_; exact rfl) | (refine br_fe ?_ ?_; exact rfl))
      refine loop_i (σ := Nat × GP × GP × DP × GS) (fun y => [(22, .int .i64 y.1)])
        (fun y => y.2.2.2.1.O m.c pr.length y.2.2.2.2 ++ (Kr ++ (y.2.1.O m.c pk.length y.2.2.2.2 ++ (Kp ++ (y.2.2.1.O m.c pu.length y.2.2.2.2 ++ (Kh ++ (m.O ++ ([(b7, fun o => o = Obj.cells (scrC m.c (.slice m.ia m.il.length m.ic) (.slice m.pa pl0.length m.pc) (.slice m.ka 0 m.kc)) 32 (0, 0)), (b3, fun o => o = Obj.cells #[.int .i64 n0, .int .i64 n1, .int .i64 n2, .int .i64 n3, .int .i64 n4] 22 (0, 0))] ++ own))))))))
        (fun y => y.1 ≤ pl.length ∧ y.2.1.ok W0 Kp pk y.2.2.2.2 ∧ y.2.1.ev W0 ∧ y.2.1.gb = g.gb ∧ y.2.2.1.ok W0 Kh pu y.2.2.2.2 ∧ y.2.2.1.ev W0 ∧ y.2.2.1.gb = h0.gb ∧ y.2.2.2.1.ok W0 Kr pr y.2.2.2.2 ∧ y.2.2.2.1.rb = r.rb ∧ GOk m.c P y.2.2.2.2 ∧ y.2.2.2.2.n ≤ y.1)
        (fun y => pl.length - y.1) (0, g, h0, r, s0) ⟨Nat.zero_le _, hok, hev, rfl, hhk, hhv, rfl, hrok, rfl, hG, by show s0.n ≤ 0; omega⟩ (by repeat' (first | exact True.intro | refine And.intro ?_ ?_ | exact rfl | exact vi (by omega) | (dsimp only; exact rfl) | (dsimp only; exact vi (by omega)))) ent_ex1 rfl ?_
      rintro ⟨k, g1, h1, r1, s1⟩ junk ⟨hk, hok1, hev1, hgb1, hhk1, hhv1, hhb1, hrk1, hrb1, hG1, hn1⟩
      dsimp only at hk hok1 hev1 hgb1 hhk1 hhv1 hhb1 hrk1 hrb1 hG1 hn1 ⊢
      by_cases hkl : k < pl.length
      · obtain ⟨x, hx⟩ : ∃ x, pl[k]? = some x := ⟨_, List.getElem?_eq_getElem hkl⟩
        obtain ⟨hxA, hxr⟩ := hPa x (List.mem_of_getElem? hx)
        obtain ⟨xt, xf, xa, xad, xac⟩ := x
        dsimp only at hxA hxr
        have hch := fun (Q : Own) [EntC Q Kr] [EntC Q own] => sp_choiceL (c := m.c) (kc := xac) hrb1 hrk1 hG1 hrp hP16 xt xf hxA hxr Q
        repeat' ((try (conv => whnf)); first | (apply br_pyE; (exact rfl); omega) | ((with_reducible show IxS _ _ _ _ _); first | ((refine ixE hpx hx ?_ ?_; (first | rfl | omega)))) | ((with_reducible show LdN _ _ _ _ _); first | (refine ldNEi hpx hx rfl ?_)) | ((with_reducible show CallT _ _ _ _ _ _); first | ((refine call_to (hch _) Ent.refl ?_ ?_ (fun y v hv => ?_); (exact rfl); (exact rfl); (apply Stop.h)))))
        obtain ⟨⟨ct, cf, ca, cad, cac⟩, cD⟩ := y
        obtain ⟨rfl, hcA, hcl, hcr⟩ := hv
        dsimp only at hcA hcl hcr ⊢
        have hd1 := fun (Q : Own) [EntC Q Kp] [EntC Q cD] => sp_doL (c := m.c) hF hgb1 hok1 hev1 hG1 hpp (by omega) ct cf hcA hcl hcr Q
        have hd3 := fun (Q : Own) [EntC Q Kh] [EntC Q cD] => sp_doL (c := m.c) hF hhb1 hhk1 hhv1 hG1 hph (by omega) ct cf hcA hcl hcr Q
        have hd2 := fun (Q : Own) [EntC Q Kr] [EntC Q cD] => sp_rdoL (c := m.c) hrb1 hrk1 hG1 hrp (by omega) ct cf hcA hcl hcr Q
        have hG2 := do_ok hG1 (ch := ⟨ct, cf, cad⟩) hcr
        have hn2 := do_le (c := m.c) (P := P) (s := s1) (ch := ⟨ct, cf, cad⟩)
        generalize doM m.c P s1 ⟨ct, cf, cad⟩ = z at *
        obtain ⟨zc, s2⟩ := z
        dsimp only at hd1 hd2 hd3 hG2 hn2
        have hne : ¬ zc ≠ zc := fun h => h rfl
        refine Stop.mk ?_
        repeat' ((try (conv => whnf)); first | ((with_reducible show CallT _ _ _ _ _ _); first | ((refine call_to (hd2 _) ent_ex2 ?_ ?_ (fun r2 v hv => ?_); (exact rfl); (exact rfl); (apply Stop.h)))) | (apply ldN_a; exact rfl) | (apply stN_o; (exact rfl); (exact rfl); exact rfl) | (refine new_i (fun bk hbk => ?_)))
        obtain ⟨rfl, hrk2, hrb2⟩ := hv
        refine Stop.mk ?_
        repeat' ((try (conv => whnf)); first | ((with_reducible show CallT _ _ _ _ _ _); first | ((refine call_to (hd1 _) ent_ex3 ?_ ?_ (fun g2 v hv => ?_); (exact rfl); (exact rfl); (apply Stop.h)))) | (apply ldN_a; exact rfl) | (refine Both.mk ?_ ?_))
        all_goals
          obtain ⟨rfl, hok2, hev2, hgb2⟩ := hv
          refine Stop.mk ?_
          repeat' ((try (conv => whnf)); first | ((with_reducible show CallT _ _ _ _ _ _); first | ((refine call_to (hd3 _) ent_ex4 ?_ ?_ (fun h2 v hv => ?_); (exact rfl); (exact rfl); (apply Stop.h)))) | (apply ldN_a; exact rfl))
          obtain ⟨rfl, hhk2, hhv2, hhb2⟩ := hv
          refine Stop.mk ?_
          repeat' ((try (conv => whnf)); first | (apply br_pnE; (exact rfl); omega) | (refine ari ?_ ?_; omega))
          exact ⟨(k + 1, g2, h2, r2, s2), ⟨hkl, hok2, hev2, hgb2, hhk2, hhv2, hhb2, hrk2, hrb2, hG2, by show s2.n ≤ k + 1; omega⟩, (by show pl.length - (k + 1) < pl.length - k; omega), (by repeat' (first | exact True.intro | refine And.intro ?_ ?_ | exact rfl | exact vi (by omega) | (dsimp only; exact rfl) | (dsimp only; exact vi (by omega)))), ent_ex5⟩
      · have hkN : k = pl.length := by omega
        subst hkN
        rw [← hrb1]
        have hTR := hrk1.t.rd (W0 := W0)
        have hTl := hG1.tl
        have hpx0 := fun own' => sp_place W0 own' pa0 s1.T.length ⟨by omega, by omega⟩
        have hpx1 := fun own' => sp_place W0 own' pb0 s1.T.length ⟨by omega, by omega⟩
        have hpd0 := place_bd pa0 (show (0 : Int) < s1.T.length by omega)
        have hpd1 := place_bd pb0 (show (0 : Int) < s1.T.length by omega)
        generalize placeM pa0 s1.T.length = tx at *
        generalize placeM pb0 s1.T.length = ty at *
        obtain ⟨x, rfl⟩ := Int.eq_ofNat_of_zero_le hpd0.1
        obtain ⟨y, rfl⟩ := Int.eq_ofNat_of_zero_le hpd1.1
        obtain ⟨th, hth⟩ : ∃ th, s1.T[x]? = some th := ⟨_, List.getElem?_eq_getElem (by omega)⟩
        obtain ⟨ty, hty⟩ : ∃ ty, s1.T[y]? = some ty := ⟨_, List.getElem?_eq_getElem (by omega)⟩
        by_cases hxy : x = y
        · have hxy' : (x : Int) = y := by omega
          repeat' ((try (conv => whnf)); first | (refine when_ne ?_ ?_; exact rfl) | (refine br_te ?_ ?_; exact rfl) | (apply br_pnE; (exact rfl); omega) | (apply when_pyE; (exact rfl); omega) | ((with_reducible show CallT _ _ _ _ _ _); first | ((refine call_pe (haw _) ?_ ?_ ?_; (exact rfl); exact rfl))) | ((with_reducible show CallQ _ _ _ _ _ _); first | ((refine call_qi (fun ex => hpx0 _) ?_ ?_ ?_; (exact rfl); (exact rfl))) | ((refine call_qi (fun ex => hpx1 _) ?_ ?_ ?_; (exact rfl); (exact rfl)))) | (apply ld_o; exact rfl))
          all_goals exact ⟨ret1 rfl, (by first | exact ent_i | (repeat (first | exact Ent.refl | exact Ent.left | refine Ent.cons ?_ | refine Ent.app ?_)))⟩
        have hxy' : ¬ (x : Int) = y := by omega
        obtain ⟨ph, hph0⟩ : ∃ ph, pl0[x]? = some ph := ⟨_, List.getElem?_eq_getElem (by have := congrArg List.length hPe; rw [List.length_map] at this; omega)⟩
        have hphP : P[x]? = some ph.p := by rw [hPe, List.getElem?_map, hph0]; rfl
        have hphR := hMQ ph (List.mem_of_getElem? hph0)
        obtain ⟨-, hpc, -, hdn, -⟩ := hG1.th x th ph.p hth hphP
        obtain ⟨pc, rg, oc, dn⟩ := th
        obtain ⟨pc1, rg1, oc1, dn1⟩ := ty
        dsimp only at hpc hdn
        cases dn with
        | true =>
          repeat' ((try (conv => whnf)); first | (refine when_ye ?_ ?_; exact rfl) | (refine when_ne ?_ ?_; exact rfl) | (refine br_te ?_ ?_; exact rfl) | (apply br_pnE; (exact rfl); omega) | (apply when_pnE; (exact rfl); omega) | ((with_reducible show Ld _ _ _ _); first | (refine ldEk hTR hth rfl ?_)) | ((with_reducible show IxS _ _ _ _ _); first | ((refine ixE hTR hth ?_ ?_; (first | rfl | omega)))) | ((with_reducible show CallT _ _ _ _ _ _); first | ((refine call_pe (haw _) ?_ ?_ ?_; (exact rfl); exact rfl))) | ((with_reducible show CallQ _ _ _ _ _ _); first | ((refine call_qi (fun ex => hpx0 _) ?_ ?_ ?_; (exact rfl); (exact rfl))) | ((refine call_qi (fun ex => hpx1 _) ?_ ?_ ?_; (exact rfl); (exact rfl)))) | (apply ld_o; exact rfl))
          all_goals exact ⟨ret1 rfl, (by first | exact ent_i | (repeat (first | exact Ent.refl | exact Ent.left | refine Ent.cons ?_ | refine Ent.app ?_)))⟩
        | false =>
          cases dn1 with
          | true =>
            repeat' ((try (conv => whnf)); first | (refine when_ye ?_ ?_; exact rfl) | (refine br_te ?_ ?_; exact rfl) | (apply br_pnE; (exact rfl); omega) | (apply when_pnE; (exact rfl); omega) | ((with_reducible show Ld _ _ _ _); first | (refine ldEk hTR hth rfl ?_) | (refine ldEk hTR hty rfl ?_)) | ((with_reducible show IxS _ _ _ _ _); first | ((refine ixE hTR hth ?_ ?_; (first | rfl | omega))) | ((refine ixE hTR hty ?_ ?_; (first | rfl | omega)))) | ((with_reducible show CallT _ _ _ _ _ _); first | ((refine call_pe (haw _) ?_ ?_ ?_; (exact rfl); exact rfl))) | ((with_reducible show CallQ _ _ _ _ _ _); first | ((refine call_qi (fun ex => hpx0 _) ?_ ?_ ?_; (exact rfl); (exact rfl))) | ((refine call_qi (fun ex => hpx1 _) ?_ ?_ ?_; (exact rfl); (exact rfl)))) | (apply ld_o; exact rfl))
            all_goals exact ⟨ret1 rfl, (by first | exact ent_i | (repeat (first | exact Ent.refl | exact Ent.left | refine Ent.cons ?_ | refine Ent.app ?_)))⟩
          | false =>
            have hpcl : pc < ph.p.length := by have := of_decide_eq_false hdn.symm; omega
            obtain ⟨i, hi⟩ : ∃ i, ph.p[pc]? = some i := ⟨_, List.getElem?_eq_getElem hpcl⟩
            by_cases hop : i.op ≠ 7 ∧ ¬ (10 ≤ i.op ∧ i.op ≤ 16)
            · have hex := exch (c := m.c) (P := P) (s := s1) (y := y) (fun e => hxy e.symm) hth hphP rfl hi ⟨hop.1, by omega, by omega, by omega⟩
              have hGx := do_ok hG1 (ch := ⟨x, 0, []⟩) (fun _ h => (by cases h))
              have hGy := do_ok hG1 (ch := ⟨y, 0, []⟩) (fun _ h => (by cases h))
              have hnx := do_le (c := m.c) (P := P) (s := s1) (ch := ⟨x, 0, []⟩)
              have hny := do_le (c := m.c) (P := P) (s := s1) (ch := ⟨y, 0, []⟩)
              have hdx := fun q [EntC q Kp] => sp_doL (K := Kp) (c := m.c) hF hgb1 hok1 hev1 hG1 hpp (by omega) x 0 (aa := none) (ad := []) (ac := 0) RdE.nil (Nat.le_refl _) (fun _ h => (by cases h)) q
              have hdy := fun q [EntC q Kh] => sp_doL (K := Kh) (c := m.c) hF hhb1 hhk1 hhv1 hG1 hph (by omega) y 0 (aa := none) (ad := []) (ac := 0) RdE.nil (Nat.le_refl _) (fun _ h => (by cases h)) q
              generalize doM m.c P s1 ⟨x, 0, []⟩ = zx at *
              generalize doM m.c P s1 ⟨y, 0, []⟩ = zy at *
              obtain ⟨cx, sx⟩ := zx
              obtain ⟨cy, sy⟩ := zy
              dsimp only at hex hGx hGy hnx hny hdx hdy
              have hn60 : pl.length ≤ 30 := hp60
              repeat' ((try (conv => whnf)); first | (refine when_ye ?_ ?_; exact rfl) | (refine when_ne ?_ ?_; exact rfl) | (refine br_fe ?_ ?_; exact rfl) | (apply br_pnE; (exact rfl); omega) | (apply when_pnE; (exact rfl); omega) | ((with_reducible show Ld _ _ _ _); first | (refine ldE0 hTR hth rfl ?_) | (refine ldEk hTR hth rfl ?_) | (refine ldEk hTR hty rfl ?_) | (refine ldE0 hMP hph0 rfl ?_) | (refine ldE0 hphR hi rfl ?_)) | ((with_reducible show IxS _ _ _ _ _); first | ((refine ixE hTR hth ?_ ?_; (first | rfl | omega))) | ((refine ixE hTR hty ?_ ?_; (first | rfl | omega))) | ((refine ixE hMP hph0 ?_ ?_; (first | rfl | omega))) | ((refine ixE hphR hi ?_ ?_; (first | rfl | omega)))) | ((with_reducible show CallT _ _ _ _ _ _); first | ((refine call_to (hdx _) ent_ex6 ?_ ?_ (fun g2 v hv => ?_); (exact rfl); (exact rfl); (apply Stop.h)))) | ((with_reducible show CallQ _ _ _ _ _ _); first | ((refine call_qi (fun ex => hpx0 _) ?_ ?_ ?_; (exact rfl); (exact rfl))) | ((refine call_qi (fun ex => hpx1 _) ?_ ?_ ?_; (exact rfl); (exact rfl)))) | (apply ld_o; exact rfl) | (apply when_dE; (exact rfl); (exact rfl); all_goals intro hc))
              all_goals
                obtain ⟨rfl, hok2, hev2, hgb2⟩ := hv
                have hGu := do_ok hGx (ch := ⟨y, 0, []⟩) (fun _ h => (by cases h))
                have hnu := do_le (c := m.c) (P := P) (s := sx) (ch := ⟨y, 0, []⟩)
                have hdu := fun q [EntC q Kp] => sp_doL (K := Kp) (c := m.c) hF hgb2 hok2 hev2 hGx hpp (by omega) y 0 (aa := none) (ad := []) (ac := 0) RdE.nil (Nat.le_refl _) (fun _ h => (by cases h)) q
                generalize doM m.c P sx ⟨y, 0, []⟩ = zu at *
                obtain ⟨cu, su⟩ := zu
                dsimp only at hex hGu hnu hdu
                refine Stop.mk ?_
                repeat' ((try (conv => whnf)); first | ((with_reducible show CallT _ _ _ _ _ _); first | ((refine call_to (hdu _) Ent.refl ?_ ?_ (fun g3 v hv => ?_); (exact rfl); (exact rfl); (apply Stop.h)))))
                obtain ⟨rfl, hok3, hev3, hgb3⟩ := hv
                refine Stop.mk ?_
                repeat' ((try (conv => whnf)); first | ((with_reducible show CallT _ _ _ _ _ _); first | ((refine call_to (hdy _) ent_ex7 ?_ ?_ (fun h2 v hv => ?_); (exact rfl); (exact rfl); (apply Stop.h)))))
                obtain ⟨rfl, hhk2, hhv2, hhb2⟩ := hv
                have hGv := do_ok hGy (ch := ⟨x, 0, []⟩) (fun _ h => (by cases h))
                have hnv := do_le (c := m.c) (P := P) (s := sy) (ch := ⟨x, 0, []⟩)
                have hdv := fun q [EntC q Kh] => sp_doL (K := Kh) (c := m.c) hF hhb2 hhk2 hhv2 hGy hph (by omega) x 0 (aa := none) (ad := []) (ac := 0) RdE.nil (Nat.le_refl _) (fun _ h => (by cases h)) q
                generalize doM m.c P sy ⟨x, 0, []⟩ = zv at *
                obtain ⟨cv, sv⟩ := zv
                dsimp only at hex hGv hnv hdv
                refine Stop.mk ?_
                repeat' ((try (conv => whnf)); first | ((with_reducible show CallT _ _ _ _ _ _); first | ((refine call_to (hdv _) Ent.refl ?_ ?_ (fun h3 v hv => ?_); (exact rfl); (exact rfl); (apply Stop.h)))))
                obtain ⟨rfl, hhk3, hhv3, hhb3⟩ := hv
                obtain ⟨hcu, hw1, hw2⟩ := hex
                subst hcu
                have hzu := hGu.sz (by omega) hP16
                have hzv := hGv.sz (by omega) hP16
                have hru := fun q => sp_resL (c := m.c) hgb3 hok3 hev3 hzu q
                have hrv := fun q => sp_resL (c := m.c) hhb3 hhk3 hhv3 hzv q
                refine Stop.mk ?_
                repeat' ((try (conv => whnf)); first | ((with_reducible show CallT _ _ _ _ _ _); first | ((refine call_to (hru _) ent_ex8 ?_ ?_ (fun yu v hv => ?_); (exact rfl); (exact rfl); (apply Stop.h)))))
                obtain ⟨rfl, hyu⟩ := hv
                refine Stop.mk ?_
                repeat' ((try (conv => whnf)); first | ((with_reducible show CallT _ _ _ _ _ _); first | ((refine call_to (hrv _) ent_ex9 ?_ ?_ (fun yv v hv => ?_); (exact rfl); (exact rfl); (apply Stop.h)))))
                obtain ⟨rfl, hyv⟩ := hv
                have hde : su.d = sv.d := by rw [hw1.d, hw2.d]
                have hTe : su.T = sv.T := by rw [hw1.T, hw2.T]
                have hOe : su.O = sv.O := by rw [hw1.O, hw2.O]
                have hEe : yu.L.length = yv.L.length := by rw [(hyu.at (own := yu.D) Ent.refl).el, (hyv.at (own := yv.D) Ent.refl).el, hw1.E, hw2.E]
                have hk1 : ∀ (own' : Own) (_ : EntC own' yu.D) (_ : EntC own' yv.D), Pure Tryz.prog W0 24 [.slice yu.da su.d.length yu.dc, .slice yv.da sv.d.length yv.dc] own' (.bool true) := fun own' e1 e2 => by
                  have := (hyu.at (e1.h W0)).d
                  rw [hde] at this ⊢
                  exact sp_kwords (c1 := yu.dc) (c2 := yv.dc) this (hyv.at (e2.h W0)).d (by have := hzv.d; omega)
                have hk2 : ∀ (own' : Own) (_ : EntC own' yu.D) (_ : EntC own' yv.D), Pure Tryz.prog W0 26 [.slice yu.ta su.T.length yu.tc, .slice yv.ta sv.T.length yv.tc] own' (.bool true) := fun own' e1 e2 => by
                  have := (hyu.at (e1.h W0)).t
                  rw [hTe] at this ⊢
                  exact sp_kthreads (c1 := yu.tc) (c2 := yv.tc) this (hyv.at (e2.h W0)).t (by have := hzv.t; omega)
                have hk3 := fun (own' : Own) (e1 : EntC own' yu.D) (e2 : EntC own' yv.D) => sp_kOb (hyu.at (e1.h W0)) (hyv.at (e2.h W0)) hOe hzu
                refine Stop.mk ?_
                repeat' ((try (conv => whnf)); first | (refine when_ye ?_ ?_; exact rfl) | (apply when_pyE; (exact rfl); omega) | ((with_reducible show CallT _ _ _ _ _ _); first | ((refine call_pe (hk1 _ inferInstance inferInstance) ?_ ?_ ?_; (exact rfl); exact rfl)) | ((refine call_pe (hk2 _ inferInstance inferInstance) ?_ ?_ ?_; (exact rfl); exact rfl)) | ((refine call_pe (hk3 _ inferInstance inferInstance) ?_ ?_ ?_; (exact rfl); exact rfl)) | ((refine call_pe (haw _) ?_ ?_ ?_; (exact rfl); exact rfl))) | (apply ld_o; exact rfl) | (apply stN_o; (exact rfl); (exact rfl); exact rfl) | (refine new_i (fun bk hbk => ?_)))
                all_goals exact ⟨ret1 rfl, (by first | exact ent_i | (repeat (first | exact Ent.refl | exact Ent.left | refine Ent.cons ?_ | refine Ent.app ?_)))⟩
            · repeat' ((try (conv => whnf)); first | (refine when_ye ?_ ?_; exact rfl) | (refine when_ne ?_ ?_; exact rfl) | (refine br_te ?_ ?_; exact rfl) | (refine br_fe ?_ ?_; exact rfl) | (apply br_pyE; (exact rfl); omega) | (apply br_pnE; (exact rfl); omega) | (apply when_pyE; (exact rfl); omega) | (apply when_pnE; (exact rfl); omega) | ((with_reducible show Ld _ _ _ _); first | (refine ldE0 hTR hth rfl ?_) | (refine ldEk hTR hth rfl ?_) | (refine ldEk hTR hty rfl ?_) | (refine ldE0 hMP hph0 rfl ?_) | (refine ldE0 hphR hi rfl ?_)) | ((with_reducible show IxS _ _ _ _ _); first | ((refine ixE hTR hth ?_ ?_; (first | rfl | omega))) | ((refine ixE hTR hty ?_ ?_; (first | rfl | omega))) | ((refine ixE hMP hph0 ?_ ?_; (first | rfl | omega))) | ((refine ixE hphR hi ?_ ?_; (first | rfl | omega)))) | ((with_reducible show CallT _ _ _ _ _ _); first | ((refine call_pe (haw _) ?_ ?_ ?_; (exact rfl); exact rfl))) | ((with_reducible show CallQ _ _ _ _ _ _); first | ((refine call_qi (fun ex => hpx0 _) ?_ ?_ ?_; (exact rfl); (exact rfl))) | ((refine call_qi (fun ex => hpx1 _) ?_ ?_ ?_; (exact rfl); (exact rfl)))) | (apply ld_o; exact rfl) | (apply when_dF; (exact rfl); (exact rfl); all_goals intro hc))
              all_goals exact ⟨ret1 rfl, (by first | exact ent_i | (repeat (first | exact Ent.refl | exact Ent.left | refine Ent.cons ?_ | refine Ent.app ?_)))⟩
    · have hp60' : (30 : Int) < pl.length := by omega
      repeat' ((try (conv => whnf)); first | (refine when_ye ?_ ?_; exact rfl) | (apply br_pyE; (exact rfl); omega) | ((with_reducible show CallT _ _ _ _ _ _); first | ((refine call_pe (haw _) ?_ ?_ ?_; (exact rfl); exact rfl))) | (apply sel; exact rfl) | (apply stN_o; (exact rfl); (exact rfl); exact rfl) | (refine new_i (fun bk hbk => ?_)))
      all_goals exact ⟨rfl, (by first | exact ent_i | (repeat (first | exact Ent.refl | exact Ent.left | refine Ent.cons ?_ | refine Ent.app ?_)))⟩
end
end Go.Proofs.YtfompmhncnkcfaaGreatDoor
