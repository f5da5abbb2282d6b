/- What the laws share, part 26. No condition. -/
import Derived.Test.YtfompmhncnkcfaaGreatDoorW25
namespace Go.Proofs.YtfompmhncnkcfaaGreatDoor
open Go
set_option maxRecDepth 10000
set_option maxHeartbeats 16000000
structure RG where
  da : Option Addr
  dc : Nat
  dD : Own
  ta : Option Addr
  tc : Nat
  tD : Own
  ea : Option Addr
  ec : Nat
  eD : Own
  L : List EH
  X : Own
  oa : Option Addr
  oc : Nat
  oD : Own
  S : List ObS
abbrev RG.v (r : RG) (s : GS) : Value := .agg #[.slice r.da s.d.length r.dc, .slice r.ta s.T.length r.tc, .slice r.ea r.L.length r.ec, .slice r.oa r.S.length r.oc]
def RG.D (r : RG) : Own := r.dD ++ (r.tD ++ (r.eD ++ (r.X ++ (r.oD ++ ownS r.S))))
structure RG.ok (r : RG) (W0 : World) (s : GS) : Prop where
  d : BufE encU 63 1 r.da r.dc s.d r.dD
  t : BufE Thr.enc 66 11 r.ta r.tc s.T r.tD
  e : BufE EH.enc 75 6 r.ea r.ec r.L r.eD
  em : r.L.map EH.m = s.E
  ev : ∀ e ∈ r.L, RdE encI 1 W0 r.X e.ra e.rl ∧ RdE encI 1 W0 r.X e.wa e.wl
  o : BufE ObS.enc 72 1 r.oa r.oc r.S r.oD
  os : ∀ x ∈ r.S, BufE ObM.enc 106 3 x.a x.cap x.l x.D
  ol : r.S.map ObS.l = s.O
theorem take_m {α β : Type} {f : α → β} {l : List α} {m : List α} {i : Nat} {e e' : α} (h : m.map f = (l.take i).map f) (hx : l[i]? = some e) (he : f e' = f e) : (m ++ [e']).map f = (l.take (i + 1)).map f := by
  obtain ⟨hl, hx⟩ := List.getElem?_eq_some_iff.1 hx
  rw [List.take_add_one, List.getElem?_eq_getElem hl, hx]
  simp [h, he]
theorem len_m {α β : Type} {f : α → β} {l : List α} {m : List α} {i : Nat} (h : m.map f = (l.take i).map f) (hi : i ≤ l.length) : m.length = i := by
  have := congrArg List.length h
  simpa [Nat.min_eq_left hi] using this
section
variable {W0 : World} {e b : Nat × (Obj → Prop)} {A B Z : Own}
theorem ent_r1 : Ent W0 (e :: (B ++ (A ++ (b :: Z)))) (b :: (e :: (A ++ (B ++ Z)))) := ent_cnt [] fun a => by simp only [cnt_app, cnt_cons, cnt_nil]; omega
theorem ent_r2 : Ent W0 (B ++ (e :: (A ++ (b :: Z)))) (b :: (e :: (A ++ (B ++ Z)))) := ent_cnt [] fun a => by simp only [cnt_app, cnt_cons, cnt_nil]; omega
theorem ent_r3 : Ent W0 (B ++ (A ++ (e :: (b :: Z)))) (b :: (e :: (A ++ (B ++ Z)))) := ent_cnt [] fun a => by simp only [cnt_app, cnt_cons, cnt_nil]; omega
theorem ent_r4 : Ent W0 (e :: (A ++ (B ++ (b :: Z)))) (b :: (e :: (A ++ (B ++ Z)))) := ent_cnt [] fun a => by simp only [cnt_app, cnt_cons, cnt_nil]; omega
theorem ent_r5 : Ent W0 (A ++ (e :: (B ++ (b :: Z)))) (b :: (e :: (A ++ (B ++ Z)))) := ent_cnt [] fun a => by simp only [cnt_app, cnt_cons, cnt_nil]; omega
theorem ent_r6 : Ent W0 (A ++ (B ++ (e :: (b :: Z)))) (b :: (e :: (A ++ (B ++ Z)))) := ent_cnt [] fun a => by simp only [cnt_app, cnt_cons, cnt_nil]; omega
theorem ent_re {bk b5 b2 b3 : Nat × (Obj → Prop)} {D1 D2 D3 D4 D5 X : Own} : Ent W0 (bk :: (D4 ++ (D3 ++ (b5 :: (b2 :: (b3 :: (D1 ++ (D2 ++ (D5 ++ (X ++ Z)))))))))) (b2 :: (b3 :: (D1 ++ (D2 ++ (D5 ++ ((D3 ++ (D4 ++ X)) ++ Z)))))) := ent_cnt [bk, b5] fun a => by simp only [cnt_app, cnt_cons, cnt_nil]; omega
theorem ent_ro {bk b2 b3 : Nat × (Obj → Prop)} {D1 D2 D3 eD D5 X S : Own} : Ent W0 (bk :: (D3 ++ (b2 :: (b3 :: (D1 ++ (D2 ++ (eD ++ (X ++ (D5 ++ (S ++ Z)))))))))) (b2 :: (b3 :: (D1 ++ (D2 ++ (eD ++ (X ++ (D5 ++ ((S ++ D3) ++ Z)))))))) := ent_cnt [bk] fun a => by simp only [cnt_app, cnt_cons, cnt_nil]; omega
theorem ent_rz {b2 b3 : Nat × (Obj → Prop)} {D1 D2 eD oD X S : Own} : Ent W0 (b2 :: (b3 :: (D1 ++ (D2 ++ (eD ++ (X ++ (oD ++ (S ++ Z)))))))) ((D1 ++ (D2 ++ (eD ++ (X ++ (oD ++ S))))) ++ Z) := ent_cnt [b2, b3] fun a => by simp only [cnt_app, cnt_cons, cnt_nil]; omega
end
theorem ownS_app {S : List ObS} {x : ObS} : ownS (S ++ [x]) = ownS S ++ x.D := by simp [ownS]
section
variable {W0 : World} {Kp : Own} {g : GP} {c : Cfg} {ps : List PH} {s : GS}
theorem sp_result (h : g.ok W0 Kp ps s) (hv : g.ev W0) (hd : s.d.length ≤ 500000) (hT : s.T.length ≤ 500000) (hE : s.E.length ≤ 500000) (hO : s.O.length ≤ 500000) (hOl : ∀ l ∈ s.O, l.length ≤ 500000) (hin : ∀ e ∈ s.E, e.r.length ≤ 500000 ∧ e.wl.length ≤ 500000) (q : Own) :
    Spec Tryz.prog W0 17 [.pointer (some ⟨g.gb, 0, none⟩)] (g.O c ps.length s ++ q) fun v own' => ∃ r : RG,
      (v = r.v s ∧ r.ok W0 s) ∧ Ent W0 own' (r.D ++ (g.O c ps.length s ++ q)) := by
  have hEl : g.L.length = s.E.length := by rw [← h.em, List.length_map]
  have hSl : g.S.length = s.O.length := by rw [← h.ol, List.length_map]
  have hER := h.e.rd (W0 := W0)
  have hOR := h.o.rd (W0 := W0)
  refine spec_of mixed lowc_sgl_Global_Result (by simp [irc_sgl_Global_Result]) ?_
  have hcd := fun (own' : Own) [EntC own' g.dD] => sp_clone_uint64 (cap := g.dc) (RdE.up (own := own') (h.d.rd (W0 := W0))) (by omega)
  have hct := fun (own' : Own) [EntC own' g.tD] => sp_clone_Thread (cap := g.tc) (RdE.up (own := own') (h.t.rd (W0 := W0))) (by omega)
  repeat' ((try (conv => whnf)); first | (refine new_i (fun b2 h2 => ?_); (apply Stop.h)))
  refine Stop.mk ?_
  repeat' ((try (conv => whnf)); first | (refine br_fe ?_ ?_; exact rfl))
  refine cut_i (σ := Nat × (Option Addr × Nat × Own) × (Option Addr × Nat × Own)) 8386568 (fun y => [(3, .pointer (some ⟨y.1, 0, none⟩))])
    (fun y => (b2, fun o => o = Obj.cells #[.slice none 0 0, .slice none 0 0, .slice none 0 0, .slice none 0 0] 52 (0, 0)) :: ((y.1, fun o => o = Obj.cells #[.slice y.2.1.1 s.d.length y.2.1.2.1, .slice y.2.2.1 s.T.length y.2.2.2.1, .slice none 0 0, .slice none 0 0] 52 (0, 0)) :: (y.2.1.2.2 ++ (y.2.2.2.2 ++ (g.O c ps.length s ++ q)))))
    (fun y => BufE encU 63 1 y.2.1.1 y.2.1.2.1 s.d y.2.1.2.2 ∧ BufE Thr.enc 66 11 y.2.2.1 y.2.2.2.1 s.T y.2.2.2.2) rfl ?_ ?_
  · repeat' ((try (conv => whnf)); first | (refine new_i (fun b3 h3 => ?_)) | ((with_reducible show CallT _ _ _ _ _ _); first | ((refine call_x (hcd _) ?_ ?_ (fun y v hv => ?_); (exact rfl); (exact rfl); (obtain ⟨a1, c1, D1⟩ := y; obtain ⟨rfl, hB⟩ := hv; dsimp only at hB))) | ((refine call_x (hct _) ?_ ?_ (fun y v hv => ?_); (exact rfl); (exact rfl); (obtain ⟨a2, c2, D2⟩ := y; obtain ⟨rfl, hB2⟩ := hv; dsimp only at hB2)))) | (apply ld_o; exact rfl) | (apply stN_o; (exact rfl); (exact rfl); exact rfl) | (refine Both.mk ?_ ?_))
    all_goals
      refine ⟨(b3, (a1, c1, D1), (a2, c2, D2)), ⟨hB, hB2⟩, (by repeat' (first | exact True.intro | refine And.intro ?_ ?_ | exact rfl | exact vi (by omega) | (dsimp only; exact rfl) | (dsimp only; exact vi (by omega)))), ?_⟩
      first | exact ent_r1 | exact ent_r2 | exact ent_r3 | exact ent_r4 | exact ent_r5 | exact ent_r6
  · rintro ⟨b3, ⟨a1, c1, D1⟩, ⟨a2, c2, D2⟩⟩ junk ⟨hB1, hB2⟩
    dsimp only at hB1 hB2 ⊢
    repeat' ((try (conv => whnf)); first | (apply ld_o; exact rfl))
    -- the events
    refine loop_i (σ := Nat × List EH × Own × Option Addr × Nat × Own) (fun y => [(28, .int .i64 y.1)])
      (fun y => (b2, fun o => o = Obj.cells #[.slice none 0 0, .slice none 0 0, .slice none 0 0, .slice none 0 0] 52 (0, 0)) :: ((b3, fun o => o = Obj.cells #[.slice a1 s.d.length c1, .slice a2 s.T.length c2, .slice y.2.2.2.1 y.2.1.length y.2.2.2.2.1, .slice none 0 0] 52 (0, 0)) :: (D1 ++ (D2 ++ (y.2.2.2.2.2 ++ (y.2.2.1 ++ (g.O c ps.length s ++ q)))))))
      (fun y => y.1 ≤ g.L.length ∧ y.2.1.map EH.m = (g.L.take y.1).map EH.m ∧ BufE EH.enc 75 6 y.2.2.2.1 y.2.2.2.2.1 y.2.1 y.2.2.2.2.2 ∧ ∀ e ∈ y.2.1, RdE encI 1 W0 y.2.2.1 e.ra e.rl ∧ RdE encI 1 W0 y.2.2.1 e.wa e.wl)
      (fun y => g.L.length - y.1) (0, [], [], none, 0, []) ⟨Nat.zero_le _, rfl, BufE.nil, fun _ h => by cases h⟩ (by repeat' (first | exact True.intro | refine And.intro ?_ ?_ | exact rfl | exact vi (by omega) | (dsimp only; exact rfl) | (dsimp only; exact vi (by omega)))) ?_ rfl ?_
    · exact Ent.refl
    · rintro ⟨i, L', X', ea, ec, eD⟩ junk ⟨hi, hm, hB, hX⟩
      dsimp only at hi hm hB hX ⊢
      have hll := len_m hm hi
      by_cases hil : i < g.L.length
      · obtain ⟨e, hx⟩ : ∃ e, g.L[i]? = some e := ⟨_, List.getElem?_eq_getElem hil⟩
        have hem := List.mem_of_getElem? hx
        have hvr := (hv e hem).1
        have hvw := (hv e hem).2
        have hie := hin e.m (by rw [← h.em]; exact List.mem_map_of_mem hem)
        obtain ⟨ev, et, ekk, ew, era, erl, erc, ewa, ewl, ewc⟩ := e
        dsimp only [EH.m] at hvr hvw hie hx
        have hcr := fun (own' : Own) [EntC own' g.X] => sp_clone_int (cap := erc) (RdE.up (own := own') hvr) (by omega)
        have hcw := fun (own' : Own) [EntC own' g.X] => sp_clone_int (cap := ewc) (RdE.up (own := own') hvw) (by omega)
        repeat' ((try (conv => whnf)); first | (apply br_pyE; (exact rfl); omega) | (refine new_i (fun b5 h5 => ?_); (apply Stop.h)) | ((with_reducible show IxS _ _ _ _ _); first | ((refine ixE hER hx ?_ ?_; (first | rfl | omega)))) | ((with_reducible show LdN _ _ _ _ _); first | (refine ldNEi hER hx rfl ?_)))
        refine Stop.mk ?_
        repeat' ((try (conv => whnf)); first | (apply app_i (enc := EH.enc) (T := 75) ⟨ev, et, ekk, ew, a3, erl, c3, a4, ewl, c4⟩ hB; (exact rfl); (exact rfl); (omega); (exact rfl); (exact rfl); (omega); intro a9 c9 D5 hb1) | ((with_reducible show CallT _ _ _ _ _ _); first | ((refine call_x (hcr _) ?_ ?_ (fun y v hv => ?_); (exact rfl); (exact rfl); (obtain ⟨a3, c3, D3⟩ := y; obtain ⟨rfl, hB3⟩ := hv; dsimp only at hB3))) | ((refine call_x (hcw _) ?_ ?_ (fun y v hv => ?_); (exact rfl); (exact rfl); (obtain ⟨a4, c4, D4⟩ := y; obtain ⟨rfl, hB4⟩ := hv; dsimp only at hB4)))) | (refine ari ?_ ?_; omega) | (apply ld_o; exact rfl) | (apply ldN_a; exact rfl) | (apply st_o; (exact rfl); exact rfl) | (apply stN_o; (exact rfl); (exact rfl); exact rfl) | (refine new_i (fun bk hbk => ?_)) | (refine Both.mk ?_ ?_))
        all_goals
          refine ⟨(i + 1, L' ++ [⟨ev, et, ekk, ew, a3, erl, c3, a4, ewl, c4⟩], D3 ++ (D4 ++ X'), a9, c9, D5), ⟨hil, take_m hm hx rfl, hb1, fun e he => ?_⟩, (by show g.L.length - (i + 1) < g.L.length - i; omega), (by repeat' (first | exact True.intro | refine And.intro ?_ ?_ | exact rfl | exact vi (by omega) | (dsimp only; exact rfl) | (dsimp only; exact vi (by omega)))), ?_⟩
          · rcases List.mem_append.1 he with he | he
            · exact ⟨(hX e he).1.up, (hX e he).2.up⟩
            · rw [List.mem_singleton.1 he]
              exact ⟨RdE.up (hB3.rd (W0 := W0)), RdE.up (hB4.rd (W0 := W0))⟩
          · have hlen : (L' ++ [(⟨ev, et, ekk, ew, a3, erl, c3, a4, ewl, c4⟩ : EH)]).length = L'.length + 1 := by simp
            dsimp only
            rw [hlen]
            exact ent_re
      · have hiN : i = g.L.length := by omega
        subst hiN
        rw [List.take_length] at hm
        repeat' ((try (conv => whnf)); first | (apply br_pnE; (exact rfl); omega) | (apply ld_o; exact rfl))
        refine loop_i (σ := Nat × List ObS × Option Addr × Nat × Own) (fun y => [(52, .int .i64 y.1)])
          (fun y => (b2, fun o => o = Obj.cells #[.slice none 0 0, .slice none 0 0, .slice none 0 0, .slice none 0 0] 52 (0, 0)) :: ((b3, fun o => o = Obj.cells #[.slice a1 s.d.length c1, .slice a2 s.T.length c2, .slice ea L'.length ec, .slice y.2.2.1 y.2.1.length y.2.2.2.1] 52 (0, 0)) :: (D1 ++ (D2 ++ (eD ++ (X' ++ (y.2.2.2.2 ++ (ownS y.2.1 ++ (g.O c ps.length s ++ q)))))))))
          (fun y => y.1 ≤ g.S.length ∧ y.2.1.map ObS.l = (g.S.take y.1).map ObS.l ∧ BufE ObS.enc 72 1 y.2.2.1 y.2.2.2.1 y.2.1 y.2.2.2.2 ∧ ∀ x ∈ y.2.1, BufE ObM.enc 106 3 x.a x.cap x.l x.D)
          (fun y => g.S.length - y.1) (0, [], none, 0, []) ⟨Nat.zero_le _, rfl, BufE.nil, fun _ h => by cases h⟩ (by repeat' (first | exact True.intro | refine And.intro ?_ ?_ | exact rfl | exact vi (by omega) | (dsimp only; exact rfl) | (dsimp only; exact vi (by omega)))) ?_ rfl ?_
        · exact Ent.refl
        · rintro ⟨j, S', oa, oc, oD⟩ junk ⟨hj, hmS, hBS, hSS⟩
          dsimp only at hj hmS hBS hSS ⊢
          have hllS := len_m hmS hj
          by_cases hjl : j < g.S.length
          · obtain ⟨x, hx⟩ : ∃ x, g.S[j]? = some x := ⟨_, List.getElem?_eq_getElem hjl⟩
            have hxm := List.mem_of_getElem? hx
            have hxB := (h.os x hxm).rd (W0 := W0)
            have hxl := hOl x.l (by rw [← h.ol]; exact List.mem_map_of_mem hxm)
            have hsp := ownS_split hx
            obtain ⟨xa, xc, xl, xD⟩ := x
            dsimp only at hxB hxl hsp
            have hco := fun (own' : Own) [EntC own' xD] => sp_clone_Obs (cap := xc) (RdE.up (own := own') hxB) (by omega)
            dsimp only [GP.O]
            rw [hsp]
            repeat' ((try (conv => whnf)); first | (apply br_pyE; (exact rfl); omega) | (apply app_i (enc := ObS.enc) (T := 72) ⟨a3, c3, xl, D3⟩ hBS; (exact rfl); (exact rfl); (omega); (exact rfl); (exact rfl); (omega); intro a9 c9 D5 hb1) | ((with_reducible show Ld _ _ _ _); first | (refine ldE0 hOR hx rfl ?_)) | ((with_reducible show IxS _ _ _ _ _); first | ((refine ixE hOR hx ?_ ?_; (first | rfl | omega)))) | ((with_reducible show CallT _ _ _ _ _ _); first | ((refine call_x (hco _) ?_ ?_ (fun y v hv => ?_); (exact rfl); (exact rfl); (obtain ⟨a3, c3, D3⟩ := y; obtain ⟨rfl, hB3⟩ := hv; dsimp only at hB3)))) | (refine ari ?_ ?_; omega) | (apply ld_o; exact rfl) | (apply st_o; (exact rfl); exact rfl) | (refine new_i (fun bk hbk => ?_)) | (refine Both.mk ?_ ?_))
            all_goals
              refine ⟨(j + 1, S' ++ [⟨a3, c3, xl, D3⟩], a9, c9, D5), ⟨hjl, take_m hmS hx rfl, hb1, fun e he => ?_⟩, (by show g.S.length - (j + 1) < g.S.length - j; omega), (by repeat' (first | exact True.intro | refine And.intro ?_ ?_ | exact rfl | exact vi (by omega) | (dsimp only; exact rfl) | (dsimp only; exact vi (by omega)))), ?_⟩
              · rcases List.mem_append.1 he with he | he
                · exact hSS e he
                · rw [List.mem_singleton.1 he]
                  exact hB3
              · have hlen : (S' ++ [(⟨a3, c3, xl, D3⟩ : ObS)]).length = S'.length + 1 := by simp
                dsimp only
                rw [hlen, ownS_app]
                exact ent_ro
          · have hjN : j = g.S.length := by omega
            subst hjN
            rw [List.take_length] at hmS
            repeat' ((try (conv => whnf)); first | (apply br_pnE; (exact rfl); omega) | (apply ldN_a; exact rfl) | (apply stN_o; (exact rfl); (exact rfl); exact rfl))
            exact ⟨⟨a1, c1, D1, a2, c2, D2, ea, ec, eD, L', X', oa, oc, oD, S'⟩, ⟨rfl, ⟨hB1, hB2, hB, by rw [hm, h.em], hX, hBS, hSS, by rw [hmS, h.ol]⟩⟩, ent_rz⟩
end
end Go.Proofs.YtfompmhncnkcfaaGreatDoor
namespace Go.Proofs.YtfompmhncnkcfaaGreatDoor
open Go
set_option maxRecDepth 10000
set_option maxHeartbeats 8000000
section
variable {W0 : World} {own : Own}
theorem ent_t1 {a : Nat × (Obj → Prop)} {A Z : Own} : Ent W0 (a :: (A ++ Z)) (A ++ Z) := ent_cnt [a] fun a => by simp only [cnt_app, cnt_cons, cnt_nil]; omega
theorem take_x {α : Type} {l : List α} {i : Nat} {x : α} (hx : l[i]? = some x) : l.take i ++ [x] = l.take (i + 1) := by
  rw [List.take_add_one, hx]; rfl
theorem sp_twinWords {a : Option Addr} {l : List Int} {cap : Nat} (hR : RdE encU 1 W0 own a l) (hl : l.length ≤ 1000000) :
    Spec Tryz.prog W0 34 [.slice a l.length cap] own fun v own' => ∃ s : Option Addr × Nat × Own, (v = .slice s.1 l.length s.2.1 ∧ BufE encU 63 1 s.1 s.2.1 l s.2.2) ∧ Ent W0 own' (s.2.2 ++ own) := by
  refine spec_of mixed low_kit_TwinWords (by simp [ir_kit_TwinWords]) ?_
  skip
  refine loop_i (σ := Nat × Option Addr × Nat × Own) (fun y => [(3, .slice y.2.1 (l.take y.1).length y.2.2.1), (4, .int .i64 y.1)]) (fun y => y.2.2.2 ++ own)
    (fun y => y.1 ≤ l.length ∧ BufE encU 63 1 y.2.1 y.2.2.1 (l.take y.1) y.2.2.2) (fun y => l.length - y.1) (0, none, 0, []) ⟨Nat.zero_le _, BufE.nil⟩ (by repeat' (first | exact True.intro | refine And.intro ?_ ?_ | exact rfl | exact vi (by omega) | (dsimp only; exact rfl) | (dsimp only; exact vi (by omega)))) Ent.refl rfl ?_
  rintro ⟨i, a1, c1, D1⟩ junk ⟨hi, hB⟩
  dsimp only at hi hB ⊢
  have htl : (l.take i).length = i := by rw [List.length_take]; omega
  by_cases hil : i < l.length
  · obtain ⟨x, hx⟩ : ∃ x, l[i]? = some x := ⟨_, List.getElem?_eq_getElem hil⟩
    have htk := take_x hx
    have hln : (l.take i).length + 1 = (l.take (i + 1)).length := by rw [← htk]; simp
    repeat' ((try (conv => whnf)); first | (apply br_pyE; (exact rfl); omega) | (apply app_i (enc := encU) (T := 63) x hB; (exact rfl); (exact rfl); (omega); (exact rfl); (exact rfl); (omega); intro a2 c2 D2 hb2) | ((with_reducible show Ld _ _ _ _); first | (refine ldE0 hR hx rfl ?_)) | ((with_reducible show IxS _ _ _ _ _); first | ((refine ixE hR hx ?_ ?_; (first | rfl | omega)))) | (refine ari ?_ ?_; omega) | (refine new_i (fun bk hbk => ?_)))
    rw [htk] at hb2
    rw [hln]
    exact ⟨(i + 1, a2, c2, D2), ⟨hil, hb2⟩, (by show l.length - (i + 1) < l.length - i; omega), (by repeat' (first | exact True.intro | refine And.intro ?_ ?_ | exact rfl | exact vi (by omega) | (dsimp only; exact rfl) | (dsimp only; exact vi (by omega)))), ent_t1⟩
  · have hiN : i = l.length := by omega
    subst hiN
    repeat' ((try (conv => whnf)); first | (apply br_pnE; (exact rfl); omega))
    rw [List.take_length] at hB
    exact ⟨(a1, c1, D1), ⟨by rw [htl]; rfl, hB⟩, Ent.refl⟩
theorem sp_twinInts {a : Option Addr} {l : List Int} {cap : Nat} (hR : RdE encI 1 W0 own a l) (hl : l.length ≤ 1000000) :
    Spec Tryz.prog W0 57 [.slice a l.length cap] own fun v own' => ∃ s : Option Addr × Nat × Own, (v = .slice s.1 l.length s.2.1 ∧ BufE encI 3 1 s.1 s.2.1 l s.2.2) ∧ Ent W0 own' (s.2.2 ++ own) := by
  refine spec_of mixed low_kit_TwinInts (by simp [ir_kit_TwinInts]) ?_
  skip
  refine loop_i (σ := Nat × Option Addr × Nat × Own) (fun y => [(3, .slice y.2.1 (l.take y.1).length y.2.2.1), (4, .int .i64 y.1)]) (fun y => y.2.2.2 ++ own)
    (fun y => y.1 ≤ l.length ∧ BufE encI 3 1 y.2.1 y.2.2.1 (l.take y.1) y.2.2.2) (fun y => l.length - y.1) (0, none, 0, []) ⟨Nat.zero_le _, BufE.nil⟩ (by repeat' (first | exact True.intro | refine And.intro ?_ ?_ | exact rfl | exact vi (by omega) | (dsimp only; exact rfl) | (dsimp only; exact vi (by omega)))) Ent.refl rfl ?_
  rintro ⟨i, a1, c1, D1⟩ junk ⟨hi, hB⟩
  dsimp only at hi hB ⊢
  have htl : (l.take i).length = i := by rw [List.length_take]; omega
  by_cases hil : i < l.length
  · obtain ⟨x, hx⟩ : ∃ x, l[i]? = some x := ⟨_, List.getElem?_eq_getElem hil⟩
    have htk := take_x hx
    have hln : (l.take i).length + 1 = (l.take (i + 1)).length := by rw [← htk]; simp
    repeat' ((try (conv => whnf)); first | (apply br_pyE; (exact rfl); omega) | (apply app_i (enc := encI) (T := 3) x hB; (exact rfl); (exact rfl); (omega); (exact rfl); (exact rfl); (omega); intro a2 c2 D2 hb2) | ((with_reducible show Ld _ _ _ _); first | (refine ldE0 hR hx rfl ?_)) | ((with_reducible show IxS _ _ _ _ _); first | ((refine ixE hR hx ?_ ?_; (first | rfl | omega)))) | (refine ari ?_ ?_; omega) | (refine new_i (fun bk hbk => ?_)))
    rw [htk] at hb2
    rw [hln]
    exact ⟨(i + 1, a2, c2, D2), ⟨hil, hb2⟩, (by show l.length - (i + 1) < l.length - i; omega), (by repeat' (first | exact True.intro | refine And.intro ?_ ?_ | exact rfl | exact vi (by omega) | (dsimp only; exact rfl) | (dsimp only; exact vi (by omega)))), ent_t1⟩
  · have hiN : i = l.length := by omega
    subst hiN
    repeat' ((try (conv => whnf)); first | (apply br_pnE; (exact rfl); omega))
    rw [List.take_length] at hB
    exact ⟨(a1, c1, D1), ⟨by rw [htl]; rfl, hB⟩, Ent.refl⟩
theorem sp_twinProgram {a : Option Addr} {l : List Ins} {cap : Nat} (hR : RdE Ins.enc 5 W0 own a l) (hl : l.length ≤ 1000000) :
    Spec Tryz.prog W0 58 [.slice a l.length cap] own fun v own' => ∃ s : Option Addr × Nat × Own, (v = .slice s.1 l.length s.2.1 ∧ BufE Ins.enc 69 5 s.1 s.2.1 l s.2.2) ∧ Ent W0 own' (s.2.2 ++ own) := by
  refine spec_of mixed low_kit_TwinProgram (by simp [ir_kit_TwinProgram]) ?_
  skip
  refine loop_i (σ := Nat × Option Addr × Nat × Own) (fun y => [(3, .slice y.2.1 (l.take y.1).length y.2.2.1), (4, .int .i64 y.1)]) (fun y => y.2.2.2 ++ own)
    (fun y => y.1 ≤ l.length ∧ BufE Ins.enc 69 5 y.2.1 y.2.2.1 (l.take y.1) y.2.2.2) (fun y => l.length - y.1) (0, none, 0, []) ⟨Nat.zero_le _, BufE.nil⟩ (by repeat' (first | exact True.intro | refine And.intro ?_ ?_ | exact rfl | exact vi (by omega) | (dsimp only; exact rfl) | (dsimp only; exact vi (by omega)))) Ent.refl rfl ?_
  rintro ⟨i, a1, c1, D1⟩ junk ⟨hi, hB⟩
  dsimp only at hi hB ⊢
  have htl : (l.take i).length = i := by rw [List.length_take]; omega
  by_cases hil : i < l.length
  · obtain ⟨x, hx⟩ : ∃ x, l[i]? = some x := ⟨_, List.getElem?_eq_getElem hil⟩
    have htk := take_x hx
    obtain ⟨op, ia, ib, ic, imm⟩ := x
    have hln : (l.take i).length + 1 = (l.take (i + 1)).length := by rw [← htk]; simp
    repeat' ((try (conv => whnf)); first | (apply br_pyE; (exact rfl); omega) | (apply app_i (enc := Ins.enc) (T := 69) ⟨op, ia, ib, ic, imm⟩ hB; (exact rfl); (exact rfl); (omega); (exact rfl); (exact rfl); (omega); intro a2 c2 D2 hb2) | ((with_reducible show IxS _ _ _ _ _); first | ((refine ixE hR hx ?_ ?_; (first | rfl | omega)))) | ((with_reducible show LdN _ _ _ _ _); first | (refine ldNEi hR hx rfl ?_)) | (refine ari ?_ ?_; omega) | (refine new_i (fun bk hbk => ?_)))
    rw [htk] at hb2
    rw [hln]
    exact ⟨(i + 1, a2, c2, D2), ⟨hil, hb2⟩, (by show l.length - (i + 1) < l.length - i; omega), (by repeat' (first | exact True.intro | refine And.intro ?_ ?_ | exact rfl | exact vi (by omega) | (dsimp only; exact rfl) | (dsimp only; exact vi (by omega)))), ent_t1⟩
  · have hiN : i = l.length := by omega
    subst hiN
    repeat' ((try (conv => whnf)); first | (apply br_pnE; (exact rfl); omega))
    rw [List.take_length] at hB
    exact ⟨(a1, c1, D1), ⟨by rw [htl]; rfl, hB⟩, Ent.refl⟩
end
end Go.Proofs.YtfompmhncnkcfaaGreatDoor
namespace Go.Proofs.YtfompmhncnkcfaaGreatDoor
open Go
set_option maxRecDepth 10000
set_option maxHeartbeats 16000000
theorem spanL_end (len t : Nat) : ∀ (l : List Ins) (j : Nat) (b : Nat), b ≤ t → t < j → t < len → len = j + l.length → spanL len t l j b = ((b : Int), (endL l j : Int))
  | [], j, b, hb, hj, hl, he => by
    simp only [List.length_nil, Nat.add_zero] at he
    unfold spanL endL
    rw [if_pos (by omega), he]
  | x :: l, j, b, hb, hj, hl, he => by
    simp only [List.length_cons] at he
    rw [spanL, show endL (x :: l) j = (if x.op = 8 then j else endL l (j + 1)) from rfl, if_neg (by omega)]
    by_cases h8 : x.op = 8
    · rw [if_pos ⟨by omega, h8⟩, if_pos (by omega), if_pos h8]
    · rw [if_neg (by omega), if_neg h8]
      exact spanL_end len t l (j + 1) b hb (by omega) hl (by omega)
theorem span_at {p : List Ins} (h : checkP p = (0, 0)) {k : Nat} {x : Ins} (hx : p[k]? = some x) (h7 : x.op = 7) (hb : stB p k < 0) : span p k = ((k : Int), (endM p k : Int)) := by
  have hk := (List.getElem?_eq_some_iff.1 hx).1
  have hi := ck_inv h (by omega : k ≤ p.length)
  rw [hi.sp k (Nat.le_refl _), drop_at hx, spanL, if_pos ⟨hb, h7⟩, spanL_end p.length k (p.drop (k + 1)) (k + 1) k (Nat.le_refl _) (Nat.lt_succ_self _) hk (by rw [List.length_drop]; omega)]
  rfl
abbrev ChB (b3 : Nat) (t f : Int) (aa : Option Addr) (al ac : Nat) : Nat × (Obj → Prop) := (b3, fun o => o = Obj.cells #[.int .i64 t, .int .i64 f, .slice aa al ac] 43 (0, 0))
section
variable {W0 : World} {Kp K : Own} {g : DP} {c : Cfg} {ps : List PH} {s : GS}
abbrev TxP (W0 : World) (Kp : Own) (g : DP) (c : Cfg) (ps : List PH) (s : GS) (t : Nat) (th : Thr) (ph : PH) (f : Int) (ad : List Int) (q : Own) (v : Value) (own' : Own) : Prop :=
  ((v = .bool false ∧ txM c ph.p s th t f ad = none) ∧ Ent W0 own' (g.O c ps.length s ++ q)) ∨
  ∃ y : GS × DP × Thr, (v = .bool true ∧ y.1.T[t]? = some y.2.2 ∧ txM c ph.p s th t f ad = some (exS y.1 t ph.p.length y.2.2) ∧ y.1.n = s.n ∧ y.2.1.ok W0 Kp ps y.1 ∧ y.2.1.rb = g.rb) ∧ Ent W0 own' (y.2.1.O c ps.length y.1 ++ q)
theorem sp_rtxf {t : Nat} {th : Thr} {ph : PH} (hT : ThOk c ps s t th ph) (h : g.ok W0 Kp ps s) (hp : checkP ph.p = (0, 0)) {x0 : Ins} (hx0 : ph.p[th.pc]? = some x0) (h7 : x0.op = 7) (hst : stB ph.p th.pc < 0) {f : Int} (hf : f ≠ 0) {aa : Option Addr} {ad : List Int} {ac : Nat} (q : Own) [ek : EntC q Kp] :
    Spec Tryz.prog W0 43 [.pointer (some ⟨g.rb, 0, none⟩), chV t f aa ad.length ac] (g.O c ps.length s ++ q) (TxP W0 Kp g c ps s t th ph f ad q) := by
  have hth := hT.hth
  have htl := (List.getElem?_eq_some_iff.1 hth).1
  have htO : t < s.O.length := by rw [hT.tl]; exact htl
  have hT0 := h.t
  have hTR := hT0.rd (W0 := W0)
  have hpl := ck_len hp
  have hsp0 := span_at hp hx0 h7 hst
  obtain ⟨e', he', hke, hel, -⟩ := of_begin hp hx0 h7
  have hmem := List.mem_of_getElem? hT.hph
  have hph := hT.hph
  have hKK := h.k
  have hsp := fun (own' : Own) [EntC own' Kp] => sp_span (own := own') (cap := ph.cap) (RdE.up (h.kp ph hmem)) (by omega) th.pc
  rw [hsp0, he'] at hsp
  dsimp only at hsp
  have htS : t < g.S.length := by
    have h1 := congrArg List.length h.ol
    rw [List.length_map] at h1
    omega
  have htx : txM c ph.p s th t f ad = if (3 ≤ f ∧ f ≤ 6) ∧ ad = [] then some (s.fin t ⟨e' + 1, th.rg, f, decide (e' + 1 = ph.p.length)⟩ [⟨th.pc, 3, f⟩]) else none := by
    unfold txM; rw [if_pos hf, he']
  refine spec_of mixed lowc_ref22_Global_transaction (by simp [irc_ref22_Global_transaction]) ?_
  delta TxP
  rw [htx]
  clear htx
  by_cases hff : 3 ≤ f ∧ f ≤ 6
  · by_cases hal0 : ad = []
    · rw [if_pos ⟨hff, hal0⟩]
      have hl0 : ¬ (0 : Int) < ad.length := by rw [hal0]; simp
      have hq : f = 3 ∨ f = 4 ∨ f = 5 ∨ f = 6 := by omega
      have hth1 : (s.T.set t { th with oc := f })[t]? = some { th with oc := f } := List.getElem?_set_self htl
      have hob9 : ∀ l ∈ s.O, l.length ≤ 1000000 := fun l hl => by have := hT.ob l hl; omega
      have hse := fun (b3 : Nat) (D2 : Own) (hb2 : BufE Thr.enc 66 11 g.ta g.tc ((s.T.set t { th with oc := f }).set t { th with oc := f, pc := e' + 1 }) D2) =>
        spec_keep (E := [ChB b3 t f aa ad.length ac]) (q := q) (sp_rsee (c := c) (g := { g with tD := D2 }) (s := { s with T := (s.T.set t { th with oc := f }).set t { th with oc := f, pc := e' + 1 } }) (ps := ps) (W0 := W0) (Kp := Kp) ⟨h.d, h.m, h.k, h.kp, hb2, h.e, h.em, h.ev, h.o, h.os, h.ol⟩ htS hob9 th.pc 3 f)
      repeat' ((try (conv => whnf)); first | (refine new_i (fun b3 h3 => ?_); (apply Stop.h)))
      refine Stop.mk ?_
      repeat' ((try (conv => whnf)); first | (refine when_ye ?_ ?_; exact rfl) | (refine when_ne ?_ ?_; exact rfl) | (apply br_pyE; (exact rfl); omega) | (apply br_pnE; (exact rfl); omega) | (apply when_pnE; (exact rfl); omega) | (apply stE_i (enc := Thr.enc) (T := 66) (j := t) (k := 9) { th with oc := f } hT0 hth; (exact rfl); (omega); (exact rfl); (exact rfl); intro D1 hb1) | (apply stE_i (enc := Thr.enc) (T := 66) (j := t) (k := 0) { th with oc := f, pc := e' + 1 } hb1 hth1; (exact rfl); (omega); (exact rfl); (exact rfl); intro D2 hb2) | ((with_reducible show Ld _ _ _ _); first | (refine ldE0 hTR hth rfl ?_) | (refine ldE0 hKK hph rfl ?_)) | ((with_reducible show IxS _ _ _ _ _); first | ((refine ixE hTR hth ?_ ?_; (first | rfl | omega))) | ((refine ixE hKK hph ?_ ?_; (first | rfl | omega)))) | ((with_reducible show CallT _ _ _ _ _ _); first | ((refine call_pe (hsp _) ?_ ?_ ?_; (exact rfl); exact rfl)) | ((refine call_to (hse b3 D2 hb2) ?_ ?_ ?_ (fun g2 v hg2 => ?_); (dsimp only [DP.O, DP.cells]; rw [List.length_set, List.length_set]; exact (by first | exact ent_i | (repeat (first | exact Ent.refl | exact Ent.left | refine Ent.cons ?_ | refine Ent.app ?_)))); (exact rfl); (exact rfl); (obtain ⟨hk2, hg2, -⟩ := hg2)))) | (refine ari ?_ ?_; omega) | (refine aru ?_ ?_; omega) | (apply sel; exact rfl) | (apply ld_o; exact rfl) | (apply when_dE; (exact rfl); (exact rfl); all_goals intro hc))
      all_goals first | (exfalso; omega) | skip
      all_goals
        refine .inr ⟨({ s with T := (s.T.set t { th with oc := f }).set t { th with oc := f, pc := e' + 1 }, O := s.O.set t (s.O.getD t [] ++ [⟨th.pc, 3, f⟩]) }, g2, { th with oc := f, pc := e' + 1 }), ⟨rfl, ?_, ?_, rfl, hk2, by rw [hg2]⟩, (by first | exact ent_i | (repeat (first | exact Ent.refl | exact Ent.left | refine Ent.cons ?_ | refine Ent.app ?_)))⟩
        · show ((s.T.set t { th with oc := f }).set t { th with oc := f, pc := e' + 1 })[t]? = _
          rw [List.getElem?_set_self (by rw [List.length_set]; exact htl)]
        · simp only [exS, GS.fin, List.set_set]
    · rw [if_neg (fun h => hal0 h.2)]
      have hl0 : (0 : Int) < ad.length := by
        have : ad.length ≠ 0 := fun h => hal0 (List.eq_nil_of_length_eq_zero h)
        omega
      have hq : f = 3 ∨ f = 4 ∨ f = 5 ∨ f = 6 := by omega
      repeat' ((try (conv => whnf)); first | (refine when_ye ?_ ?_; exact rfl) | (refine when_ne ?_ ?_; exact rfl) | (apply br_pyE; (exact rfl); omega) | (apply when_pnE; (exact rfl); omega) | ((with_reducible show Ld _ _ _ _); first | (refine ldE0 hTR hth rfl ?_) | (refine ldE0 hKK hph rfl ?_)) | ((with_reducible show IxS _ _ _ _ _); first | ((refine ixE hTR hth ?_ ?_; (first | rfl | omega))) | ((refine ixE hKK hph ?_ ?_; (first | rfl | omega)))) | ((with_reducible show CallT _ _ _ _ _ _); first | ((refine call_pe (hsp _) ?_ ?_ ?_; (exact rfl); exact rfl))) | (apply sel; exact rfl) | (apply ld_o; exact rfl) | (refine new_i (fun bk hbk => ?_)) | (apply when_dE; (exact rfl); (exact rfl); all_goals intro hc))
      all_goals first | (exfalso; omega) | exact .inl ⟨⟨rfl, rfl⟩, (by first | exact ent_i | (repeat (first | exact Ent.refl | exact Ent.left | refine Ent.cons ?_ | refine Ent.app ?_)))⟩
  · rw [if_neg (fun h => hff h.1)]
    repeat' ((try (conv => whnf)); first | (refine when_ye ?_ ?_; exact rfl) | (refine when_ne ?_ ?_; exact rfl) | (refine br_te ?_ ?_; exact rfl) | (apply br_pyE; (exact rfl); omega) | (apply when_pyE; (exact rfl); omega) | ((with_reducible show Ld _ _ _ _); first | (refine ldE0 hTR hth rfl ?_) | (refine ldE0 hKK hph rfl ?_)) | ((with_reducible show IxS _ _ _ _ _); first | ((refine ixE hTR hth ?_ ?_; (first | rfl | omega))) | ((refine ixE hKK hph ?_ ?_; (first | rfl | omega)))) | ((with_reducible show CallT _ _ _ _ _ _); first | ((refine call_pe (hsp _) ?_ ?_ ?_; (exact rfl); exact rfl))) | (apply sel; exact rfl) | (apply ld_o; exact rfl) | (refine new_i (fun bk hbk => ?_)))
    all_goals first | (exfalso; omega) | exact .inl ⟨⟨rfl, rfl⟩, (by first | exact ent_i | (repeat (first | exact Ent.refl | exact Ent.left | refine Ent.cons ?_ | refine Ent.app ?_)))⟩
end
end Go.Proofs.YtfompmhncnkcfaaGreatDoor
namespace Go.Proofs.YtfompmhncnkcfaaGreatDoor
open Go
set_option maxRecDepth 10000
set_option maxHeartbeats 16000000
section
variable {α : Type} {enc : α → List Value} {sz : Nat} {W0 : World} {own own' : Own} {a : Option Addr}
theorem app_0 {T : TypeId} {bytes cap m : Nat} {zs : List Value} {D : Own} {C : Own → Own} {a2 : Option Addr} {l2 : List α} {K : Value → Own → Prop} (hB : BufE enc T sz a cap [] D) (hx : RdE enc sz W0 own' a2 l2) [mm : AtC D own C] [me : EntC own own'] (hm : m = l2.length)
    (hz : zs.length = sz) (hs : 0 < sz) (h1 : ∀ x ∈ l2, (enc x).all oneC = true) (hb : l2.length * bytes ≤ 140737488355328)
    (hk : ∀ a' cap' D', BufE enc T sz a' cap' l2 D' → K (.slice a' l2.length cap') (C D')) : AppT W0 own T sz bytes zs a 0 cap a2 m K :=
  app_l hB hx hm hz hs h1 (fun _ => by simpa using hb) fun a' cap' D' h => by
    have e : ([] : List α).length + l2.length = l2.length := Nat.zero_add _
    rw [e]
    exact hk a' cap' D' h
theorem st_bp {b : Nat} {T : TypeId} {pre post : List Value} {t : Thr} {off : Nat} {v : Value} {K : Own → Prop} {C : (Obj → Prop) → Own} [m : UpC b (fun o => o = Obj.cells (pre ++ (t.enc ++ post)).toArray T (0, 0)) own C] (pre' : List Value) (hs : (pre ++ (t.enc ++ post)).set off v = pre' ++ (t.enc ++ post)) (h1 : oneC v = true) (ho : off < (pre ++ (t.enc ++ post)).length)
    (h : K (C fun o => o = Obj.cells (pre' ++ (t.enc ++ post)).toArray T (0, 0))) : StT W0 own ⟨b, off, none⟩ v K := by
  refine st_o (by simp at ho ⊢; omega) h1 ?_
  rw [List.toList_toArray, hs]
  exact h
theorem ent_rtx1 {W0 : World} {e b : Nat × (Obj → Prop)} {D Z : Own} : Ent W0 (e :: (D ++ (b :: Z))) ([b] ++ ((e :: (D ++ ([] ++ ([] ++ ([] ++ []))))) ++ Z)) := ent_cnt [] fun a => by simp only [cnt_app, cnt_cons, cnt_nil]; omega
theorem ent_rtx2 {W0 : World} {e b : Nat × (Obj → Prop)} {D D2 R W N G q : Own} : Ent W0 ([b] ++ ((e :: (D ++ (D2 ++ (R ++ (W ++ N))))) ++ (G ++ q))) ((e :: (D ++ (D2 ++ (R ++ (W ++ N))))) ++ (G ++ (b :: q))) := ent_cnt [] fun a => by simp only [cnt_app, cnt_cons, cnt_nil]; omega
theorem ent_rtx3 {W0 : World} {b : Nat × (Obj → Prop)} {X G q : Own} : Ent W0 (X ++ (G ++ (b :: q))) (G ++ q) := ent_cnt (b :: X) fun a => by simp only [cnt_app, cnt_cons]; omega
theorem ent_rtx4 {W0 : World} {m e b : Nat × (Obj → Prop)} {Dd Dk A B T E O S1 S2 S3 X R W N q : Own} : Ent W0 ((m :: (A ++ (B ++ (T ++ (E ++ (O ++ ((S1 ++ (S2 ++ S3)) ++ X))))))) ++ ((e :: (Dd ++ (Dk ++ (R ++ (W ++ N))))) ++ (b :: q)))
    (e :: ((m :: (Dd ++ (Dk ++ (T ++ (E ++ (O ++ ((S1 ++ (S2 ++ S3)) ++ (R ++ (W ++ X))))))))) ++ (b :: q))) := ent_cnt (A ++ (B ++ N)) fun a => by simp only [cnt_app, cnt_cons]; omega
theorem ent_rtx5 {W0 : World} {m e b : Nat × (Obj → Prop)} {Dd Dk A B T E O S X R W N q : Own} : Ent W0 ((m :: (A ++ (B ++ (T ++ (E ++ (O ++ (S ++ X))))))) ++ ((e :: (Dd ++ (Dk ++ (R ++ (W ++ N))))) ++ (b :: q)))
    (e :: ((m :: (A ++ (B ++ (T ++ (E ++ (O ++ (S ++ (R ++ X)))))))) ++ (b :: q))) := ent_cnt (Dd ++ (Dk ++ (W ++ N))) fun a => by simp only [cnt_app, cnt_cons]; omega
theorem ent_rtx7 {W0 : World} {e : Nat × (Obj → Prop)} {G q : Own} : Ent W0 (e :: (G ++ q)) (G ++ ([e] ++ q)) := ent_cnt [] fun a => by simp only [cnt_app, cnt_cons, cnt_nil]; omega
theorem ent_rtx6 {W0 : World} {e b : Nat × (Obj → Prop)} {G q : Own} : Ent W0 (G ++ ([e] ++ (b :: q))) (G ++ q) := ent_cnt [e, b] fun a => by simp only [cnt_app, cnt_cons, cnt_nil]; omega
end
section
variable {W0 : World} {Kp K : Own} {g : DP} {c : Cfg} {ps : List PH} {s : GS}
structure TxE (W0 : World) (Kp : Own) (g : DP) (c : Cfg) (ps : List PH) (s : GS) (t : Nat) (th : Thr) (ph : PH) (ad : List Int) (e' : Nat) (out : Int) (xb : Nat) (y : GS × DP × BG × BM × Thr) : Prop where
  ok : y.2.1.ok W0 Kp ps y.1
  rb : y.2.1.rb = g.rb
  ta : y.2.1.ta = g.ta
  hxb : y.2.2.1.xb = xb
  hth : y.1.T[t]? = some y.2.2.2.2
  tO : t < y.1.O.length
  ob : ∀ l ∈ y.1.O, l.length ≤ 1000000
  el : y.1.E.length ≤ 600000
  n : y.1.n = s.n
  r : RdE encI 1 W0 y.2.1.X y.2.2.1.ra y.2.2.2.1.r
  w : RdE encI 1 W0 y.2.1.X y.2.2.1.wa y.2.2.2.1.w
  tx : txM c ph.p s th t 0 ad = some (exS { (y.1.ev [⟨y.1.n, t, 4, 0, y.2.2.2.1.r, y.2.2.2.1.w⟩]) with T := (y.1.T.set t { y.2.2.2.2 with oc := out }).set t { y.2.2.2.2 with oc := out, pc := e' + 1 }, O := y.1.O.set t (y.1.O.getD t [] ++ [⟨th.pc, 3, out⟩]) } t ph.p.length { y.2.2.2.2 with oc := out, pc := e' + 1 })
theorem sp_rtx0 {t : Nat} {th : Thr} {ph : PH} (hT : ThOk c ps s t th ph) (h : g.ok W0 Kp ps s) (hp : checkP ph.p = (0, 0)) {x0 : Ins} (hx0 : ph.p[th.pc]? = some x0) (h7 : x0.op = 7) (hst : stB ph.p th.pc < 0) (htk : s.tk.length = (blocksM c).toNat) {aa : Option Addr} {ad : List Int} {ac : Nat} (hA : RdE encI 1 W0 K aa ad) (hal : ad.length ≤ ac) (had : ∀ a ∈ ad, a ≤ 9223372036854775807) (q : Own) [ek : EntC q Kp] [ek2 : EntC q K] :
    Spec Tryz.prog W0 43 [.pointer (some ⟨g.rb, 0, none⟩), chV t 0 aa ad.length ac] (g.O c ps.length s ++ q) (TxP W0 Kp g c ps s t th ph 0 ad q) := by
  have hth := hT.hth
  have htl := (List.getElem?_eq_some_iff.1 hth).1
  have htO : t < s.O.length := by rw [hT.tl]; exact htl
  have hT0 := h.t
  have hTR := hT0.rd (W0 := W0)
  have hMR := h.m.rd (W0 := W0)
  have hpl := ck_len hp
  have hsp0 := span_at hp hx0 h7 hst
  obtain ⟨e', he', hke, hel, -⟩ := of_begin hp hx0 h7
  have hmem := List.mem_of_getElem? hT.hph
  have hph := hT.hph
  have hKK := h.k
  have hPR := h.kp ph hmem
  have hwd := (check_ok hT.c0).1
  unfold okW at hwd
  have hdl := hT.dl
  have hkb := (blocks_bd c)
  have hsp := fun (own' : Own) [EntC own' Kp] => sp_span (own := own') (cap := ph.cap) (RdE.up hPR) (by omega) th.pc
  rw [hsp0, he'] at hsp
  dsimp only at hsp
  have htS : t < g.S.length := by
    have h1 := congrArg List.length h.ol
    rw [List.length_map] at h1
    omega
  have hBI : BI c ⟨s.d, s.tk, { th with pc := th.pc + 1 }, [], [], [], ad⟩ := ⟨hT.dl, hT.dr, htk, hT.rg, Nat.zero_le _, Nat.zero_le _, Nat.zero_le _, fun _ h => (by cases h), fun _ h => (by cases h), had⟩
  have htx : txM c ph.p s th t 0 ad = match runM c ph.p ph.p.length ⟨s.d, s.tk, { th with pc := th.pc + 1 }, [], [], [], ad⟩ with
    | (b, o) => if o = -1 ∨ b.ad ≠ [] then none
      else if o = 1 then some (((s.mem b.d b.tk).ev [⟨s.n, t, 3, 0, [], []⟩, ⟨s.n, t, 4, 0, b.r, b.w⟩]).fin t ⟨e' + 1, b.t.rg, 1, decide (e' + 1 = ph.p.length)⟩ (b.o ++ [⟨th.pc, 3, 1⟩]))
      else some ((s.ev [⟨s.n, t, 3, 0, [], []⟩, ⟨s.n, t, 4, 0, b.r, []⟩]).fin t ⟨e' + 1, th.rg, o, decide (e' + 1 = ph.p.length)⟩ [⟨th.pc, 3, o⟩]) := by
    unfold txM; rw [if_neg (by simp), he']
  refine spec_of mixed lowc_ref22_Global_transaction (by simp [irc_ref22_Global_transaction]) ?_
  delta TxP
  have htw := fun (own' : Own) [EntC own' g.dD] => sp_twinWords (cap := g.dc) (RdE.up (own := own') (h.d.rd (W0 := W0))) (by omega)
  repeat' ((try (conv => whnf)); first | (refine new_i (fun b3 h3 => ?_); (apply Stop.h)))
  refine Stop.mk ?_
  repeat' ((try (conv => whnf)); first | (refine br_fe ?_ ?_; exact rfl) | ((with_reducible show Ld _ _ _ _); first | (refine ldE0 hTR hth rfl ?_) | (refine ldE0 hKK hph rfl ?_)) | ((with_reducible show IxS _ _ _ _ _); first | ((refine ixE hTR hth ?_ ?_; (first | rfl | omega))) | ((refine ixE hKK hph ?_ ?_; (first | rfl | omega)))) | ((with_reducible show CallT _ _ _ _ _ _); first | ((refine call_pe (hsp _) ?_ ?_ ?_; (exact rfl); exact rfl))) | (apply sel; exact rfl) | (apply ld_o; exact rfl))
  refine cut_i (σ := BG) (2 ^ 95 - 2 ^ 83 + 2 ^ 10) (fun x => [(10, .pointer (some ⟨x.xb, 0, none⟩))]) (fun x => [ChB b3 t 0 aa ad.length ac] ++ (x.O (⟨s.d, [], th, [], [], [], ad⟩ : BM) false ++ (g.O c ps.length s ++ q))) (fun x => x.ok W0 K (⟨s.d, [], th, [], [], [], ad⟩ : BM)) rfl ?_ ?_
  · repeat' ((try (conv => whnf)); first | (refine new_i (fun bk hbk => ?_)) | ((with_reducible show LdN _ _ _ _ _); first | (refine ldNEi hTR hth rfl ?_)) | ((with_reducible show CallT _ _ _ _ _ _); first | ((refine call_x (htw _) ?_ ?_ (fun y v hv => ?_); (exact rfl); (exact rfl); (obtain ⟨a1, c1, D1⟩ := y; obtain ⟨rfl, hB⟩ := hv; dsimp only at hB)))) | (apply ld_o; exact rfl) | (refine Both.mk ?_ ?_))
    all_goals exact ⟨⟨bk, a1, c1, D1, none, 0, [], none, 0, [], none, 0, [], none, 0, [], aa, ac⟩, ⟨hB, BufE.nil, hA, hal, BufE.nil, BufE.nil, BufE.nil⟩, (by repeat' (first | exact True.intro | refine And.intro ?_ ?_ | exact rfl | exact vi (by omega) | (dsimp only; exact rfl) | (dsimp only; exact vi (by omega)))), ent_rtx1⟩
  rintro x junk hxok
  dsimp only at hxok ⊢
  have hxm := hxok.m
  dsimp only at hxm
  -- VSHOW
  repeat' ((try (conv => whnf)); first | (refine app_0 hxm hMR rfl rfl (by omega) (fun _ _ => rfl) (by omega) (fun a2 c2 D2 hb2 => ?_); (apply Stop.h)) | (apply ld_o; exact rfl))
  refine Stop.mk ?_
  obtain ⟨x1, hx1⟩ : ∃ x1 : BG, x1 = { x with ka := a2, kc := c2, kD := D2 } := ⟨_, rfl⟩
  repeat' ((try (conv => whnf)); first | (refine st_bp (t := th) (pre := x.pre (⟨s.d, [], th, [], [], [], ad⟩ : BM)) (post := x.post (⟨s.d, [], th, [], [], [], ad⟩ : BM) false) (({ x with ka := a2, kc := c2, kD := D2 } : BG).pre (⟨s.d, s.tk, th, [], [], [], ad⟩ : BM)) rfl rfl ?_ ?_; (simp)) | (refine ld_th (t := th) (pre := ({ x with ka := a2, kc := c2, kD := D2 } : BG).pre (⟨s.d, s.tk, th, [], [], [], ad⟩ : BM)) (post := x.post (⟨s.d, [], th, [], [], [], ad⟩ : BM) false) (k := 0) (v := .int .i64 th.pc) rfl ?_ ?_; (exact rfl)) | (refine st_pcN (t := th) (pre := ({ x with ka := a2, kc := c2, kD := D2 } : BG).pre (⟨s.d, s.tk, th, [], [], [], ad⟩ : BM)) (post := x.post (⟨s.d, [], th, [], [], [], ad⟩ : BM) false) (n := th.pc + 1) ?_ ?_ ?_; (omega); (exact rfl)) | (refine ari ?_ ?_; omega))
  generalize hz : runM c ph.p ph.p.length ⟨s.d, s.tk, { th with pc := th.pc + 1 }, [], [], [], ad⟩ = z at htx
  obtain ⟨zb, zo⟩ := z
  dsimp only at htx
  refine loop_i (σ := Nat × BM × BG × Int × Bool) (fun y => [(11, .int .i64 y.2.2.2.1)]) (fun y => y.2.2.1.O y.2.1 y.2.2.2.2 ++ (g.O c ps.length s ++ (ChB b3 t 0 aa ad.length ac :: q)))
    (fun y => y.2.2.1.xb = x.xb ∧ ((y.2.2.2.2 = false ∧ y.2.2.1.ok W0 K y.2.1 ∧ BI c y.2.1 ∧ y.2.1.t.pc ≤ e' ∧ ((y.2.2.2.1 = 0 ∧ runM c ph.p y.1 y.2.1 = (zb, zo) ∧ th.pc < y.2.1.t.pc ∧ e' < y.1 + y.2.1.t.pc) ∨ (0 < y.2.2.2.1 ∧ y.2.2.2.1 ≤ 8 ∧ (y.2.1.go, y.2.2.2.1) = (zb, zo)))) ∨ (y.2.2.2.2 = true ∧ y.2.2.2.1 = 0 ∧ zo = -1)))
    (fun y => if y.2.2.2.1 = 0 ∧ y.2.2.2.2 = false then y.1 + 1 else 0) (ph.p.length, ⟨s.d, s.tk, { th with pc := th.pc + 1 }, [], [], [], ad⟩, { x with ka := a2, kc := c2, kD := D2 }, 0, false)
    ⟨rfl, .inl ⟨rfl, ⟨hxok.d, hb2, hxok.a, hxok.al, hxok.r, hxok.w, hxok.o⟩, hBI, (by show th.pc + 1 ≤ e'; omega), .inl ⟨rfl, hz, Nat.lt_succ_self _, by show e' < ph.p.length + (th.pc + 1); omega⟩⟩⟩ (by repeat' (first | exact True.intro | refine And.intro ?_ ?_ | exact rfl | exact vi (by omega) | (dsimp only; exact rfl) | (dsimp only; exact vi (by omega)))) ent_rtx2 rfl ?_
  rintro ⟨n, b1, x1, out, bad⟩ junk ⟨hxb, hI⟩
  dsimp only at hxb hI ⊢
  rw [← hxb]
  rcases hI with ⟨rfl, hok, hbi, hk2, ⟨rfl, hrun, hk1, hk3⟩ | ⟨ho1, ho2, hrun⟩⟩ | ⟨rfl, rfl, hzn⟩
  · obtain ⟨xi, hxi, hi, -, n7, n12, n13, n16, n17⟩ := tx_at hp hx0 h7 hk1 (by rw [he']; exact hk2)
    obtain ⟨m, rfl⟩ : ∃ m, n = m + 1 := ⟨n - 1, by omega⟩
    have hst1 := tx_step hp hx0 h7 hk1 (by rw [he']; exact hk2) hxi (c := c) (b := b1) rfl
    have hso := stp_ok (c := c) (b := b1) hi hbi
    have hse := stp_end (c := c) (b := b1) (x := xi)
    rw [runM, hxi] at hrun
    simp only at hrun
    have h18 := (ic_regs hi).1
    have hop : isL xi = true ∨ xi.op = 8 ∨ xi.op = 9 ∨ xi.op = 10 ∨ xi.op = 11 ∨ xi.op = 14 ∨ xi.op = 15 := by simp only [isL, decide_eq_true_eq]; omega
    have hin := sp_inside (dp := g) (np := ps.length) (s := s) hok hi hop hT.c0 hbi (by omega) (ChB b3 t 0 aa ad.length ac :: q)
    generalize stpM c b1 xi = y at *
    repeat' ((try (conv => whnf)); first | (refine when_ye ?_ ?_; exact rfl) | (refine br_te ?_ ?_; exact rfl) | (refine ld_th (t := b1.t) (pre := x1.pre b1) (post := x1.post b1 false) (k := 0) (v := .int .i64 b1.t.pc) rfl ?_ ?_; (exact rfl)) | ((with_reducible show IxS _ _ _ _ _); first | ((refine ixE hPR hxi ?_ ?_; (first | rfl | omega)))) | ((with_reducible show LdN _ _ _ _ _); first | (refine ldNEi hPR hxi rfl ?_)) | ((with_reducible show CallT _ _ _ _ _ _); first | ((refine call_or hin ?_ ?_ ?_ (fun v hv => ?_) (fun y2 v hv => ?_); (exact Ent.refl); (exact rfl); (exact rfl); all_goals (apply Stop.h)))) | (apply ld_o; exact rfl))
    · obtain ⟨rfl, hz1⟩ := hv
      refine Stop.mk ?_
      skip
      refine ⟨(m, b1, x1, 0, true), ⟨rfl, .inr ⟨rfl, rfl, ?_⟩⟩, by simp, (by repeat' (first | exact True.intro | refine And.intro ?_ ?_ | exact rfl | exact vi (by omega) | (dsimp only; exact rfl) | (dsimp only; exact vi (by omega)))), Ent.refl⟩
      rw [if_neg (by omega)] at hrun
      rw [hrun] at hz1
      exact hz1
    · obtain ⟨rfl, hz1, hok2, hxb2, h20, h2n⟩ := hv
      refine Stop.mk ?_
      skip
      by_cases h0 : y.2 = 0
      · have := hst1 h0
        have hy2 := h20 h0
        rw [if_pos h0] at hrun
        refine ⟨(m, y2.2, y2.1, y.2, false), ⟨hxb2, .inl ⟨rfl, hok2, by rw [hy2]; exact hso hz1, ?_, .inl ⟨h0, by rw [hy2]; exact hrun, ?_, ?_⟩⟩⟩, ?_, (by repeat' (first | exact True.intro | refine And.intro ?_ ?_ | exact rfl | exact vi (by omega) | (dsimp only; exact rfl) | (dsimp only; exact vi (by omega)))), Ent.refl⟩
        · show y2.2.t.pc ≤ e'; rw [hy2]; omega
        · show th.pc < y2.2.t.pc; rw [hy2]; omega
        · show e' < m + y2.2.t.pc; rw [hy2]; omega
        · dsimp only; split <;> simp
      · have hy2 := h2n h0
        rw [if_neg h0] at hrun
        obtain ⟨he1, he2, he3⟩ := hse h0 hz1
        refine ⟨(m, y2.2, y2.1, y.2, false), ⟨hxb2, .inl ⟨rfl, hok2, by rw [hy2]; exact hbi, by rw [hy2]; exact hk2, .inr ⟨he2, he3, ?_⟩⟩⟩, ?_, (by repeat' (first | exact True.intro | refine And.intro ?_ ?_ | exact rfl | exact vi (by omega) | (dsimp only; exact rfl) | (dsimp only; exact vi (by omega)))), Ent.refl⟩
        · rw [hy2]
          dsimp only
          rw [← he1]
          exact hrun
        · simp [h0]
  · obtain ⟨rfl, rfl⟩ := Prod.mk.inj hrun
    have ho9 : ¬ out = 0 := by omega
    have hadg : b1.go.ad = b1.ad := rfl
    by_cases had0 : b1.ad = []
    · have hl : ¬ (0 : Int) < b1.ad.length := by rw [had0]; simp
      rw [if_neg (fun h => h.elim (fun h => by omega) (fun h => h had0))] at htx
      have hev := sp_revent (c := c) (W0 := W0) h t 3 0 (ra := none) (wa := none) (rl := []) (wl := []) (rc := 0) (wc := 0) RdE.nil RdE.nil (by have := hT.el; omega) (x1.O b1 false ++ (ChB b3 t 0 aa ad.length ac :: q))
      repeat' ((try (conv => whnf)); first | (refine when_ye ?_ ?_; exact rfl) | (refine when_ne ?_ ?_; exact rfl) | (refine br_fe ?_ ?_; exact rfl) | (apply br_pnE; (exact rfl); omega) | (apply when_pnE; (exact rfl); omega) | ((with_reducible show CallT _ _ _ _ _ _); first | ((refine call_to hev ?_ ?_ ?_ (fun g1 v hg1 => ?_); (exact Ent.of_perm (List.perm_append_comm_assoc _ _ _)); (exact rfl); (exact rfl); (apply Stop.h)))) | (apply ld_o; exact rfl))
      obtain ⟨hk1, hg1⟩ := hg1
      have hrb1 : g1.rb = g.rb := by rw [hg1]
      have hta1 : g1.ta = g.ta := by rw [hg1]
      rw [← hrb1, ← hta1]
      refine Stop.mk ?_
      skip
      refine cut_i (σ := GS × DP × BG × BM × Thr) (2 ^ 199 - 2 ^ 152) (fun _ => []) (fun y => thB y.2.2.1.xb 130 (y.2.2.1.pre y.2.2.2.1) (y.2.2.1.post y.2.2.2.1 false) y.2.2.2.1.t :: (y.2.1.O c ps.length y.1 ++ (ChB b3 t 0 aa ad.length ac :: q))) (TxE W0 Kp g1 c ps s t th ph ad e' out x1.xb) rfl ?_ ?_
      · by_cases ho : out = 1
        · subst ho
          rw [if_pos rfl] at htx
          have htS1 : t < g1.S.length := by
            have h1 := congrArg List.length hk1.ol
            rw [List.length_map] at h1
            have h2 : (s.ev [⟨s.n, t, 3, 0, [], []⟩]).O.length = s.O.length := rfl
            omega
          obtain ⟨xo, hxo1⟩ : ∃ xo, g1.S[t]? = some xo := ⟨_, List.getElem?_eq_getElem htS1⟩
          have hxm1 := List.mem_of_getElem? hxo1
          have hB := hk1.os xo hxm1
          have hxl : xo.l.length ≤ 500000 := hT.ob xo.l (by have := List.mem_map_of_mem (f := ObS.l) hxm1; rw [hk1.ol] at this; exact this)
          have hOO := hk1.o
          have hOR := hOO.rd (W0 := W0)
          have hTR1 := hk1.t.rd (W0 := W0)
          have hoR := hok.o.rd (W0 := W0)
          have hbo := hbi.ol
          have hb64 : b1.t.pc ≤ 100 := by omega
          dsimp only [DP.O]
          rw [ownS_split hxo1]
          repeat' ((try (conv => whnf)); first | (refine br_te ?_ ?_; exact rfl) | (refine stN_thr b1.t.rg hk1.t hth ?_ ?_ ?_ ?_; (exact rfl); omega; (exact rfl); intro D1 hb1) | (refine app_l hB hoR rfl rfl (by omega) (fun _ _ => rfl) (fun _ => by omega) (fun a5 c5 D5 hb5 => ?_)) | (apply stE_i (enc := ObS.enc) (T := 72) (j := t) (k := 0) ⟨a5, c5, xo.l ++ b1.o, D5⟩ hOO hxo1; (exact rfl); (omega); (simp only [ObS.enc, List.length_append]; exact rfl); (exact rfl); intro D6 hb6) | ((with_reducible show Ld _ _ _ _); first | (refine ldE0 hOR hxo1 rfl ?_)) | ((with_reducible show IxS _ _ _ _ _); first | ((refine ixE hOR hxo1 ?_ ?_; (first | rfl | omega)))) | (apply ld_o; exact rfl) | (apply ldN_o; (exact rfl); exact rfl) | (apply st_o; (exact rfl); exact rfl) | (refine Both.mk ?_ ?_))
          all_goals
            have ho := hk1.obs hxo1 hb5 hb6
            refine ⟨({ (s.ev [⟨s.n, t, 3, 0, [], []⟩]) with d := b1.d, tk := b1.tk, T := s.T.set t { th with rg := b1.t.rg }, O := s.O.set t (s.O.getD t [] ++ b1.o) }, { g1 with da := x1.da, dc := x1.dc, dD := x1.dD, ka := x1.ka, kc := x1.kc, kD := x1.kD, tD := D1, oD := D6, S := g1.S.set t ⟨a5, c5, xo.l ++ b1.o, D5⟩, X := x1.rD ++ (x1.wD ++ g1.X) }, x1, b1, { th with rg := b1.t.rg }),
              ⟨⟨hok.d, hok.m, hk1.k, hk1.kp, hb1, hk1.e, hk1.em, fun e he => ⟨(hk1.ev e he).1.up, (hk1.ev e he).2.up⟩, ho.o, ho.os, ho.ol⟩, rfl, rfl, rfl, List.getElem?_set_self htl, by simpa using htO, fun l hl => ob_set hT.ob (a := b1.o) (by omega) l hl, by have := hT.el; simp only [GS.ev, List.length_append, List.length_cons, List.length_nil]; omega, rfl, (hok.r.rd (W0 := W0)).up, (hok.w.rd (W0 := W0)).up, ?_⟩, trivial, ?_⟩
            · rw [htx]
              dsimp only [BM.go]
              simp only [exS, GS.fin, GS.ev, GS.mem, List.set_set, set_app htO, List.append_assoc, List.cons_append, List.nil_append]
            · dsimp only [DP.O, DP.cells, GS.ev]
              rw [ownS_set hxo1]
              simp only [List.length_set]
              exact ent_rtx4
        · rw [if_neg ho] at htx
          repeat' ((try (conv => whnf)); first | (apply br_pnE; (exact rfl); omega) | (refine st_bg (t := b1.t) (pre := x1.pre b1) (post := x1.post b1 false) (({ x1 with wa := none, wc := 0 } : BG).post ({ b1 with w := [] } : BM) false) rfl rfl ?_ ?_; (simp)))
          all_goals
            refine ⟨(s.ev [⟨s.n, t, 3, 0, [], []⟩], { g1 with X := x1.rD ++ g1.X }, { x1 with wa := none, wc := 0 }, { b1 with w := [] }, th),
              ⟨⟨hk1.d, hk1.m, hk1.k, hk1.kp, hk1.t, hk1.e, hk1.em, fun e he => ⟨(hk1.ev e he).1.up, (hk1.ev e he).2.up⟩, hk1.o, hk1.os, hk1.ol⟩, rfl, rfl, rfl, hth, htO, fun l hl => by have := hT.ob l hl; omega, by have := hT.el; simp only [GS.ev, List.length_append, List.length_cons, List.length_nil]; omega, rfl, (hok.r.rd (W0 := W0)).up, RdE.nil, ?_⟩, trivial, ent_rtx5⟩
            rw [htx]
            dsimp only [BM.go]
            simp only [exS, GS.fin, GS.ev, List.set_set, List.append_assoc, List.cons_append, List.nil_append]
      · rintro ⟨s2, g2, x2, b2, th2⟩ junk ⟨hk2, hrb2, hta2, hxb2, hth2, htO2, hob2, hel2, hn2, hr2, hw2, htx2⟩
        dsimp only at hk2 hrb2 hta2 hxb2 hth2 htO2 hob2 hel2 hn2 hr2 hw2 htx2 ⊢
        rw [← hrb2, ← hta2, ← hxb2]
        have htl2 := (List.getElem?_eq_some_iff.1 hth2).1
        have hev2 := sp_revent (c := c) hk2 t 4 0 (rc := x2.rc) (wc := x2.wc) hr2 hw2 (by omega) ([thB x2.xb 130 (x2.pre b2) (x2.post b2 false) b2.t] ++ (ChB b3 t 0 aa ad.length ac :: q))
        repeat' ((try (conv => whnf)); first | ((with_reducible show CallT _ _ _ _ _ _); first | ((refine call_to hev2 ?_ ?_ ?_ (fun g3 v hg3 => ?_); (exact ent_rtx7); (exact rfl); (exact rfl); (apply Stop.h)))) | (apply ld_o; exact rfl))
        obtain ⟨hk3, hg3⟩ := hg3
        have hrb3 : g3.rb = g2.rb := by rw [hg3]
        have hta3 : g3.ta = g2.ta := by rw [hg3]
        rw [← hrb3, ← hta3]
        have hT3 := hk3.t
        have hth4 : (s2.T.set t { th2 with oc := out })[t]? = some { th2 with oc := out } := List.getElem?_set_self htl2
        have htS3 : t < g3.S.length := by
          have h1 := congrArg List.length hk3.ol
          rw [List.length_map] at h1
          have h2 : (s2.ev [⟨s2.n, t, 4, 0, b2.r, b2.w⟩]).O.length = s2.O.length := rfl
          omega
        have hse := fun (D2 : Own) (hb2 : BufE Thr.enc 66 11 g3.ta g3.tc ((s2.T.set t { th2 with oc := out }).set t { th2 with oc := out, pc := e' + 1 }) D2) =>
          sp_rsee (c := c) (g := { g3 with tD := D2 }) (s := { (s2.ev [⟨s2.n, t, 4, 0, b2.r, b2.w⟩]) with T := (s2.T.set t { th2 with oc := out }).set t { th2 with oc := out, pc := e' + 1 } }) (ps := ps) (W0 := W0) (Kp := Kp) ⟨hk3.d, hk3.m, hk3.k, hk3.kp, hb2, hk3.e, hk3.em, hk3.ev, hk3.o, hk3.os, hk3.ol⟩ htS3 hob2 th.pc 3 out ([thB x2.xb 130 (x2.pre b2) (x2.post b2 false) b2.t] ++ (ChB b3 t 0 aa ad.length ac :: q))
        refine Stop.mk ?_
        repeat' ((try (conv => whnf)); first | (apply stE_i (enc := Thr.enc) (T := 66) (j := t) (k := 9) { th2 with oc := out } hT3 hth2; (exact rfl); (omega); (exact rfl); (exact rfl); intro D1 hb1) | (apply stE_i (enc := Thr.enc) (T := 66) (j := t) (k := 0) { th2 with oc := out, pc := e' + 1 } hb1 hth4; (exact rfl); (omega); (exact rfl); (exact rfl); intro D2 hb2) | ((with_reducible show CallT _ _ _ _ _ _); first | ((refine call_to (hse D2 hb2) ?_ ?_ ?_ (fun g4 v hg4 => ?_); (dsimp only [DP.O, DP.cells, GS.ev]; rw [List.length_set, List.length_set]; exact (by first | exact ent_i | (repeat (first | exact Ent.refl | exact Ent.left | refine Ent.cons ?_ | refine Ent.app ?_)))); (exact rfl); (exact rfl); (obtain ⟨hk4, hg4, -⟩ := hg4)))) | (refine ari ?_ ?_; omega) | (refine aru ?_ ?_; omega) | (apply ld_o; exact rfl))
        refine .inr ⟨({ (s2.ev [⟨s2.n, t, 4, 0, b2.r, b2.w⟩]) with T := (s2.T.set t { th2 with oc := out }).set t { th2 with oc := out, pc := e' + 1 }, O := s2.O.set t (s2.O.getD t [] ++ [⟨th.pc, 3, out⟩]) }, g4, { th2 with oc := out, pc := e' + 1 }), ⟨rfl, ?_, htx2, hn2, hk4, by rw [hg4]⟩, ent_rtx6⟩
        show ((s2.T.set t { th2 with oc := out }).set t { th2 with oc := out, pc := e' + 1 })[t]? = _
        rw [List.getElem?_set_self (by rw [List.length_set]; exact htl2)]
    · have hl : (0 : Int) < b1.ad.length := by
        have : b1.ad.length ≠ 0 := fun h => had0 (List.eq_nil_of_length_eq_zero h)
        omega
      rw [if_pos (.inr had0)] at htx
      repeat' ((try (conv => whnf)); first | (refine when_ye ?_ ?_; exact rfl) | (refine when_ne ?_ ?_; exact rfl) | (refine br_fe ?_ ?_; exact rfl) | (apply br_pyE; (exact rfl); omega) | (apply when_pnE; (exact rfl); omega) | (apply ld_o; exact rfl))
      exact .inl ⟨⟨rfl, htx⟩, ent_rtx3⟩
  · subst hzn
    rw [if_pos (.inl rfl)] at htx
    repeat' ((try (conv => whnf)); first | (refine when_ye ?_ ?_; exact rfl) | (refine when_ne ?_ ?_; exact rfl) | (refine br_te ?_ ?_; exact rfl) | (refine br_fe ?_ ?_; exact rfl) | (apply ld_o; exact rfl))
    exact .inl ⟨⟨rfl, htx⟩, ent_rtx3⟩
end
end Go.Proofs.YtfompmhncnkcfaaGreatDoor
