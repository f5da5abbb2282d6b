/- What the laws share, part 26. No condition. -/
import Derived.Test.YtllddgdmmfmpkaaGreatDoorY25
namespace Go.Proofs.YtllddgdmmfmpkaaGreatDoor
open Go
set_option maxRecDepth 10000
theorem kont_st (c : Cfg) (x : AT) (k : Ko) : (x.kont c k).st = x.st := by
  have he : ∀ (x : AT) (cd : Int), (x.endA c cd).st = x.st := fun x cd => by unfold AT.endA; split <;> rfl
  cases k with
  | en cd => exact he x cd
  | tk v => rfl
  | wr a v =>
    unfold AT.kont
    dsimp only
    split
    · exact he x 7
    · split <;> rfl
theorem stA_st {c : Cfg} {t : Int} {m : MS} {x : AT} (h : x.ph ≠ .lv) : (stepA c t m x).2.1.st = x.st := by
  have hr : ∀ x : AT, x.rest.st = x.st := fun x => by unfold AT.rest; split <;> rfl
  cases hp : x.ph with
  | lv => exact absurd hp h
  | loc k => unfold stepA; simp only [hp]; exact kont_st c _ k
  | ent k => unfold stepA; simp only [hp]; (repeat' split) <;> rfl
  | rd k b v => unfold stepA; simp only [hp]; (repeat' split) <;> rfl
  | lk s ld => rw [stA_lk hp]; (repeat' split) <;> rfl
  | tn b =>
    cases b with
    | false => rw [stA_tn0 hp]
    | true => rw [stA_tn1 hp]; (repeat' split) <;> rfl
  | ck l => rw [stA_ck hp]; dsimp only; (repeat' split) <;> first | rfl | exact hr _
  | dc => rw [stA_dc hp]; dsimp only; (repeat' split) <;> first | rfl | exact hr _
  | wr a v => unfold stepA; simp only [hp]; (repeat' split) <;> rfl
  | rl a v => unfold stepA; simp only [hp]; (repeat' split) <;> rfl
  | idle => unfold stepA; simp only [hp]
  | sp => unfold stepA; simp only [hp]
  | ps => unfold stepA; simp only [hp]
theorem code_get {R k : Nat} (h : k < 6 * R) : ∃ i, (codeT R)[k]? = some i ∧ part[k % 6]? = some i ∧ (i = iR ∨ (i.op ≠ 10 ∧ i.op ≠ 14)) := by
  have h2 : k % 6 < 6 := Nat.mod_lt _ (by omega)
  rw [code_at h]
  have h6 : k % 6 = 0 ∨ k % 6 = 1 ∨ k % 6 = 2 ∨ k % 6 = 3 ∨ k % 6 = 4 ∨ k % 6 = 5 := by omega
  rcases h6 with e | e | e | e | e | e <;> rw [e]
  · exact ⟨iC, rfl, rfl, .inr ⟨by decide, by decide⟩⟩
  · exact ⟨iB, rfl, rfl, .inr ⟨by decide, by decide⟩⟩
  · exact ⟨iR, rfl, rfl, .inl rfl⟩
  · exact ⟨iA, rfl, rfl, .inr ⟨by decide, by decide⟩⟩
  · exact ⟨iW, rfl, rfl, .inr ⟨by decide, by decide⟩⟩
  · exact ⟨iE, rfl, rfl, .inr ⟨by decide, by decide⟩⟩
section
variable {R oc n t : Nat} {m : TM} {x : TS} {g : GT}
theorem codA_1 {c : Cfg} {t : Int} {ms : MS} {a : AT} (h : a.ph ≠ .lv) (h1 : a.st = 1) : codA c t ms a := fun e => by rw [stA_st h, h1] at e; exact absurd e (by decide)
theorem okO0 (ho : RB m.o) : okO (memT oc m) 0 := ⟨0, rfl, by show 0 < (m.o :: List.replicate (oc - 1) 0).length; simp, by show okU m.o; exact ⟨ho.1, by have := ho.2; omega⟩⟩
theorem okD0 : okD (memT oc m) 0 := ⟨0, rfl, by show 0 < 2; decide⟩
theorem go_rt (hoc : 1 ≤ oc ∧ oc ≤ 3) (hR : R ≤ 5) (h : RT R x g) {Mo K : Nat} {X : Nat → TS} {Vi : Int} (hG : GI R n m X Vi Mo) (hm : MI n K m) (hK : K ≤ 300) (ht : t < n) (hx : X t = x) (hr : RI K x) (hd : x.pc ≠ 6 * R) : ∃ i, GoT (cfT oc) (codeT R) t (memT oc m) g i := by
  have hpc : x.pc < 6 * R := by have := h.le; omega
  obtain ⟨n1, n2, n3, n4, n5, n6, n7, n8, -, -⟩ := hG.nums hm hK
  have hI := hG.pi t ht
  rw [hx] at hI
  have h16 := hG.n16
  have hsl : t < (memT oc m).sl.length := by show t < m.sl.length; rw [hm.sl]; exact ht
  have hck : 0 ≤ (memT oc m).ck ∧ (memT oc m).ck ≤ 1099511627776 := by show 0 ≤ m.ck ∧ m.ck ≤ 1099511627776; exact ⟨n3.1, by have := n3.2; omega⟩
  have hO := okO0 (oc := oc) n2
  have hD := okD0 (oc := oc) (m := m)
  obtain ⟨i, hi, hpi, hii⟩ := code_get hpc
  have hgp : g.th.pc = x.pc := by rw [h.th]
  have hbg : BB R x → (codeT R)[g.bg]? = some iB := fun hB => by
    rw [h.bg]
    exact code_i hB 0 (by decide)
  have htr : x.tr ≤ 8 := by
    unfold PI at hI
    split at hI <;> first | exact hI.2.2.2.2.2.2 | exact hI.2.2.2.2.2 | omega
  suffices hat : match g.at' with
    | none => i = iC ∨ i = iZ ∨ (i = iB ∧ okA (cfT oc) t (memT oc m) a0T)
    | some a => (codeT R)[g.bg]? = some iB ∧ ((a.busy = true ∧ okA (cfT oc) t (memT oc m) a ∧ codA (cfT oc) t (memT oc m) a ∧ (i = iR ∨ (i.op ≠ 10 ∧ i.op ≠ 14))) ∨
      (a.ph = .idle ∧ a.st = 1 ∧ ((i = iA ∧ 0 ≤ g.th.rg.r2 ∧ g.th.rg.r2 ≤ 1000000) ∨ ((i = iR ∨ i = iW ∨ i = iE) ∧ okA (cfT oc) t (memT oc m) (reqA (cfT oc) g.th.rg a i) ∧ codA (cfT oc) t (memT oc m) (reqA (cfT oc) g.th.rg a i))))) by
    refine ⟨i, ⟨by rw [hgp]; exact hi, by rw [hgp]; omega, by rw [h.th]; exact decide_eq_false hd, ?_, ?_, ?_, by rw [h.tr]; omega, hat⟩⟩
    · rw [h.seen, List.length_map]; have := hr.se; omega
    · rw [h.obs, List.length_map]; have := hr.ob; omega
    · rw [h.ct]; have := hr.ct; omega
  have busy : ∀ a, g.at' = some a → BB R x → a.busy = true → okA (cfT oc) t (memT oc m) a → codA (cfT oc) t (memT oc m) a → (match g.at' with
    | none => i = iC ∨ i = iZ ∨ (i = iB ∧ okA (cfT oc) t (memT oc m) a0T)
    | some a => (codeT R)[g.bg]? = some iB ∧ ((a.busy = true ∧ okA (cfT oc) t (memT oc m) a ∧ codA (cfT oc) t (memT oc m) a ∧ (i = iR ∨ (i.op ≠ 10 ∧ i.op ≠ 14))) ∨
      (a.ph = .idle ∧ a.st = 1 ∧ ((i = iA ∧ 0 ≤ g.th.rg.r2 ∧ g.th.rg.r2 ≤ 1000000) ∨ ((i = iR ∨ i = iW ∨ i = iE) ∧ okA (cfT oc) t (memT oc m) (reqA (cfT oc) g.th.rg a i) ∧ codA (cfT oc) t (memT oc m) (reqA (cfT oc) g.th.rg a i)))))) := fun a ha hB hb hA hc => by
    rw [ha]
    exact ⟨hbg hB, .inl ⟨hb, hA, hc, hii⟩⟩
  have hat := h.at'
  have hph := hr.ph
  have o0 := orec0 hoc.1 hoc.2
  have hrg : g.th.rg = rgT x.r1 x.r2 := by rw [h.th]
  cases hp : x.ph with
  | idle =>
    rw [hp] at hat
    unfold PI at hI
    rw [hp] at hI
    dsimp only at hat hI
    rw [hat]
    rcases hI with ⟨h0, -, -⟩ | ⟨h1, -, -, -⟩
    · rw [h0] at hpi
      exact .inl (Option.some.inj hpi).symm
    · rw [h1] at hpi
      exact .inr (.inr ⟨(Option.some.inj hpi).symm, .inl rfl, hsl, hck⟩)
  | en1 =>
    rw [hp] at hat
    obtain ⟨a, ha, hRA⟩ := hat
    unfold PI at hI
    unfold RA at hRA
    rw [hp] at hI hRA
    obtain ⟨-, rfl⟩ := hRA
    exact busy _ ha hI.2 rfl ⟨.inr (.inl rfl), hsl, hck⟩ (codA_1 (fun e => by cases e) rfl)
  | en2 rv =>
    rw [hp] at hat
    obtain ⟨a, ha, hRA⟩ := hat
    unfold PI at hI
    unfold RA at hRA
    rw [hp] at hI hRA
    obtain ⟨-, rfl⟩ := hRA
    exact busy _ ha hI.2 rfl ⟨.inr (.inr rfl), hsl, hck⟩ (codA_1 (fun e => by cases e) rfl)
  | act rv =>
    rw [hp] at hat
    obtain ⟨a, ha, hRA⟩ := hat
    unfold PI at hI
    unfold RA at hRA
    rw [hp] at hI hRA
    obtain ⟨-, hB⟩ := hI
    have hB1 := hB.1
    rw [ha]
    refine ⟨hbg hB, .inr ?_⟩
    rw [hrg]
    rcases hRA with ⟨hpc1, -, rfl⟩ | ⟨hpc2, v, rfl⟩ | ⟨hpc4, v, l, -, rfl⟩
    · rw [show x.pc % 6 = 2 by omega] at hpi
      obtain rfl := (Option.some.inj hpi).symm
      refine ⟨rfl, rfl, .inr ⟨.inl rfl, ?_⟩⟩
      have hq : reqA (cfT oc) (rgT x.r1 x.r2) (aB rv) iR = { aB rv with ph := .rd 0 0 0 } := by
        show (aB rv).read (cfT oc) (adr (rgT x.r1 x.r2) 0 0) = _
        rw [adr0]
        rfl
      show okA _ _ _ (reqA (cfT oc) (rgT x.r1 x.r2) (aB rv) iR) ∧ codA _ _ _ (reqA (cfT oc) (rgT x.r1 x.r2) (aB rv) iR)
      rw [hq]
      exact ⟨⟨by rw [show orecM (cfT oc) ({ aB rv with ph := .rd 0 0 0 } : AT).addr = 0 from o0]; exact hO, hD, by show (0 : Int) < 2; decide, .inl ⟨rfl, rfl, rfl⟩, by show 0 < 100000; decide, by show 0 < 100000; decide⟩, codA_1 (fun e => by cases e) rfl⟩
    · by_cases h3 : x.pc = x.bg + 2
      · rw [show x.pc % 6 = 3 by omega] at hpi
        obtain rfl := (Option.some.inj hpi).symm
        exact ⟨rfl, rfl, .inl ⟨rfl, by show 0 ≤ x.r2; exact hr.r2.1, by show x.r2 ≤ 1000000; have := hr.r2.2; omega⟩⟩
      · rw [show x.pc % 6 = 4 by omega] at hpi
        obtain rfl := (Option.some.inj hpi).symm
        refine ⟨rfl, rfl, .inr ⟨.inr (.inl rfl), ⟨rfl, ⟨by show (0 : Int) ≤ 2; decide, by show (2 : Int) ≤ 1099511627776; decide⟩, fun a v e => ?_⟩, codA_1 (fun e => by cases e) rfl⟩⟩
        have : Ko.wr (adr (rgT x.r1 x.r2) 0 0) ((rgT x.r1 x.r2).get 1) = Ko.wr a v := e
        cases this
        rw [adr0]
        decide
    · rw [show x.pc % 6 = 5 by omega] at hpi
      obtain rfl := (Option.some.inj hpi).symm
      exact ⟨rfl, rfl, .inr ⟨.inr (.inr rfl), ⟨rfl, ⟨by show (0 : Int) ≤ 2; decide, by show (2 : Int) ≤ 1099511627776; decide⟩, fun a v e => by cases e⟩, codA_1 (fun e => by cases e) rfl⟩⟩
  | rd1 rv w =>
    rw [hp] at hat
    obtain ⟨a, ha, hRA⟩ := hat
    unfold PI at hI
    unfold RA at hRA
    rw [hp] at hI hRA
    obtain ⟨-, rfl⟩ := hRA
    exact busy _ ha hI.2 rfl ⟨by rw [show orecM (cfT oc) ({ aB rv with ph := .rd 1 w 0 } : AT).addr = 0 from o0]; exact hO, hD, by show (0 : Int) < 2; decide, .inr (.inl ⟨rfl, rfl⟩), by show 0 < 100000; decide, by show 0 < 100000; decide⟩ (codA_1 (fun e => by cases e) rfl)
  | rd2 rv w val =>
    rw [hp] at hat
    obtain ⟨a, ha, hRA⟩ := hat
    unfold PI at hI
    unfold RA at hRA
    rw [hp] at hI hRA
    obtain ⟨-, rfl⟩ := hRA
    exact busy _ ha hI.2 rfl ⟨by rw [show orecM (cfT oc) ({ aB rv with ph := .rd 2 w val } : AT).addr = 0 from o0]; exact hO, hD, by show (0 : Int) < 2; decide, .inr (.inr rfl), by show 0 < 100000; decide, by show 0 < 100000; decide⟩ (codA_1 (fun e => by cases e) rfl)
  | lk0 rv =>
    rw [hp] at hat
    obtain ⟨a, ha, hRA⟩ := hat
    unfold PI at hI
    unfold RA at hRA
    rw [hp] at hI hRA
    obtain ⟨v, l, s, -, rfl⟩ := hRA
    exact busy _ ha hI.2 rfl ⟨by show 0 < 1; decide, hO, fun e => (by cases e), by omega⟩ (codA_1 (fun e => by cases e) rfl)
  | lk1 rv w =>
    rw [hp] at hat
    obtain ⟨a, ha, hRA⟩ := hat
    unfold PI at hI
    unfold RA at hRA
    rw [hp] at hI hRA hph
    obtain ⟨v, l, -, rfl⟩ := hRA
    have h1 := hph.2.1
    have h2 := hph.2.2
    exact busy _ ha hI.2 rfl ⟨by show 0 < 1; decide, hO, fun _ => ⟨h1, by omega⟩, by omega⟩ (codA_1 (fun e => by cases e) rfl)
  | tn0 rv old =>
    rw [hp] at hat
    obtain ⟨a, ha, hRA⟩ := hat
    unfold PI at hI
    unfold RA at hRA
    rw [hp] at hI hRA
    obtain ⟨v, l, -, rfl⟩ := hRA
    exact busy _ ha hI.2 rfl trivial (codA_1 (fun e => by cases e) rfl)
  | tn1 rv old tk =>
    rw [hp] at hat
    obtain ⟨a, ha, hRA⟩ := hat
    unfold PI at hI
    unfold RA at hRA
    rw [hp] at hI hRA
    obtain ⟨v, l, -, rfl⟩ := hRA
    exact busy _ ha hI.2 rfl trivial (codA_1 (fun e => by cases e) rfl)
  | chk rv old tk =>
    rw [hp] at hat
    obtain ⟨a, ha, hRA⟩ := hat
    unfold PI at hI
    unfold RA at hRA
    rw [hp] at hI hRA
    obtain ⟨v, l, -, rfl⟩ := hRA
    exact busy _ ha hI.2 rfl ⟨fun e => (by cases e), hO⟩ (codA_1 (fun e => by cases e) rfl)
  | dec rv old tk =>
    rw [hp] at hat
    obtain ⟨a, ha, hRA⟩ := hat
    unfold PI at hI
    unfold RA at hRA
    rw [hp] at hI hRA
    obtain ⟨v, l, -, rfl⟩ := hRA
    exact busy _ ha hI.2 rfl ⟨by show (0 : Int) ≤ 1000; decide, by show (1000 : Int) ≤ 1099511627776; decide⟩ (codA_1 (fun e => by cases e) rfl)
  | wrt rv old tk clk =>
    rw [hp] at hat
    obtain ⟨a, ha, hRA⟩ := hat
    unfold PI at hI
    unfold RA at hRA
    rw [hp] at hI hRA hph
    obtain ⟨v, l, -, rfl⟩ := hRA
    have h1 := hph.2.2.2
    exact busy _ ha hI.2 rfl ⟨fun e => (by cases e), fun e => (by cases e), hD, ⟨rfl, rfl⟩, h1.1, by show clk < 1099511627776; have := h1.2; omega⟩ (codA_1 (fun e => by cases e) rfl)
  | rel rv tk w clk ok =>
    rw [hp] at hat
    obtain ⟨a, ha, hRA⟩ := hat
    unfold PI at hI
    unfold RA at hRA
    rw [hp] at hI hRA hph
    obtain ⟨a', rfl⟩ := hRA
    have h1 := hph.2.2.2
    have h2 := h1.2
    have h3 := h1.1
    refine busy _ ha hI.2 rfl ⟨fun e => (by cases e), fun e => (by cases e), hO, ?_⟩ (codA_1 (fun e => by cases e) rfl)
    cases ok
    · exact ⟨by show (0 : Int) ≤ 0; decide, by show (0 : Int) < 1099511627776; decide⟩
    · exact ⟨h3, by show clk < 1099511627776; omega⟩
  | stm rv tk clk =>
    rw [hp] at hat
    obtain ⟨a, ha, hRA⟩ := hat
    unfold PI at hI
    unfold RA at hRA
    rw [hp] at hI hRA
    obtain ⟨a', rfl⟩ := hRA
    exact busy _ ha hI.2 rfl trivial (codA_1 (fun e => by cases e) rfl)
  | pas rv tk ok =>
    rw [hp] at hat
    obtain ⟨a, ha, hRA⟩ := hat
    unfold PI at hI
    unfold RA at hRA
    rw [hp] at hI hRA hph
    obtain ⟨a', rfl⟩ := hRA
    have h1 := hph.2.1
    have h2 := hph.2.2
    exact busy _ ha hI.2 rfl ⟨h1, by show tk ≤ 1099511627776; omega⟩ (codA_1 (fun e => by cases e) rfl)
  | lev rv ok =>
    rw [hp] at hat
    obtain ⟨a, ha, hRA⟩ := hat
    unfold PI at hI
    unfold RA at hRA
    rw [hp] at hI hRA
    obtain ⟨a', rfl⟩ := hRA
    refine busy _ ha hI rfl hsl fun _ => ?_
    show (if ok then (1 : Int) else 9) = 1 ∨ (if ok then (1 : Int) else 9) = 9
    cases ok
    · exact .inr rfl
    · exact .inl rfl
end
end Go.Proofs.YtllddgdmmfmpkaaGreatDoor
namespace Go.Proofs.YtllddgdmmfmpkaaGreatDoor
open Go
set_option maxRecDepth 10000
set_option maxHeartbeats 8000000
structure TW where
  h : TH
  A : Own
  cD : Own
  x : GT
structure TW.ok (W0 : World) (c : Cfg) (p : List Ins) (t : Nat) (y : TW) : Prop where
  ok : y.h.ok y.x
  at' : AtO W0 c t y.h y.x y.A
  C : RdE Ins.enc 5 W0 y.cD y.h.ca p
def ThO (c : Cfg) (n : Nat) (p : List Ins) (t : Nat) (y : TW) : Own := (y.h.b, thP c t n p y.h y.x) :: (y.A ++ (y.h.sD ++ (y.h.oD ++ y.cD)))
def TsO (c : Cfg) (n : Nat) (p : List Ins) : Nat → List TW → Own
  | _, [] => []
  | k, y :: l => ThO c n p k y ++ TsO c n p (k + 1) l
theorem TsO_at {c : Cfg} {n : Nat} {p : List Ins} : ∀ (L : List TW) (k t : Nat) (y : TW), L[t]? = some y → TsO c n p k L = TsO c n p k (L.take t) ++ (ThO c n p (k + t) y ++ TsO c n p (k + t + 1) (L.drop (t + 1)))
  | [], _, _, _, h => by simp at h
  | z :: L, k, 0, y, h => by
    simp only [List.getElem?_cons_zero, Option.some.injEq] at h
    subst h
    rfl
  | z :: L, k, t + 1, y, h => by
    rw [List.getElem?_cons_succ] at h
    rw [List.take_succ_cons, List.drop_succ_cons, TsO, TsO, TsO_at L (k + 1) t y h, List.append_assoc, show k + 1 + t = k + (t + 1) by omega]
theorem TsO_set {c : Cfg} {n : Nat} {p : List Ins} {L : List TW} {t : Nat} {y y' : TW} (h : L[t]? = some y) : TsO c n p 0 (L.set t y') = TsO c n p 0 (L.take t) ++ (ThO c n p t y' ++ TsO c n p (t + 1) (L.drop (t + 1))) := by
  have hlt := (List.getElem?_eq_some_iff.1 h).1
  have h1 : (L.set t y')[t]? = some y' := by rw [List.getElem?_set]; simp [hlt]
  rw [TsO_at _ 0 t y' h1, List.take_set_of_le (Nat.le_refl _), List.drop_set_of_lt (by omega), Nat.zero_add]
abbrev encP (b : Nat) : List Value := [ptr b]
structure MQ where
  b : Nat
  mh : MH
  ta : Option Addr
  tc : Nat
  tD : Own
  sa : Option Addr
  sc : Nat
  sD : Own
  ea : Option Addr
  ec : Nat
  eD : Own
  el : List EH
  gD : Own
  L : List TW
abbrev maP (M : MQ) (S : List StM) : Obj → Prop := fun z => z = Obj.cells #[ptr M.mh.mb, .slice M.ta (M.L.map fun y => y.h.b).length M.tc, .slice M.sa S.length M.sc, .slice M.ea M.el.length M.ec] 70 (0, 0)
abbrev MQ.O (M : MQ) (c : Cfg) (n : Nat) (p : List Ins) (m : MS) (S : List StM) (Q : Own) : Own := (M.b, maP M S) :: (M.mh.O m ++ (M.tD ++ (M.sD ++ (M.eD ++ (M.gD ++ (TsO c n p 0 M.L ++ Q))))))
structure MQ.ok (W0 : World) (c : Cfg) (p : List Ins) (M : MQ) (m : MS) (S : List StM) : Prop where
  hM : M.mh.ok m.L
  ht : RdE encP 1 W0 M.tD M.ta (M.L.map fun y => y.h.b)
  hs : BufE StM.enc 51 9 M.sa M.sc S M.sD
  he : BufE EH.enc 79 6 M.ea M.ec M.el M.eD
  hv : ∀ e ∈ M.el, (RdE encI 1 W0 M.gD e.ra e.rl ∧ RdE encI 1 W0 M.gD e.wa e.wl) ∧ e.rl.length ≤ 100000 ∧ e.wl.length ≤ 100000
  hL : ∀ (t : Nat) (y : TW), M.L[t]? = some y → y.ok W0 c p t
  le : M.el.length ≤ S.length
theorem map_same {L : List TW} {t : Nat} {y y' : TW} (h : L[t]? = some y) (e : y'.h.b = y.h.b) : ((L.set t y').map fun y => y.h.b) = L.map fun y => y.h.b := by
  rw [List.map_set, e]
  refine List.ext_getElem? fun j => ?_
  rw [List.getElem?_set]
  split
  · rename_i hj
    subst hj
    have := (List.getElem?_eq_some_iff.1 h).1
    rw [if_pos (by simpa using this), List.getElem?_map, h]
    rfl
  · rfl
structure SaL (m m' : MS) : Prop where
  d : m'.d.length = m.d.length
  o : m'.o.length = m.o.length
  sl : m'.sl.length = m.sl.length
  hd : m'.hd = m.hd
  nx : m'.nx = m.nx
theorem SaL.refl {m : MS} : SaL m m := ⟨rfl, rfl, rfl, rfl, rfl⟩
theorem MH.ok.to {h : MH} {m m' : MS} (k : h.ok m.L) (s : SaL m m') : h.ok m'.L := by
  refine ⟨k.fd, fun j hj => ?_, rfl, k.bd⟩
  rw [← k.ln j hj]
  have h8 : j = 0 ∨ j = 1 ∨ j = 2 ∨ j = 3 ∨ j = 4 ∨ j = 5 ∨ j = 6 ∨ j = 7 := by omega
  rcases h8 with rfl | rfl | rfl | rfl | rfl | rfl | rfl | rfl
  · exact s.d
  · exact s.o
  · rfl
  · rfl
  · rfl
  · exact s.sl
  · exact congrArg List.length s.hd
  · exact congrArg List.length s.nx
theorem stepA_len (c : Cfg) (t : Int) (m : MS) (x : AT) : SaL m (stepA c t m x).1 := by
  cases hp : x.ph with
  | ent k =>
    unfold stepA
    simp only [hp]
    (repeat' split) <;> exact ⟨rfl, rfl, by simp, rfl, rfl⟩
  | rd k b v =>
    unfold stepA
    simp only [hp]
    (repeat' split) <;> exact SaL.refl
  | lk s ld =>
    rw [stA_lk hp]
    (repeat' split) <;> exact ⟨rfl, by simp, rfl, rfl, rfl⟩
  | tn b => cases b <;> (unfold stepA; simp only [hp]; exact ⟨rfl, rfl, rfl, rfl, rfl⟩)
  | wr a v => unfold stepA; simp only [hp]; exact ⟨by simp, rfl, rfl, rfl, rfl⟩
  | rl a v => unfold stepA; simp only [hp]; exact ⟨rfl, by simp, rfl, rfl, rfl⟩
  | lv => unfold stepA; simp only [hp]; exact ⟨rfl, rfl, by simp, rfl, rfl⟩
  | _ => unfold stepA; simp only [hp]; exact ⟨rfl, rfl, rfl, rfl, rfl⟩
theorem advG_len (c : Cfg) (p : List Ins) (t : Int) (m : MS) (x : GT) (a : AT) (i : Ins) : SaL m (advG c p t m x a i).1 := by
  unfold advG
  exact stepA_len _ _ _ _
theorem exeG_len (c : Cfg) (p : List Ins) (t : Int) (m : MS) (x : GT) (i : Ins) : SaL m (exeG c p t m x i).1 := by
  unfold exeG
  split
  · exact advG_len _ _ _ _ _ _ _
  · split
    · split
      · exact advG_len _ _ _ _ _ _ _
      · exact SaL.refl
    · exact SaL.refl
theorem stepG_len (c : Cfg) (p : List Ins) (t : Int) (m : MS) (x : GT) : SaL m (stepG c p t m x).1 := by
  unfold stepG
  split
  · exact SaL.refl
  · split
    · split
      · exact advG_len _ _ _ _ _ _ _
      · exact exeG_len _ _ _ _ _ _
    · exact exeG_len _ _ _ _ _ _
section
variable {W0 : World} {own Q : Own} {c : Cfg} {n t : Nat} {p : List Ins} {M : MQ} {m : MS} {S : List StM} {y : TW} {i : Ins}
theorem tb_at (hy : M.L[t]? = some y) : (M.L.map fun y => y.h.b)[t]? = some y.h.b := by rw [List.getElem?_map, hy]; rfl
theorem sp_tDone {h : TH} {x : GT} {mb : Nat} [mm : MemC h.b (thP c t n p h x) own] (hdn : x.th.dn = true) : Spec Tryz.prog W0 14 [ptr h.b, ptr mb] own fun v own' => ∃ _ : Unit, v = .tuple #[stV ⟨0, 0, 0, acz⟩, .slice none 0 0, .bool false] ∧ Ent W0 own' own := by
  refine spec_un (spec_of mixed low_thread_Thread_Step (by simp [ir_thread_Thread_Step]) ?_)
  have hc : Cl W0 own h.b 42 (.bool true) := by have := cl_of (W0 := W0) (off := 42) mm rfl; rw [hdn] at this; exact this
  repeat' ((try (conv => whnf)); first | (refine when_ye ?_ ?_; exact rfl) | (refine br_te ?_ ?_; exact rfl) | (refine ldK1 hc ?_) | (apply ldN_a; exact rfl) | (apply stN_o; (exact rfl); (exact rfl); exact rfl) | (refine new_i (fun bk hbk => ?_)))
  all_goals exact ⟨rfl, (by refine sb_ent ?_; (repeat (first | exact sb_refl | exact sb_nil | refine sb_fr ?_ | refine sb_pu rfl ?_ | refine sb_cons ?_ | refine sb_app ?_)))⟩
theorem sp_pick0 (hk : M.ok W0 c p m S) (hy : M.L[t]? = some y) (hdn : y.x.th.dn = true) (hn : M.L.length ≤ 16) (Q : Own) : Spec Tryz.prog W0 9 [ptr M.b, .int .i64 t] (M.O c n p m S Q) fun v own' => ∃ _ : Unit, v = .bool false ∧ Ent W0 own' (M.O c n p m S Q) := by
  refine spec_un (spec_of mixed low_machine_Machine_Pick (by simp [ir_machine_Machine_Pick]) ?_)
  have htb := tb_at hy
  have hlt := (List.getElem?_eq_some_iff.1 hy).1
  have hti : (t : Int) < (M.L.map fun y => y.h.b).length := by rw [List.length_map]; omega
  have hn2 : (M.L.map fun y => y.h.b).length ≤ 16 := by rw [List.length_map]; exact hn
  have htR := hk.ht
  have hst := fun (own' : Own) (m1 : MemC y.h.b (thP c t n p y.h y.x) own') => sp_tDone (W0 := W0) (own := own') (c := c) (t := t) (n := n) (p := p) (h := y.h) (x := y.x) (mb := M.mh.mb) hdn
  unfold MQ.O
  rw [TsO_at M.L 0 t y hy, Nat.zero_add, ThO]
  simp only [List.append_assoc, List.cons_append]
  repeat' ((try (conv => whnf)); first | (refine when_ye ?_ ?_; exact rfl) | (refine br_te ?_ ?_; exact rfl) | (apply br_pnE; (exact rfl); omega) | ((with_reducible show Ld _ _ _ _); first | (refine ldE0 htR htb rfl ?_)) | ((with_reducible show IxS _ _ _ _ _); first | ((refine ixE htR htb ?_ ?_; (first | rfl | omega)))) | ((with_reducible show CallT _ _ _ _ _ _); first | ((refine call_x (hst _ inferInstance) ?_ ?_ (fun _ v hv => ?_); (exact rfl); (exact rfl); (subst hv)))) | (apply sel; exact rfl) | (apply ld_o; exact rfl) | (apply stN_o; (exact rfl); (exact rfl); exact rfl) | (refine new_i (fun bk hbk => ?_)) | (refine Both.mk ?_ ?_))
  all_goals exact ⟨rfl, (by refine sb_ent ?_; (repeat (first | exact sb_refl | exact sb_nil | refine sb_fr ?_ | refine sb_pu rfl ?_ | refine sb_cons ?_ | refine sb_app ?_)))⟩
theorem sp_pick1 (hF : FormsAt W0) (hG : GoC c p) (hk : M.ok W0 c p m S) (hy : M.L[t]? = some y) (hT : GoT c p t m y.x i) (hn : M.L.length ≤ 16) (hS : S.length ≤ 1000) (Q : Own) : Spec Tryz.prog W0 9 [ptr M.b, .int .i64 t] (M.O c n p m S Q) fun v own' =>
    ∃ M' : MQ, (v = .bool true ∧ M'.b = M.b ∧ M'.ok W0 c p (stepG c p t m y.x).1 (S ++ [(stepG c p t m y.x).2.2.1]) ∧ ∃ y' : TW, y'.x = (stepG c p t m y.x).2.1 ∧ M'.L = M.L.set t y') ∧ Ent W0 own' (M'.O c n p (stepG c p t m y.x).1 (S ++ [(stepG c p t m y.x).2.2.1]) Q) := by
  refine spec_of mixed low_machine_Machine_Pick (by simp [ir_machine_Machine_Pick]) ?_
  have htb := tb_at hy
  have hlt := (List.getElem?_eq_some_iff.1 hy).1
  have hto := hk.hL t y hy
  unfold MQ.O
  rw [TsO_at M.L 0 t y hy, Nat.zero_add, ThO]
  simp only [List.append_assoc, List.cons_append]
  have hst := fun (Q : Own) (eq : EntC Q y.cD) => sp_tStep (W0 := W0) (n := n) hF hG hT hto.ok hto.at' hk.hM hto.C Q
  have hsl0 := stepG_len c p t m y.x
  generalize stepG c p t m y.x = z at hst hsl0 ⊢
  obtain ⟨m', x', s, ev⟩ := z
  dsimp only at hst hsl0 ⊢
  have hti : (t : Int) < (M.L.map fun y => y.h.b).length := by rw [List.length_map]; omega
  have hn2 : (M.L.map fun y => y.h.b).length ≤ 16 := by rw [List.length_map]; exact hn
  have htR := hk.ht
  have hhe := hk.he
  have hhs := hk.hs
  have hle := hk.le
  repeat' ((try (conv => whnf)); first | (refine when_ye ?_ ?_; exact rfl) | (refine br_fe ?_ ?_; exact rfl) | (apply br_pnE; (exact rfl); omega) | ((with_reducible show Ld _ _ _ _); first | (refine ldE0 htR htb rfl ?_)) | ((with_reducible show IxS _ _ _ _ _); first | ((refine ixE htR htb ?_ ?_; (first | rfl | omega)))) | ((with_reducible show CallT _ _ _ _ _ _); first | ((refine call_sC (F := y.cD) (b := y.h.b) (D := y.A ++ (M.mh.O m ++ (y.h.sD ++ (y.h.oD ++ [])))) hst (fun Q => (by refine sb_ent ?_; (repeat (first | exact sb_refl | exact sb_nil | refine sb_fr ?_ | refine sb_pu rfl ?_ | refine sb_cons ?_ | refine sb_app ?_)))) ?_ ?_ ?_ (fun r v hv => ?_); (exact rfl); (exact rfl); (exact rfl); (obtain ⟨h1, A1, ea1, ec1, el1, eD1⟩ := r; obtain ⟨rfl, hr1, hr2, hr3, hr4, hr5⟩ := hv; dsimp only at hr1 hr2 hr3 hr4 hr5)))) | (apply sel; exact rfl) | (apply ld_o; exact rfl) | (apply stN_o; (exact rfl); (exact rfl); exact rfl) | (refine new_i (fun bk hbk => ?_)) | (refine Both.mk ?_ ?_))
  all_goals
    have hmap := map_same (y' := ⟨h1, A1, y.cD, x'⟩) hy hr1
    have hset := TsO_set (c := c) (n := n) (p := p) (y' := ⟨h1, A1, y.cD, x'⟩) hy
    have hLo : ∀ (u : Nat) (z : TW), (M.L.set t ⟨h1, A1, y.cD, x'⟩)[u]? = some z → z.ok W0 c p u := by
      intro u z hz
      rw [List.getElem?_set] at hz
      split at hz
      · rename_i hu
        subst hu
        cases hz
        exact ⟨hr3, hr4, by dsimp only; rw [hr2]; exact hto.C⟩
      · exact hk.hL u z hz
    have hcs : el1 = [] ∨ ∃ e, el1 = [e] := by
      have := hr5.n
      match el1, this with
      | [], _ => exact .inl rfl
      | [e], _ => exact .inr ⟨e, rfl⟩
    rcases hcs with rfl | ⟨e, rfl⟩
    · repeat' ((try (conv => whnf)); first | (refine br_fe ?_ ?_; exact rfl) | (refine loop_r 2 ?_) | (refine new_i (fun bk hbk => ?_)) | (apply app_i (enc := StM.enc) (T := 51) s hhs; (exact rfl); (exact rfl); (omega); (exact rfl); (exact rfl); (omega); intro a5 c5 D5 hb5) | (apply ld_o; exact rfl) | (apply ldN_a; exact rfl) | (apply st_o; (exact rfl); exact rfl))
      all_goals
        refine ⟨⟨M.b, M.mh, M.ta, M.tc, M.tD, a5, c5, D5, M.ea, M.ec, M.eD, M.el, M.gD, M.L.set t ⟨h1, A1, y.cD, x'⟩⟩, ⟨rfl, rfl, ⟨hk.hM.to hsl0, by dsimp only; rw [hmap]; exact hk.ht, hb5, hk.he, hk.hv, hLo, by rw [List.length_append]; exact Nat.le_succ_of_le hle⟩, ⟨h1, A1, y.cD, x'⟩, rfl, rfl⟩, ?_⟩
        try unfold maP
        dsimp only
        rw [hmap, hset, List.length_append]
        simp only [ThO, List.append_assoc, List.cons_append, List.nil_append]
        exact (by refine sb_ent ?_; (repeat (first | exact sb_refl | exact sb_nil | refine sb_fr ?_ | refine sb_pu rfl ?_ | refine sb_cons ?_ | refine sb_app ?_)))
    · have hee := (hr5.v e (List.mem_singleton.2 rfl)).1
      have hev : ∀ z ∈ M.el ++ [{ e with ev := (S.length : Int) }], (RdE encI 1 W0 (eD1 ++ M.gD) z.ra z.rl ∧ RdE encI 1 W0 (eD1 ++ M.gD) z.wa z.wl) ∧ z.rl.length ≤ 100000 ∧ z.wl.length ≤ 100000 := by
        intro z hz
        rcases List.mem_append.1 hz with hz | hz
        · have := hk.hv z hz
          exact ⟨⟨this.1.1.ent Ent.right, this.1.2.ent Ent.right⟩, this.2⟩
        · rw [List.mem_singleton] at hz
          subst hz
          exact ⟨⟨hee.1.ent Ent.left, hee.2.ent Ent.left⟩, (hr5.v e (List.mem_singleton.2 rfl)).2⟩
      have heR := hr5.r
      have he0 : ([e] : List EH)[0]? = some e := rfl
      repeat' ((try (conv => whnf)); first | (refine br_te ?_ ?_; exact rfl) | (refine br_fe ?_ ?_; exact rfl) | (refine loop_r 2 ?_) | (refine new_i (fun bk hbk => ?_)) | (apply app_i (enc := StM.enc) (T := 51) s hhs; (exact rfl); (exact rfl); (omega); (exact rfl); (exact rfl); (omega); intro a5 c5 D5 hb5) | (apply app_i (enc := EH.enc) (T := 79) { e with ev := (S.length : Int) } hhe; (exact rfl); (exact rfl); (omega); (exact rfl); (exact rfl); (omega); intro a6 c6 D6 hb6) | ((with_reducible show IxS _ _ _ _ _); first | ((refine ixE heR he0 ?_ ?_; (first | rfl | omega)))) | ((with_reducible show LdN _ _ _ _ _); first | (refine ldNEi heR he0 rfl ?_)) | (refine ari ?_ ?_; omega) | (apply ld_o; exact rfl) | (apply ldN_a; exact rfl) | (apply st_o; (exact rfl); exact rfl) | (apply stN_o; (exact rfl); (exact rfl); exact rfl))
      all_goals
        refine ⟨⟨M.b, M.mh, M.ta, M.tc, M.tD, a5, c5, D5, a6, c6, D6, M.el ++ [{ e with ev := (S.length : Int) }], eD1 ++ M.gD, M.L.set t ⟨h1, A1, y.cD, x'⟩⟩, ⟨rfl, rfl, ⟨hk.hM.to hsl0, by dsimp only; rw [hmap]; exact hk.ht, hb5, hb6, hev, hLo, by rw [List.length_append, List.length_append]; exact Nat.succ_le_succ hle⟩, ⟨h1, A1, y.cD, x'⟩, rfl, rfl⟩, ?_⟩
        try unfold maP
        dsimp only
        rw [hmap, hset, List.length_append, List.length_append]
        simp only [ThO, List.append_assoc, List.cons_append, List.nil_append]
        exact (by refine sb_ent ?_; (repeat (first | exact sb_refl | exact sb_nil | refine sb_fr ?_ | refine sb_pu rfl ?_ | refine sb_cons ?_ | refine sb_app ?_)))
end
end Go.Proofs.YtllddgdmmfmpkaaGreatDoor
namespace Go.Proofs.YtllddgdmmfmpkaaGreatDoor
open Go
set_option maxRecDepth 10000
set_option maxHeartbeats 8000000
def newG (p : List Ins) : GT := ⟨⟨0, ⟨0, 0, 0, 0, 0, 0, 0, 0⟩, 0, decide (0 = p.length)⟩, none, 0, ⟨0, 0, 0, 0, 0, 0, 0, 0⟩, 0, [], none, [], 0⟩
section
variable {W0 : World} {own Q : Own} {c : Cfg} {n t : Nat} {p : List Ins}
theorem sp_limboNew (own : Own) : Spec Tryz.prog W0 26 [c.v] own fun v own' => ∃ b : Nat, v = ptr b ∧ Ent W0 own' own := by
  refine spec_of mixed low_limbo_New (by simp [ir_limbo_New]) ?_
  dsimp only [Cfg.v, Cfg.cs]
  repeat' ((try (conv => whnf)); first | (apply ldN_a; exact rfl) | (refine new_i (fun bk hbk => ?_)))
  all_goals exact ⟨_, rfl, (by refine sb_ent ?_; (repeat (first | exact sb_refl | exact sb_nil | refine sb_fr ?_ | refine sb_pu rfl ?_ | refine sb_cons ?_ | refine sb_app ?_)))⟩
theorem sp_tNew {a : Option Addr} {cap : Nat} (hF : FormsAt W0) (hc : checkM c = 0) (hck : checkP p = (0, 0)) (ht : t < n) (hn : n ≤ 16) (hR : RdE Ins.enc 5 W0 own a p) (hp : p.length ≤ 100000) :
    Spec Tryz.prog W0 13 [c.v, .int .i64 t, .int .i64 n, .slice a p.length cap] own fun v own' => ∃ y : TW, (v = .tuple #[ptr y.h.b, .int .i64 0] ∧ y.ok W0 c p t ∧ y.x = newG p) ∧ Ent W0 own' (ThO c n p t y ++ own) := by
  refine spec_of mixed low_thread_New (by simp [ir_thread_New]) ?_
  have hc1 := fun own => sp_check W0 own c
  rw [hc] at hc1
  have hp1 := fun (own' : Own) (m : EntC own' own) => sp_pcheck (own := own') (cap := cap) hF hR.up
  rw [hck] at hp1
  have hcl := fun (own' : Own) (m : EntC own' own) => sp_clone_Instr (own := own') (cap := cap) hR.up (by omega)
  have hlm := fun (own' : Own) => sp_limboNew (W0 := W0) (c := c) own'
  dsimp only [Cfg.v, Cfg.cs] at hc1 hlm ⊢
  repeat' ((try (conv => whnf)); first | (refine when_ye ?_ ?_; exact rfl) | (refine br_fe ?_ ?_; exact rfl) | (apply br_pnE; (exact rfl); omega) | (apply when_pnE; (exact rfl); omega) | (refine new_i (fun tb htb => ?_)) | ((with_reducible show CallT _ _ _ _ _ _); first | ((refine call_pe (hc1 _) ?_ ?_ ?_; (exact rfl); exact rfl)) | ((refine call_pe (hp1 _ inferInstance) ?_ ?_ ?_; (exact rfl); exact rfl)) | ((refine call_x (hcl _ inferInstance) ?_ ?_ (fun y v hv => ?_); (exact rfl); (exact rfl); (obtain ⟨a3, c3, D3⟩ := y; obtain ⟨rfl, hB3⟩ := hv; dsimp only at hB3))) | ((refine call_x (hlm _) ?_ ?_ (fun lb v hv => ?_); (exact rfl); (exact rfl); (subst hv))) | ((refine call_bk (sp_tTo (c := c) (t := t) (n := n) (p := p) (h := ⟨tb, .pointer none, lb, a3, c3, none, 0, [], none, 0, []⟩) (x := ⟨⟨0, ⟨0, 0, 0, 0, 0, 0, 0, 0⟩, 0, false⟩, none, 0, ⟨0, 0, 0, 0, 0, 0, 0, 0⟩, 0, [], none, [], 0⟩) 0 _) ?_ ?_ ?_ (fun _ v hv => ?_); (exact rfl); (exact rfl); (exact rfl); (subst hv)))) | (apply sel; exact rfl) | (apply ldN_a; exact rfl) | (refine Both.mk ?_ ?_))
  all_goals exact ⟨⟨⟨tb, .pointer none, lb, a3, c3, none, 0, [], none, 0, []⟩, [], D3, newG p⟩, ⟨rfl, ⟨⟨BufE.nil, BufE.nil⟩, ⟨rfl, rfl⟩, hB3.rd⟩, rfl⟩, by unfold ThO; simp only [List.cons_append, List.nil_append]; exact (by refine sb_ent ?_; (repeat (first | exact sb_refl | exact sb_nil | refine sb_fr ?_ | refine sb_pu rfl ?_ | refine sb_cons ?_ | refine sb_app ?_)))⟩
end
end Go.Proofs.YtllddgdmmfmpkaaGreatDoor
namespace Go.Proofs.YtllddgdmmfmpkaaGreatDoor
open Go
set_option maxRecDepth 10000
set_option maxHeartbeats 8000000
def AllP (P : Program) (W0 : World) (J : (Nat → Bool) → Fr → Own → Prop) : Nat → List (IOpr × List Nat) → Prop
  | _, [] => True
  | k, (⟨d, op, _⟩, ds) :: r => (∀ (l : Nat → Bool) (f : Fr) (own : Own), l k = false → (∀ j ∈ ds, l j = true) → J l f own → XO P W0 f own op fun v own' => J (fun n => bif Nat.beq n k then true else l n) (updO f d v) own') ∧ AllP P W0 J (k + 1) r
theorem AllP.at {P : Program} {W0 : World} {J : (Nat → Bool) → Fr → Own → Prop} : ∀ (ops : List (IOpr × List Nat)) (k : Nat), AllP P W0 J k ops → ∀ (i : Nat) (d : Option Nat) (op : IOp) (gd : Option (Nat × Bool)) (ds : List Nat), ops[i]? = some (⟨d, op, gd⟩, ds) →
    ∀ (l : Nat → Bool) (f : Fr) (own : Own), l (k + i) = false → (∀ j ∈ ds, l j = true) → J l f own → XO P W0 f own op fun v own' => J (fun n => bif Nat.beq n (k + i) then true else l n) (updO f d v) own'
  | [], _, _, i, d, op, gd, ds, hi => by simp at hi
  | (⟨d0, op0, gd0⟩, ds0) :: r, k, h, 0, d, op, gd, ds, hi => by
    simp only [List.getElem?_cons_zero, Option.some.injEq, Prod.mk.injEq, IOpr.mk.injEq] at hi
    obtain ⟨⟨rfl, rfl, rfl⟩, rfl⟩ := hi
    exact h.1
  | _ :: r, k, h, i + 1, d, op, gd, ds, hi => by
    rw [List.getElem?_cons_succ] at hi
    have := AllP.at r (k + 1) h.2 i d op gd ds hi
    rw [show k + 1 + i = k + (i + 1) by omega] at this
    exact this
theorem par_of {P : Program} {W0 : World} {ops : List (IOpr × List Nat)} {K : Fr → Own → Prop} {f : Fr} {own : Own} (J : (Nat → Bool) → Fr → Own → Prop) (h0 : J (fun _ => false) f own) (h1 : ∀ l f own, J l f own → (∀ i, i < ops.length → l i = true) → K f own) (h : AllP P W0 J 0 ops) : ParT P W0 ops K f own :=
  ⟨J, h0, h1, fun i d op gd ds l f own hi hl hd hJ => by
    have := AllP.at ops 0 h i d op gd ds hi l f own (by rw [Nat.zero_add]; exact hl) hd hJ
    rw [Nat.zero_add] at this
    exact this⟩
theorem updO_same {f : Fr} {d : Nat} {v : Value} : updO f (some d) v d = v := by unfold updO upd; dsimp only; rw [Nat.beq_refl]; rfl
theorem updO_ne {f : Fr} {d k : Nat} {v : Value} (h : k ≠ d) : updO f (some d) v k = f k := by
  unfold updO upd
  dsimp only
  cases hb : Nat.beq k d with
  | false => rfl
  | true => exact absurd (Nat.eq_of_beq_eq_true hb) h
theorem putAt_all : ∀ {l vs : List Value}, l.length = vs.length → PutAt l 0 vs vs
  | [], [], _ => .done .nil
  | _ :: _, _ :: _, h => .put (putAt_all (by simpa using h))
  | [], _ :: _, h => by simp at h
  | _ :: _, [], h => by simp at h
def Sh8 (cs : List Value) : Prop := ∃ (a1 a2 a3 a4 a5 : Option Addr) (n1 c1 n2 c2 n3 c3 n4 c4 n5 c5 : Nat) (x1 x2 x3 : Int), cs = [.slice a1 n1 c1, .slice a2 n2 c2, uv x1, uv x2, uv x3, .slice a3 n3 c3, .slice a4 n4 c4, .slice a5 n5 c5]
theorem Sh8.len {cs : List Value} (h : Sh8 cs) : cs.length = 8 := by obtain ⟨_, _, _, _, _, _, _, _, _, _, _, _, _, _, _, _, _, _, rfl⟩ := h; rfl
theorem Sh8.one {cs : List Value} (h : Sh8 cs) : ∀ v ∈ cs, oneC v = true := by obtain ⟨_, _, _, _, _, _, _, _, _, _, _, _, _, _, _, _, _, _, rfl⟩ := h; simp [oneC]
inductive KI
  | p | c | s (g : Nat) | d | x (g : Nat) | u | z
def KI.P (h : MH) : KI → Value → Prop
  | .p, v => v = .pointer (some ⟨h.mb, 0, none⟩)
  | .c, v => v = .map (some h.mp)
  | .s g, v => v = .slice (some ⟨h.b g, 0, none⟩) (h.n g) (h.n g + (h.r g).length)
  | .d, v => ∃ a n c, v = .slice a n c
  | .x g, v => v = .pointer (some ⟨h.b g, 0 + 0 * 1, none⟩)
  | .u, v => ∃ x, v = uv x
  | .z, v => ∃ cs : List Value, v = .agg cs.toArray ∧ Sh8 cs
def kI : List KI := [.p, .p, .p, .c, .s 0, .d, .p, .p, .p, .c, .s 1, .d, .p, .p, .p, .c, .s 2, .x 2, .u, .p, .p, .p, .c, .s 3, .x 3, .u, .p, .p, .p, .c, .s 4, .x 4, .u, .p, .p, .p, .c, .s 5, .d, .p, .p, .p, .c, .s 6, .d, .p, .p, .p, .c, .s 7, .d, .z]
abbrev PvI (h : MH) (j : Nat) : Value → Prop := (kI.getD j .z).P h
structure JI (h : MH) (L : List (List Int)) (Q : Own) (b2 : Nat) (l : Nat → Bool) (f : Fr) (own : Own) : Prop where
  v : ∀ j, j < 52 → l j = true → PvI h j (f (6 + j))
  f0 : f 0 = .pointer (some ⟨h.mb, 0, none⟩)
  f2 : f 2 = .pointer (some ⟨b2, 0, none⟩)
  o : ∃ (cs : List Value) (D0 : Own), Sh8 cs ∧ own.Perm ((b2, fun z => z = Obj.cells cs.toArray 35 (0, 0)) :: (D0 ++ (h.OL L ++ Q)))
section
variable {W0 : World} {h : MH} {L : List (List Int)} {Q own : Own} {b2 : Nat} {l : Nat → Bool} {f : Fr}
theorem JI.step (hJ : JI h L Q b2 l f own) (i : Nat) {v : Value} (hv : PvI h i v) (D : Own) : JI h L Q b2 (fun n => bif Nat.beq n i then true else l n) (updO f (some (6 + i)) v) (D ++ own) := by
  refine ⟨fun j hj hl => ?_, by rw [updO_ne (by omega)]; exact hJ.f0, by rw [updO_ne (by omega)]; exact hJ.f2, ?_⟩
  · by_cases e : j = i
    · subst e; rw [updO_same]; exact hv
    · rw [updO_ne (by omega)]
      refine hJ.v j hj ?_
      cases hb : Nat.beq j i with
      | false => simpa only [hb, cond_false] using hl
      | true => exact absurd (Nat.eq_of_beq_eq_true hb) e
  · obtain ⟨cs, D0, hc, hp⟩ := hJ.o
    refine ⟨cs, D ++ D0, hc, (hp.append_left D).trans ?_⟩
    rw [List.append_assoc]
    exact List.perm_middle
theorem JI.mem (hJ : JI h L Q b2 l f own) {e : Nat × (Obj → Prop)} (he : e ∈ h.OL L) : e ∈ own := by
  obtain ⟨cs, D0, -, hp⟩ := hJ.o
  exact hp.mem_iff.2 (List.mem_cons_of_mem _ (List.mem_append_right _ (List.mem_append_left _ he)))
theorem mem_e {j : Nat} (hj : j < 8) : h.e L j ∈ h.OL L := List.mem_cons_of_mem _ (List.mem_cons_of_mem _ (List.mem_map.2 ⟨j, List.mem_range.2 hj, rfl⟩))
theorem JI.rd (hJ : JI h L Q b2 l f own) {j : Nat} (hj : j < 8) : RdE encU 1 W0 own (some ⟨h.b j, 0, none⟩) (L.getD j []) := by
  refine ⟨fun _ => rfl, fun _ _ => rfl, fun {i k x v} hx hv => ?_⟩
  obtain rfl : k = 0 := by
    rcases Nat.eq_zero_or_pos k with e | e
    · exact e
    · rw [List.getElem?_eq_none (by simp only [List.length_cons, List.length_nil]; omega)] at hv; cases hv
  have hv' : uv x = v := by simpa using hv
  subst hv'
  show Kn W0 own (fun w => w.cell? ⟨h.b j, 0 + i * 1 + 0, none⟩ = some (uv x))
  refine kn_cell (hJ.mem (mem_e hj)) ?_
  have hlt := (List.getElem?_eq_some_iff.1 hx).1
  rw [List.toList_toArray, Nat.zero_add, Nat.mul_one, Nat.add_zero, List.getElem?_append_left (by simpa using hlt), List.getElem?_map, hx]
  rfl
variable (hJ : JI h L Q b2 l f own)
include hJ
theorem JI.mov (i : Nat) (hi : PvI h i = KI.P h .p) : XO Tryz.prog W0 f own (.mov (.tmp 0)) fun v own' => JI h L Q b2 (fun n => bif Nat.beq n i then true else l n) (updO f (some (6 + i)) v) own' := by
  unfold XO
  dsimp only [ev]
  rw [hJ.f0]
  exact hJ.step i (by rw [hi]; rfl) []
theorem JI.nilc (i t : Nat) (hi : PvI h i = KI.P h .p) (ht : KI.P h .p (f t)) : XO Tryz.prog W0 f own (.nilc (.tmp t)) fun v own' => JI h L Q b2 (fun n => bif Nat.beq n i then true else l n) (updO f (some (6 + i)) v) own' := by
  have ht' : f t = .pointer (some ⟨h.mb, 0, none⟩) := ht
  unfold XO
  dsimp only [ev]
  rw [ht']
  exact hJ.step i (by rw [hi]; rfl) []
theorem JI.fad (i t : Nat) (hi : PvI h i = KI.P h .p) (ht : KI.P h .p (f t)) : XO Tryz.prog W0 f own (.fad 0 (.tmp t)) fun v own' => JI h L Q b2 (fun n => bif Nat.beq n i then true else l n) (updO f (some (6 + i)) v) own' := by
  have ht' : f t = .pointer (some ⟨h.mb, 0, none⟩) := ht
  unfold XO
  dsimp only [ev]
  rw [ht']
  exact hJ.step i (by rw [hi]; rfl) []
theorem JI.ldm (i t : Nat) (hi : PvI h i = KI.P h .c) (ht : KI.P h .p (f t)) : XO Tryz.prog W0 f own (.ld (.tmp t)) fun v own' => JI h L Q b2 (fun n => bif Nat.beq n i then true else l n) (updO f (some (6 + i)) v) own' := by
  have ht' : f t = .pointer (some ⟨h.mb, 0, none⟩) := ht
  unfold XO
  dsimp only [ev]
  rw [ht']
  exact ⟨_, kn_cell (hJ.mem List.mem_cons_self) rfl, hJ.step i (by rw [hi]; rfl) []⟩
theorem JI.mlk (hM : h.ok L) (i t g : Nat) (hg : g < 8) (kv : Int) (hk : kv = (g : Int) + 1) (hi : PvI h i = KI.P h (.s g)) (ht : KI.P h .c (f t)) : XO Tryz.prog W0 f own (.mlk 0 (.slice none 0 0) false (.tmp t) (.const (.int .i64 kv))) fun v own' => JI h L Q b2 (fun n => bif Nat.beq n i then true else l n) (updO f (some (6 + i)) v) own' := by
  have ht' : f t = .map (some h.mp) := ht
  subst hk
  unfold XO
  dsimp only [ev]
  rw [ht']
  exact ⟨h.ml, _, hJ.mem (List.mem_cons_of_mem _ List.mem_cons_self), hM.fd g hg, hJ.step i (by rw [hi]; rfl) []⟩
theorem JI.cln (hM : h.ok L) (i t g : Nat) (hg : g < 8) (hi : PvI h i = KI.P h .d) (ht : KI.P h (.s g) (f t)) : XO Tryz.prog W0 f own (.call 24 [.tmp t]) fun v own' => JI h L Q b2 (fun n => bif Nat.beq n i then true else l n) (updO f (some (6 + i)) v) own' := by
  have ht' : f t = .slice (some ⟨h.b g, 0, none⟩) (h.n g) (h.n g + (h.r g).length) := ht
  have hcl := sp_clone_uint64 (W0 := W0) (own := own) (cap := h.n g + (h.r g).length) (hJ.rd hg) (by rw [hM.ln g hg]; have := hM.bd g hg; omega)
  rw [hM.ln g hg] at hcl
  change CallT Tryz.prog W0 own _ [f t] _
  rw [ht']
  refine call_x hcl rfl rfl fun y v hv => ?_
  obtain ⟨a1, c1, D1⟩ := y
  obtain ⟨rfl, -⟩ := hv
  exact hJ.step i (by rw [hi]; exact ⟨_, _, _, rfl⟩) D1
theorem JI.ixs (i t g : Nat) (hn : 0 < h.n g) (hi : PvI h i = KI.P h (.x g)) (ht : KI.P h (.s g) (f t)) : XO Tryz.prog W0 f own (.ixs 1 (.tmp t) (.const (.int .i64 0))) fun v own' => JI h L Q b2 (fun n => bif Nat.beq n i then true else l n) (updO f (some (6 + i)) v) own' := by
  have ht' : f t = .slice (some ⟨h.b g, 0, none⟩) (h.n g) (h.n g + (h.r g).length) := ht
  unfold XO
  dsimp only [ev]
  rw [ht']
  exact ⟨0, h.b g, 0, rfl, hn, rfl, hJ.step i (by rw [hi]; rfl) []⟩
theorem JI.ldu (hM : h.ok L) (i t g : Nat) (hg : g < 8) (hn : 0 < h.n g) (hi : PvI h i = KI.P h .u) (ht : KI.P h (.x g) (f t)) : XO Tryz.prog W0 f own (.ld (.tmp t)) fun v own' => JI h L Q b2 (fun n => bif Nat.beq n i then true else l n) (updO f (some (6 + i)) v) own' := by
  have ht' : f t = .pointer (some ⟨h.b g, 0 + 0 * 1, none⟩) := ht
  unfold XO
  dsimp only [ev]
  rw [ht']
  have hlt : 0 < (L.getD g []).length := by rw [hM.ln g hg]; exact hn
  have hx : (L.getD g [])[0]? = some ((L.getD g [])[0]) := List.getElem?_eq_getElem hlt
  exact ⟨_, (hJ.rd hg).cell (k := 0) hx rfl, hJ.step i (by rw [hi]; exact ⟨_, rfl⟩) []⟩
theorem JI.bld (h1 : KI.P h .d (f 11)) (h2 : KI.P h .d (f 17)) (h3 : KI.P h .d (f 44)) (h4 : KI.P h .d (f 50)) (h5 : KI.P h .d (f 56)) (k1 : KI.P h .u (f 24)) (k2 : KI.P h .u (f 31)) (k3 : KI.P h .u (f 38)) : XO Tryz.prog W0 f own (.bld [.slice none 0 0, .slice none 0 0, .int .u64 0, .int .u64 0, .int .u64 0, .slice none 0 0, .slice none 0 0, .slice none 0 0] [(0, 1, .tmp 11), (1, 1, .tmp 17), (2, 1, .tmp 24), (3, 1, .tmp 31), (4, 1, .tmp 38), (5, 1, .tmp 44), (6, 1, .tmp 50), (7, 1, .tmp 56)]) fun v own' => JI h L Q b2 (fun n => bif Nat.beq n 51 then true else l n) (updO f (some 57) v) own' := by
  obtain ⟨a1, n1, c1, e1⟩ := h1
  obtain ⟨a2, n2, c2, e2⟩ := h2
  obtain ⟨a3, n3, c3, e3⟩ := h3
  obtain ⟨a4, n4, c4, e4⟩ := h4
  obtain ⟨a5, n5, c5, e5⟩ := h5
  obtain ⟨x1, g1⟩ := k1
  obtain ⟨x2, g2⟩ := k2
  obtain ⟨x3, g3⟩ := k3
  unfold XO
  dsimp only
  simp only [Bld_cons, Bld_nil, ev, e1, e2, e3, e4, e5, g1, g2, g3]
  exact hJ.step 51 ⟨[.slice a1 n1 c1, .slice a2 n2 c2, uv x1, uv x2, uv x3, .slice a3 n3 c3, .slice a4 n4 c4, .slice a5 n5 c5], rfl, _, _, _, _, _, _, _, _, _, _, _, _, _, _, _, _, _, _, rfl⟩ []
theorem JI.stn (ht : KI.P h .z (f 57)) : XO Tryz.prog W0 f own (.stN 8 (.tmp 2) (.tmp 57)) fun v own' => JI h L Q b2 (fun n => bif Nat.beq n 52 then true else l n) (updO f none v) own' := by
  obtain ⟨cs, hv, hs⟩ := ht
  have hl := hs.len
  have h1 := hs.one
  obtain ⟨cs0, D0, hs0, hp⟩ := hJ.o
  have hl0 := hs0.len
  have hm := hp.mem_iff.2 List.mem_cons_self
  obtain ⟨A, B, rfl⟩ := List.append_of_mem hm
  unfold XO
  dsimp only [ev]
  rw [hJ.f2, hv]
  refine ⟨by simpa using hl, ?_⟩
  refine stN_own (cs' := cs) (own' := A ++ (b2, fun z => z = Obj.cells cs.toArray 35 (0, 0)) :: B) (Up.head.app A) ?_ (by simpa using h1) ?_
  · rw [List.toList_toArray, List.toList_toArray]
    exact putAt_all (by omega)
  · refine ⟨fun j hj hl => hJ.v j hj ?_, hJ.f0, hJ.f2, cs, D0, hs, ?_⟩
    · cases hb : Nat.beq j 52 with
      | false => simpa only [hb, cond_false] using hl
      | true => exact absurd (Nat.eq_of_beq_eq_true hb) (by omega)
    · exact List.perm_middle.trans (((List.perm_middle.symm.trans hp).cons_inv).cons _)
end
section
variable {W0 : World} {h : MH} {L : List (List Int)}
theorem fin_im {f : Fr} {own : Own} {b2 : Nat} {K : Value → Own → Prop} (h2 : f 2 = .pointer (some ⟨b2, 0, none⟩)) (hk : LdN W0 own ⟨b2, 0, none⟩ 8 fun v => K (.agg v) own) : XRes W0 f own [.cellN 2 8] fun vs => K (resV vs) own := by
  unfold XRes
  dsimp only
  rw [h2]
  exact hk
theorem sp_image (hM : h.ok L) (hn : ∀ g, g = 2 ∨ g = 3 ∨ g = 4 → 0 < h.n g) (Q : Own) : Spec Tryz.prog W0 15 [.pointer (some ⟨h.mb, 0, none⟩)] (h.OL L ++ Q) fun v own' => ∃ cs : List Value, (v = .agg cs.toArray ∧ Sh8 cs) ∧ Ent W0 own' (h.OL L ++ Q) := by
  refine spec_of mixed low_cells_Mem_Image (by simp [ir_cells_Mem_Image]) ?_
  repeat' ((try (conv => whnf)); first | (refine br_fe ?_ ?_; exact rfl) | (refine new_i (fun bk hbk => ?_)))
  refine par_of (JI h L Q bk) ⟨fun _ _ hl => (by cases hl), rfl, rfl, _, [], ⟨_, _, _, _, _, _, _, _, _, _, _, _, _, _, _, _, _, _, rfl⟩, List.Perm.refl _⟩ ?_ ?_
  · intro l f own hJ hl
    clear hl
    obtain ⟨cs, D0, hs, hp⟩ := hJ.o
    have hl8 := hs.len
    have hm := hp.mem_iff.2 List.mem_cons_self
    refine fin_im (K := fun v own' => ∃ cs : List Value, (v = .agg cs.toArray ∧ Sh8 cs) ∧ Ent W0 own' (h.OL L ++ Q)) hJ.f2 (ldN_all hm (by simpa using hl8) ?_)
    exact ⟨cs, ⟨rfl, hs⟩, (Ent.of_perm hp).trans (Ent.of_sub ((List.sublist_append_right _ _).trans (List.sublist_cons_self _ _)))⟩
  · exact ⟨fun l f own _ _ hJ => JI.mov hJ 0 rfl,
    fun l f own _ hd hJ => JI.nilc hJ 1 6 rfl (hJ.v 0 (by decide) (hd 0 (by simp))),
    fun l f own _ hd hJ => JI.fad hJ 2 7 rfl (hJ.v 1 (by decide) (hd 1 (by simp))),
    fun l f own _ hd hJ => JI.ldm hJ 3 8 rfl (hJ.v 2 (by decide) (hd 2 (by simp))),
    fun l f own _ hd hJ => JI.mlk hJ hM 4 9 0 (by decide) 1 (by decide) rfl (hJ.v 3 (by decide) (hd 3 (by simp))),
    fun l f own _ hd hJ => JI.cln hJ hM 5 10 0 (by decide) rfl (hJ.v 4 (by decide) (hd 4 (by simp))),
    fun l f own _ _ hJ => JI.mov hJ 6 rfl,
    fun l f own _ hd hJ => JI.nilc hJ 7 12 rfl (hJ.v 6 (by decide) (hd 6 (by simp))),
    fun l f own _ hd hJ => JI.fad hJ 8 13 rfl (hJ.v 7 (by decide) (hd 7 (by simp))),
    fun l f own _ hd hJ => JI.ldm hJ 9 14 rfl (hJ.v 8 (by decide) (hd 8 (by simp))),
    fun l f own _ hd hJ => JI.mlk hJ hM 10 15 1 (by decide) 2 (by decide) rfl (hJ.v 9 (by decide) (hd 9 (by simp))),
    fun l f own _ hd hJ => JI.cln hJ hM 11 16 1 (by decide) rfl (hJ.v 10 (by decide) (hd 10 (by simp))),
    fun l f own _ _ hJ => JI.mov hJ 12 rfl,
    fun l f own _ hd hJ => JI.nilc hJ 13 18 rfl (hJ.v 12 (by decide) (hd 12 (by simp))),
    fun l f own _ hd hJ => JI.fad hJ 14 19 rfl (hJ.v 13 (by decide) (hd 13 (by simp))),
    fun l f own _ hd hJ => JI.ldm hJ 15 20 rfl (hJ.v 14 (by decide) (hd 14 (by simp))),
    fun l f own _ hd hJ => JI.mlk hJ hM 16 21 2 (by decide) 3 (by decide) rfl (hJ.v 15 (by decide) (hd 15 (by simp))),
    fun l f own _ hd hJ => JI.ixs hJ 17 22 2 (hn 2 (by decide)) rfl (hJ.v 16 (by decide) (hd 16 (by simp))),
    fun l f own _ hd hJ => JI.ldu hJ hM 18 23 2 (by decide) (hn 2 (by decide)) rfl (hJ.v 17 (by decide) (hd 17 (by simp))),
    fun l f own _ _ hJ => JI.mov hJ 19 rfl,
    fun l f own _ hd hJ => JI.nilc hJ 20 25 rfl (hJ.v 19 (by decide) (hd 19 (by simp))),
    fun l f own _ hd hJ => JI.fad hJ 21 26 rfl (hJ.v 20 (by decide) (hd 20 (by simp))),
    fun l f own _ hd hJ => JI.ldm hJ 22 27 rfl (hJ.v 21 (by decide) (hd 21 (by simp))),
    fun l f own _ hd hJ => JI.mlk hJ hM 23 28 3 (by decide) 4 (by decide) rfl (hJ.v 22 (by decide) (hd 22 (by simp))),
    fun l f own _ hd hJ => JI.ixs hJ 24 29 3 (hn 3 (by decide)) rfl (hJ.v 23 (by decide) (hd 23 (by simp))),
    fun l f own _ hd hJ => JI.ldu hJ hM 25 30 3 (by decide) (hn 3 (by decide)) rfl (hJ.v 24 (by decide) (hd 24 (by simp))),
    fun l f own _ _ hJ => JI.mov hJ 26 rfl,
    fun l f own _ hd hJ => JI.nilc hJ 27 32 rfl (hJ.v 26 (by decide) (hd 26 (by simp))),
    fun l f own _ hd hJ => JI.fad hJ 28 33 rfl (hJ.v 27 (by decide) (hd 27 (by simp))),
    fun l f own _ hd hJ => JI.ldm hJ 29 34 rfl (hJ.v 28 (by decide) (hd 28 (by simp))),
    fun l f own _ hd hJ => JI.mlk hJ hM 30 35 4 (by decide) 5 (by decide) rfl (hJ.v 29 (by decide) (hd 29 (by simp))),
    fun l f own _ hd hJ => JI.ixs hJ 31 36 4 (hn 4 (by decide)) rfl (hJ.v 30 (by decide) (hd 30 (by simp))),
    fun l f own _ hd hJ => JI.ldu hJ hM 32 37 4 (by decide) (hn 4 (by decide)) rfl (hJ.v 31 (by decide) (hd 31 (by simp))),
    fun l f own _ _ hJ => JI.mov hJ 33 rfl,
    fun l f own _ hd hJ => JI.nilc hJ 34 39 rfl (hJ.v 33 (by decide) (hd 33 (by simp))),
    fun l f own _ hd hJ => JI.fad hJ 35 40 rfl (hJ.v 34 (by decide) (hd 34 (by simp))),
    fun l f own _ hd hJ => JI.ldm hJ 36 41 rfl (hJ.v 35 (by decide) (hd 35 (by simp))),
    fun l f own _ hd hJ => JI.mlk hJ hM 37 42 5 (by decide) 6 (by decide) rfl (hJ.v 36 (by decide) (hd 36 (by simp))),
    fun l f own _ hd hJ => JI.cln hJ hM 38 43 5 (by decide) rfl (hJ.v 37 (by decide) (hd 37 (by simp))),
    fun l f own _ _ hJ => JI.mov hJ 39 rfl,
    fun l f own _ hd hJ => JI.nilc hJ 40 45 rfl (hJ.v 39 (by decide) (hd 39 (by simp))),
    fun l f own _ hd hJ => JI.fad hJ 41 46 rfl (hJ.v 40 (by decide) (hd 40 (by simp))),
    fun l f own _ hd hJ => JI.ldm hJ 42 47 rfl (hJ.v 41 (by decide) (hd 41 (by simp))),
    fun l f own _ hd hJ => JI.mlk hJ hM 43 48 6 (by decide) 7 (by decide) rfl (hJ.v 42 (by decide) (hd 42 (by simp))),
    fun l f own _ hd hJ => JI.cln hJ hM 44 49 6 (by decide) rfl (hJ.v 43 (by decide) (hd 43 (by simp))),
    fun l f own _ _ hJ => JI.mov hJ 45 rfl,
    fun l f own _ hd hJ => JI.nilc hJ 46 51 rfl (hJ.v 45 (by decide) (hd 45 (by simp))),
    fun l f own _ hd hJ => JI.fad hJ 47 52 rfl (hJ.v 46 (by decide) (hd 46 (by simp))),
    fun l f own _ hd hJ => JI.ldm hJ 48 53 rfl (hJ.v 47 (by decide) (hd 47 (by simp))),
    fun l f own _ hd hJ => JI.mlk hJ hM 49 54 7 (by decide) 8 (by decide) rfl (hJ.v 48 (by decide) (hd 48 (by simp))),
    fun l f own _ hd hJ => JI.cln hJ hM 50 55 7 (by decide) rfl (hJ.v 49 (by decide) (hd 49 (by simp))),
    fun l f own _ hd hJ => JI.bld hJ (hJ.v 5 (by decide) (hd 5 (by simp))) (hJ.v 11 (by decide) (hd 11 (by simp))) (hJ.v 38 (by decide) (hd 38 (by simp))) (hJ.v 44 (by decide) (hd 44 (by simp))) (hJ.v 50 (by decide) (hd 50 (by simp))) (hJ.v 18 (by decide) (hd 18 (by simp))) (hJ.v 25 (by decide) (hd 25 (by simp))) (hJ.v 32 (by decide) (hd 32 (by simp))),
    fun l f own _ hd hJ => JI.stn hJ (hJ.v 51 (by decide) (hd 51 (by simp))),
    trivial⟩
end
end Go.Proofs.YtllddgdmmfmpkaaGreatDoor
namespace Go.Proofs.YtllddgdmmfmpkaaGreatDoor
open Go
set_option maxRecDepth 10000
set_option maxHeartbeats 8000000
section
variable {W0 : World} {own : Own}
theorem sp_head0 (own : Own) : Pure Tryz.prog W0 37 [.int .i64 0, .int .i64 (-1)] own (.tuple #[uv 0, .int .i64 0]) := by
  refine pure_of (spec_of mixed low_word_Head (by simp [ir_word_Head]) ?_)
  repeat' ((try (conv => whnf)); first | (refine when_ye ?_ ?_; exact rfl) | (refine br_fe ?_ ?_; exact rfl) | (refine arw (k := .u64) ?_) | (refine ari ?_ ?_; omega))
  all_goals exact ⟨rfl, (by first | exact ent_i | (repeat (first | exact Ent.refl | exact Ent.left | refine Ent.cons ?_ | refine Ent.app ?_)))⟩
theorem sp_lists {c : Cfg} (h : c.c0 = 0 ∧ c.c1 = 0 ∧ c.c2 = 0 ∧ c.c3 = 0) (hb : blocksM c = 0) : Spec Tryz.prog W0 23 [c.v] own fun v own' =>
    ∃ s : Nat × Nat, v = .tuple #[.slice (some ⟨s.1, 0, none⟩) 4 4, .slice (some ⟨s.2, 0, none⟩) 0 0] ∧ Ent W0 own' (canE encU 33 s.1 [0, 0, 0, 0] :: canE encU 33 s.2 [] :: own) := by
  refine spec_of mixed low_cells_lists (by simp [ir_cells_lists]) ?_
  have hbl := fun own => sp_blocks W0 own c
  rw [hb] at hbl
  have hhd := fun own => sp_head0 (W0 := W0) own
  obtain ⟨w, o, b, c0, c1, c2, c3, r, wr, al, fr, ck, st⟩ := c
  obtain ⟨rfl, rfl, rfl, rfl⟩ := h
  dsimp only [Cfg.v, Cfg.cs] at hbl ⊢
  have hw : ∀ z ∈ ([0, 0, 0, 0] : List Int), (encU z).length = 1 := fun _ _ => rfl
  have hx : ∀ i, i < 4 → ([0, 0, 0, 0] : List Int)[i]? = some 0 := by intro i hi; match i, hi with | 0, _ => rfl | 1, _ => rfl | 2, _ => rfl | 3, _ => rfl
  have hx0 := hx 0 (by decide)
  have hx1 := hx 1 (by decide)
  have hx2 := hx 2 (by decide)
  have hx3 := hx 3 (by decide)
  repeat' ((try (conv => whnf)); first | (refine mkC (enc := encU) 4 0 rfl rfl rfl (by omega) (fun b1 => ?_); (apply Stop.h)) | (refine new_i (fun bk hbk => ?_)))
  refine Stop.mk ?_
  repeat' ((try (conv => whnf)); first | (refine mkC (enc := encU) 0 0 rfl rfl rfl (by omega) (fun b2 => ?_)) | ((with_reducible show CallT _ _ _ _ _ _); first | ((refine call_pe (hbl _) ?_ ?_ ?_; (exact rfl); exact rfl))) | (apply ldN_a; exact rfl) | (apply ldN_o; (exact rfl); exact rfl))
  refine loop_i (σ := Nat) (fun i => [(15, .int .i64 i), (4, .int .i64 0)]) (fun _ => canE encU 33 b1 [0, 0, 0, 0] :: canE encU 33 b2 [] :: own) (fun i => i ≤ 4) (fun i => 4 - i) 0 (Nat.zero_le _) (by repeat' (first | exact True.intro | refine And.intro ?_ ?_ | exact rfl | exact vi (by omega) | (dsimp only; exact rfl) | (dsimp only; exact vi (by omega)))) (by refine sb_ent ?_; (repeat (first | exact sb_refl | exact sb_nil | refine sb_fr ?_ | refine sb_pu rfl ?_ | refine sb_cons ?_ | refine sb_app ?_))) rfl ?_
  rintro i junk hi
  have hc5 : i = 0 ∨ i = 1 ∨ i = 2 ∨ i = 3 ∨ i = 4 := by omega
  have hln : (4 : Nat) = ([0, 0, 0, 0] : List Int).length := rfl
  rcases hc5 with rfl | rfl | rfl | rfl | rfl
  · repeat' ((try (conv => whnf)); first | (refine br_te ?_ ?_; exact rfl) | (refine br_fe ?_ ?_; exact rfl) | (refine loop_r 1 ?_) | ((with_reducible show IxS _ _ _ _ _); first | ((refine ixC hx0 hln ?_ ?_; (first | rfl | omega)))) | ((with_reducible show CallT _ _ _ _ _ _); first | ((refine call_pe (hhd _) ?_ ?_ ?_; (exact rfl); exact rfl))) | ((with_reducible show StT _ _ _ _ _); first | ((refine stC (T := 33) (k := 0) (0) hw hx0 ?_ ?_ ?_ ?_ ?_; (exact rfl); (omega); (exact rfl); (exact rfl)))) | (refine ari ?_ ?_; omega) | (apply sel; exact rfl) | (refine ix0 rfl ?_))
    all_goals exact ⟨1, by omega, by omega, (by repeat' (first | exact True.intro | refine And.intro ?_ ?_ | exact rfl | exact vi (by omega) | (dsimp only; exact rfl) | (dsimp only; exact vi (by omega)))), (by refine sb_ent ?_; (repeat (first | exact sb_refl | exact sb_nil | refine sb_fr ?_ | refine sb_pu rfl ?_ | refine sb_cons ?_ | refine sb_app ?_)))⟩
  · repeat' ((try (conv => whnf)); first | (refine br_te ?_ ?_; exact rfl) | (refine br_fe ?_ ?_; exact rfl) | (refine loop_r 1 ?_) | ((with_reducible show IxS _ _ _ _ _); first | ((refine ixC hx1 hln ?_ ?_; (first | rfl | omega)))) | ((with_reducible show CallT _ _ _ _ _ _); first | ((refine call_pe (hhd _) ?_ ?_ ?_; (exact rfl); exact rfl))) | ((with_reducible show StT _ _ _ _ _); first | ((refine stC (T := 33) (k := 0) (0) hw hx1 ?_ ?_ ?_ ?_ ?_; (exact rfl); (omega); (exact rfl); (exact rfl)))) | (refine ari ?_ ?_; omega) | (apply sel; exact rfl) | (refine ix1 rfl ?_))
    all_goals exact ⟨2, by omega, by omega, (by repeat' (first | exact True.intro | refine And.intro ?_ ?_ | exact rfl | exact vi (by omega) | (dsimp only; exact rfl) | (dsimp only; exact vi (by omega)))), (by refine sb_ent ?_; (repeat (first | exact sb_refl | exact sb_nil | refine sb_fr ?_ | refine sb_pu rfl ?_ | refine sb_cons ?_ | refine sb_app ?_)))⟩
  · repeat' ((try (conv => whnf)); first | (refine br_te ?_ ?_; exact rfl) | (refine br_fe ?_ ?_; exact rfl) | (refine loop_r 1 ?_) | ((with_reducible show IxS _ _ _ _ _); first | ((refine ixC hx2 hln ?_ ?_; (first | rfl | omega)))) | ((with_reducible show CallT _ _ _ _ _ _); first | ((refine call_pe (hhd _) ?_ ?_ ?_; (exact rfl); exact rfl))) | ((with_reducible show StT _ _ _ _ _); first | ((refine stC (T := 33) (k := 0) (0) hw hx2 ?_ ?_ ?_ ?_ ?_; (exact rfl); (omega); (exact rfl); (exact rfl)))) | (refine ari ?_ ?_; omega) | (apply sel; exact rfl) | (refine ix2 rfl ?_))
    all_goals exact ⟨3, by omega, by omega, (by repeat' (first | exact True.intro | refine And.intro ?_ ?_ | exact rfl | exact vi (by omega) | (dsimp only; exact rfl) | (dsimp only; exact vi (by omega)))), (by refine sb_ent ?_; (repeat (first | exact sb_refl | exact sb_nil | refine sb_fr ?_ | refine sb_pu rfl ?_ | refine sb_cons ?_ | refine sb_app ?_)))⟩
  · repeat' ((try (conv => whnf)); first | (refine br_te ?_ ?_; exact rfl) | (refine br_fe ?_ ?_; exact rfl) | (refine loop_r 1 ?_) | ((with_reducible show IxS _ _ _ _ _); first | ((refine ixC hx3 hln ?_ ?_; (first | rfl | omega)))) | ((with_reducible show CallT _ _ _ _ _ _); first | ((refine call_pe (hhd _) ?_ ?_ ?_; (exact rfl); exact rfl))) | ((with_reducible show StT _ _ _ _ _); first | ((refine stC (T := 33) (k := 0) (0) hw hx3 ?_ ?_ ?_ ?_ ?_; (exact rfl); (omega); (exact rfl); (exact rfl)))) | (refine ari ?_ ?_; omega) | (apply sel; exact rfl) | (refine ix3 rfl ?_))
    all_goals exact ⟨4, by omega, by omega, (by repeat' (first | exact True.intro | refine And.intro ?_ ?_ | exact rfl | exact vi (by omega) | (dsimp only; exact rfl) | (dsimp only; exact vi (by omega)))), (by refine sb_ent ?_; (repeat (first | exact sb_refl | exact sb_nil | refine sb_fr ?_ | refine sb_pu rfl ?_ | refine sb_cons ?_ | refine sb_app ?_)))⟩
  · repeat' ((try (conv => whnf)); first | (refine br_fe ?_ ?_; exact rfl))
    all_goals exact ⟨(b1, b2), rfl, (by refine sb_ent ?_; (repeat (first | exact sb_refl | exact sb_nil | refine sb_fr ?_ | refine sb_pu rfl ?_ | refine sb_cons ?_ | refine sb_app ?_)))⟩
end
end Go.Proofs.YtllddgdmmfmpkaaGreatDoor
