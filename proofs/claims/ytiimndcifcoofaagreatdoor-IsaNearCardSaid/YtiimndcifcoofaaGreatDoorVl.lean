/- Part l: rules that say by equations what must fit: a misfit is told cheaply. No condition. -/
import Derived.Test.YtiimndcifcoofaaGreatDoorVk
namespace Go.Proofs.YtiimndcifcoofaaGreatDoor
open Go
section
variable {c b : Bool} {Ky Kn : Prop} {p : Prop} {i : Decidable p}
theorem when_ye (e : c = b) (h : Ky) : When c b Ky Kn := by subst e; exact when_y h
theorem when_ne (e : c = !b) (h : Kn) : When c b Ky Kn := ⟨fun h2 => (by rw [h2] at e; cases b <;> cases e), fun _ => h⟩
theorem br_te (e : c = true) (h : Ky) : Br c Ky Kn := by subst e; exact br_t h
theorem br_fe (e : c = false) (h : Kn) : Br c Ky Kn := by subst e; exact br_f h
theorem when_dE (e : c = @decide p i) (hb : b = true) (hy : p → Ky) (hn : ¬p → Kn) : When c b Ky Kn := by subst e; subst hb; exact when_dt hy hn
theorem when_dF (e : c = @decide p i) (hb : b = false) (hn : ¬p → Ky) (hy : p → Kn) : When c b Ky Kn := by subst e; subst hb; exact when_df hn hy
theorem when_nE (e : c = !@decide p i) (hb : b = true) (hn : ¬p → Ky) (hy : p → Kn) : When c b Ky Kn := by subst e; subst hb; exact when_ndt hn hy
theorem when_nF (e : c = !@decide p i) (hb : b = false) (hy : p → Ky) (hn : ¬p → Kn) : When c b Ky Kn := by subst e; subst hb; exact when_ndf hy hn
theorem br_dE (e : c = @decide p i) (hy : p → Ky) (hn : ¬p → Kn) : Br c Ky Kn := by subst e; exact br_d hy hn
theorem br_nE (e : c = !@decide p i) (hn : ¬p → Ky) (hy : p → Kn) : Br c Ky Kn := by subst e; exact br_nd hn hy
theorem br_pyE (e : c = @decide p i) (hp : p) (h : Ky) : Br c Ky Kn := by subst e; exact br_py hp h
theorem br_pnE (e : c = @decide p i) (hp : ¬p) (h : Kn) : Br c Ky Kn := by subst e; exact br_pn hp h
theorem br_npyE (e : c = !@decide p i) (hp : p) (h : Kn) : Br c Ky Kn := by subst e; exact br_npy hp h
theorem br_npnE (e : c = !@decide p i) (hp : ¬p) (h : Ky) : Br c Ky Kn := by subst e; exact br_npn hp h
theorem when_pyE (e : c = @decide p i) (hp : p) (h : When true b Ky Kn) : When c b Ky Kn := by subst e; exact when_py hp h
theorem when_pnE (e : c = @decide p i) (hp : ¬p) (h : When false b Ky Kn) : When c b Ky Kn := by subst e; exact when_pn hp h
theorem when_npyE (e : c = !@decide p i) (hp : p) (h : When false b Ky Kn) : When c b Ky Kn := by subst e; exact when_npy hp h
theorem when_npnE (e : c = !@decide p i) (hp : ¬p) (h : When true b Ky Kn) : When c b Ky Kn := by subst e; exact when_npn hp h
end
/-- A place where the run of rules stands still. -/
structure Stop (p : Prop) : Prop where
  h : p
section
variable {P : Program} {W0 : World} {own : Own} {k k0 : FuncId} {args args0 : List Value} {v : Value}
/- A contract at a call. -/
theorem call_pe {K : Value → Own → Prop} (h : Pure P W0 k0 args0 own v) (ek : k = k0) (ea : args = args0) (hk : K v own) : CallT P W0 own k args K := by
  subst ek; subst ea; exact call_p h hk
theorem call_qq {K : Value → Prop} (h : ∀ own', Pure P W0 k0 args0 own' v) (ek : k = k0) (ea : args = args0) (hk : K v) : CallQ P W0 own k args K := by
  subst ek; subst ea; exact call_q h hk
/-- The same where what is known of the blocks is needed. -/
theorem call_qi {K : Value → Prop} (h : ∀ ex : Own, Pure P W0 k0 args0 (ex ++ own) v) (ek : k = k0) (ea : args = args0) (hk : K v) : CallQ P W0 own k args K := by
  subst ek; subst ea; exact call_qe h hk
theorem call_se {R K : Value → Own → Prop} (h : Spec P W0 k0 args0 own R) (ek : k = k0) (ea : args = args0) (hk : ∀ v own', R v own' → K v own') : CallT P W0 own k args K := by
  subst ek; subst ea; exact call_s h hk
/-- A call whose answer is one of a family, each with its own list of blocks. -/
theorem call_x {σ : Type} {R : σ → Value → Prop} {O : σ → Own} {K : Value → Own → Prop} (h : Spec P W0 k0 args0 own fun v own' => ∃ s, R s v ∧ Ent W0 own' (O s)) (ek : k = k0) (ea : args = args0) (hk : ∀ s v, R s v → K v (O s)) : CallT P W0 own k args K := by
  subst ek; subst ea
  exact ⟨fun w hw => (h w hw).mono fun _ _ ⟨_, _, he, hs, s, hR, hE⟩ => ⟨_, O s, he, hE _ hs, hk s _ hR⟩⟩
end
end Go.Proofs.YtiimndcifcoofaaGreatDoor
