/- What the laws share, part 18. No condition. -/
import Derived.Laws.FloatBits
import Derived.Test.YtkieffpjjfebjaaGreatDoorZ17
set_option maxRecDepth 10000
namespace Go.Proofs.YtkieffpjjfebjaaGreatDoor
open Go
theorem q29(e:Int):okU (qcy e):=by
 unfold qcy IntKind.wrap
 have h3:((2:Int) ^ IntKind.u64.bits)=18446744073709551616:=rfl
 simp only[h3,IntKind.signed,Bool.false_and,Bool.false_eq_true,if_false,okU]
 omega
theorem q4s(b:Bool):okU (Alu.truthM b):=by unfold Alu.truthM okU;split <;>omega
theorem qbm:okU Alu.nanW:=by unfold Alu.nanW okU;omega
theorem q90{x:Nat}(h:x<18446744073709551616):okU (Alu.plainM x):=by
 unfold Alu.plainM
 split
 ·exact qbm
 ·unfold okU;omega
theorem qge(d:Ieee.Datum):FloatKind.f64.encode d<18446744073709551616:=by
 have:=Ieee.Format.write_lt Ieee.double d
 have e:(2:Nat) ^ Ieee.double.width=18446744073709551616:=by decide+kernel
 rw[e] at this
 exact this
theorem qdE{neg:Bool}{a b:Nat}(ha:a<18446744073709551616)(hb:b<18446744073709551616):q73 neg a b<18446744073709551616:=by
 unfold q73
 (repeat' split) <;>first|exact qge _|omega
theorem qbb(op:BinOp)(a b:Nat):okU (Alu.fopM op a b):=by
 unfold Alu.fopM
 split
 ·rename_i r hr
  exact q90 (Alu.fb_lt hr)
 ·exact qbm
theorem qjM{x:Int}(hx:okU x)(n:Nat):okU (x.fdiv (2 ^ n)):=by
 have h2:(0:Int)<2 ^ n:=Int.pow_pos (by decide)
 have h0:=Int.fdiv_nonneg hx.1 (Int.le_of_lt h2)
 have h1:x.fdiv (2 ^ n)≤x:=by
  rw[Int.fdiv_eq_ediv_of_nonneg _ (Int.le_of_lt h2)]
  exact Int.ediv_le_self _ hx.1
 exact⟨h0,Int.le_trans h1 hx.2⟩
theorem q0X{p:Prop} [Decidable p]{a b:Int}(ha:okU a)(hb:okU b):okU (if p then a else b):=by
 split <;>assumption
theorem qhC{fn x y:Int}(hx:okU x):okU (Alu.intsM fn x y):=
 q0X (q29 _) (q0X (q29 _) (q0X (q29 _) (q0X (q29 _) (q0X (q29 _) (q0X (q29 _) (q0X (q29 _) (q0X (qjM hx _) (q0X (q4s _) (q0X (q4s _) (q0X (q4s _) (q4s _)))))))))))
theorem qdk{fn:Int}{a b:Nat}(ha:a<18446744073709551616)(hb:b<18446744073709551616):okU (Alu.floatsM fn a b):=
 q0X (qbb _ _ _) (q0X (qbb _ _ _) (q0X (qbb _ _ _) (q0X (qbb _ _ _) (q0X (q0X qbm (q90 (qdE ha hb))) (q0X (q0X qbm (q90 (qdE ha hb))) (q0X (q4s _) (q4s _)))))))
theorem qhL(n:Int):okU (FloatKind.f64.nearest n:Int):=by
 have:=qge (.number (decide (n<0)) n.natAbs 0)
 have e:FloatKind.f64.nearest n=FloatKind.f64.encode (.number (decide (n<0)) n.natAbs 0):=rfl
 rw[e]
 generalize FloatKind.f64.encode (.number (decide (n<0)) n.natAbs 0)=z at*
 unfold okU
 omega
theorem qcM{fn x y:Int}(hx:okU x)(hy:okU y):okU (Alu.applyW fn x y):=by
 have hxn:x.toNat<18446744073709551616:=by unfold okU at hx;omega
 have hyn:y.toNat<18446744073709551616:=by unfold okU at hy;omega
 exact q0X (q0X (qhL _) (q0X (q29 _) (q0X (qdk hxn hyn) (qhC hx)))) ⟨by decide,by decide⟩
def Rg.ok(r:Rg):Prop:=∀k,okU (r.get k)
theorem Rg.ok_set{r:Rg}{k:Nat}{v:Int}(h:r.ok)(hv:okU v):(r.set k v).ok:=fun j=>by
 by_cases hk:k<8
 ·rw[Rg.get_set hk]
  split
  ·exact hv
  ·exact h j
 ·obtain⟨m,rfl⟩:∃m,k=m+8:=⟨k-8,by omega⟩
  exact h j
theorem qdw{t:Thr}{x:Ins}(h:t.rg.ok):(q85 t x).ok:=by
 unfold q85
 (repeat' split) <;>first|exact Rg.ok_set h (q29 _)|exact Rg.ok_set h (h _)|exact Rg.ok_set h (qcM (h _) (h _))|exact h
end Go.Proofs.YtkieffpjjfebjaaGreatDoor
