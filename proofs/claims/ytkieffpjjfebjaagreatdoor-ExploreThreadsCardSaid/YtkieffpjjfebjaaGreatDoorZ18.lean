/- What the laws share, part 18. No condition. -/
import Derived.Laws.FloatBits
import Derived.Test.YtkieffpjjfebjaaGreatDoorZ17
set_option maxRecDepth 10000
namespace Go.Proofs.YtkieffpjjfebjaaGreatDoor
open Go
theorem q1S(e:Int):okU (qbS e):=by
 unfold qbS IntKind.wrap
 have h3:((2:Int) ^ IntKind.u64.bits)=18446744073709551616:=rfl
 simp only[h3,IntKind.signed,Bool.false_and,Bool.false_eq_true,if_false,okU]
 omega
theorem q4q(b:Bool):okU (Alu.truthM b):=by unfold Alu.truthM okU;split <;>omega
theorem qbz:okU Alu.nanW:=by unfold Alu.nanW okU;omega
theorem q97{x:Nat}(h:x<18446744073709551616):okU (Alu.plainM x):=by
 unfold Alu.plainM
 split
 ·exact qbz
 ·unfold okU;omega
theorem qgJ(d:Ieee.Datum):FloatKind.f64.encode d<18446744073709551616:=by
 have:=Ieee.Format.write_lt Ieee.double d
 have e:(2:Nat) ^ Ieee.double.width=18446744073709551616:=by decide+kernel
 rw[e] at this
 exact this
theorem qcJ{neg:Bool}{a b:Nat}(ha:a<18446744073709551616)(hb:b<18446744073709551616):q6F neg a b<18446744073709551616:=by
 unfold q6F
 (repeat' split) <;>first|exact qgJ _|omega
theorem qbr(op:BinOp)(a b:Nat):okU (Alu.fopM op a b):=by
 unfold Alu.fopM
 split
 ·rename_i r hr
  exact q97 (Alu.fb_lt hr)
 ·exact qbz
theorem qiN{x:Int}(hx:okU x)(n:Nat):okU (x.fdiv (2 ^ n)):=by
 have h2:(0:Int)<2 ^ n:=Int.pow_pos (by decide)
 have h0:=Int.fdiv_nonneg hx.1 (Int.le_of_lt h2)
 have h1:x.fdiv (2 ^ n)≤x:=by
  rw[Int.fdiv_eq_ediv_of_nonneg _ (Int.le_of_lt h2)]
  exact Int.ediv_le_self _ hx.1
 exact⟨h0,Int.le_trans h1 hx.2⟩
theorem q0U{p:Prop} [Decidable p]{a b:Int}(ha:okU a)(hb:okU b):okU (if p then a else b):=by
 split <;>assumption
theorem qhW{fn x y:Int}(hx:okU x):okU (Alu.intsM fn x y):=
 q0U (q1S _) (q0U (q1S _) (q0U (q1S _) (q0U (q1S _) (q0U (q1S _) (q0U (q1S _) (q0U (q1S _) (q0U (qiN hx _) (q0U (q4q _) (q0U (q4q _) (q0U (q4q _) (q4q _)))))))))))
theorem qee{fn:Int}{a b:Nat}(ha:a<18446744073709551616)(hb:b<18446744073709551616):okU (Alu.floatsM fn a b):=
 q0U (qbr _ _ _) (q0U (qbr _ _ _) (q0U (qbr _ _ _) (q0U (qbr _ _ _) (q0U (q0U qbz (q97 (qcJ ha hb))) (q0U (q0U qbz (q97 (qcJ ha hb))) (q0U (q4q _) (q4q _)))))))
theorem qgZ(n:Int):okU (FloatKind.f64.nearest n:Int):=by
 have:=qgJ (.number (decide (n<0)) n.natAbs 0)
 have e:FloatKind.f64.nearest n=FloatKind.f64.encode (.number (decide (n<0)) n.natAbs 0):=rfl
 rw[e]
 generalize FloatKind.f64.encode (.number (decide (n<0)) n.natAbs 0)=z at*
 unfold okU
 omega
theorem qdH{fn x y:Int}(hx:okU x)(hy:okU y):okU (Alu.applyW fn x y):=by
 have hxn:x.toNat<18446744073709551616:=by unfold okU at hx;omega
 have hyn:y.toNat<18446744073709551616:=by unfold okU at hy;omega
 exact q0U (q0U (qgZ _) (q0U (q1S _) (q0U (qee hxn hyn) (qhW hx)))) ⟨by decide,by decide⟩
def Rg.ok(r:Rg):Prop:=∀k,okU (r.get k)
theorem Rg.ok_set{r:Rg}{k:Nat}{v:Int}(h:r.ok)(hv:okU v):(r.set k v).ok:=fun j=>by
 by_cases hk:k<8
 ·rw[Rg.get_set hk]
  split
  ·exact hv
  ·exact h j
 ·obtain⟨m,rfl⟩:∃m,k=m+8:=⟨k-8,by omega⟩
  exact h j
theorem qcR{t:Thr}{x:Ins}(h:t.rg.ok):(q7T t x).ok:=by
 unfold q7T
 (repeat' split) <;>first|exact Rg.ok_set h (q1S _)|exact Rg.ok_set h (h _)|exact Rg.ok_set h (qdH (h _) (h _))|exact h
end Go.Proofs.YtkieffpjjfebjaaGreatDoor
