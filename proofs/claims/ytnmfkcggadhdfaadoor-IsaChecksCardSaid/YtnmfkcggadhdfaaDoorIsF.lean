/- The library's contracts over this seat, laid by program. No condition. -/
import Derived.Shelf.Strings.FieldsFuncAny
import Derived.Test.YtnmfkcggadhdfaaDoorProg
namespace Go.Proofs.YtnmfkcggadhdfaaDoor
open Go Go.Shelf
def shelf_lays229_ren : Go.Shelf.Ren := ⟨fun | 229 => 45 | n => n, fun | 9 => 9 | 40 => 67 | 31 => 46 | 152 => 83 | 3 => 3 | 0 => 0 | 4 => 4 | 21 => 21 | 154 => 85 | n => n, fun | n => n⟩
theorem shelf_lays229 : Go.Proofs.Lays.n229 Tryd.prog shelf_lays229_ren := {
  mixed := by kernel_rfl
  f229 := Tryd.func45.trans (congrArg some (by kernel_rfl))
  t0 := Tryd.underlying0
  a0 := Tryd.isAgg0
  z0 := Tryd.sizeOf0
  v0 := Tryd.zeroValue0
  t3 := Tryd.underlying3
  a3 := Tryd.isAgg3
  z3 := Tryd.sizeOf3
  v3 := Tryd.zeroValue3
  t4 := Tryd.underlying4
  a4 := Tryd.isAgg4
  z4 := Tryd.sizeOf4
  v4 := Tryd.zeroValue4
  t9 := Tryd.underlying9
  a9 := Tryd.isAgg9
  z9 := Tryd.sizeOf9
  v9 := Tryd.zeroValue9
  t21 := Tryd.underlying21
  a21 := Tryd.isAgg21
  z21 := Tryd.sizeOf21
  v21 := Tryd.zeroValue21
  t31 := Tryd.underlying46
  a31 := Tryd.isAgg46
  z31 := Tryd.sizeOf46
  v31 := Tryd.zeroValue46
  t40 := Tryd.underlying67
  a40 := Tryd.isAgg67
  z40 := Tryd.sizeOf67
  v40 := Tryd.zeroValue67
  t152 := Tryd.underlying83
  a152 := Tryd.isAgg83
  z152 := Tryd.sizeOf83
  v152 := Tryd.zeroValue83
  t154 := Tryd.underlying85
  a154 := Tryd.isAgg85
  z154 := Tryd.sizeOf85
  v154 := Tryd.zeroValue85 }
open Go.RowKit Go.Lib in
theorem shelf_strings_FieldsFunc_runes (g : Nat) (lb : Array Value) (eg : ∀ args w, (callFunc g args).run Tryd.prog w = .ok (.enter g args) w) (p : Nat → Bool) (s : ByteArray) (w : World) (hs : s.size ≤ 4294967296) (hp : PredAtRunes Tryd.prog g lb p w) :
    Calls Tryd.prog 45 #[.string s, .func (.func g) #[] lb] w fun e w' => ∃ A, e = .returned (.slice (some ⟨A, 0, none⟩) (Lib.goFieldsP p s).length (Lib.goFieldsP p s).length) ∧ w.heap.size ≤ A ∧
      w'.ownsRow w.heap.size 9 1 (.slice (some ⟨A, 0, none⟩) (Lib.goFieldsP p s).length (Lib.goFieldsP p s).length) (Lib.goFieldsP p s).length ((Lib.goFieldsP p s).map Value.string) ∧ Below w.heap.size w w' := Any.strings_FieldsFunc_runes shelf_lays229 g lb eg p s w hs hp (by kernel_rfl) (by kernel_rfl)
end Go.Proofs.YtnmfkcggadhdfaaDoor
