/- The library's contracts over this seat, laid by program. No condition. -/
import Derived.Shelf.Strings.Search1
import Derived.Shelf.Strings.Search2
import Derived.Shelf.Strings.Search3
import Derived.Shelf.Strings.Prefix
import Derived.Ground.Names2Prog
import Derived.Test.YtiimndcifcoofaaDoorProg
namespace Go.Proofs.YtiimndcifcoofaaDoor
open Go Go.Shelf
def shelf_lays144_ren : Go.Shelf.Ren := ⟨fun | 144 => 27 | 143 => 40 | 219 => 57 | 217 => 73 | 225 => 74 | 224 => 75 | 267 => 76 | 266 => 87 | 314 => 88 | n => n, fun | 9 => 9 | 4 => 4 | 3 => 3 | 5 => 5 | 46 => 41 | 146 => 125 | 51 => 93 | n => n, fun | 1 => 2 | n => n⟩
theorem shelf_lays144 : Go.Proofs.Lays.n144 Tryd.prog shelf_lays144_ren := {
  mixed := by kernel_rfl
  f143 := Tryd.func40.trans (congrArg some (by kernel_rfl))
  f144 := Tryd.func27.trans (congrArg some (by kernel_rfl))
  f217 := Tryd.func73.trans (congrArg some (by kernel_rfl))
  f219 := Tryd.func57.trans (congrArg some (by kernel_rfl))
  f224 := Tryd.func75.trans (congrArg some (by kernel_rfl))
  f225 := Tryd.func74.trans (congrArg some (by kernel_rfl))
  f266 := Tryd.func87.trans (congrArg some (by kernel_rfl))
  f267 := Tryd.func76.trans (congrArg some (by kernel_rfl))
  f314 := Tryd.func88.trans (congrArg some (by kernel_rfl))
  t3 := Tryd.underlying3
  a3 := Tryd.isAgg3
  z3 := Tryd.sizeOf3
  v3 := Tryd.zeroValue3
  t4 := Tryd.underlying4
  a4 := Tryd.isAgg4
  z4 := Tryd.sizeOf4
  v4 := Tryd.zeroValue4
  t5 := Tryd.underlying5
  a5 := Tryd.isAgg5
  z5 := Tryd.sizeOf5
  v5 := Tryd.zeroValue5
  t9 := Tryd.underlying9
  a9 := Tryd.isAgg9
  z9 := Tryd.sizeOf9
  v9 := Tryd.zeroValue9
  t46 := Tryd.underlying41
  a46 := Tryd.isAgg41
  z46 := Tryd.sizeOf41
  v46 := Tryd.zeroValue41
  t51 := Tryd.underlying93
  a51 := Tryd.isAgg93
  z51 := Tryd.sizeOf93
  v51 := Tryd.zeroValue93
  t146 := Tryd.underlying125
  a146 := Tryd.isAgg125
  z146 := Tryd.sizeOf125
  v146 := Tryd.zeroValue125
  g1 := by kernel_rfl }
open Go.RowKit Go.Lib in
theorem shelf_strings_Contains_one (s : ByteArray) (c : UInt8) (w : World) :
    Calls Tryd.prog 27 #[.string s, .string ⟨#[c]⟩] w fun e w' => e = .returned (.bool (decide (0 ≤ Lib.indexByte s.data.toList c))) ∧ w' = w := Any.strings_Contains_one shelf_lays144 s c w
def shelf_lays99_ren : Go.Shelf.Ren := ⟨fun | 99 => 44 | 206 => 64 | n => n, fun | 9 => 9 | 4 => 4 | 3 => 3 | n => n, fun | n => n⟩
theorem shelf_lays99 : Go.Proofs.Lays.n99 Tryd.prog shelf_lays99_ren := {
  mixed := by kernel_rfl
  f99 := Tryd.func44.trans (congrArg some (by kernel_rfl))
  f206 := Tryd.func64.trans (congrArg some (by kernel_rfl))
  t3 := Tryd.underlying3
  a3 := Tryd.isAgg3
  z3 := Tryd.sizeOf3
  v3 := Tryd.zeroValue3
  t4 := Tryd.underlying4
  a4 := Tryd.isAgg4
  z4 := Tryd.sizeOf4
  v4 := Tryd.zeroValue4
  t9 := Tryd.underlying9
  a9 := Tryd.isAgg9
  z9 := Tryd.sizeOf9
  v9 := Tryd.zeroValue9 }
open Go.RowKit Go.Lib in
theorem shelf_strings_HasPrefix (s p : ByteArray) (w : World) :
    Calls Tryd.prog 44 #[.string s, .string p] w fun e w' => e = .returned (.bool (Lib.hasPrefix s.data.toList p.data.toList)) ∧ w' = w := Any.strings_HasPrefix shelf_lays99 s p w
end Go.Proofs.YtiimndcifcoofaaDoor
