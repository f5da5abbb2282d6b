/- The library's contracts over this seat, laid by program. No condition. -/
import Derived.Shelf.Strings.Search1
import Derived.Shelf.Strings.Search2
import Derived.Shelf.Strings.Search3
import Derived.Shelf.Strings.Prefix
import Derived.Ground.Names2Prog
import Derived.Test.YtiimndcifcoofaaGreatDoorProg
namespace Go.Proofs.YtiimndcifcoofaaGreatDoor
open Go Go.Shelf
def shelf_lays144_ren : Go.Shelf.Ren := ⟨fun | 144 => 42 | 143 => 70 | 219 => 93 | 217 => 131 | 225 => 132 | 224 => 133 | 267 => 134 | 266 => 153 | 314 => 154 | n => n, fun | 9 => 9 | 4 => 4 | 3 => 3 | 5 => 5 | 46 => 92 | 146 => 119 | 51 => 118 | n => n, fun | 1 => 2 | n => n⟩
theorem shelf_lays144 : Go.Proofs.Lays.n144 Tryz.prog shelf_lays144_ren := {
  mixed := by kernel_rfl
  f143 := Tryz.func70.trans (congrArg some (by kernel_rfl))
  f144 := Tryz.func42.trans (congrArg some (by kernel_rfl))
  f217 := Tryz.func131.trans (congrArg some (by kernel_rfl))
  f219 := Tryz.func93.trans (congrArg some (by kernel_rfl))
  f224 := Tryz.func133.trans (congrArg some (by kernel_rfl))
  f225 := Tryz.func132.trans (congrArg some (by kernel_rfl))
  f266 := Tryz.func153.trans (congrArg some (by kernel_rfl))
  f267 := Tryz.func134.trans (congrArg some (by kernel_rfl))
  f314 := Tryz.func154.trans (congrArg some (by kernel_rfl))
  t3 := Tryz.underlying3
  a3 := Tryz.isAgg3
  z3 := Tryz.sizeOf3
  v3 := Tryz.zeroValue3
  t4 := Tryz.underlying4
  a4 := Tryz.isAgg4
  z4 := Tryz.sizeOf4
  v4 := Tryz.zeroValue4
  t5 := Tryz.underlying5
  a5 := Tryz.isAgg5
  z5 := Tryz.sizeOf5
  v5 := Tryz.zeroValue5
  t9 := Tryz.underlying9
  a9 := Tryz.isAgg9
  z9 := Tryz.sizeOf9
  v9 := Tryz.zeroValue9
  t46 := Tryz.underlying92
  a46 := Tryz.isAgg92
  z46 := Tryz.sizeOf92
  v46 := Tryz.zeroValue92
  t51 := Tryz.underlying118
  a51 := Tryz.isAgg118
  z51 := Tryz.sizeOf118
  v51 := Tryz.zeroValue118
  t146 := Tryz.underlying119
  a146 := Tryz.isAgg119
  z146 := Tryz.sizeOf119
  v146 := Tryz.zeroValue119
  g1 := by kernel_rfl }
open Go.RowKit Go.Lib in
theorem shelf_strings_Contains_one (s : ByteArray) (c : UInt8) (w : World) :
    Calls Tryz.prog 42 #[.string s, .string ⟨#[c]⟩] w fun e w' => e = .returned (.bool (decide (0 ≤ Lib.indexByte s.data.toList c))) ∧ w' = w := Any.strings_Contains_one shelf_lays144 s c w
def shelf_lays99_ren : Go.Shelf.Ren := ⟨fun | 99 => 65 | 206 => 90 | n => n, fun | 9 => 9 | 4 => 4 | 3 => 3 | n => n, fun | n => n⟩
theorem shelf_lays99 : Go.Proofs.Lays.n99 Tryz.prog shelf_lays99_ren := {
  mixed := by kernel_rfl
  f99 := Tryz.func65.trans (congrArg some (by kernel_rfl))
  f206 := Tryz.func90.trans (congrArg some (by kernel_rfl))
  t3 := Tryz.underlying3
  a3 := Tryz.isAgg3
  z3 := Tryz.sizeOf3
  v3 := Tryz.zeroValue3
  t4 := Tryz.underlying4
  a4 := Tryz.isAgg4
  z4 := Tryz.sizeOf4
  v4 := Tryz.zeroValue4
  t9 := Tryz.underlying9
  a9 := Tryz.isAgg9
  z9 := Tryz.sizeOf9
  v9 := Tryz.zeroValue9 }
open Go.RowKit Go.Lib in
theorem shelf_strings_HasPrefix (s p : ByteArray) (w : World) :
    Calls Tryz.prog 65 #[.string s, .string p] w fun e w' => e = .returned (.bool (Lib.hasPrefix s.data.toList p.data.toList)) ∧ w' = w := Any.strings_HasPrefix shelf_lays99 s p w
end Go.Proofs.YtiimndcifcoofaaGreatDoor
