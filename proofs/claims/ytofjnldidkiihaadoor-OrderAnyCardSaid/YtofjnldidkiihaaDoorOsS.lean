/- The library's contracts of slices.Sort and slices.Compact over this seat, laid by program. No condition. -/
import Derived.Shelf.Sort.Plain
import Derived.Shelf.Slices.In.SortNone
import Derived.Shelf.Slices.CompactI
import Derived.Ground.Names2Prog
import Derived.Test.YtofjnldidkiihaaDoorProg
namespace Go.Proofs.YtofjnldidkiihaaDoor
open Go Go.Shelf
def lay189_ren : Go.Shelf.Ren := ⟨fun | 189 => 63 | 125 => 76 | 257 => 75 | 128 => 91 | 129 => 92 | 294 => 82 | 295 => 83 | 296 => 84 | 297 => 85 | 298 => 86 | 299 => 87 | 216 => 88 | 300 => 89 | 301 => 90 | 328 => 94 | 329 => 95 | 330 => 96 | 331 => 97 | 332 => 98 | 215 => 99 | 343 => 100 | n => n, fun | 28 => 22 | 3 => 3 | 46 => 61 | 0 => 0 | 51 => 115 | 53 => 117 | 4 => 4 | 183 => 108 | 182 => 107 | 131 => 112 | 5 => 5 | 9 => 9 | 218 => 118 | 222 => 122 | 228 => 124 | 229 => 125 | n => n, fun | n => n⟩
theorem lay189 : Go.Proofs.Lays.n189 Tryd.prog lay189_ren := {
  mixed := by kernel_rfl
  f125 := Tryd.func76.trans (congrArg some (by kernel_rfl))
  f128 := Tryd.func91.trans (congrArg some (by kernel_rfl))
  f129 := Tryd.func92.trans (congrArg some (by kernel_rfl))
  f189 := Tryd.func63.trans (congrArg some (by kernel_rfl))
  f215 := Tryd.func99.trans (congrArg some (by kernel_rfl))
  f216 := Tryd.func88.trans (congrArg some (by kernel_rfl))
  f257 := Tryd.func75.trans (congrArg some (by kernel_rfl))
  f294 := Tryd.func82.trans (congrArg some (by kernel_rfl))
  f295 := Tryd.func83.trans (congrArg some (by kernel_rfl))
  f296 := Tryd.func84.trans (congrArg some (by kernel_rfl))
  f297 := Tryd.func85.trans (congrArg some (by kernel_rfl))
  f298 := Tryd.func86.trans (congrArg some (by kernel_rfl))
  f299 := Tryd.func87.trans (congrArg some (by kernel_rfl))
  f300 := Tryd.func89.trans (congrArg some (by kernel_rfl))
  f301 := Tryd.func90.trans (congrArg some (by kernel_rfl))
  f328 := Tryd.func94.trans (congrArg some (by kernel_rfl))
  f329 := Tryd.func95.trans (congrArg some (by kernel_rfl))
  f330 := Tryd.func96.trans (congrArg some (by kernel_rfl))
  f331 := Tryd.func97.trans (congrArg some (by kernel_rfl))
  f332 := Tryd.func98.trans (congrArg some (by kernel_rfl))
  f343 := Tryd.func100.trans (congrArg some (by kernel_rfl))
  t0 := Tryd.underlying0
  a0 := Tryd.isAgg0
  z0 := Tryd.sizeOf0
  v0 := Tryd.zeroValue0
  t3 := Tryd.underlying3
  a3 := Tryd.isAgg3
  z3 := Tryd.sizeOf3
  v3 := Tryd.zeroValue3
  t4 := Tryd.underlying4
  a4 := Tryd.isAgg4
  z4 := Tryd.sizeOf4
  v4 := Tryd.zeroValue4
  t5 := Tryd.underlying5
  a5 := Tryd.isAgg5
  z5 := Tryd.sizeOf5
  v5 := Tryd.zeroValue5
  t9 := Tryd.underlying9
  a9 := Tryd.isAgg9
  z9 := Tryd.sizeOf9
  v9 := Tryd.zeroValue9
  t28 := Tryd.underlying22
  a28 := Tryd.isAgg22
  z28 := Tryd.sizeOf22
  v28 := Tryd.zeroValue22
  t46 := Tryd.underlying61
  a46 := Tryd.isAgg61
  z46 := Tryd.sizeOf61
  v46 := Tryd.zeroValue61
  t51 := Tryd.underlying115
  a51 := Tryd.isAgg115
  z51 := Tryd.sizeOf115
  v51 := Tryd.zeroValue115
  t53 := Tryd.underlying117
  a53 := Tryd.isAgg117
  z53 := Tryd.sizeOf117
  v53 := Tryd.zeroValue117
  t131 := Tryd.underlying112
  a131 := Tryd.isAgg112
  z131 := Tryd.sizeOf112
  v131 := Tryd.zeroValue112
  t182 := Tryd.underlying107
  a182 := Tryd.isAgg107
  z182 := Tryd.sizeOf107
  v182 := Tryd.zeroValue107
  t183 := Tryd.underlying108
  a183 := Tryd.isAgg108
  z183 := Tryd.sizeOf108
  v183 := Tryd.zeroValue108
  t218 := Tryd.underlying118
  a218 := Tryd.isAgg118
  z218 := Tryd.sizeOf118
  v218 := Tryd.zeroValue118
  t222 := Tryd.underlying122
  a222 := Tryd.isAgg122
  z222 := Tryd.sizeOf122
  v222 := Tryd.zeroValue122
  t228 := Tryd.underlying124
  a228 := Tryd.isAgg124
  z228 := Tryd.sizeOf124
  v228 := Tryd.zeroValue124
  t229 := Tryd.underlying125
  a229 := Tryd.isAgg125
  z229 := Tryd.sizeOf125
  v229 := Tryd.zeroValue125 }
open Go.Sort Go.RowKit in
theorem shelf_sort (blk off cap : Nat) (zs : List Int) (w : World) (hH : Holds (Value.int .i64) w blk off zs.toArray) (hblk : blk < w.heap.size) (hsz : zs.length < 4611686018427387904) :
    Calls Tryd.prog 63 #[.slice (some ⟨blk, off, none⟩) zs.length cap] w fun e w' =>
      e = .returned (.tuple #[]) ∧ ∃ n os, w' = grow (putRow (Value.int .i64) (Sort.ahead w n) blk off (zs.mergeSort fun x y => decide (x ≤ y)).toArray) os := Any.slices_Sort_int lay189 blk off cap zs w hH hblk hsz
open Go.RowKit Go.Sort in
theorem shelf_sort_none (p : Option Addr) (cap : Nat) (w : World) :
    Calls Tryd.prog 63 #[.slice p 0 cap] w fun e w' => e = .returned (.tuple #[]) ∧ w' = w := Any.slices_Sort_int_none lay189 p cap w
def lay220_ren : Go.Shelf.Ren := ⟨fun | 20 => 64 | n => n, fun | 22 => 22 | 3 => 3 | 4 => 4 | 0 => 0 | n => n, fun | n => n⟩
theorem lay220 : Go.Proofs.Lays2.n20 Tryd.prog lay220_ren := {
  mixed := by kernel_rfl
  f20 := Tryd.func64.trans (congrArg some (by kernel_rfl))
  t0 := Tryd.underlying0
  a0 := Tryd.isAgg0
  z0 := Tryd.sizeOf0
  v0 := Tryd.zeroValue0
  t3 := Tryd.underlying3
  a3 := Tryd.isAgg3
  z3 := Tryd.sizeOf3
  v3 := Tryd.zeroValue3
  t4 := Tryd.underlying4
  a4 := Tryd.isAgg4
  z4 := Tryd.sizeOf4
  v4 := Tryd.zeroValue4
  t22 := Tryd.underlying22
  a22 := Tryd.isAgg22
  z22 := Tryd.sizeOf22
  v22 := Tryd.zeroValue22
  i3 := by kernel_rfl }
open Go.RowKit Go.Lib Go.Sort in
theorem shelf_compact (blk off cap : Nat) (zs : List Int) (w : World) (hH : Holds (Value.int .i64) w blk off zs.toArray) (hsz : zs.length ≤ 9223372036854775807) (hcap : zs.length ≤ cap) :
    Calls Tryd.prog 64 #[.slice (some ⟨blk, off, none⟩) zs.length cap] w fun e w' => e = .returned (.slice (some ⟨blk, off, none⟩) (Lib.compact zs).length cap) ∧ ∃ q, w' = putRow (Value.int .i64) (Sort.ahead w q) blk off (Lib.compact zs ++ List.replicate (zs.length - (Lib.compact zs).length) 0).toArray := Any.slices_Compact_int lay220 blk off cap zs w hH hsz hcap
end Go.Proofs.YtofjnldidkiihaaDoor
