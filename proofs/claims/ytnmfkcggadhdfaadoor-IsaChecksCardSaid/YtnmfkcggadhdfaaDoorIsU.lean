/- The library's contracts of slices.Sort and slices.Compact over this seat, laid by program. No condition. -/
import Derived.Shelf.Sort.Plain
import Derived.Shelf.Slices.In.SortNone
import Derived.Shelf.Slices.CompactI
import Derived.Ground.Names2Prog
import Derived.Test.YtnmfkcggadhdfaaDoorProg
namespace Go.Proofs.YtnmfkcggadhdfaaDoor
open Go Go.Shelf
def lay189_ren : Go.Shelf.Ren := ⟨fun | 189 => 42 | 125 => 57 | 257 => 56 | 128 => 73 | 129 => 74 | 294 => 64 | 295 => 65 | 296 => 66 | 297 => 67 | 298 => 68 | 299 => 69 | 216 => 70 | 300 => 71 | 301 => 72 | 328 => 88 | 329 => 89 | 330 => 90 | 331 => 91 | 332 => 92 | 215 => 93 | 343 => 105 | n => n, fun | 28 => 41 | 3 => 3 | 46 => 57 | 0 => 0 | 51 => 99 | 53 => 101 | 4 => 4 | 183 => 92 | 182 => 91 | 131 => 38 | 5 => 5 | 9 => 9 | 218 => 112 | 222 => 116 | 228 => 130 | 229 => 131 | n => n, fun | n => n⟩
theorem lay189 : Go.Proofs.Lays.n189 Tryd.prog lay189_ren := {
  mixed := by kernel_rfl
  f125 := Tryd.func57.trans (congrArg some (by kernel_rfl))
  f128 := Tryd.func73.trans (congrArg some (by kernel_rfl))
  f129 := Tryd.func74.trans (congrArg some (by kernel_rfl))
  f189 := Tryd.func42.trans (congrArg some (by kernel_rfl))
  f215 := Tryd.func93.trans (congrArg some (by kernel_rfl))
  f216 := Tryd.func70.trans (congrArg some (by kernel_rfl))
  f257 := Tryd.func56.trans (congrArg some (by kernel_rfl))
  f294 := Tryd.func64.trans (congrArg some (by kernel_rfl))
  f295 := Tryd.func65.trans (congrArg some (by kernel_rfl))
  f296 := Tryd.func66.trans (congrArg some (by kernel_rfl))
  f297 := Tryd.func67.trans (congrArg some (by kernel_rfl))
  f298 := Tryd.func68.trans (congrArg some (by kernel_rfl))
  f299 := Tryd.func69.trans (congrArg some (by kernel_rfl))
  f300 := Tryd.func71.trans (congrArg some (by kernel_rfl))
  f301 := Tryd.func72.trans (congrArg some (by kernel_rfl))
  f328 := Tryd.func88.trans (congrArg some (by kernel_rfl))
  f329 := Tryd.func89.trans (congrArg some (by kernel_rfl))
  f330 := Tryd.func90.trans (congrArg some (by kernel_rfl))
  f331 := Tryd.func91.trans (congrArg some (by kernel_rfl))
  f332 := Tryd.func92.trans (congrArg some (by kernel_rfl))
  f343 := Tryd.func105.trans (congrArg some (by kernel_rfl))
  t0 := Tryd.underlying0
  a0 := Tryd.isAgg0
  z0 := Tryd.sizeOf0
  v0 := Tryd.zeroValue0
  t3 := Tryd.underlying3
  a3 := Tryd.isAgg3
  z3 := Tryd.sizeOf3
  v3 := Tryd.zeroValue3
  t4 := Tryd.underlying4
  a4 := Tryd.isAgg4
  z4 := Tryd.sizeOf4
  v4 := Tryd.zeroValue4
  t5 := Tryd.underlying5
  a5 := Tryd.isAgg5
  z5 := Tryd.sizeOf5
  v5 := Tryd.zeroValue5
  t9 := Tryd.underlying9
  a9 := Tryd.isAgg9
  z9 := Tryd.sizeOf9
  v9 := Tryd.zeroValue9
  t28 := Tryd.underlying41
  a28 := Tryd.isAgg41
  z28 := Tryd.sizeOf41
  v28 := Tryd.zeroValue41
  t46 := Tryd.underlying57
  a46 := Tryd.isAgg57
  z46 := Tryd.sizeOf57
  v46 := Tryd.zeroValue57
  t51 := Tryd.underlying99
  a51 := Tryd.isAgg99
  z51 := Tryd.sizeOf99
  v51 := Tryd.zeroValue99
  t53 := Tryd.underlying101
  a53 := Tryd.isAgg101
  z53 := Tryd.sizeOf101
  v53 := Tryd.zeroValue101
  t131 := Tryd.underlying38
  a131 := Tryd.isAgg38
  z131 := Tryd.sizeOf38
  v131 := Tryd.zeroValue38
  t182 := Tryd.underlying91
  a182 := Tryd.isAgg91
  z182 := Tryd.sizeOf91
  v182 := Tryd.zeroValue91
  t183 := Tryd.underlying92
  a183 := Tryd.isAgg92
  z183 := Tryd.sizeOf92
  v183 := Tryd.zeroValue92
  t218 := Tryd.underlying112
  a218 := Tryd.isAgg112
  z218 := Tryd.sizeOf112
  v218 := Tryd.zeroValue112
  t222 := Tryd.underlying116
  a222 := Tryd.isAgg116
  z222 := Tryd.sizeOf116
  v222 := Tryd.zeroValue116
  t228 := Tryd.underlying130
  a228 := Tryd.isAgg130
  z228 := Tryd.sizeOf130
  v228 := Tryd.zeroValue130
  t229 := Tryd.underlying131
  a229 := Tryd.isAgg131
  z229 := Tryd.sizeOf131
  v229 := Tryd.zeroValue131 }
open Go.Sort Go.RowKit in
theorem shelf_sort (blk off cap : Nat) (zs : List Int) (w : World) (hH : Holds (Value.int .i64) w blk off zs.toArray) (hblk : blk < w.heap.size) (hsz : zs.length < 4611686018427387904) :
    Calls Tryd.prog 42 #[.slice (some ⟨blk, off, none⟩) zs.length cap] w fun e w' =>
      e = .returned (.tuple #[]) ∧ ∃ n os, w' = grow (putRow (Value.int .i64) (Sort.ahead w n) blk off (zs.mergeSort fun x y => decide (x ≤ y)).toArray) os := Any.slices_Sort_int lay189 blk off cap zs w hH hblk hsz
open Go.RowKit Go.Sort in
theorem shelf_sort_none (p : Option Addr) (cap : Nat) (w : World) :
    Calls Tryd.prog 42 #[.slice p 0 cap] w fun e w' => e = .returned (.tuple #[]) ∧ w' = w := Any.slices_Sort_int_none lay189 p cap w
def lay220_ren : Go.Shelf.Ren := ⟨fun | 20 => 43 | n => n, fun | 22 => 41 | 3 => 3 | 4 => 4 | 0 => 0 | n => n, fun | n => n⟩
theorem lay220 : Go.Proofs.Lays2.n20 Tryd.prog lay220_ren := {
  mixed := by kernel_rfl
  f20 := Tryd.func43.trans (congrArg some (by kernel_rfl))
  t0 := Tryd.underlying0
  a0 := Tryd.isAgg0
  z0 := Tryd.sizeOf0
  v0 := Tryd.zeroValue0
  t3 := Tryd.underlying3
  a3 := Tryd.isAgg3
  z3 := Tryd.sizeOf3
  v3 := Tryd.zeroValue3
  t4 := Tryd.underlying4
  a4 := Tryd.isAgg4
  z4 := Tryd.sizeOf4
  v4 := Tryd.zeroValue4
  t22 := Tryd.underlying41
  a22 := Tryd.isAgg41
  z22 := Tryd.sizeOf41
  v22 := Tryd.zeroValue41
  i3 := by kernel_rfl }
open Go.RowKit Go.Lib Go.Sort in
theorem shelf_compact (blk off cap : Nat) (zs : List Int) (w : World) (hH : Holds (Value.int .i64) w blk off zs.toArray) (hsz : zs.length ≤ 9223372036854775807) (hcap : zs.length ≤ cap) :
    Calls Tryd.prog 43 #[.slice (some ⟨blk, off, none⟩) zs.length cap] w fun e w' => e = .returned (.slice (some ⟨blk, off, none⟩) (Lib.compact zs).length cap) ∧ ∃ q, w' = putRow (Value.int .i64) (Sort.ahead w q) blk off (Lib.compact zs ++ List.replicate (zs.length - (Lib.compact zs).length) 0).toArray := Any.slices_Compact_int lay220 blk off cap zs w hH hsz hcap
end Go.Proofs.YtnmfkcggadhdfaaDoor
