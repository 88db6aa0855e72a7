/- What is proved: slices.Sort at whole numbers sorts the row that it is given; the slice's cells hold whole numbers: the shelf's contracts laid at this dump (by the kit's own two commands). -/
import Derived.Shelf.Sort.Plain
import Derived.Shelf.Slices.In.SortNone
import Derived.Test.YthljanmfanppdaaProg
namespace Go.Proofs
open Go.Shelf
def Try.lays189_ren : Go.Shelf.Ren := ⟨fun | 189 => 77 | 125 => 91 | 257 => 90 | 128 => 101 | 129 => 102 | 294 => 92 | 295 => 93 | 296 => 94 | 297 => 95 | 298 => 96 | 299 => 97 | 216 => 98 | 300 => 99 | 301 => 100 | 328 => 103 | 329 => 104 | 330 => 105 | 331 => 106 | 332 => 107 | 215 => 108 | 343 => 109 | n => n, fun | 28 => 29 | 3 => 3 | 46 => 25 | 0 => 0 | 51 => 22 | 53 => 158 | 4 => 4 | 183 => 150 | 182 => 149 | 131 => 119 | 5 => 5 | 9 => 9 | 218 => 159 | 222 => 163 | 228 => 165 | 229 => 77 | n => n, fun | n => n⟩
theorem Try.lays189 : Go.Proofs.Lays.n189 Try.prog Try.lays189_ren := {
  mixed := by kernel_rfl
  f125 := Try.func91.trans (congrArg some (by kernel_rfl))
  f128 := Try.func101.trans (congrArg some (by kernel_rfl))
  f129 := Try.func102.trans (congrArg some (by kernel_rfl))
  f189 := Try.func77.trans (congrArg some (by kernel_rfl))
  f215 := Try.func108.trans (congrArg some (by kernel_rfl))
  f216 := Try.func98.trans (congrArg some (by kernel_rfl))
  f257 := Try.func90.trans (congrArg some (by kernel_rfl))
  f294 := Try.func92.trans (congrArg some (by kernel_rfl))
  f295 := Try.func93.trans (congrArg some (by kernel_rfl))
  f296 := Try.func94.trans (congrArg some (by kernel_rfl))
  f297 := Try.func95.trans (congrArg some (by kernel_rfl))
  f298 := Try.func96.trans (congrArg some (by kernel_rfl))
  f299 := Try.func97.trans (congrArg some (by kernel_rfl))
  f300 := Try.func99.trans (congrArg some (by kernel_rfl))
  f301 := Try.func100.trans (congrArg some (by kernel_rfl))
  f328 := Try.func103.trans (congrArg some (by kernel_rfl))
  f329 := Try.func104.trans (congrArg some (by kernel_rfl))
  f330 := Try.func105.trans (congrArg some (by kernel_rfl))
  f331 := Try.func106.trans (congrArg some (by kernel_rfl))
  f332 := Try.func107.trans (congrArg some (by kernel_rfl))
  f343 := Try.func109.trans (congrArg some (by kernel_rfl))
  t0 := Try.underlying0
  a0 := Try.isAgg0
  z0 := Try.sizeOf0
  v0 := Try.zeroValue0
  t3 := Try.underlying3
  a3 := Try.isAgg3
  z3 := Try.sizeOf3
  v3 := Try.zeroValue3
  t4 := Try.underlying4
  a4 := Try.isAgg4
  z4 := Try.sizeOf4
  v4 := Try.zeroValue4
  t5 := Try.underlying5
  a5 := Try.isAgg5
  z5 := Try.sizeOf5
  v5 := Try.zeroValue5
  t9 := Try.underlying9
  a9 := Try.isAgg9
  z9 := Try.sizeOf9
  v9 := Try.zeroValue9
  t28 := Try.underlying29
  a28 := Try.isAgg29
  z28 := Try.sizeOf29
  v28 := Try.zeroValue29
  t46 := Try.underlying25
  a46 := Try.isAgg25
  z46 := Try.sizeOf25
  v46 := Try.zeroValue25
  t51 := Try.underlying22
  a51 := Try.isAgg22
  z51 := Try.sizeOf22
  v51 := Try.zeroValue22
  t53 := Try.underlying158
  a53 := Try.isAgg158
  z53 := Try.sizeOf158
  v53 := Try.zeroValue158
  t131 := Try.underlying119
  a131 := Try.isAgg119
  z131 := Try.sizeOf119
  v131 := Try.zeroValue119
  t182 := Try.underlying149
  a182 := Try.isAgg149
  z182 := Try.sizeOf149
  v182 := Try.zeroValue149
  t183 := Try.underlying150
  a183 := Try.isAgg150
  z183 := Try.sizeOf150
  v183 := Try.zeroValue150
  t218 := Try.underlying159
  a218 := Try.isAgg159
  z218 := Try.sizeOf159
  v218 := Try.zeroValue159
  t222 := Try.underlying163
  a222 := Try.isAgg163
  z222 := Try.sizeOf163
  v222 := Try.zeroValue163
  t228 := Try.underlying165
  a228 := Try.isAgg165
  z228 := Try.sizeOf165
  v228 := Try.zeroValue165
  t229 := Try.underlying77
  a229 := Try.isAgg77
  z229 := Try.sizeOf77
  v229 := Try.zeroValue77 }
open Go.Sort Go.RowKit in
theorem Try.slices_Sort_int (blk off cap : Nat) (zs : List Int) (w : World) (hH : Holds (Value.int .i64) w blk off zs.toArray) (hblk : blk < w.heap.size) (hsz : zs.length < 4611686018427387904) :
    Calls Try.prog 77 #[.slice (some ⟨blk, off, none⟩) zs.length cap] w fun e w' =>
      e = .returned (.tuple #[]) ∧ ∃ n os, w' = grow (putRow (Value.int .i64) (Sort.ahead w n) blk off (zs.mergeSort fun x y => decide (x ≤ y)).toArray) os := Any.slices_Sort_int Try.lays189 blk off cap zs w hH hblk hsz
theorem Try.slices_Sort_int_none (p : Option Addr) (cap : Nat) (w : World) :
    Calls Try.prog 77 #[.slice p 0 cap] w fun e w' => e = .returned (.tuple #[]) ∧ w' = w := Any.slices_Sort_int_none Try.lays189 p cap w
end Go.Proofs
