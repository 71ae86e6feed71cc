/-
  DERIVED: THE SHELF's CONTRACTS AT THIS DUMP, IN PLAIN WORDS (tools/lay-plain.mjs out of 'YtkmaepefpcpckaaDoorShelf.lean', which tools/lay-shelf.mjs wrote): THE SAME DECLARATIONS UNDER THE SAME NAMES: 'import', 'namespace', 'open', 'def', 'theorem' AND NOTHING ELSE: no command of the shelf's: FOR A HAND-IN. Each laying: the table of numbers ('.._ren') and one theorem, a field a fact of the dump's own or the kernel's comparison; each contract: ONE APPLICATION.
-/
import Derived.Shelf.Sort.Plain
import Derived.Shelf.SlicesE.DeleteFunc
import Derived.Test.YtkmaepefpcpckaaDoorProg
namespace Go.Proofs
open Go.Shelf
def Tryd.lays189_ren : Go.Shelf.Ren := ⟨fun | 189 => 83 | 125 => 90 | 257 => 89 | 128 => 100 | 129 => 101 | 294 => 91 | 295 => 92 | 296 => 93 | 297 => 94 | 298 => 95 | 299 => 96 | 216 => 97 | 300 => 98 | 301 => 99 | 328 => 102 | 329 => 103 | 330 => 104 | 331 => 105 | 332 => 106 | 215 => 107 | 343 => 108 | n => n, fun | 28 => 28 | 3 => 3 | 46 => 119 | 0 => 0 | 51 => 136 | 53 => 117 | 4 => 4 | 183 => 156 | 182 => 155 | 131 => 161 | 5 => 5 | 9 => 9 | 218 => 165 | 222 => 80 | 228 => 170 | 229 => 171 | n => n, fun | n => n⟩
theorem Tryd.lays189 : Go.Proofs.Lays.n189 Tryd.prog Tryd.lays189_ren := {
  mixed := by kernel_rfl
  f125 := Tryd.func90.trans (congrArg some (by kernel_rfl))
  f128 := Tryd.func100.trans (congrArg some (by kernel_rfl))
  f129 := Tryd.func101.trans (congrArg some (by kernel_rfl))
  f189 := Tryd.func83.trans (congrArg some (by kernel_rfl))
  f215 := Tryd.func107.trans (congrArg some (by kernel_rfl))
  f216 := Tryd.func97.trans (congrArg some (by kernel_rfl))
  f257 := Tryd.func89.trans (congrArg some (by kernel_rfl))
  f294 := Tryd.func91.trans (congrArg some (by kernel_rfl))
  f295 := Tryd.func92.trans (congrArg some (by kernel_rfl))
  f296 := Tryd.func93.trans (congrArg some (by kernel_rfl))
  f297 := Tryd.func94.trans (congrArg some (by kernel_rfl))
  f298 := Tryd.func95.trans (congrArg some (by kernel_rfl))
  f299 := Tryd.func96.trans (congrArg some (by kernel_rfl))
  f300 := Tryd.func98.trans (congrArg some (by kernel_rfl))
  f301 := Tryd.func99.trans (congrArg some (by kernel_rfl))
  f328 := Tryd.func102.trans (congrArg some (by kernel_rfl))
  f329 := Tryd.func103.trans (congrArg some (by kernel_rfl))
  f330 := Tryd.func104.trans (congrArg some (by kernel_rfl))
  f331 := Tryd.func105.trans (congrArg some (by kernel_rfl))
  f332 := Tryd.func106.trans (congrArg some (by kernel_rfl))
  f343 := Tryd.func108.trans (congrArg some (by kernel_rfl))
  t0 := Tryd.underlying0
  a0 := Tryd.isAgg0
  z0 := Tryd.sizeOf0
  v0 := Tryd.zeroValue0
  t3 := Tryd.underlying3
  a3 := Tryd.isAgg3
  z3 := Tryd.sizeOf3
  v3 := Tryd.zeroValue3
  t4 := Tryd.underlying4
  a4 := Tryd.isAgg4
  z4 := Tryd.sizeOf4
  v4 := Tryd.zeroValue4
  t5 := Tryd.underlying5
  a5 := Tryd.isAgg5
  z5 := Tryd.sizeOf5
  v5 := Tryd.zeroValue5
  t9 := Tryd.underlying9
  a9 := Tryd.isAgg9
  z9 := Tryd.sizeOf9
  v9 := Tryd.zeroValue9
  t28 := Tryd.underlying28
  a28 := Tryd.isAgg28
  z28 := Tryd.sizeOf28
  v28 := Tryd.zeroValue28
  t46 := Tryd.underlying119
  a46 := Tryd.isAgg119
  z46 := Tryd.sizeOf119
  v46 := Tryd.zeroValue119
  t51 := Tryd.underlying136
  a51 := Tryd.isAgg136
  z51 := Tryd.sizeOf136
  v51 := Tryd.zeroValue136
  t53 := Tryd.underlying117
  a53 := Tryd.isAgg117
  z53 := Tryd.sizeOf117
  v53 := Tryd.zeroValue117
  t131 := Tryd.underlying161
  a131 := Tryd.isAgg161
  z131 := Tryd.sizeOf161
  v131 := Tryd.zeroValue161
  t182 := Tryd.underlying155
  a182 := Tryd.isAgg155
  z182 := Tryd.sizeOf155
  v182 := Tryd.zeroValue155
  t183 := Tryd.underlying156
  a183 := Tryd.isAgg156
  z183 := Tryd.sizeOf156
  v183 := Tryd.zeroValue156
  t218 := Tryd.underlying165
  a218 := Tryd.isAgg165
  z218 := Tryd.sizeOf165
  v218 := Tryd.zeroValue165
  t222 := Tryd.underlying80
  a222 := Tryd.isAgg80
  z222 := Tryd.sizeOf80
  v222 := Tryd.zeroValue80
  t228 := Tryd.underlying170
  a228 := Tryd.isAgg170
  z228 := Tryd.sizeOf170
  v228 := Tryd.zeroValue170
  t229 := Tryd.underlying171
  a229 := Tryd.isAgg171
  z229 := Tryd.sizeOf171
  v229 := Tryd.zeroValue171 }
open Go.Sort Go.RowKit in
theorem Tryd.slices_Sort_int (blk off cap : Nat) (zs : List Int) (w : World) (hH : Holds (Value.int .i64) w blk off zs.toArray) (hblk : blk < w.heap.size) (hsz : zs.length < 4611686018427387904) :
    Calls Tryd.prog 83 #[.slice (some ⟨blk, off, none⟩) zs.length cap] w fun e w' =>
      e = .returned (.tuple #[]) ∧ ∃ n os, w' = grow (putRow (Value.int .i64) (Sort.ahead w n) blk off (zs.mergeSort fun x y => decide (x ≤ y)).toArray) os := Any.slices_Sort_int Tryd.lays189 blk off cap zs w hH hblk hsz
def Tryd.lDel_ren : Go.Shelf.Ren := ⟨fun | 10 => 84 | 6 => 86 | n => n, fun | 22 => 28 | 23 => 3 | 25 => 76 | 3 => 3 | 4 => 4 | 0 => 0 | n => n, fun | n => n⟩
theorem Tryd.lDel : Go.Proofs.SlLaysH.n10 Tryd.prog Tryd.lDel_ren := {
  mixed := by kernel_rfl
  f6 := ⟨Tryd.f86.name, by decide, Tryd.func86.trans (congrArg some (by kernel_rfl))⟩
  f10 := ⟨Tryd.f84.name, by decide, Tryd.func84.trans (congrArg some (by kernel_rfl))⟩
  t0 := Tryd.underlying0
  a0 := Tryd.isAgg0
  z0 := Tryd.sizeOf0
  v0 := Tryd.zeroValue0
  t3 := Tryd.underlying3
  a3 := Tryd.isAgg3
  z3 := Tryd.sizeOf3
  v3 := Tryd.zeroValue3
  t4 := Tryd.underlying4
  a4 := Tryd.isAgg4
  z4 := Tryd.sizeOf4
  v4 := Tryd.zeroValue4
  t22 := Tryd.underlying28
  a22 := Tryd.isAgg28
  z22 := Tryd.sizeOf28
  v22 := Tryd.zeroValue28
  a23 := Tryd.isAgg3
  z23 := Tryd.sizeOf3
  t25 := Tryd.underlying76
  a25 := Tryd.isAgg76
  z25 := Tryd.sizeOf76
  v25 := Tryd.zeroValue76 }
end Go.Proofs
