/- Part of the proof of AdmitFairSaid: lemmas and contracts that it uses. -/
import Derived.Shelf.Sort.Plain
import Derived.Ground.Names2Prog
import Derived.Shelf.Slices.CompactI
import Derived.Shelf.Slices.In.SortNone
import Derived.Test.YtgbgccifdbpolaaProg
set_option linter.all false
set_option linter.unusedVariables false
set_option linter.unusedSimpArgs false
set_option linter.unnecessarySimpa false
namespace Go.Proofs
open Go.Shelf
def Try.lays189_ren : Go.Shelf.Ren := ⟨fun | 189 => 148 | 125 => 161 | 257 => 162 | 128 => 173 | 129 => 174 | 294 => 175 | 295 => 176 | 296 => 177 | 297 => 178 | 298 => 179 | 299 => 180 | 216 => 181 | 300 => 182 | 301 => 183 | 328 => 189 | 329 => 185 | 330 => 186 | 331 => 190 | 332 => 191 | 215 => 192 | 343 => 194 | n => n, fun | 28 => 37 | 3 => 3 | 46 => 188 | 0 => 0 | 51 => 212 | 53 => 36 | 4 => 4 | 183 => 206 | 182 => 205 | 131 => 68 | 5 => 5 | 9 => 9 | 218 => 219 | 222 => 223 | 228 => 227 | 229 => 113 | n => n, fun | n => n⟩
theorem Try.lays189 : Go.Proofs.Lays.n189 Try.prog Try.lays189_ren := {
  mixed := by kernel_rfl
  f125 := Try.func161.trans (congrArg some (by kernel_rfl))
  f128 := Try.func173.trans (congrArg some (by kernel_rfl))
  f129 := Try.func174.trans (congrArg some (by kernel_rfl))
  f189 := Try.func148.trans (congrArg some (by kernel_rfl))
  f215 := Try.func192.trans (congrArg some (by kernel_rfl))
  f216 := Try.func181.trans (congrArg some (by kernel_rfl))
  f257 := Try.func162.trans (congrArg some (by kernel_rfl))
  f294 := Try.func175.trans (congrArg some (by kernel_rfl))
  f295 := Try.func176.trans (congrArg some (by kernel_rfl))
  f296 := Try.func177.trans (congrArg some (by kernel_rfl))
  f297 := Try.func178.trans (congrArg some (by kernel_rfl))
  f298 := Try.func179.trans (congrArg some (by kernel_rfl))
  f299 := Try.func180.trans (congrArg some (by kernel_rfl))
  f300 := Try.func182.trans (congrArg some (by kernel_rfl))
  f301 := Try.func183.trans (congrArg some (by kernel_rfl))
  f328 := Try.func189.trans (congrArg some (by kernel_rfl))
  f329 := Try.func185.trans (congrArg some (by kernel_rfl))
  f330 := Try.func186.trans (congrArg some (by kernel_rfl))
  f331 := Try.func190.trans (congrArg some (by kernel_rfl))
  f332 := Try.func191.trans (congrArg some (by kernel_rfl))
  f343 := Try.func194.trans (congrArg some (by kernel_rfl))
  t0 := Try.underlying0
  a0 := Try.isAgg0
  z0 := Try.sizeOf0
  v0 := Try.zeroValue0
  t3 := Try.underlying3
  a3 := Try.isAgg3
  z3 := Try.sizeOf3
  v3 := Try.zeroValue3
  t4 := Try.underlying4
  a4 := Try.isAgg4
  z4 := Try.sizeOf4
  v4 := Try.zeroValue4
  t5 := Try.underlying5
  a5 := Try.isAgg5
  z5 := Try.sizeOf5
  v5 := Try.zeroValue5
  t9 := Try.underlying9
  a9 := Try.isAgg9
  z9 := Try.sizeOf9
  v9 := Try.zeroValue9
  t28 := Try.underlying37
  a28 := Try.isAgg37
  z28 := Try.sizeOf37
  v28 := Try.zeroValue37
  t46 := Try.underlying188
  a46 := Try.isAgg188
  z46 := Try.sizeOf188
  v46 := Try.zeroValue188
  t51 := Try.underlying212
  a51 := Try.isAgg212
  z51 := Try.sizeOf212
  v51 := Try.zeroValue212
  t53 := Try.underlying36
  a53 := Try.isAgg36
  z53 := Try.sizeOf36
  v53 := Try.zeroValue36
  t131 := Try.underlying68
  a131 := Try.isAgg68
  z131 := Try.sizeOf68
  v131 := Try.zeroValue68
  t182 := Try.underlying205
  a182 := Try.isAgg205
  z182 := Try.sizeOf205
  v182 := Try.zeroValue205
  t183 := Try.underlying206
  a183 := Try.isAgg206
  z183 := Try.sizeOf206
  v183 := Try.zeroValue206
  t218 := Try.underlying219
  a218 := Try.isAgg219
  z218 := Try.sizeOf219
  v218 := Try.zeroValue219
  t222 := Try.underlying223
  a222 := Try.isAgg223
  z222 := Try.sizeOf223
  v222 := Try.zeroValue223
  t228 := Try.underlying227
  a228 := Try.isAgg227
  z228 := Try.sizeOf227
  v228 := Try.zeroValue227
  t229 := Try.underlying113
  a229 := Try.isAgg113
  z229 := Try.sizeOf113
  v229 := Try.zeroValue113 }
open Go.Sort Go.RowKit in
theorem Try.slices_Sort_int (blk off cap : Nat) (zs : List Int) (w : World) (hH : Holds (Value.int .i64) w blk off zs.toArray) (hblk : blk < w.heap.size) (hsz : zs.length < 4611686018427387904) :
    Calls Try.prog 148 #[.slice (some ⟨blk, off, none⟩) zs.length cap] w fun e w' =>
      e = .returned (.tuple #[]) ∧ ∃ n os, w' = grow (putRow (Value.int .i64) (Sort.ahead w n) blk off (zs.mergeSort fun x y => decide (x ≤ y)).toArray) os := Any.slices_Sort_int Try.lays189 blk off cap zs w hH hblk hsz
def Try.laysNm220_ren : Go.Shelf.Ren := ⟨fun | 20 => 150 | n => n, fun | 22 => 37 | 3 => 3 | 4 => 4 | 0 => 0 | n => n, fun | n => n⟩
theorem Try.laysNm220 : Go.Proofs.Lays2.n20 Try.prog Try.laysNm220_ren := {
  mixed := by kernel_rfl
  f20 := Try.func150.trans (congrArg some (by kernel_rfl))
  t0 := Try.underlying0
  a0 := Try.isAgg0
  z0 := Try.sizeOf0
  v0 := Try.zeroValue0
  t3 := Try.underlying3
  a3 := Try.isAgg3
  z3 := Try.sizeOf3
  v3 := Try.zeroValue3
  t4 := Try.underlying4
  a4 := Try.isAgg4
  z4 := Try.sizeOf4
  v4 := Try.zeroValue4
  t22 := Try.underlying37
  a22 := Try.isAgg37
  z22 := Try.sizeOf37
  v22 := Try.zeroValue37
  i3 := by kernel_rfl }
open Go.RowKit Go.Lib Go.Sort in
theorem Try.slices_Compact_int (blk off cap : Nat) (zs : List Int) (w : World) (hH : Holds (Value.int .i64) w blk off zs.toArray) (hsz : zs.length ≤ 9223372036854775807) (hcap : zs.length ≤ cap) :
    Calls Try.prog 150 #[.slice (some ⟨blk, off, none⟩) zs.length cap] w fun e w' => e = .returned (.slice (some ⟨blk, off, none⟩) (Lib.compact zs).length cap) ∧ ∃ q, w' = putRow (Value.int .i64) (Sort.ahead w q) blk off (Lib.compact zs ++ List.replicate (zs.length - (Lib.compact zs).length) 0).toArray := Any.slices_Compact_int Try.laysNm220 blk off cap zs w hH hsz hcap
open Go.RowKit Go.Lib Go.Sort in
theorem Try.slices_Compact_int_empty (a : Option Addr) (cap : Nat) (w : World) :
    Calls Try.prog 150 #[.slice a 0 cap] w fun e w' => e = .returned (.slice a 0 cap) ∧ w' = w := Any.slices_Compact_int_empty Try.laysNm220 a cap w
open Go.RowKit Go.Sort in
theorem Try.slices_Sort_int_none (p : Option Addr) (cap : Nat) (w : World) :
    Calls Try.prog 148 #[.slice p 0 cap] w fun e w' => e = .returned (.tuple #[]) ∧ w' = w := Any.slices_Sort_int_none Try.lays189 p cap w

end Go.Proofs
