/-
  slices.Sort and slices.Compact at numbers: own slices.
-/
import Derived.Test.YtfehjdaielifiaaM1
import Derived.Test.YtfehjdaielifiaaKD
import Derived.Shelf.Sort.Plain
import Derived.Ground.NamesProg
import Derived.Ground.Names2Prog
import Derived.Shelf.Slices.In.SortNone
import Derived.Shelf.Slices.CompactI
set_option linter.unusedSimpArgs false
set_option linter.unusedVariables false
namespace Go.Proofs
open Go.Shelf
def Try.lays189_ren : Go.Shelf.Ren := ⟨fun | 189 => 68 | 125 => 72 | 257 => 71 | 128 => 84 | 129 => 85 | 294 => 75 | 295 => 76 | 296 => 77 | 297 => 78 | 298 => 79 | 299 => 80 | 216 => 81 | 300 => 82 | 301 => 83 | 328 => 87 | 329 => 88 | 330 => 89 | 331 => 90 | 332 => 91 | 215 => 92 | 343 => 93 | n => n, fun | 28 => 22 | 3 => 3 | 46 => 122 | 0 => 0 | 51 => 136 | 53 => 138 | 4 => 4 | 183 => 129 | 182 => 128 | 131 => 45 | 5 => 5 | 9 => 9 | 218 => 140 | 222 => 144 | 228 => 146 | 229 => 147 | n => n, fun | n => n⟩
theorem Try.lays189 : Go.Proofs.Lays.n189 Try.prog Try.lays189_ren := {
  mixed := by kernel_rfl
  f125 := Try.func72.trans (congrArg some (by kernel_rfl))
  f128 := Try.func84.trans (congrArg some (by kernel_rfl))
  f129 := Try.func85.trans (congrArg some (by kernel_rfl))
  f189 := Try.func68.trans (congrArg some (by kernel_rfl))
  f215 := Try.func92.trans (congrArg some (by kernel_rfl))
  f216 := Try.func81.trans (congrArg some (by kernel_rfl))
  f257 := Try.func71.trans (congrArg some (by kernel_rfl))
  f294 := Try.func75.trans (congrArg some (by kernel_rfl))
  f295 := Try.func76.trans (congrArg some (by kernel_rfl))
  f296 := Try.func77.trans (congrArg some (by kernel_rfl))
  f297 := Try.func78.trans (congrArg some (by kernel_rfl))
  f298 := Try.func79.trans (congrArg some (by kernel_rfl))
  f299 := Try.func80.trans (congrArg some (by kernel_rfl))
  f300 := Try.func82.trans (congrArg some (by kernel_rfl))
  f301 := Try.func83.trans (congrArg some (by kernel_rfl))
  f328 := Try.func87.trans (congrArg some (by kernel_rfl))
  f329 := Try.func88.trans (congrArg some (by kernel_rfl))
  f330 := Try.func89.trans (congrArg some (by kernel_rfl))
  f331 := Try.func90.trans (congrArg some (by kernel_rfl))
  f332 := Try.func91.trans (congrArg some (by kernel_rfl))
  f343 := Try.func93.trans (congrArg some (by kernel_rfl))
  t0 := Try.underlying0
  a0 := Try.isAgg0
  z0 := Try.sizeOf0
  v0 := Try.zeroValue0
  t3 := Try.underlying3
  a3 := Try.isAgg3
  z3 := Try.sizeOf3
  v3 := Try.zeroValue3
  t4 := Try.underlying4
  a4 := Try.isAgg4
  z4 := Try.sizeOf4
  v4 := Try.zeroValue4
  t5 := Try.underlying5
  a5 := Try.isAgg5
  z5 := Try.sizeOf5
  v5 := Try.zeroValue5
  t9 := Try.underlying9
  a9 := Try.isAgg9
  z9 := Try.sizeOf9
  v9 := Try.zeroValue9
  t28 := Try.underlying22
  a28 := Try.isAgg22
  z28 := Try.sizeOf22
  v28 := Try.zeroValue22
  t46 := Try.underlying122
  a46 := Try.isAgg122
  z46 := Try.sizeOf122
  v46 := Try.zeroValue122
  t51 := Try.underlying136
  a51 := Try.isAgg136
  z51 := Try.sizeOf136
  v51 := Try.zeroValue136
  t53 := Try.underlying138
  a53 := Try.isAgg138
  z53 := Try.sizeOf138
  v53 := Try.zeroValue138
  t131 := Try.underlying45
  a131 := Try.isAgg45
  z131 := Try.sizeOf45
  v131 := Try.zeroValue45
  t182 := Try.underlying128
  a182 := Try.isAgg128
  z182 := Try.sizeOf128
  v182 := Try.zeroValue128
  t183 := Try.underlying129
  a183 := Try.isAgg129
  z183 := Try.sizeOf129
  v183 := Try.zeroValue129
  t218 := Try.underlying140
  a218 := Try.isAgg140
  z218 := Try.sizeOf140
  v218 := Try.zeroValue140
  t222 := Try.underlying144
  a222 := Try.isAgg144
  z222 := Try.sizeOf144
  v222 := Try.zeroValue144
  t228 := Try.underlying146
  a228 := Try.isAgg146
  z228 := Try.sizeOf146
  v228 := Try.zeroValue146
  t229 := Try.underlying147
  a229 := Try.isAgg147
  z229 := Try.sizeOf147
  v229 := Try.zeroValue147 }
def Try.lays2_20_ren : Go.Shelf.Ren := ⟨fun | 20 => 69 | n => n, fun | 22 => 22 | 3 => 3 | 4 => 4 | 0 => 0 | n => n, fun | n => n⟩
theorem Try.lays2_20 : Go.Proofs.Lays2.n20 Try.prog Try.lays2_20_ren := {
  mixed := by kernel_rfl
  f20 := Try.func69.trans (congrArg some (by kernel_rfl))
  t0 := Try.underlying0
  a0 := Try.isAgg0
  z0 := Try.sizeOf0
  v0 := Try.zeroValue0
  t3 := Try.underlying3
  a3 := Try.isAgg3
  z3 := Try.sizeOf3
  v3 := Try.zeroValue3
  t4 := Try.underlying4
  a4 := Try.isAgg4
  z4 := Try.sizeOf4
  v4 := Try.zeroValue4
  t22 := Try.underlying22
  a22 := Try.isAgg22
  z22 := Try.sizeOf22
  v22 := Try.zeroValue22
  i3 := by kernel_rfl }
end Go.Proofs
namespace Go.Proofs.Ytfehjdaielifiaa.K
open Go.RowKit Go.Shelf
def sp_slices_Sort_int_int : Ent := specS [.ms 50000] [.arr 3 tI] (fun _ y => (lenOk y.1)) (fun _ _ => .tu []) (fun _ y => [.arr 3 tI (sortI y.1)])
theorem en_slices_Sort_int_int : Entered Try.prog 68 := .inr ⟨by decide, _, Try.func68, by kernel_rfl, by kernel_rfl⟩
def sp_slices_Compact_int_int : Ent := specS [.ms 50000] [.arr 3 tI] (fun _ y => (lenOk y.1)) (fun _ y => .t (.sl tI) (Lib.compact y.1)) (fun _ _ => [.no])
theorem en_slices_Compact_int_int : Entered Try.prog 69 := .inr ⟨by decide, _, Try.func69, by kernel_rfl, by kernel_rfl⟩
theorem ms_slices_Sort_int_int : Meets Try.prog 68 (strip sp_slices_Sort_int_int) :=
  meets_sortI (by decide) (Any.slices_Sort_int Try.lays189) (Any.slices_Sort_int_none Try.lays189)
theorem ms_slices_Compact_int_int : Meets Try.prog 69 (strip sp_slices_Compact_int_int) :=
  meets_compactI (by decide) (Any.slices_Compact_int Try.lays2_20) (Any.slices_Compact_int_empty Try.lays2_20)
end Go.Proofs.Ytfehjdaielifiaa.K
