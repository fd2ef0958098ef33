/-
  slices.Sort and slices.Compact at numbers: own slices.
-/
import Derived.Test.YtfldcnhkppgmbaaM1
import Derived.Test.YtfldcnhkppgmbaaKD
import Derived.Shelf.Sort.Plain
import Derived.Ground.NamesProg
import Derived.Ground.Names2Prog
import Derived.Shelf.Slices.In.SortNone
import Derived.Shelf.Slices.CompactI
set_option linter.unusedSimpArgs false
set_option linter.unusedVariables false
namespace Go.Proofs
open Go.Shelf
def Try.lays189_ren : Go.Shelf.Ren := ⟨fun | 189 => 74 | 125 => 88 | 257 => 87 | 128 => 103 | 129 => 104 | 294 => 94 | 295 => 95 | 296 => 96 | 297 => 97 | 298 => 98 | 299 => 99 | 216 => 100 | 300 => 101 | 301 => 102 | 328 => 106 | 329 => 107 | 330 => 108 | 331 => 109 | 332 => 110 | 215 => 111 | 343 => 112 | n => n, fun | 28 => 34 | 3 => 3 | 46 => 133 | 0 => 0 | 51 => 149 | 53 => 151 | 4 => 4 | 183 => 142 | 182 => 141 | 131 => 73 | 5 => 5 | 9 => 9 | 218 => 156 | 222 => 160 | 228 => 162 | 229 => 163 | n => n, fun | n => n⟩
theorem Try.lays189 : Go.Proofs.Lays.n189 Try.prog Try.lays189_ren := {
  mixed := by kernel_rfl
  f125 := Try.func88.trans (congrArg some (by kernel_rfl))
  f128 := Try.func103.trans (congrArg some (by kernel_rfl))
  f129 := Try.func104.trans (congrArg some (by kernel_rfl))
  f189 := Try.func74.trans (congrArg some (by kernel_rfl))
  f215 := Try.func111.trans (congrArg some (by kernel_rfl))
  f216 := Try.func100.trans (congrArg some (by kernel_rfl))
  f257 := Try.func87.trans (congrArg some (by kernel_rfl))
  f294 := Try.func94.trans (congrArg some (by kernel_rfl))
  f295 := Try.func95.trans (congrArg some (by kernel_rfl))
  f296 := Try.func96.trans (congrArg some (by kernel_rfl))
  f297 := Try.func97.trans (congrArg some (by kernel_rfl))
  f298 := Try.func98.trans (congrArg some (by kernel_rfl))
  f299 := Try.func99.trans (congrArg some (by kernel_rfl))
  f300 := Try.func101.trans (congrArg some (by kernel_rfl))
  f301 := Try.func102.trans (congrArg some (by kernel_rfl))
  f328 := Try.func106.trans (congrArg some (by kernel_rfl))
  f329 := Try.func107.trans (congrArg some (by kernel_rfl))
  f330 := Try.func108.trans (congrArg some (by kernel_rfl))
  f331 := Try.func109.trans (congrArg some (by kernel_rfl))
  f332 := Try.func110.trans (congrArg some (by kernel_rfl))
  f343 := Try.func112.trans (congrArg some (by kernel_rfl))
  t0 := Try.underlying0
  a0 := Try.isAgg0
  z0 := Try.sizeOf0
  v0 := Try.zeroValue0
  t3 := Try.underlying3
  a3 := Try.isAgg3
  z3 := Try.sizeOf3
  v3 := Try.zeroValue3
  t4 := Try.underlying4
  a4 := Try.isAgg4
  z4 := Try.sizeOf4
  v4 := Try.zeroValue4
  t5 := Try.underlying5
  a5 := Try.isAgg5
  z5 := Try.sizeOf5
  v5 := Try.zeroValue5
  t9 := Try.underlying9
  a9 := Try.isAgg9
  z9 := Try.sizeOf9
  v9 := Try.zeroValue9
  t28 := Try.underlying34
  a28 := Try.isAgg34
  z28 := Try.sizeOf34
  v28 := Try.zeroValue34
  t46 := Try.underlying133
  a46 := Try.isAgg133
  z46 := Try.sizeOf133
  v46 := Try.zeroValue133
  t51 := Try.underlying149
  a51 := Try.isAgg149
  z51 := Try.sizeOf149
  v51 := Try.zeroValue149
  t53 := Try.underlying151
  a53 := Try.isAgg151
  z53 := Try.sizeOf151
  v53 := Try.zeroValue151
  t131 := Try.underlying73
  a131 := Try.isAgg73
  z131 := Try.sizeOf73
  v131 := Try.zeroValue73
  t182 := Try.underlying141
  a182 := Try.isAgg141
  z182 := Try.sizeOf141
  v182 := Try.zeroValue141
  t183 := Try.underlying142
  a183 := Try.isAgg142
  z183 := Try.sizeOf142
  v183 := Try.zeroValue142
  t218 := Try.underlying156
  a218 := Try.isAgg156
  z218 := Try.sizeOf156
  v218 := Try.zeroValue156
  t222 := Try.underlying160
  a222 := Try.isAgg160
  z222 := Try.sizeOf160
  v222 := Try.zeroValue160
  t228 := Try.underlying162
  a228 := Try.isAgg162
  z228 := Try.sizeOf162
  v228 := Try.zeroValue162
  t229 := Try.underlying163
  a229 := Try.isAgg163
  z229 := Try.sizeOf163
  v229 := Try.zeroValue163 }
def Try.lays2_20_ren : Go.Shelf.Ren := ⟨fun | 20 => 75 | n => n, fun | 22 => 34 | 3 => 3 | 4 => 4 | 0 => 0 | n => n, fun | n => n⟩
theorem Try.lays2_20 : Go.Proofs.Lays2.n20 Try.prog Try.lays2_20_ren := {
  mixed := by kernel_rfl
  f20 := Try.func75.trans (congrArg some (by kernel_rfl))
  t0 := Try.underlying0
  a0 := Try.isAgg0
  z0 := Try.sizeOf0
  v0 := Try.zeroValue0
  t3 := Try.underlying3
  a3 := Try.isAgg3
  z3 := Try.sizeOf3
  v3 := Try.zeroValue3
  t4 := Try.underlying4
  a4 := Try.isAgg4
  z4 := Try.sizeOf4
  v4 := Try.zeroValue4
  t22 := Try.underlying34
  a22 := Try.isAgg34
  z22 := Try.sizeOf34
  v22 := Try.zeroValue34
  i3 := by kernel_rfl }
end Go.Proofs
namespace Go.Proofs.Ytfldcnhkppgmbaa.K
open Go.RowKit Go.Shelf
def sp_slices_Sort_int_int : Ent := specS [.ms 50000] [.arr 3 tI] (fun _ y => (lenOk y.1)) (fun _ _ => .tu []) (fun _ y => [.arr 3 tI (sortI y.1)])
theorem en_slices_Sort_int_int : Entered Try.prog 74 := .inr ⟨by decide, _, Try.func74, by kernel_rfl, by kernel_rfl⟩
def sp_slices_Compact_int_int : Ent := specS [.ms 50000] [.arr 3 tI] (fun _ y => (lenOk y.1)) (fun _ y => .t (.sl tI) (Lib.compact y.1)) (fun _ _ => [.no])
theorem en_slices_Compact_int_int : Entered Try.prog 75 := .inr ⟨by decide, _, Try.func75, by kernel_rfl, by kernel_rfl⟩
theorem ms_slices_Sort_int_int : Meets Try.prog 74 (strip sp_slices_Sort_int_int) :=
  meets_sortI (by decide) (Any.slices_Sort_int Try.lays189) (Any.slices_Sort_int_none Try.lays189)
theorem ms_slices_Compact_int_int : Meets Try.prog 75 (strip sp_slices_Compact_int_int) :=
  meets_compactI (by decide) (Any.slices_Compact_int Try.lays2_20) (Any.slices_Compact_int_empty Try.lays2_20)
end Go.Proofs.Ytfldcnhkppgmbaa.K
