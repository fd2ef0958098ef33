/-
  slices.Sort and slices.Compact at numbers: own slices.
-/
import Derived.Test.YthdichlainehpaaM1
import Derived.Test.YthdichlainehpaaKD
import Derived.Shelf.Sort.Plain
import Derived.Ground.NamesProg
import Derived.Ground.Names2Prog
import Derived.Shelf.Slices.In.SortNone
import Derived.Shelf.Slices.CompactI
set_option linter.unusedSimpArgs false
set_option linter.unusedVariables false
namespace Go.Proofs
open Go.Shelf
def Try.lays189_ren : Go.Shelf.Ren := ⟨fun | 189 => 76 | 125 => 94 | 257 => 93 | 128 => 108 | 129 => 109 | 294 => 99 | 295 => 100 | 296 => 101 | 297 => 102 | 298 => 103 | 299 => 104 | 216 => 105 | 300 => 106 | 301 => 107 | 328 => 115 | 329 => 116 | 330 => 117 | 331 => 118 | 332 => 119 | 215 => 120 | 343 => 123 | n => n, fun | 28 => 22 | 3 => 3 | 46 => 118 | 0 => 0 | 51 => 89 | 53 => 147 | 4 => 4 | 183 => 139 | 182 => 138 | 131 => 86 | 5 => 5 | 9 => 9 | 218 => 150 | 222 => 154 | 228 => 158 | 229 => 159 | n => n, fun | n => n⟩
theorem Try.lays189 : Go.Proofs.Lays.n189 Try.prog Try.lays189_ren := {
  mixed := by kernel_rfl
  f125 := Try.func94.trans (congrArg some (by kernel_rfl))
  f128 := Try.func108.trans (congrArg some (by kernel_rfl))
  f129 := Try.func109.trans (congrArg some (by kernel_rfl))
  f189 := Try.func76.trans (congrArg some (by kernel_rfl))
  f215 := Try.func120.trans (congrArg some (by kernel_rfl))
  f216 := Try.func105.trans (congrArg some (by kernel_rfl))
  f257 := Try.func93.trans (congrArg some (by kernel_rfl))
  f294 := Try.func99.trans (congrArg some (by kernel_rfl))
  f295 := Try.func100.trans (congrArg some (by kernel_rfl))
  f296 := Try.func101.trans (congrArg some (by kernel_rfl))
  f297 := Try.func102.trans (congrArg some (by kernel_rfl))
  f298 := Try.func103.trans (congrArg some (by kernel_rfl))
  f299 := Try.func104.trans (congrArg some (by kernel_rfl))
  f300 := Try.func106.trans (congrArg some (by kernel_rfl))
  f301 := Try.func107.trans (congrArg some (by kernel_rfl))
  f328 := Try.func115.trans (congrArg some (by kernel_rfl))
  f329 := Try.func116.trans (congrArg some (by kernel_rfl))
  f330 := Try.func117.trans (congrArg some (by kernel_rfl))
  f331 := Try.func118.trans (congrArg some (by kernel_rfl))
  f332 := Try.func119.trans (congrArg some (by kernel_rfl))
  f343 := Try.func123.trans (congrArg some (by kernel_rfl))
  t0 := Try.underlying0
  a0 := Try.isAgg0
  z0 := Try.sizeOf0
  v0 := Try.zeroValue0
  t3 := Try.underlying3
  a3 := Try.isAgg3
  z3 := Try.sizeOf3
  v3 := Try.zeroValue3
  t4 := Try.underlying4
  a4 := Try.isAgg4
  z4 := Try.sizeOf4
  v4 := Try.zeroValue4
  t5 := Try.underlying5
  a5 := Try.isAgg5
  z5 := Try.sizeOf5
  v5 := Try.zeroValue5
  t9 := Try.underlying9
  a9 := Try.isAgg9
  z9 := Try.sizeOf9
  v9 := Try.zeroValue9
  t28 := Try.underlying22
  a28 := Try.isAgg22
  z28 := Try.sizeOf22
  v28 := Try.zeroValue22
  t46 := Try.underlying118
  a46 := Try.isAgg118
  z46 := Try.sizeOf118
  v46 := Try.zeroValue118
  t51 := Try.underlying89
  a51 := Try.isAgg89
  z51 := Try.sizeOf89
  v51 := Try.zeroValue89
  t53 := Try.underlying147
  a53 := Try.isAgg147
  z53 := Try.sizeOf147
  v53 := Try.zeroValue147
  t131 := Try.underlying86
  a131 := Try.isAgg86
  z131 := Try.sizeOf86
  v131 := Try.zeroValue86
  t182 := Try.underlying138
  a182 := Try.isAgg138
  z182 := Try.sizeOf138
  v182 := Try.zeroValue138
  t183 := Try.underlying139
  a183 := Try.isAgg139
  z183 := Try.sizeOf139
  v183 := Try.zeroValue139
  t218 := Try.underlying150
  a218 := Try.isAgg150
  z218 := Try.sizeOf150
  v218 := Try.zeroValue150
  t222 := Try.underlying154
  a222 := Try.isAgg154
  z222 := Try.sizeOf154
  v222 := Try.zeroValue154
  t228 := Try.underlying158
  a228 := Try.isAgg158
  z228 := Try.sizeOf158
  v228 := Try.zeroValue158
  t229 := Try.underlying159
  a229 := Try.isAgg159
  z229 := Try.sizeOf159
  v229 := Try.zeroValue159 }
def Try.lays2_20_ren : Go.Shelf.Ren := ⟨fun | 20 => 77 | n => n, fun | 22 => 22 | 3 => 3 | 4 => 4 | 0 => 0 | n => n, fun | n => n⟩
theorem Try.lays2_20 : Go.Proofs.Lays2.n20 Try.prog Try.lays2_20_ren := {
  mixed := by kernel_rfl
  f20 := Try.func77.trans (congrArg some (by kernel_rfl))
  t0 := Try.underlying0
  a0 := Try.isAgg0
  z0 := Try.sizeOf0
  v0 := Try.zeroValue0
  t3 := Try.underlying3
  a3 := Try.isAgg3
  z3 := Try.sizeOf3
  v3 := Try.zeroValue3
  t4 := Try.underlying4
  a4 := Try.isAgg4
  z4 := Try.sizeOf4
  v4 := Try.zeroValue4
  t22 := Try.underlying22
  a22 := Try.isAgg22
  z22 := Try.sizeOf22
  v22 := Try.zeroValue22
  i3 := by kernel_rfl }
end Go.Proofs
namespace Go.Proofs.Ythdichlainehpaa.K
open Go.RowKit Go.Shelf
def sp_f76 : Ent := specS [.ms 50000] [.arr 3 tI] (fun _ y => (lenOk y.1)) (fun _ _ => .tu []) (fun _ y => [.arr 3 tI (sortI y.1)])
theorem en_f76 : Entered Try.prog 76 := .inr ⟨by decide, _, Try.func76, by kernel_rfl, by kernel_rfl⟩
def sp_f77 : Ent := specS [.ms 50000] [.arr 3 tI] (fun _ y => (lenOk y.1)) (fun _ y => .t (.sl tI) (Lib.compact y.1)) (fun _ _ => [.no])
theorem en_f77 : Entered Try.prog 77 := .inr ⟨by decide, _, Try.func77, by kernel_rfl, by kernel_rfl⟩
theorem ms_f76 : Meets Try.prog 76 (strip sp_f76) :=
  meets_sortI (by decide) (Any.slices_Sort_int Try.lays189) (Any.slices_Sort_int_none Try.lays189)
theorem ms_f77 : Meets Try.prog 77 (strip sp_f77) :=
  meets_compactI (by decide) (Any.slices_Compact_int Try.lays2_20) (Any.slices_Compact_int_empty Try.lays2_20)
end Go.Proofs.Ythdichlainehpaa.K
