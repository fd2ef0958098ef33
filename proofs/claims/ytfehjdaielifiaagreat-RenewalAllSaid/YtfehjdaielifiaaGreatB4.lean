/-
 slices.Sort and slices.Compact at numbers: own slices.
-/
import Derived.Test.YtfehjdaielifiaaGreatM1
import Derived.Test.YtfehjdaielifiaaGreatKD
import Derived.Shelf.Sort.Plain
import Derived.Ground.NamesProg
import Derived.Ground.Names2Prog
import Derived.Shelf.Slices.In.SortNone
import Derived.Shelf.Slices.CompactI
set_option linter.unusedSimpArgs false
set_option linter.unusedVariables false
namespace Go.Proofs
open Go.Shelf
def Tryz.lays189_ren : Go.Shelf.Ren := ⟨fun | 189 => 112 | 125 => 116 | 257 => 115 | 128 => 128 | 129 => 129 | 294 => 119 | 295 => 120 | 296 => 121 | 297 => 122 | 298 => 123 | 299 => 124 | 216 => 125 | 300 => 126 | 301 => 127 | 328 => 131 | 329 => 132 | 330 => 133 | 331 => 134 | 332 => 135 | 215 => 136 | 343 => 137 | n => n, fun | 28 => 22 | 3 => 3 | 46 => 148 | 0 => 0 | 51 => 166 | 53 => 168 | 4 => 4 | 183 => 159 | 182 => 158 | 131 => 89 | 5 => 5 | 9 => 9 | 218 => 170 | 222 => 174 | 228 => 176 | 229 => 177 | n => n, fun | n => n⟩
theorem Tryz.lays189 : Go.Proofs.Lays.n189 Tryz.prog Tryz.lays189_ren := {
 mixed := by kernel_rfl
 f125 := Tryz.func116.trans (congrArg some (by kernel_rfl))
 f128 := Tryz.func128.trans (congrArg some (by kernel_rfl))
 f129 := Tryz.func129.trans (congrArg some (by kernel_rfl))
 f189 := Tryz.func112.trans (congrArg some (by kernel_rfl))
 f215 := Tryz.func136.trans (congrArg some (by kernel_rfl))
 f216 := Tryz.func125.trans (congrArg some (by kernel_rfl))
 f257 := Tryz.func115.trans (congrArg some (by kernel_rfl))
 f294 := Tryz.func119.trans (congrArg some (by kernel_rfl))
 f295 := Tryz.func120.trans (congrArg some (by kernel_rfl))
 f296 := Tryz.func121.trans (congrArg some (by kernel_rfl))
 f297 := Tryz.func122.trans (congrArg some (by kernel_rfl))
 f298 := Tryz.func123.trans (congrArg some (by kernel_rfl))
 f299 := Tryz.func124.trans (congrArg some (by kernel_rfl))
 f300 := Tryz.func126.trans (congrArg some (by kernel_rfl))
 f301 := Tryz.func127.trans (congrArg some (by kernel_rfl))
 f328 := Tryz.func131.trans (congrArg some (by kernel_rfl))
 f329 := Tryz.func132.trans (congrArg some (by kernel_rfl))
 f330 := Tryz.func133.trans (congrArg some (by kernel_rfl))
 f331 := Tryz.func134.trans (congrArg some (by kernel_rfl))
 f332 := Tryz.func135.trans (congrArg some (by kernel_rfl))
 f343 := Tryz.func137.trans (congrArg some (by kernel_rfl))
 t0 := Tryz.underlying0
 a0 := Tryz.isAgg0
 z0 := Tryz.sizeOf0
 v0 := Tryz.zeroValue0
 t3 := Tryz.underlying3
 a3 := Tryz.isAgg3
 z3 := Tryz.sizeOf3
 v3 := Tryz.zeroValue3
 t4 := Tryz.underlying4
 a4 := Tryz.isAgg4
 z4 := Tryz.sizeOf4
 v4 := Tryz.zeroValue4
 t5 := Tryz.underlying5
 a5 := Tryz.isAgg5
 z5 := Tryz.sizeOf5
 v5 := Tryz.zeroValue5
 t9 := Tryz.underlying9
 a9 := Tryz.isAgg9
 z9 := Tryz.sizeOf9
 v9 := Tryz.zeroValue9
 t28 := Tryz.underlying22
 a28 := Tryz.isAgg22
 z28 := Tryz.sizeOf22
 v28 := Tryz.zeroValue22
 t46 := Tryz.underlying148
 a46 := Tryz.isAgg148
 z46 := Tryz.sizeOf148
 v46 := Tryz.zeroValue148
 t51 := Tryz.underlying166
 a51 := Tryz.isAgg166
 z51 := Tryz.sizeOf166
 v51 := Tryz.zeroValue166
 t53 := Tryz.underlying168
 a53 := Tryz.isAgg168
 z53 := Tryz.sizeOf168
 v53 := Tryz.zeroValue168
 t131 := Tryz.underlying89
 a131 := Tryz.isAgg89
 z131 := Tryz.sizeOf89
 v131 := Tryz.zeroValue89
 t182 := Tryz.underlying158
 a182 := Tryz.isAgg158
 z182 := Tryz.sizeOf158
 v182 := Tryz.zeroValue158
 t183 := Tryz.underlying159
 a183 := Tryz.isAgg159
 z183 := Tryz.sizeOf159
 v183 := Tryz.zeroValue159
 t218 := Tryz.underlying170
 a218 := Tryz.isAgg170
 z218 := Tryz.sizeOf170
 v218 := Tryz.zeroValue170
 t222 := Tryz.underlying174
 a222 := Tryz.isAgg174
 z222 := Tryz.sizeOf174
 v222 := Tryz.zeroValue174
 t228 := Tryz.underlying176
 a228 := Tryz.isAgg176
 z228 := Tryz.sizeOf176
 v228 := Tryz.zeroValue176
 t229 := Tryz.underlying177
 a229 := Tryz.isAgg177
 z229 := Tryz.sizeOf177
 v229 := Tryz.zeroValue177 }
def Tryz.lays2_20_ren : Go.Shelf.Ren := ⟨fun | 20 => 113 | n => n, fun | 22 => 22 | 3 => 3 | 4 => 4 | 0 => 0 | n => n, fun | n => n⟩
theorem Tryz.lays2_20 : Go.Proofs.Lays2.n20 Tryz.prog Tryz.lays2_20_ren := {
 mixed := by kernel_rfl
 f20 := Tryz.func113.trans (congrArg some (by kernel_rfl))
 t0 := Tryz.underlying0
 a0 := Tryz.isAgg0
 z0 := Tryz.sizeOf0
 v0 := Tryz.zeroValue0
 t3 := Tryz.underlying3
 a3 := Tryz.isAgg3
 z3 := Tryz.sizeOf3
 v3 := Tryz.zeroValue3
 t4 := Tryz.underlying4
 a4 := Tryz.isAgg4
 z4 := Tryz.sizeOf4
 v4 := Tryz.zeroValue4
 t22 := Tryz.underlying22
 a22 := Tryz.isAgg22
 z22 := Tryz.sizeOf22
 v22 := Tryz.zeroValue22
 i3 := by kernel_rfl }
end Go.Proofs
namespace Go.Proofs.YtfehjdaielifiaaGreat.K
open Go.RowKit Go.Shelf
def sp_f112 : Ent := specS [.ms 50000] [.arr 3 tI] (fun _ y => (lenOk y.1)) (fun _ _ => .tu []) (fun _ y => [.arr 3 tI (sortI y.1)])
theorem en_f112 : Entered Tryz.prog 112 := .inr ⟨by decide, _, Tryz.func112, by kernel_rfl, by kernel_rfl⟩
def sp_f113 : Ent := specS [.ms 50000] [.arr 3 tI] (fun _ y => (lenOk y.1)) (fun _ y => .t (.sl tI) (Lib.compact y.1)) (fun _ _ => [.no])
theorem en_f113 : Entered Tryz.prog 113 := .inr ⟨by decide, _, Tryz.func113, by kernel_rfl, by kernel_rfl⟩
theorem ms_f112 : Meets Tryz.prog 112 (strip sp_f112) :=
 meets_sortI (by decide) (Any.slices_Sort_int Tryz.lays189) (Any.slices_Sort_int_none Tryz.lays189)
theorem ms_f113 : Meets Tryz.prog 113 (strip sp_f113) :=
 meets_compactI (by decide) (Any.slices_Compact_int Tryz.lays2_20) (Any.slices_Compact_int_empty Tryz.lays2_20)
end Go.Proofs.YtfehjdaielifiaaGreat.K
