import Derived.Test.YtkngeegkjhipeaaGreatM1
import Derived.Test.YtkngeegkjhipeaaGreatKD
import Derived.Shelf.Sort.Plain
import Derived.Ground.NamesProg
import Derived.Ground.Names2Prog
import Derived.Shelf.Slices.In.SortNone
import Derived.Shelf.Slices.CompactI
set_option linter.unusedSimpArgs false
set_option linter.unusedVariables false
namespace Go.Proofs
open Go.Shelf
def Tryz.lays189_ren : Go.Shelf.Ren := ⟨fun | 189 => 72 | 125 => 104 | 257 => 103 | 128 => 131 | 129 => 132 | 294 => 122 | 295 => 123 | 296 => 124 | 297 => 125 | 298 => 126 | 299 => 127 | 216 => 128 | 300 => 129 | 301 => 130 | 328 => 140 | 329 => 141 | 330 => 142 | 331 => 143 | 332 => 144 | 215 => 145 | 343 => 166 | n => n, fun | 28 => 22 | 3 => 3 | 46 => 135 | 0 => 0 | 51 => 152 | 53 => 154 | 4 => 4 | 183 => 146 | 182 => 145 | 131 => 44 | 5 => 5 | 9 => 9 | 218 => 165 | 222 => 169 | 228 => 183 | 229 => 184 | n => n, fun | n => n⟩
theorem Tryz.lays189 : Go.Proofs.Lays.n189 Tryz.prog Tryz.lays189_ren := {
 mixed := by kernel_rfl
 f125 := Tryz.func104.trans (congrArg some (by kernel_rfl))
 f128 := Tryz.func131.trans (congrArg some (by kernel_rfl))
 f129 := Tryz.func132.trans (congrArg some (by kernel_rfl))
 f189 := Tryz.func72.trans (congrArg some (by kernel_rfl))
 f215 := Tryz.func145.trans (congrArg some (by kernel_rfl))
 f216 := Tryz.func128.trans (congrArg some (by kernel_rfl))
 f257 := Tryz.func103.trans (congrArg some (by kernel_rfl))
 f294 := Tryz.func122.trans (congrArg some (by kernel_rfl))
 f295 := Tryz.func123.trans (congrArg some (by kernel_rfl))
 f296 := Tryz.func124.trans (congrArg some (by kernel_rfl))
 f297 := Tryz.func125.trans (congrArg some (by kernel_rfl))
 f298 := Tryz.func126.trans (congrArg some (by kernel_rfl))
 f299 := Tryz.func127.trans (congrArg some (by kernel_rfl))
 f300 := Tryz.func129.trans (congrArg some (by kernel_rfl))
 f301 := Tryz.func130.trans (congrArg some (by kernel_rfl))
 f328 := Tryz.func140.trans (congrArg some (by kernel_rfl))
 f329 := Tryz.func141.trans (congrArg some (by kernel_rfl))
 f330 := Tryz.func142.trans (congrArg some (by kernel_rfl))
 f331 := Tryz.func143.trans (congrArg some (by kernel_rfl))
 f332 := Tryz.func144.trans (congrArg some (by kernel_rfl))
 f343 := Tryz.func166.trans (congrArg some (by kernel_rfl))
 t0 := Tryz.underlying0
 a0 := Tryz.isAgg0
 z0 := Tryz.sizeOf0
 v0 := Tryz.zeroValue0
 t3 := Tryz.underlying3
 a3 := Tryz.isAgg3
 z3 := Tryz.sizeOf3
 v3 := Tryz.zeroValue3
 t4 := Tryz.underlying4
 a4 := Tryz.isAgg4
 z4 := Tryz.sizeOf4
 v4 := Tryz.zeroValue4
 t5 := Tryz.underlying5
 a5 := Tryz.isAgg5
 z5 := Tryz.sizeOf5
 v5 := Tryz.zeroValue5
 t9 := Tryz.underlying9
 a9 := Tryz.isAgg9
 z9 := Tryz.sizeOf9
 v9 := Tryz.zeroValue9
 t28 := Tryz.underlying22
 a28 := Tryz.isAgg22
 z28 := Tryz.sizeOf22
 v28 := Tryz.zeroValue22
 t46 := Tryz.underlying135
 a46 := Tryz.isAgg135
 z46 := Tryz.sizeOf135
 v46 := Tryz.zeroValue135
 t51 := Tryz.underlying152
 a51 := Tryz.isAgg152
 z51 := Tryz.sizeOf152
 v51 := Tryz.zeroValue152
 t53 := Tryz.underlying154
 a53 := Tryz.isAgg154
 z53 := Tryz.sizeOf154
 v53 := Tryz.zeroValue154
 t131 := Tryz.underlying44
 a131 := Tryz.isAgg44
 z131 := Tryz.sizeOf44
 v131 := Tryz.zeroValue44
 t182 := Tryz.underlying145
 a182 := Tryz.isAgg145
 z182 := Tryz.sizeOf145
 v182 := Tryz.zeroValue145
 t183 := Tryz.underlying146
 a183 := Tryz.isAgg146
 z183 := Tryz.sizeOf146
 v183 := Tryz.zeroValue146
 t218 := Tryz.underlying165
 a218 := Tryz.isAgg165
 z218 := Tryz.sizeOf165
 v218 := Tryz.zeroValue165
 t222 := Tryz.underlying169
 a222 := Tryz.isAgg169
 z222 := Tryz.sizeOf169
 v222 := Tryz.zeroValue169
 t228 := Tryz.underlying183
 a228 := Tryz.isAgg183
 z228 := Tryz.sizeOf183
 v228 := Tryz.zeroValue183
 t229 := Tryz.underlying184
 a229 := Tryz.isAgg184
 z229 := Tryz.sizeOf184
 v229 := Tryz.zeroValue184 }
end Go.Proofs
namespace Go.Proofs.YtkngeegkjhipeaaGreat.K
open Go.RowKit Go.Shelf
def QKR : Ent := specS [.ms 50000] [.arr 3 tI] (fun _ y => (lenOk y.1)) (fun _ _ => .tu []) (fun _ y => [.arr 3 tI (sortI y.1)])
theorem en_f72 : Qag Tryz.prog 72 := .inr ⟨by decide, _, Tryz.func72, by kernel_rfl, by kernel_rfl⟩
theorem ms_f72 : Meets Tryz.prog 72 (strip QKR) :=
 Qvk (by decide) (Any.slices_Sort_int Tryz.lays189) (Any.slices_Sort_int_none Tryz.lays189)
end Go.Proofs.YtkngeegkjhipeaaGreat.K
