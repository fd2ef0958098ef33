/-
 What the library's functions on texts compute, by the shelf's contracts.
-/
import Derived.Test.YtkkoedniahnneaaDoorA0
import Derived.Shelf.Strings.Search3
import Derived.Shelf.Strings.Count
import Derived.Shelf.Strings.Prefix
import Derived.Shelf.Strings.Split
import Derived.Shelf.Strings.SlTrimAscii
import Derived.Ground.NamesProg
set_option linter.unusedSimpArgs false
set_option linter.unusedVariables false
namespace Go.Proofs
open Go.Shelf
def Tryd.lays100_ren : Go.Shelf.Ren := ⟨fun | 100 => 104 | 207 => 130 | n => n, fun | 9 => 9 | 4 => 4 | 3 => 3 | n => n, fun | n => n⟩
theorem Tryd.lays100 : Go.Proofs.Lays.n100 Tryd.prog Tryd.lays100_ren := {
 mixed := by kernel_rfl
 f100 := Tryd.func104.trans (congrArg some (by kernel_rfl))
 f207 := Tryd.func130.trans (congrArg some (by kernel_rfl))
 t3 := Tryd.underlying3
 a3 := Tryd.isAgg3
 z3 := Tryd.sizeOf3
 v3 := Tryd.zeroValue3
 t4 := Tryd.underlying4
 a4 := Tryd.isAgg4
 z4 := Tryd.sizeOf4
 v4 := Tryd.zeroValue4
 t9 := Tryd.underlying9
 a9 := Tryd.isAgg9
 z9 := Tryd.sizeOf9
 v9 := Tryd.zeroValue9 }
def Tryd.lays137_ren : Go.Shelf.Ren := ⟨fun | 137 => 143 | 217 => 154 | 266 => 168 | n => n, fun | 9 => 9 | 5 => 5 | 3 => 3 | n => n, fun | n => n⟩
theorem Tryd.lays137 : Go.Proofs.Lays.n137 Tryd.prog Tryd.lays137_ren := {
 mixed := by kernel_rfl
 f137 := Tryd.func143.trans (congrArg some (by kernel_rfl))
 f217 := Tryd.func154.trans (congrArg some (by kernel_rfl))
 f266 := Tryd.func168.trans (congrArg some (by kernel_rfl))
 t3 := Tryd.underlying3
 a3 := Tryd.isAgg3
 z3 := Tryd.sizeOf3
 v3 := Tryd.zeroValue3
 t5 := Tryd.underlying5
 a5 := Tryd.isAgg5
 z5 := Tryd.sizeOf5
 v5 := Tryd.zeroValue5
 t9 := Tryd.underlying9
 a9 := Tryd.isAgg9
 z9 := Tryd.sizeOf9
 v9 := Tryd.zeroValue9 }
def Tryd.lays138_ren : Go.Shelf.Ren := ⟨fun | 138 => 56 | 195 => 98 | 218 => 99 | 143 => 100 | 219 => 128 | 217 => 154 | 225 => 155 | 224 => 156 | 267 => 157 | 266 => 168 | 314 => 169 | n => n, fun | 9 => 9 | 3 => 3 | 4 => 4 | 5 => 5 | 0 => 0 | 46 => 148 | 146 => 169 | 51 => 168 | n => n, fun | 1 => 0 | n => n⟩
theorem Tryd.lays138 : Go.Proofs.Lays.n138 Tryd.prog Tryd.lays138_ren := {
 mixed := by kernel_rfl
 f138 := Tryd.func56.trans (congrArg some (by kernel_rfl))
 f143 := Tryd.func100.trans (congrArg some (by kernel_rfl))
 f195 := Tryd.func98.trans (congrArg some (by kernel_rfl))
 f217 := Tryd.func154.trans (congrArg some (by kernel_rfl))
 f218 := Tryd.func99.trans (congrArg some (by kernel_rfl))
 f219 := Tryd.func128.trans (congrArg some (by kernel_rfl))
 f224 := Tryd.func156.trans (congrArg some (by kernel_rfl))
 f225 := Tryd.func155.trans (congrArg some (by kernel_rfl))
 f266 := Tryd.func168.trans (congrArg some (by kernel_rfl))
 f267 := Tryd.func157.trans (congrArg some (by kernel_rfl))
 f314 := Tryd.func169.trans (congrArg some (by kernel_rfl))
 t0 := Tryd.underlying0
 a0 := Tryd.isAgg0
 z0 := Tryd.sizeOf0
 v0 := Tryd.zeroValue0
 t3 := Tryd.underlying3
 a3 := Tryd.isAgg3
 z3 := Tryd.sizeOf3
 v3 := Tryd.zeroValue3
 t4 := Tryd.underlying4
 a4 := Tryd.isAgg4
 z4 := Tryd.sizeOf4
 v4 := Tryd.zeroValue4
 t5 := Tryd.underlying5
 a5 := Tryd.isAgg5
 z5 := Tryd.sizeOf5
 v5 := Tryd.zeroValue5
 t9 := Tryd.underlying9
 a9 := Tryd.isAgg9
 z9 := Tryd.sizeOf9
 v9 := Tryd.zeroValue9
 t46 := Tryd.underlying148
 a46 := Tryd.isAgg148
 z46 := Tryd.sizeOf148
 v46 := Tryd.zeroValue148
 t51 := Tryd.underlying168
 a51 := Tryd.isAgg168
 z51 := Tryd.sizeOf168
 v51 := Tryd.zeroValue168
 t146 := Tryd.underlying169
 a146 := Tryd.isAgg169
 z146 := Tryd.sizeOf169
 v146 := Tryd.zeroValue169
 g1 := by kernel_rfl }
def Tryd.lays144_ren : Go.Shelf.Ren := ⟨fun | 144 => 106 | 143 => 100 | 219 => 128 | 217 => 154 | 225 => 155 | 224 => 156 | 267 => 157 | 266 => 168 | 314 => 169 | n => n, fun | 9 => 9 | 4 => 4 | 3 => 3 | 5 => 5 | 46 => 148 | 146 => 169 | 51 => 168 | n => n, fun | 1 => 0 | n => n⟩
theorem Tryd.lays144 : Go.Proofs.Lays.n144 Tryd.prog Tryd.lays144_ren := {
 mixed := by kernel_rfl
 f143 := Tryd.func100.trans (congrArg some (by kernel_rfl))
 f144 := Tryd.func106.trans (congrArg some (by kernel_rfl))
 f217 := Tryd.func154.trans (congrArg some (by kernel_rfl))
 f219 := Tryd.func128.trans (congrArg some (by kernel_rfl))
 f224 := Tryd.func156.trans (congrArg some (by kernel_rfl))
 f225 := Tryd.func155.trans (congrArg some (by kernel_rfl))
 f266 := Tryd.func168.trans (congrArg some (by kernel_rfl))
 f267 := Tryd.func157.trans (congrArg some (by kernel_rfl))
 f314 := Tryd.func169.trans (congrArg some (by kernel_rfl))
 t3 := Tryd.underlying3
 a3 := Tryd.isAgg3
 z3 := Tryd.sizeOf3
 v3 := Tryd.zeroValue3
 t4 := Tryd.underlying4
 a4 := Tryd.isAgg4
 z4 := Tryd.sizeOf4
 v4 := Tryd.zeroValue4
 t5 := Tryd.underlying5
 a5 := Tryd.isAgg5
 z5 := Tryd.sizeOf5
 v5 := Tryd.zeroValue5
 t9 := Tryd.underlying9
 a9 := Tryd.isAgg9
 z9 := Tryd.sizeOf9
 v9 := Tryd.zeroValue9
 t46 := Tryd.underlying148
 a46 := Tryd.isAgg148
 z46 := Tryd.sizeOf148
 v46 := Tryd.zeroValue148
 t51 := Tryd.underlying168
 a51 := Tryd.isAgg168
 z51 := Tryd.sizeOf168
 v51 := Tryd.zeroValue168
 t146 := Tryd.underlying169
 a146 := Tryd.isAgg169
 z146 := Tryd.sizeOf169
 v146 := Tryd.zeroValue169
 g1 := by kernel_rfl }
def Tryd.lays146_ren : Go.Shelf.Ren := ⟨fun | 146 => 110 | 221 => 133 | 268 => 161 | 138 => 56 | 143 => 100 | 195 => 98 | 197 => 167 | 218 => 99 | 219 => 128 | 260 => 172 | 217 => 154 | 225 => 155 | 224 => 156 | 267 => 157 | 266 => 168 | 314 => 169 | n => n, fun | 9 => 9 | 31 => 36 | 3 => 3 | 4 => 4 | 0 => 0 | 105 => 176 | 21 => 21 | 5 => 5 | 46 => 148 | 119 => 184 | 139 => 187 | 138 => 186 | 146 => 169 | 51 => 168 | n => n, fun | 1 => 0 | 3 => 1 | 4 => 2 | n => n⟩
theorem Tryd.lays146 : Go.Proofs.Lays.n146 Tryd.prog Tryd.lays146_ren := {
 mixed := by kernel_rfl
 f138 := Tryd.func56.trans (congrArg some (by kernel_rfl))
 f143 := Tryd.func100.trans (congrArg some (by kernel_rfl))
 f146 := Tryd.func110.trans (congrArg some (by kernel_rfl))
 f195 := Tryd.func98.trans (congrArg some (by kernel_rfl))
 f197 := Tryd.func167.trans (congrArg some (by kernel_rfl))
 f217 := Tryd.func154.trans (congrArg some (by kernel_rfl))
 f218 := Tryd.func99.trans (congrArg some (by kernel_rfl))
 f219 := Tryd.func128.trans (congrArg some (by kernel_rfl))
 f221 := Tryd.func133.trans (congrArg some (by kernel_rfl))
 f224 := Tryd.func156.trans (congrArg some (by kernel_rfl))
 f225 := Tryd.func155.trans (congrArg some (by kernel_rfl))
 f260 := Tryd.func172.trans (congrArg some (by kernel_rfl))
 f266 := Tryd.func168.trans (congrArg some (by kernel_rfl))
 f267 := Tryd.func157.trans (congrArg some (by kernel_rfl))
 f268 := Tryd.func161.trans (congrArg some (by kernel_rfl))
 f314 := Tryd.func169.trans (congrArg some (by kernel_rfl))
 t0 := Tryd.underlying0
 a0 := Tryd.isAgg0
 z0 := Tryd.sizeOf0
 v0 := Tryd.zeroValue0
 t3 := Tryd.underlying3
 a3 := Tryd.isAgg3
 z3 := Tryd.sizeOf3
 v3 := Tryd.zeroValue3
 t4 := Tryd.underlying4
 a4 := Tryd.isAgg4
 z4 := Tryd.sizeOf4
 v4 := Tryd.zeroValue4
 t5 := Tryd.underlying5
 a5 := Tryd.isAgg5
 z5 := Tryd.sizeOf5
 v5 := Tryd.zeroValue5
 t9 := Tryd.underlying9
 a9 := Tryd.isAgg9
 z9 := Tryd.sizeOf9
 v9 := Tryd.zeroValue9
 t21 := Tryd.underlying21
 a21 := Tryd.isAgg21
 z21 := Tryd.sizeOf21
 v21 := Tryd.zeroValue21
 t31 := Tryd.underlying36
 a31 := Tryd.isAgg36
 z31 := Tryd.sizeOf36
 v31 := Tryd.zeroValue36
 t46 := Tryd.underlying148
 a46 := Tryd.isAgg148
 z46 := Tryd.sizeOf148
 v46 := Tryd.zeroValue148
 t51 := Tryd.underlying168
 a51 := Tryd.isAgg168
 z51 := Tryd.sizeOf168
 v51 := Tryd.zeroValue168
 t105 := Tryd.underlying176
 a105 := Tryd.isAgg176
 z105 := Tryd.sizeOf176
 v105 := Tryd.zeroValue176
 t119 := Tryd.underlying184
 a119 := Tryd.isAgg184
 z119 := Tryd.sizeOf184
 t138 := Tryd.underlying186
 a138 := Tryd.isAgg186
 z138 := Tryd.sizeOf186
 v138 := Tryd.zeroValue186
 t139 := Tryd.underlying187
 a139 := Tryd.isAgg187
 z139 := Tryd.sizeOf187
 v139 := Tryd.zeroValue187
 t146 := Tryd.underlying169
 a146 := Tryd.isAgg169
 z146 := Tryd.sizeOf169
 v146 := Tryd.zeroValue169
 g1 := by kernel_rfl
 g3 := by kernel_rfl
 g4 := by kernel_rfl }
def Tryd.lays160_ren : Go.Shelf.Ren := ⟨fun | 160 => 131 | 232 => 135 | 231 => 158 | 227 => 136 | 234 => 137 | 233 => 159 | 236 => 138 | 235 => 160 | 228 => 162 | 271 => 163 | 151 => 164 | 197 => 167 | 120 => 170 | 152 => 171 | 260 => 172 | 137 => 143 | 119 => 173 | 224 => 156 | 225 => 155 | 217 => 154 | 266 => 168 | n => n, fun | 9 => 9 | 4 => 4 | 3 => 3 | 5 => 5 | 117 => 160 | 116 => 159 | 0 => 0 | 124 => 163 | 21 => 21 | 105 => 176 | 46 => 148 | 119 => 184 | 139 => 187 | 138 => 186 | n => n, fun | 3 => 1 | 4 => 2 | n => n⟩
theorem Tryd.lays160 : Go.Proofs.Lays.n160 Tryd.prog Tryd.lays160_ren := {
 mixed := by kernel_rfl
 f119 := Tryd.func173.trans (congrArg some (by kernel_rfl))
 f120 := Tryd.func170.trans (congrArg some (by kernel_rfl))
 f137 := Tryd.func143.trans (congrArg some (by kernel_rfl))
 f151 := Tryd.func164.trans (congrArg some (by kernel_rfl))
 f152 := Tryd.func171.trans (congrArg some (by kernel_rfl))
 f160 := Tryd.func131.trans (congrArg some (by kernel_rfl))
 f197 := Tryd.func167.trans (congrArg some (by kernel_rfl))
 f217 := Tryd.func154.trans (congrArg some (by kernel_rfl))
 f224 := Tryd.func156.trans (congrArg some (by kernel_rfl))
 f225 := Tryd.func155.trans (congrArg some (by kernel_rfl))
 f227 := Tryd.func136.trans (congrArg some (by kernel_rfl))
 f228 := Tryd.func162.trans (congrArg some (by kernel_rfl))
 f231 := Tryd.func158.trans (congrArg some (by kernel_rfl))
 f232 := Tryd.func135.trans (congrArg some (by kernel_rfl))
 f233 := Tryd.func159.trans (congrArg some (by kernel_rfl))
 f234 := Tryd.func137.trans (congrArg some (by kernel_rfl))
 f235 := Tryd.func160.trans (congrArg some (by kernel_rfl))
 f236 := Tryd.func138.trans (congrArg some (by kernel_rfl))
 f260 := Tryd.func172.trans (congrArg some (by kernel_rfl))
 f266 := Tryd.func168.trans (congrArg some (by kernel_rfl))
 f271 := Tryd.func163.trans (congrArg some (by kernel_rfl))
 t0 := Tryd.underlying0
 a0 := Tryd.isAgg0
 z0 := Tryd.sizeOf0
 v0 := Tryd.zeroValue0
 t3 := Tryd.underlying3
 a3 := Tryd.isAgg3
 z3 := Tryd.sizeOf3
 v3 := Tryd.zeroValue3
 t4 := Tryd.underlying4
 a4 := Tryd.isAgg4
 z4 := Tryd.sizeOf4
 v4 := Tryd.zeroValue4
 t5 := Tryd.underlying5
 a5 := Tryd.isAgg5
 z5 := Tryd.sizeOf5
 v5 := Tryd.zeroValue5
 t9 := Tryd.underlying9
 a9 := Tryd.isAgg9
 z9 := Tryd.sizeOf9
 v9 := Tryd.zeroValue9
 t21 := Tryd.underlying21
 a21 := Tryd.isAgg21
 z21 := Tryd.sizeOf21
 v21 := Tryd.zeroValue21
 t46 := Tryd.underlying148
 a46 := Tryd.isAgg148
 z46 := Tryd.sizeOf148
 v46 := Tryd.zeroValue148
 t105 := Tryd.underlying176
 a105 := Tryd.isAgg176
 z105 := Tryd.sizeOf176
 v105 := Tryd.zeroValue176
 t116 := Tryd.underlying159
 a116 := Tryd.isAgg159
 z116 := Tryd.sizeOf159
 t117 := Tryd.underlying160
 a117 := Tryd.isAgg160
 z117 := Tryd.sizeOf160
 v117 := Tryd.zeroValue160
 t119 := Tryd.underlying184
 a119 := Tryd.isAgg184
 z119 := Tryd.sizeOf184
 t124 := Tryd.underlying163
 a124 := Tryd.isAgg163
 z124 := Tryd.sizeOf163
 v124 := Tryd.zeroValue163
 t138 := Tryd.underlying186
 a138 := Tryd.isAgg186
 z138 := Tryd.sizeOf186
 v138 := Tryd.zeroValue186
 t139 := Tryd.underlying187
 a139 := Tryd.isAgg187
 z139 := Tryd.sizeOf187
 v139 := Tryd.zeroValue187
 g3 := by kernel_rfl
 g4 := by kernel_rfl }
def Tryd.lays162_ren : Go.Shelf.Ren := ⟨fun | 162 => 112 | 232 => 135 | 227 => 136 | 234 => 137 | 236 => 138 | 228 => 162 | 271 => 163 | 151 => 164 | 120 => 170 | 197 => 167 | 152 => 171 | 260 => 172 | 137 => 143 | 119 => 173 | 224 => 156 | 225 => 155 | 217 => 154 | 266 => 168 | n => n, fun | 9 => 9 | 4 => 4 | 3 => 3 | 5 => 5 | 117 => 160 | 116 => 159 | 0 => 0 | 124 => 163 | 21 => 21 | 105 => 176 | 46 => 148 | 119 => 184 | 139 => 187 | 138 => 186 | n => n, fun | 3 => 1 | 4 => 2 | n => n⟩
theorem Tryd.lays162 : Go.Proofs.Lays.n162 Tryd.prog Tryd.lays162_ren := {
 mixed := by kernel_rfl
 f119 := Tryd.func173.trans (congrArg some (by kernel_rfl))
 f120 := Tryd.func170.trans (congrArg some (by kernel_rfl))
 f137 := Tryd.func143.trans (congrArg some (by kernel_rfl))
 f151 := Tryd.func164.trans (congrArg some (by kernel_rfl))
 f152 := Tryd.func171.trans (congrArg some (by kernel_rfl))
 f162 := Tryd.func112.trans (congrArg some (by kernel_rfl))
 f197 := Tryd.func167.trans (congrArg some (by kernel_rfl))
 f217 := Tryd.func154.trans (congrArg some (by kernel_rfl))
 f224 := Tryd.func156.trans (congrArg some (by kernel_rfl))
 f225 := Tryd.func155.trans (congrArg some (by kernel_rfl))
 f227 := Tryd.func136.trans (congrArg some (by kernel_rfl))
 f228 := Tryd.func162.trans (congrArg some (by kernel_rfl))
 f232 := Tryd.func135.trans (congrArg some (by kernel_rfl))
 f234 := Tryd.func137.trans (congrArg some (by kernel_rfl))
 f236 := Tryd.func138.trans (congrArg some (by kernel_rfl))
 f260 := Tryd.func172.trans (congrArg some (by kernel_rfl))
 f266 := Tryd.func168.trans (congrArg some (by kernel_rfl))
 f271 := Tryd.func163.trans (congrArg some (by kernel_rfl))
 t0 := Tryd.underlying0
 a0 := Tryd.isAgg0
 z0 := Tryd.sizeOf0
 v0 := Tryd.zeroValue0
 t3 := Tryd.underlying3
 a3 := Tryd.isAgg3
 z3 := Tryd.sizeOf3
 v3 := Tryd.zeroValue3
 t4 := Tryd.underlying4
 a4 := Tryd.isAgg4
 z4 := Tryd.sizeOf4
 v4 := Tryd.zeroValue4
 t5 := Tryd.underlying5
 a5 := Tryd.isAgg5
 z5 := Tryd.sizeOf5
 v5 := Tryd.zeroValue5
 t9 := Tryd.underlying9
 a9 := Tryd.isAgg9
 z9 := Tryd.sizeOf9
 v9 := Tryd.zeroValue9
 t21 := Tryd.underlying21
 a21 := Tryd.isAgg21
 z21 := Tryd.sizeOf21
 v21 := Tryd.zeroValue21
 t46 := Tryd.underlying148
 a46 := Tryd.isAgg148
 z46 := Tryd.sizeOf148
 v46 := Tryd.zeroValue148
 t105 := Tryd.underlying176
 a105 := Tryd.isAgg176
 z105 := Tryd.sizeOf176
 v105 := Tryd.zeroValue176
 t116 := Tryd.underlying159
 a116 := Tryd.isAgg159
 z116 := Tryd.sizeOf159
 t117 := Tryd.underlying160
 a117 := Tryd.isAgg160
 z117 := Tryd.sizeOf160
 v117 := Tryd.zeroValue160
 t119 := Tryd.underlying184
 a119 := Tryd.isAgg184
 z119 := Tryd.sizeOf184
 t124 := Tryd.underlying163
 a124 := Tryd.isAgg163
 z124 := Tryd.sizeOf163
 v124 := Tryd.zeroValue163
 t138 := Tryd.underlying186
 a138 := Tryd.isAgg186
 z138 := Tryd.sizeOf186
 v138 := Tryd.zeroValue186
 t139 := Tryd.underlying187
 a139 := Tryd.isAgg187
 z139 := Tryd.sizeOf187
 v139 := Tryd.zeroValue187
 g3 := by kernel_rfl
 g4 := by kernel_rfl }
end Go.Proofs
namespace Go.Proofs.YtkkoedniahnneaaDoor.K
open Go.RowKit Go.Shelf
noncomputable section
def ixbF (s : ByteArray) (c : Int) : Int := Lib.indexByte s.data.toList c.toNat.toUInt8
def sp_f143 : Ent := spec (.pr .str (.pr (.int .u8) .nil)) (fun x => true) (fun x => (.t tI (ixbF x.1 x.2.1)))
theorem en_f143 : Entered Tryd.prog 143 := .inr ⟨by decide, _, Tryd.func143, by kernel_rfl, by kernel_rfl⟩
theorem ms_f143 : Meets Tryd.prog 143 (strip sp_f143) := meets_calls fun x _ X w σ vs hfin hc => by
 obtain ⟨s, c, u⟩ := x
 simp only [Ty.canon, V.ds, V.d, Ty.d, Cs, C] at hc
 obtain ⟨v1, r1, rfl, ⟨rfl, _⟩, v2, r2, rfl, ⟨rfl, _⟩, rfl⟩ := hc
 refine (Any.strings_IndexByte Tryd.lays137 s c w).mono ?_
 rintro e w' ⟨rfl, rfl⟩
 refine ⟨_, rfl, ?_, Below.refl _ _⟩
 simp only [V.d, Ty.d, C]
 exact ⟨rfl, rfl⟩
def sfxF (s p : ByteArray) : Bool := Lib.hasSuffix s.data.toList p.data.toList
def sfxOk (s _p : ByteArray) : Bool := nameG s
def sp_f104 : Ent := spec (.pr .str (.pr .str .nil)) (fun x => (sfxOk x.1 x.2.1)) (fun x => (.t .bool (sfxF x.1 x.2.1)))
theorem en_f104 : Entered Tryd.prog 104 := .inr ⟨by decide, _, Tryd.func104, by kernel_rfl, by kernel_rfl⟩
theorem ms_f104 : Meets Tryd.prog 104 (strip sp_f104) := meets_calls fun x hok X w σ vs hfin hc => by
 obtain ⟨s, p, u⟩ := x
 have hok : s.size ≤ 9223372036854775807 := of_decide_eq_true hok
 simp only [Ty.canon, V.ds, V.d, Ty.d, Cs, C] at hc
 obtain ⟨v1, r1, rfl, ⟨rfl, _⟩, v2, r2, rfl, ⟨rfl, _⟩, rfl⟩ := hc
 refine (Any.strings_HasSuffix Tryd.lays100 s p w hok).mono ?_
 rintro e w' ⟨rfl, rfl⟩
 refine ⟨_, rfl, ?_, Below.refl _ _⟩
 simp only [V.d, Ty.d, C]
 exact ⟨rfl, rfl⟩
theorem one_byte {d : Array UInt8} (hok : d.size = 1) : ∃ c, d = #[c] := by
 match d, hok with
 | ⟨[c]⟩, _ => exact ⟨c, rfl⟩
def cntF (s p : ByteArray) : Int := ((Lib.countByte s.data.toList (p.data.toList.headD 0) : Nat) : Int)
def oneOk2 (_s p : ByteArray) : Bool := decide (p.size = 1)
def sp_f56 : Ent := spec (.pr .str (.pr .str .nil)) (fun x => (oneOk2 x.1 x.2.1)) (fun x => (.t tI (cntF x.1 x.2.1)))
theorem en_f56 : Entered Tryd.prog 56 := .inr ⟨by decide, _, Tryd.func56, by kernel_rfl, by kernel_rfl⟩
theorem ms_f56 : Meets Tryd.prog 56 (strip sp_f56) := meets_calls fun x hok X w σ vs hfin hc => by
 obtain ⟨s, ⟨d⟩, u⟩ := x
 obtain ⟨c, rfl⟩ := one_byte (show d.size = 1 from of_decide_eq_true hok)
 simp only [Ty.canon, V.ds, V.d, Ty.d, Cs, C] at hc
 obtain ⟨v1, r1, rfl, ⟨rfl, _⟩, v2, r2, rfl, ⟨rfl, _⟩, rfl⟩ := hc
 refine (Any.strings_Count_one Tryd.lays138 s c w).mono ?_
 rintro e w' ⟨rfl, rfl⟩
 refine ⟨_, rfl, ?_, Below.refl _ _⟩
 simp only [V.d, Ty.d, C]
 exact ⟨rfl, rfl⟩
def ctnF (s p : ByteArray) : Bool := decide (0 ≤ Lib.indexByte s.data.toList (p.data.toList.headD 0))
def sp_f106 : Ent := spec (.pr .str (.pr .str .nil)) (fun x => (oneOk2 x.1 x.2.1)) (fun x => (.t .bool (ctnF x.1 x.2.1)))
theorem en_f106 : Entered Tryd.prog 106 := .inr ⟨by decide, _, Tryd.func106, by kernel_rfl, by kernel_rfl⟩
theorem ms_f106 : Meets Tryd.prog 106 (strip sp_f106) := meets_calls fun x hok X w σ vs hfin hc => by
 obtain ⟨s, ⟨d⟩, u⟩ := x
 obtain ⟨c, rfl⟩ := one_byte (show d.size = 1 from of_decide_eq_true hok)
 simp only [Ty.canon, V.ds, V.d, Ty.d, Cs, C] at hc
 obtain ⟨v1, r1, rfl, ⟨rfl, _⟩, v2, r2, rfl, ⟨rfl, _⟩, rfl⟩ := hc
 refine (Any.strings_Contains_one Tryd.lays144 s c w).mono ?_
 rintro e w' ⟨rfl, rfl⟩
 refine ⟨_, rfl, ?_, Below.refl _ _⟩
 simp only [V.d, Ty.d, C]
 exact ⟨rfl, rfl⟩
def ascOk (s p : ByteArray) : Bool := nameG s && (decide (p.size < 4294967281) && p.data.toList.all fun b => decide (b.toNat < 128))
def trmS (s p : ByteArray) : ByteArray := ⟨(Lib.trimS s.data.toList p.data.toList).toArray⟩
def sp_f131 : Ent := spec (.pr .str (.pr .str .nil)) (fun x => (ascOk x.1 x.2.1)) (fun x => (.t .str (trmS x.1 x.2.1)))
theorem en_f131 : Entered Tryd.prog 131 := .inr ⟨by decide, _, Tryd.func131, by kernel_rfl, by kernel_rfl⟩
theorem ms_f131 : Meets Tryd.prog 131 (strip sp_f131) := meets_calls fun x hok X w σ vs hfin hc => by
 obtain ⟨s, p, u⟩ := x
 obtain ⟨h1, h2⟩ := Bool.and_eq_true_iff.1 hok
 obtain ⟨h2, h3⟩ := Bool.and_eq_true_iff.1 h2
 simp only [Ty.canon, V.ds, V.d, Ty.d, Cs, C] at hc
 obtain ⟨v1, r1, rfl, ⟨rfl, _⟩, v2, r2, rfl, ⟨rfl, _⟩, rfl⟩ := hc
 refine (Any.strings_Trim_laid Tryd.lays160 (by kernel_rfl) s p w (of_decide_eq_true h1) (of_decide_eq_true h2) (ascii_of_all h3)).mono ?_
 rintro e w' ⟨rfl, hb⟩
 refine ⟨_, rfl, ?_, hb⟩
 simp only [V.d, Ty.d, C]
 exact ⟨rfl, rfl⟩
def trmR (s p : ByteArray) : ByteArray := ⟨(Lib.trimRightS s.data.toList p.data.toList).toArray⟩
def sp_f112 : Ent := spec (.pr .str (.pr .str .nil)) (fun x => (ascOk x.1 x.2.1)) (fun x => (.t .str (trmR x.1 x.2.1)))
theorem ms_f112 : Meets Tryd.prog 112 (strip sp_f112) := meets_calls fun x hok X w σ vs hfin hc => by
 obtain ⟨s, p, u⟩ := x
 obtain ⟨h1, h2⟩ := Bool.and_eq_true_iff.1 hok
 obtain ⟨h2, h3⟩ := Bool.and_eq_true_iff.1 h2
 simp only [Ty.canon, V.ds, V.d, Ty.d, Cs, C] at hc
 obtain ⟨v1, r1, rfl, ⟨rfl, _⟩, v2, r2, rfl, ⟨rfl, _⟩, rfl⟩ := hc
 refine (Any.strings_TrimRight_laid Tryd.lays162 (by kernel_rfl) s p w (of_decide_eq_true h1) (of_decide_eq_true h2) (ascii_of_all h3)).mono ?_
 rintro e w' ⟨rfl, hb⟩
 refine ⟨_, rfl, ?_, hb⟩
 simp only [V.d, Ty.d, C]
 exact ⟨rfl, rfl⟩
def splF (s p : ByteArray) : List ByteArray := Lib.splitB p 0 (Lib.countB s p) s
def splOk (s p : ByteArray) : Bool := decide (p.size = 1 ∧ s.size < 4294967281)
theorem cs_strs {X : Nat → Nat → Prop} {w : World} {σ : Pl} : ∀ l : List ByteArray, Cs X w σ (l.flatMap (Ty.cells .str)) (l.map Value.string)
 | [] => by simp only [List.flatMap_nil, List.map_nil, Cs]
 | s :: l => by
  have ih := cs_strs (X := X) (w := w) (σ := σ) l
  simp only [List.flatMap_cons, Ty.cells, Ty.d, List.singleton_append, List.map_cons, Cs, C]
  exact ⟨_, _, rfl, ⟨rfl, rfl⟩, ih⟩
theorem split_any (s : ByteArray) (c : UInt8) (w : World) (hs : s.size < 4294967281) :
  Calls Tryd.prog 110 #[.string s, .string ⟨#[c]⟩] w fun e w' =>
   e = .returned (.slice (some ⟨w.heap.size, 0, none⟩) (splF s ⟨#[c]⟩).length (splF s ⟨#[c]⟩).length) ∧ w' = w.alloc (.cells ((splF s ⟨#[c]⟩).map Value.string).toArray 9) := by
 have h1 : 1 ≤ (ByteArray.mk #[c]).size := Nat.le_refl 1
 have hle := Lib.countB_le (ByteArray.mk #[c]) h1 s.size s (Nat.le_refl _)
 have hlen := Lib.splitB_all (ByteArray.mk #[c]) h1 0 _ s rfl
 have c0 := Any.strings_genSplit_core { Tryd.lays146 with } (by kernel_rfl) s (ByteArray.mk #[c]) 0 (-1) (Lib.countB s (ByteArray.mk #[c]) + 1) w hs h1 (Nat.zero_le _)
  (fun x c' hx => by
   refine (Any.strings_Index_one { Tryd.lays146 with } x c (w.alloc (.cells c' _))).mono fun e w' ⟨he, hw⟩ => ⟨?_, hw⟩
   rw [he]
   show _ = Ending.returned (Value.int .i64 (Lib.index x.data.toList [c]))
   rw [Lib.index_one])
  (by
   refine (Any.strings_Count_one { Tryd.lays146 with } s c w).mono fun e w' ⟨he, hw⟩ => ⟨?_, hw⟩
   rw [he]
   show _ = Ending.returned (Value.int .i64 ((Lib.count s.data.toList [c] : Nat) : Int))
   rw [Lib.count_one]
   rfl)
  (by decide) (by decide) (by rw [if_pos (by decide)]; omega)
 rw [Nat.add_sub_cancel, hlen] at c0
 have e2 : Lib.cellsOf (Lib.splitB (ByteArray.mk #[c]) 0 (Lib.countB s (ByteArray.mk #[c])) s) (Lib.countB s (ByteArray.mk #[c]) + 1) = ((Lib.splitB (ByteArray.mk #[c]) 0 (Lib.countB s (ByteArray.mk #[c])) s).map Value.string).toArray := by rw [← hlen]; exact Lib.cellsOf_full _
 rw [e2, ← hlen] at c0
 go_enter Tryd.func110, Tryd.ntmps110
 go_wp2_with (go_at_call 133; refine c0.mono ?_; rintro e w' ⟨rfl, hw⟩; rw [hw])
 go_ret
 refine ⟨?_, rfl⟩
 show Ending.returned (Value.slice _ (Lib.countB s ⟨#[c]⟩ + 1) (Lib.countB s ⟨#[c]⟩ + 1)) = _
 rw [show (splF s ⟨#[c]⟩).length = Lib.countB s ⟨#[c]⟩ + 1 from hlen]
def sp_f110 : Ent := spec (.pr .str (.pr .str .nil)) (fun x => (splOk x.1 x.2.1)) (fun x => (.t (.sl .str) (splF x.1 x.2.1)))
theorem en_f110 : Entered Tryd.prog 110 := .inr ⟨by decide, _, Tryd.func110, by kernel_rfl, by kernel_rfl⟩
theorem ms_f110 : Meets Tryd.prog 110 (strip sp_f110) := meets_calls fun x hok X w σ vs hfin hc => by
 obtain ⟨s, ⟨d⟩, u⟩ := x
 obtain ⟨h1, h2⟩ := of_decide_eq_true hok
 have h2 : s.size < 4294967281 := h2
 obtain ⟨c, rfl⟩ := one_byte h1
 simp only [Ty.canon, V.ds, V.d, Ty.d, Cs, C] at hc
 obtain ⟨v1, r1, rfl, ⟨rfl, _⟩, v2, r2, rfl, ⟨rfl, _⟩, rfl⟩ := hc
 have hle := Lib.countB_le (ByteArray.mk #[c]) (Nat.le_refl 1) s.size s (Nat.le_refl _)
 have hlen : (splF s ⟨#[c]⟩).length = Lib.countB s ⟨#[c]⟩ + 1 := Lib.splitB_all (ByteArray.mk #[c]) (Nat.le_refl 1) 0 _ s rfl
 refine (split_any s c w h2).mono ?_
 rintro e w' ⟨rfl, rfl⟩
 refine ⟨_, rfl, ?_, (Below.refl _ _).alloc (Nat.le_refl _) _⟩
 have hb := Go.Proofs.YtkkoedniahnneaaDoor.Blk.new w 9 ((splF s ⟨#[c]⟩).map Value.string).toArray
 simp only [V.d, Ty.d, C]
 refine ⟨_, _, rfl, Nat.le_refl _, ?_, fun h => absurd h (by omega), fun _ => ⟨_, _, (splF s ⟨#[c]⟩).map Value.string, rfl, cs_strs _, ?_⟩⟩
 ·unfold maxLen
  omega
 ·refine ⟨hb.lt, fun j _ hX => Nat.lt_irrefl _ (hfin _ _ hX), fun j v hj => ?_, fun v hv => ?_⟩
  ·rw [Nat.zero_add, hb.cell j, List.getElem?_toArray]
   exact hj
  ·obtain ⟨s, _, rfl⟩ := List.mem_map.1 hv
   rfl
end
end Go.Proofs.YtkkoedniahnneaaDoor.K
