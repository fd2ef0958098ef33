/-
 The walk of settings.Print.
-/
import Derived.Test.YtkkoedniahnneaaDoorA24
import Derived.Shelf.Strings.BuilderK
import Derived.Shelf.Strings.Repeat
set_option linter.unusedSimpArgs false
set_option linter.unusedVariables false
namespace Go.Proofs
open Go.Shelf
def Tryd.lays105_ren : Go.Shelf.Ren := ⟨fun | 105 => 96 | 212 => 124 | 99 => 125 | 165 => 126 | 166 => 60 | 170 => 61 | 169 => 55 | 263 => 149 | 264 => 150 | 206 => 151 | 240 => 108 | 241 => 152 | 276 => 132 | 277 => 166 | n => n, fun | 9 => 9 | 3 => 3 | 4 => 4 | 20 => 20 | 0 => 0 | 46 => 148 | 109 => 149 | 5 => 5 | 72 => 75 | 76 => 84 | 51 => 168 | 146 => 169 | 53 => 171 | 148 => 172 | 70 => 73 | 37 => 28 | 75 => 83 | 127 => 127 | 164 => 154 | 80 => 77 | n => n, fun | n => n⟩
theorem Tryd.lays105 : Go.Proofs.Lays.n105 Tryd.prog Tryd.lays105_ren := {
 mixed := by kernel_rfl
 f99 := Tryd.func125.trans (congrArg some (by kernel_rfl))
 f105 := Tryd.func96.trans (congrArg some (by kernel_rfl))
 f165 := Tryd.func126.trans (congrArg some (by kernel_rfl))
 f166 := Tryd.func60.trans (congrArg some (by kernel_rfl))
 f169 := Tryd.func55.trans (congrArg some (by kernel_rfl))
 f170 := Tryd.func61.trans (congrArg some (by kernel_rfl))
 f206 := Tryd.func151.trans (congrArg some (by kernel_rfl))
 f212 := Tryd.func124.trans (congrArg some (by kernel_rfl))
 f240 := Tryd.func108.trans (congrArg some (by kernel_rfl))
 f241 := Tryd.func152.trans (congrArg some (by kernel_rfl))
 f263 := Tryd.func149.trans (congrArg some (by kernel_rfl))
 f264 := Tryd.func150.trans (congrArg some (by kernel_rfl))
 f276 := Tryd.func132.trans (congrArg some (by kernel_rfl))
 f277 := Tryd.func166.trans (congrArg some (by kernel_rfl))
 t0 := Tryd.underlying0
 a0 := Tryd.isAgg0
 z0 := Tryd.sizeOf0
 v0 := Tryd.zeroValue0
 t3 := Tryd.underlying3
 a3 := Tryd.isAgg3
 z3 := Tryd.sizeOf3
 v3 := Tryd.zeroValue3
 t4 := Tryd.underlying4
 a4 := Tryd.isAgg4
 z4 := Tryd.sizeOf4
 v4 := Tryd.zeroValue4
 t5 := Tryd.underlying5
 a5 := Tryd.isAgg5
 z5 := Tryd.sizeOf5
 v5 := Tryd.zeroValue5
 t9 := Tryd.underlying9
 a9 := Tryd.isAgg9
 z9 := Tryd.sizeOf9
 v9 := Tryd.zeroValue9
 t20 := Tryd.underlying20
 a20 := Tryd.isAgg20
 z20 := Tryd.sizeOf20
 v20 := Tryd.zeroValue20
 t37 := Tryd.underlying28
 a37 := Tryd.isAgg28
 z37 := Tryd.sizeOf28
 v37 := Tryd.zeroValue28
 t46 := Tryd.underlying148
 a46 := Tryd.isAgg148
 z46 := Tryd.sizeOf148
 v46 := Tryd.zeroValue148
 t51 := Tryd.underlying168
 a51 := Tryd.isAgg168
 z51 := Tryd.sizeOf168
 v51 := Tryd.zeroValue168
 t53 := Tryd.underlying171
 a53 := Tryd.isAgg171
 z53 := Tryd.sizeOf171
 v53 := Tryd.zeroValue171
 t70 := Tryd.underlying73
 a70 := Tryd.isAgg73
 z70 := Tryd.sizeOf73
 v70 := Tryd.zeroValue73
 t72 := Tryd.underlying75
 a72 := Tryd.isAgg75
 z72 := Tryd.sizeOf75
 v72 := Tryd.zeroValue75
 t75 := Tryd.underlying83
 a75 := Tryd.isAgg83
 z75 := Tryd.sizeOf83
 v75 := Tryd.zeroValue83
 t76 := Tryd.underlying84
 a76 := Tryd.isAgg84
 z76 := Tryd.sizeOf84
 v76 := Tryd.zeroValue84
 t109 := Tryd.underlying149
 a109 := Tryd.isAgg149
 z109 := Tryd.sizeOf149
 v109 := Tryd.zeroValue149
 t127 := Tryd.underlying127
 a127 := Tryd.isAgg127
 z127 := Tryd.sizeOf127
 v127 := Tryd.zeroValue127
 t146 := Tryd.underlying169
 a146 := Tryd.isAgg169
 z146 := Tryd.sizeOf169
 v146 := Tryd.zeroValue169
 t148 := Tryd.underlying172
 a148 := Tryd.isAgg172
 z148 := Tryd.sizeOf172
 v148 := Tryd.zeroValue172
 t164 := Tryd.underlying154
 a164 := Tryd.isAgg154
 z164 := Tryd.sizeOf154
 v164 := Tryd.zeroValue154 }
end Go.Proofs
namespace Go.Proofs.YtkkoedniahnneaaDoor.K
open Go.RowKit Go.Shelf
attribute [local go_sem ↓] Go.wp_at_zero Go.wp_at_succ
theorem right_calls (x : Setting) (h : rgtOk x = true) (w : World) : Calls Tryd.prog 59 #[setV x] w fun e w' => e = .returned (.bool (rgtB x)) ∧ Below w.heap.size w w' := by
 have hF : strip sp_f59 [.t tySetting x] [] = some (.t .bool (rgtB x), []) := by
  unfold sp_f59
  exact strip_spec (a := .pr tySetting .nil) (x := (x, ())) (by simp [Ty.args, as_t]) h
 refine (sc_calls ms_f59 hF w (us := [setV x]) fun X => ?_).mono ?_
 ·show Cs X w nowhere [.ag [.v (.string x.1), .v (.string x.2.1), .v (.string x.2.2.1), .v (.int .i64 x.2.2.2.1)]] [setV x]
  simp only [Cs, C]
  exact ⟨_, _, rfl, ⟨_, rfl, _, _, rfl, ⟨rfl, rfl⟩, _, _, rfl, ⟨rfl, rfl⟩, _, _, rfl, ⟨rfl, rfl⟩, _, _, rfl, ⟨rfl, rfl⟩, rfl⟩, rfl⟩
 rintro en w' ⟨u, X', σ', rfl, h1, h2⟩
 have h1 : C X' w' σ' (.v (.bool (rgtB x))) u := h1
 simp only [C] at h1
 obtain ⟨rfl, _⟩ := h1
 exact ⟨rfl, h2⟩
theorem bX : Builder.Extra Tryd.prog Tryd.lays105_ren where
 sizeBuilder := by kernel_rfl
 liesBuilder := by kernel_rfl
 t5 := Tryd.lays105.t5
 a5 := Tryd.lays105.a5
 z5 := Tryd.lays105.z5
 v5 := Tryd.lays105.v5
 infoByte := by kernel_rfl
 cellsByte := by kernel_rfl
 sizeByte := by kernel_rfl
 neB5 := by decide
end Go.Proofs.YtkkoedniahnneaaDoor.K
