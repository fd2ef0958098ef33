import Derived.Test.YtkngeegkjhipeaaGreatN19
set_option linter.unusedSimpArgs false
set_option linter.unusedVariables false
namespace Go.Proofs.YtkngeegkjhipeaaGreat.K
open Go.RowKit
noncomputable section
abbrev iB (d : Dice) : Bool := igt (dval (keyN d) 3) 0
abbrev iD2 (d : Dice) : Dice := dnext (keyN d) 3
abbrev iA (d : Dice) : Int := dof (iD2 d) [5, 7]
def iKey (d : Dice) : Keep := bif iB d then (iA d, (sizeV (dofN (iD2 d) [5, 7]) (iA d), ())) else keyV d
def iD3 (d : Dice) : Dice := bif iB d then sizeN (dofN (iD2 d) [5, 7]) (iA d) else iD2 d
def iId (d : Dice) : Int := 100 + dval (iD3 d) 20
abbrev iD4 (d : Dice) : Dice := dnext (iD3 d) 20
abbrev iD5 (d : Dice) : Dice := dnext (iD4 d) 9
def iCh (d : Dice) (nm : ByteArray) : List Qaa := bif !done (iD4 d) 9 then chnV (iD5 d) nm (iKey d) (iId d) else []
def iD6 (d : Dice) (nm : ByteArray) : Dice := bif !done (iD4 d) 9 then chnN (iD5 d) nm (iKey d) (iId d) else iD5 d
def idV (d : Dice) (nm : ByteArray) : Qal := (iKey d, (iId d, (iCh d nm, ())))
theorem QFM {d : Dice} (h : dOk d = true) : dOk (iD3 d) = true := by
 unfold iD3
 cases iB d
 ·exact Qat (n := 3) (QvR h)
 ·exact QqA (QaZ (l := [5, 7]) (Qat (n := 3) (QvR h)))
theorem QQ0 {d : Dice} {nm : ByteArray} {k : Keep} {id : Int} (h : dOk d = true) : dOk (chnN d nm k id) = true := by
 have h2 := (Qti (dof d [1, 0, 2]).toNat 0 _ (Bool.and_eq_true_iff.2 ⟨Qat (n := 2) (QaZ (l := [1, 0, 2]) h), rfl⟩ : upOk ([], dnext (dofN d [1, 0, 2]) 2, sRoot, 1 + dval (dofN d [1, 0, 2]) 2) = true)).1
 exact QFN (Bool.and_eq_true_iff.1 h2).1
theorem QxL {d : Dice} {nm : ByteArray} (h : dOk d = true) : dOk (iD6 d nm) = true := by
 have h5 : dOk (iD5 d) = true := Qat (n := 9) (Qat (n := 20) (QFM h))
 unfold iD6
 cases !done (iD4 d) 9
 ·exact h5
 ·exact QQ0 h5
def idsZ : Nat → ByteArray → Dice → List Qal × Dice
 | 0, _, d => ([], d)
 | n + 1, nm, d => (idV d nm :: (idsZ n nm (iD6 d nm)).1, (idsZ n nm (iD6 d nm)).2)
theorem QwZ : ∀ (n : Nat) (nm : ByteArray) (d : Dice), dOk d = true → dOk (idsZ n nm d).2 = true ∧ (idsZ n nm d).1.length = n
 | 0, _, d, h => ⟨h, rfl⟩
 | n + 1, nm, d, h => by
  have := QwZ n nm (iD6 d nm) (QxL h)
  exact ⟨this.1, by simp only [idsZ, List.length_cons, this.2]⟩
abbrev eL0 (d : Dice) : Int := dof d [1, 1, 2, 3]
abbrev eD1 (d : Dice) : Dice := dofN d [1, 1, 2, 3]
abbrev eD2 (d : Dice) : Dice := suiN (eD1 d)
abbrev eD3 (d : Dice) : Dice := dnext (eD2 d) 2
abbrev eD4 (d : Dice) : Dice := dnext (eD3 d) 2
abbrev eD5 (d : Dice) : Dice := dnext (eD4 d) (5 - eL0 d)
abbrev eD6 (d : Dice) : Dice := dnext (eD5 d) 3
abbrev eB (d : Dice) : Bool := igt (dval (eD5 d) 3) 0
def eLst (d : Dice) : Int := bif eB d then 1 else eL0 d
def eMst (d : Dice) : Int := bif eB d then dof (eD6 d) [3, 4, 2] else eL0 d + dval (eD4 d) (5 - eL0 d)
def eD7 (d : Dice) : Dice := bif eB d then dofN (eD6 d) [3, 4, 2] else eD6 d
abbrev eD8 (d : Dice) : Dice := dofN (eD7 d) [1, 2, 1, 3, 0]
def eIdz (d : Dice) (nm : ByteArray) : List Qal × Dice := idsZ (dof (eD7 d) [1, 2, 1, 3, 0]).toNat nm (eD8 d)
abbrev eAn (d : Dice) (nm : ByteArray) : List Int := lgt (.sl tI) [[1, 2], [1, 2], [1], [2, 11], ([] : List Int)] (dval (eIdz d nm).2 5).toNat
abbrev eD10 (d : Dice) (nm : ByteArray) : Dice := dnext (eIdz d nm).2 5
abbrev eHs (d : Dice) (nm : ByteArray) : List Int := lgt (.sl tI) [[1, 2, 3, 4], [2, 3, 4], [3, 4]] (dval (eD10 d nm) 3).toNat
def epV (d : Dice) (nm : ByteArray) : Qad := (nm, (eLst d, (eMst d, (suiV (eD1 d), (done (eD2 d) 2, ((eIdz d nm).1, (eAn d nm, (eHs d nm, (done (eD3 d) 2, ())))))))))
def epN (d : Dice) (nm : ByteArray) : Dice := dnext (eD10 d nm) 3
def epOk (d : Dice) (nm : ByteArray) : Bool := dOk d && decide (nm.size ≤ 1000)
noncomputable def QJy : List DO := dT Tryz.f31 2
def QiD : Fg := ⟨[(0, none), (1, some .str), (4, none), (5, none), (6, some tI)], [(4, some Qai), (5, none), (15, none), (78, none), (5015, none), (10015, none), (15015, none), (20505, none), (50000, some Qau)]⟩
noncomputable def Qkl : TC := (.sq (.sq (.reg (rT Tryz.f31 6)) (.cd (.t 42) .sk (.fg ⟨[(0, none), (4, none), (5, none)], [(4, some Qai), (5, some Qai), (15, none), (78, none), (5015, none), (10015, none), (15015, none), (20505, none), (50000, some Qau)]⟩ (.ex 0)))) (.sq (.bk 1 (.sq (.reg (rT Tryz.f31 7)) (.sq (.sq (.reg (rT Tryz.f31 8)) (.cd (.t 49) (.sq (.reg (rT Tryz.f31 9)) (.reg (rT Tryz.f31 10))) .sk)) (.sq (.reg (rT Tryz.f31 11)) (.sq (.reg (rT Tryz.f31 12)) (.sq (.sq (.reg (rT Tryz.f31 13)) (.cd (.t 67) (.reg (rT Tryz.f31 14)) .sk)) (.reg (rT Tryz.f31 15)))))))) (.reg (rT Tryz.f31 16))))
noncomputable def Qz9 : TC := (.sq (.reg (rT Tryz.f31 0)) (.sq (.reg (rT Tryz.f31 1)) (.sq (.dr QJy [(0, [5, 15, 78, 5015, 10015, 15015, 20505]), (1, [5, 15, 78, 5015, 10015, 15015, 20505]), (2, [50000]), (3, [5, 15, 78, 5015, 10015, 15015, 20505]), (4, [5, 15, 78, 5015, 10015, 15015, 20505]), (5, [15, 78, 5015, 10015, 15015, 20505]), (6, [27, 5027, 10027, 15027, 50000]), (7, [15, 78, 5015, 10015, 15015, 20505]), (8, [5, 15, 78, 5015, 10015, 15015, 20505]), (9, [4, 5, 15, 78, 5015, 10015, 15015, 20505])] (.of [0, 1, 2, 3, 4, 5, 6, 7, 8, 9])) (.sq (.sq (.reg (rT Tryz.f31 3)) (.cd (.t 32) (.reg (rT Tryz.f31 4)) .sk)) (.sq (.sq (.reg (rT Tryz.f31 5)) (.bk 0 (.nf 5 5 60 20505 (.lp 0 QiD Qkl)))) (.sq (.reg (rT Tryz.f31 17)) (.sq (.reg (rT Tryz.f31 18)) (.sq (.reg (rT Tryz.f31 19)) .rt))))))))
def QL8 : List (RV × Option Ty) := [((.c 4 true 9), none)]
abbrev Qpe : Sh := ⟨[(0, .ptr 50000 0), (1, .ty .str), (4, .ptr 4 0), (5, .ptr 5 0), (6, .ty tI)], [(4, .box Qai), (5, .bag [.ty .str, .ty tI, .ty tI, .ms 15, .ty .bool, .ms 20505, .nl, .nl, .ty .bool]), (15, .arr 3 tI), (78, .no), (5015, .no), (10015, .no), (15015, .no), (20505, .arr 60 Qak), (50000, .box Qau)]⟩
def QfZ (x1 : ByteArray) (x6 : Int) (y4 : Qad) (y5_0 : ByteArray) (y5_1 y5_2 : Int) (y5_4 y5_8 : Bool) (y15 : List Int) (y20505 : List Qal) (y50000 : Dice) : VS := Qpe.st ((), x1, (), (), x6, ()) (y4, (y5_0, y5_1, y5_2, (), y5_4, (), (), (), y5_8, ()), y15, (), (), (), (), y20505, y50000, ())
abbrev QuH : Sh := ⟨[(0, .ptr 50000 0), (4, .ptr 4 0), (5, .ptr 5 0)], [(4, .box Qai), (5, .bag [.ty .str, .ty tI, .ty tI, .ms 15, .ty .bool, .ms 20505, .nl, .nl, .ty .bool]), (15, .arr 3 tI), (78, .no), (5015, .no), (10015, .no), (15015, .no), (20505, .arr 60 Qak), (50000, .box Qau)]⟩
def Qer (y4 : Qad) (y5_0 : ByteArray) (y5_1 y5_2 : Int) (y5_4 y5_8 : Bool) (y15 : List Int) (y20505 : List Qal) (y50000 : Dice) : VS := QuH.st ((), (), (), ()) (y4, (y5_0, y5_1, y5_2, (), y5_4, (), (), (), y5_8, ()), y15, (), (), (), (), y20505, y50000, ())
def QRt : VS → Option (Bool × List (Bool × Exit × VS)) := mkL Qpe (fun x y => (decide (0 ≤ x.2.2.2.2.1 ∧ (y.2.2.2.2.2.2.2.1.length : Int) + x.2.2.2.2.1 ≤ 10 ∧ x.2.1.size ≤ 1000) && dOk y.2.2.2.2.2.2.2.2.1)) (fun x y => [(true, .exit 0, Qer (y.1) (y.2.1.1) (y.2.1.2.1) (y.2.1.2.2.1) (y.2.1.2.2.2.2.1) (y.2.1.2.2.2.2.2.2.2.2.1) (y.2.2.1) (y.2.2.2.2.2.2.2.1 ++ (idsZ x.2.2.2.2.1.toNat x.2.1 y.2.2.2.2.2.2.2.2.1).1) ((idsZ x.2.2.2.2.1.toNat x.2.1 y.2.2.2.2.2.2.2.2.1).2))])
def g_f31 : G := ⟨TYs, [], 100, EL [(11, Qob), (13, QLi), (32, Qjy), (33, Qq8), (35, QK9), (54, QK0), (55, QAz)], keeps, (Ls [QRt]), IL [], RL []⟩
def QGG (x1 : ByteArray) (x6 : Int) (y4 : Qad) (y5_0 : ByteArray) (y5_1 y5_2 : Int) (y5_4 y5_8 : Bool) (y15 : List Int) (y20505 : List Qal) (y50000 : Dice) : Option (Exit × VS) :=
 let a1 := dnext (keyN y50000) 3
 let a2 := (sizeN (dofN a1 ([5, 7])) (dof a1 ([5, 7])))
 let a3 := ((dof a1 ([5, 7])), ((sizeV (dofN a1 ([5, 7])) (dof a1 ([5, 7]))), ()))
 let a4 := iadd .i64 100 (dval a2 20)
 let a5 := iadd .i64 100 (dval a1 20)
 let a6 := ((keyV y50000).1, (((keyV y50000).2).1, ()))
 let a7 := dnext (dnext a2 20) 9
 let a8 := dnext (dnext a1 20) 9
 let a9 := isub .i64 x6 1
 let a10 := ((chnV a8 x1 (keyV y50000) a5), ())
 let a11 := ((chnV a7 x1 a3 a4), ())
 br (igt x6 0) (br (dOk y50000) (br (QaN (keyN y50000) 3) (br (igt (dval (keyN y50000) 3) 0) (br (ofOk a1 ([5, 7])) (br (dOk1 (dofN a1 ([5, 7])) (dof a1 ([5, 7]))) (br (QaN a2 20) (br (oneOk (dnext a2 20) 9) (br (!(done (dnext a2 20) 9)) (br (chnOk a7 x1 a3 a4) (br (cApp y20505 ([(a3, (a4, a11))]) 48) (some (.normal, QfZ x1 a9 y4 y5_0 y5_1 y5_2 y5_4 y5_8 y15 (y20505 ++ ([(a3, (a4, a11))])) (chnN a7 x1 a3 a4))) none) none) (br (cApp y20505 ([(a3, (a4, (([] : List Qaa), ())))]) 48) (some (.normal, QfZ x1 a9 y4 y5_0 y5_1 y5_2 y5_4 y5_8 y15 (y20505 ++ ([(a3, (a4, (([] : List Qaa), ())))])) a7)) none)) none) none) none) none) (br (QaN a1 20) (br (oneOk (dnext a1 20) 9) (br (!(done (dnext a1 20) 9)) (br (chnOk a8 x1 (keyV y50000) a5) (br (cApp y20505 ([(a6, (a5, a10))]) 48) (some (.normal, QfZ x1 a9 y4 y5_0 y5_1 y5_2 y5_4 y5_8 y15 (y20505 ++ ([(a6, (a5, a10))])) (chnN a8 x1 (keyV y50000) a5))) none) none) (br (cApp y20505 ([(a6, (a5, (([] : List Qaa), ())))]) 48) (some (.normal, QfZ x1 a9 y4 y5_0 y5_1 y5_2 y5_4 y5_8 y15 (y20505 ++ ([(a6, (a5, (([] : List Qaa), ())))])) a8)) none)) none) none)) none) none) (some (.exit 0, Qer y4 y5_0 y5_1 y5_2 y5_4 y5_8 y15 y20505 y50000))
noncomputable def QdE (x1 : ByteArray) (x6 : Int) (y4 : Qad) (y5_0 : ByteArray) (y5_1 y5_2 : Int) (y5_4 y5_8 : Bool) (y15 : List Int) (y20505 : List Qal) (y50000 : Dice) : Option (Exit × VS) := loopF (Qaj g_f31 QiD Qkl) (QfZ x1 x6 y4 y5_0 y5_1 y5_2 y5_4 y5_8 y15 y20505 y50000)
noncomputable def Qp5 (x1 : ByteArray) (x6 : Int) (y4 : Qad) (y5_0 : ByteArray) (y5_1 y5_2 : Int) (y5_4 y5_8 : Bool) (y15 : List Int) (y20505 : List Qal) (y50000 : Dice) : Option (Exit × VS) :=
 let a1 := dnext (keyN y50000) 3
 let a2 := (sizeN (dofN a1 ([5, 7])) (dof a1 ([5, 7])))
 let a3 := ((dof a1 ([5, 7])), ((sizeV (dofN a1 ([5, 7])) (dof a1 ([5, 7]))), ()))
 let a4 := iadd .i64 100 (dval a2 20)
 let a5 := iadd .i64 100 (dval a1 20)
 let a6 := ((keyV y50000).1, (((keyV y50000).2).1, ()))
 let a7 := dnext (dnext a2 20) 9
 let a8 := dnext (dnext a1 20) 9
 let a9 := isub .i64 x6 1
 let a10 := ((chnV a8 x1 (keyV y50000) a5), ())
 let a11 := ((chnV a7 x1 a3 a4), ())
 br (igt x6 0) (br (dOk y50000) (br (QaN (keyN y50000) 3) (br (igt (dval (keyN y50000) 3) 0) (br (ofOk a1 ([5, 7])) (br (dOk1 (dofN a1 ([5, 7])) (dof a1 ([5, 7]))) (br (QaN a2 20) (br (oneOk (dnext a2 20) 9) (br (!(done (dnext a2 20) 9)) (br (chnOk a7 x1 a3 a4) (br (cApp y20505 ([(a3, (a4, a11))]) 48) (QdE x1 a9 y4 y5_0 y5_1 y5_2 y5_4 y5_8 y15 (y20505 ++ ([(a3, (a4, a11))])) (chnN a7 x1 a3 a4)) none) none) (br (cApp y20505 ([(a3, (a4, (([] : List Qaa), ())))]) 48) (QdE x1 a9 y4 y5_0 y5_1 y5_2 y5_4 y5_8 y15 (y20505 ++ ([(a3, (a4, (([] : List Qaa), ())))])) a7) none)) none) none) none) none) (br (QaN a1 20) (br (oneOk (dnext a1 20) 9) (br (!(done (dnext a1 20) 9)) (br (chnOk a8 x1 (keyV y50000) a5) (br (cApp y20505 ([(a6, (a5, a10))]) 48) (QdE x1 a9 y4 y5_0 y5_1 y5_2 y5_4 y5_8 y15 (y20505 ++ ([(a6, (a5, a10))])) (chnN a8 x1 (keyV y50000) a5)) none) none) (br (cApp y20505 ([(a6, (a5, (([] : List Qaa), ())))]) 48) (QdE x1 a9 y4 y5_0 y5_1 y5_2 y5_4 y5_8 y15 (y20505 ++ ([(a6, (a5, (([] : List Qaa), ())))])) a8) none)) none) none)) none) none) (some (.exit 0, Qer y4 y5_0 y5_1 y5_2 y5_4 y5_8 y15 y20505 y50000))
def QeP (x1 : ByteArray) (x6 : Int) (y4 : Qad) (y5_0 : ByteArray) (y5_1 y5_2 : Int) (y5_4 y5_8 : Bool) (y15 : List Int) (y20505 : List Qal) (y50000 : Dice) : Option (Exit × VS) :=
 let a1 := idsZ x6.toNat x1 y50000
 some (.exit 0, Qer (y4) (y5_0) (y5_1) (y5_2) (y5_4) (y5_8) (y15) (y20505 ++ a1.1) (a1.2))
theorem QJ2 (x1 : ByteArray) (x6 : Int) (y4 : Qad) (y5_0 : ByteArray) (y5_1 y5_2 : Int) (y5_4 y5_8 : Bool) (y15 : List Int) (y20505 : List Qal) (y50000 : Dice) : Qaj g_f31 QiD Qkl (QfZ x1 x6 y4 y5_0 y5_1 y5_2 y5_4 y5_8 y15 y20505 y50000) = QGG x1 x6 y4 y5_0 y5_1 y5_2 y5_4 y5_8 y15 y20505 y50000 := by kernel_rfl
theorem QwN (x1 : ByteArray) (x6 : Int) (y4 : Qad) (y5_0 : ByteArray) (y5_1 y5_2 : Int) (y5_4 y5_8 : Bool) (y15 : List Int) (y20505 : List Qal) (y50000 : Dice) : QdE x1 x6 y4 y5_0 y5_1 y5_2 y5_4 y5_8 y15 y20505 y50000 = Qp5 x1 x6 y4 y5_0 y5_1 y5_2 y5_4 y5_8 y15 y20505 y50000 := (Qaq _ _).trans (by
 rw [QJ2]
 simp only [QGG, Qp5, QaE, nxt_n, nxt_r, nxt_e, nxt_0]
 rfl)
def r_f31 (d0 : Dice) (p1 : ByteArray) : Option (V × List VO) :=
 let a4 := (dofN d0 ([1, 1, 2, 3]))
 let a6 := dnext (suiN a4) 2
 let a13 := (dof d0 ([1, 1, 2, 3]))
 let a5 := isub .i64 5 a13
 let a12 := dnext (dnext a6 2) a5
 let a1 := dnext a12 3
 let a7 := (dofN a1 ([3, 4, 2]))
 let a10 := (dof a7 ([1, 2, 1, 3, 0]))
 let a2 := (idsZ a10.toNat p1 (dofN a7 ([1, 2, 1, 3, 0])))
 let a11 := (dof a1 ([1, 2, 1, 3, 0]))
 let a3 := (idsZ a11.toNat p1 (dofN a1 ([1, 2, 1, 3, 0])))
 let a8 := dnext (a2.2) 5
 let a9 := dnext (a3.2) 5
 br (ofOk d0 ([1, 1, 2, 3])) (br (dOk a4) (br (oneOk (suiN a4) 2) (br (oneOk a6 2) (br (QaN (dnext a6 2) a5) (br (QaN a12 3) (br (igt (dval a12 3) 0) (br (ofOk a1 ([3, 4, 2])) (br (ofOk a7 ([1, 2, 1, 3, 0])) (br (decide (0 ≤ a10 ∧ (([] : List Qal).length : Int) + a10 ≤ 10 ∧ p1.size ≤ 1000) && dOk (dofN a7 ([1, 2, 1, 3, 0]))) (br (QaN (a2.2) 5) (br (cIx ([[1, 2], [1, 2], [1], [2, 11], ([] : List Int)]) (dval (a2.2) 5)) (br (QaN a8 3) (br (cIx ([[1, 2, 3, 4], [2, 3, 4], [3, 4]]) (dval a8 3)) (some (.ag [(.t .str (p1)), (.t tI (1 : Int)), (.t tI (dof a1 ([3, 4, 2]))), (.ms 50001), (.t .bool (done (suiN a4) 2)), (.ms 50002), (.t (.sl tI) (lgt (.sl tI) ([[1, 2], [1, 2], [1], [2, 11], ([] : List Int)]) (Int.toNat (dval (a2.2) 5)))), (.t (.sl tI) (lgt (.sl tI) ([[1, 2, 3, 4], [2, 3, 4], [3, 4]]) (Int.toNat (dval a8 3)))), (.t .bool (done a6 2))], [.box (.t Qau (dnext a8 3)), .arr 3 tI (suiV a4), .arr 60 Qak (([] : List Qal) ++ a2.1)])) none) none) none) none) none) none) none) (br (ofOk a1 ([1, 2, 1, 3, 0])) (br (decide (0 ≤ a11 ∧ (([] : List Qal).length : Int) + a11 ≤ 10 ∧ p1.size ≤ 1000) && dOk (dofN a1 ([1, 2, 1, 3, 0]))) (br (QaN (a3.2) 5) (br (cIx ([[1, 2], [1, 2], [1], [2, 11], ([] : List Int)]) (dval (a3.2) 5)) (br (QaN a9 3) (br (cIx ([[1, 2, 3, 4], [2, 3, 4], [3, 4]]) (dval a9 3)) (some (.ag [(.t .str (p1)), (.t tI a13), (.t tI (iadd .i64 a13 (dval (dnext a6 2) a5))), (.ms 50001), (.t .bool (done (suiN a4) 2)), (.ms 50002), (.t (.sl tI) (lgt (.sl tI) ([[1, 2], [1, 2], [1], [2, 11], ([] : List Int)]) (Int.toNat (dval (a3.2) 5)))), (.t (.sl tI) (lgt (.sl tI) ([[1, 2, 3, 4], [2, 3, 4], [3, 4]]) (Int.toNat (dval a9 3)))), (.t .bool (done a6 2))], [.box (.t Qau (dnext a9 3)), .arr 3 tI (suiV a4), .arr 60 Qak (([] : List Qal) ++ a3.1)])) none) none) none) none) none) none)) none) none) none) none) none) none
theorem e_f31 (d0 : Dice) (p1 : ByteArray) : runF g_f31 Qz9 QL8 true [.ptr 50000 0, .t .str p1] [.box (.t Qau d0)] = r_f31 d0 p1 := by kernel_rfl
theorem en_f31 : Qag Tryz.prog 31 := .inr ⟨by decide, _, Tryz.func31, by kernel_rfl, by kernel_rfl⟩
theorem gk_f31 : GOk Tryz.prog g_f31 := Qan _ (gA (gC Qs4 Qsi (gC en_f13 ms_f13 (gC QnD Qm3 (gC QxG Qwv (gC en_f35 ms_f35 (gC en_f54 ms_f54 (gC QMT QMC gN))))))))
theorem QPo (x1 : ByteArray) (x6 : Int) (y4 : Qad) (y5_0 : ByteArray) (y5_1 y5_2 : Int) (y5_4 y5_8 : Bool) (y15 : List Int) (y20505 : List Qal) (y50000 : Dice) (h : (decide (0 ≤ x6 ∧ (y20505.length : Int) + x6 ≤ 10 ∧ x1.size ≤ 1000) && dOk y50000) = true) : QdE x1 x6 y4 y5_0 y5_1 y5_2 y5_4 y5_8 y15 y20505 y50000 = QeP x1 x6 y4 y5_0 y5_1 y5_2 y5_4 y5_8 y15 y20505 y50000 := by
 obtain ⟨h, hd⟩ := Bool.and_eq_true_iff.1 h
 obtain ⟨h0, h1, h2⟩ := of_decide_eq_true h
 clear h
 obtain ⟨n, rfl⟩ := Int.eq_ofNat_of_zero_le h0
 have key : ∀ (n : Nat) (y20505 : List Qal) (y50000 : Dice), y20505.length + n ≤ 10 → dOk y50000 = true → QdE x1 (n : Int) y4 y5_0 y5_1 y5_2 y5_4 y5_8 y15 y20505 y50000 = QeP x1 (n : Int) y4 y5_0 y5_1 y5_2 y5_4 y5_8 y15 y20505 y50000 := by
  intro n
  induction n with
  | zero =>
   intro y20505 y50000 _ _
   rw [QwN]
   simp only [Qp5, QeP, show igt ((0 : Nat) : Int) 0 = false from rfl, Qae, Int.toNat_natCast, idsZ, List.append_nil]
  | succ n ih =>
   intro y20505 y50000 hl hd
   rw [QwN]
   have e2 : isub .i64 ((n + 1 : Nat) : Int) 1 = (n : Int) := (QbE (by omega)).trans (by omega)
   have k1 := QvR hd
   have k2 := Qat (n := 3) k1
   have k3 := QaZ (l := [5, 7]) k2
   have k4 : ∀ a, dOk (sizeN (dofN (dnext (keyN y50000) 3) [5, 7]) a) = true := fun a => QqA k3
   have c1 : QaN (keyN y50000) 3 = true := Qa1 k1 (by omega)
   have c2 : ofOk (dnext (keyN y50000) 3) [5, 7] = true := QdP k2 (by decide) (by decide)
   have c3 : ∀ a, dOk1 (dofN (dnext (keyN y50000) 3) [5, 7]) a = true := fun a => k3
   have c4 : ∀ a, QaN (sizeN (dofN (dnext (keyN y50000) 3) [5, 7]) a) 20 = true := fun a => Qa1 (k4 a) (by omega)
   have c5 : ∀ a, oneOk (dnext (sizeN (dofN (dnext (keyN y50000) 3) [5, 7]) a) 20) 9 = true := fun a => Qdz (Qat (k4 a)) (by omega) (by omega)
   have c6 : QaN (dnext (keyN y50000) 3) 20 = true := Qa1 k2 (by omega)
   have c7 : oneOk (dnext (dnext (keyN y50000) 3) 20) 9 = true := Qdz (Qat k2) (by omega) (by omega)
   have c8 : ∀ a k i, chnOk (dnext (dnext (sizeN (dofN (dnext (keyN y50000) 3) [5, 7]) a) 20) 9) x1 k i = true := fun a k i => Bool.and_eq_true_iff.2 ⟨Qat (Qat (k4 a)), decide_eq_true h2⟩
   have c9 : ∀ k i, chnOk (dnext (dnext (dnext (keyN y50000) 3) 20) 9) x1 k i = true := fun k i => Bool.and_eq_true_iff.2 ⟨Qat (Qat k2), decide_eq_true h2⟩
   have ca : ∀ v, cApp y20505 [v] 48 = true := fun v => cAppN (by omega) (by simp only [List.length_singleton]; omega)
   have cb : ∀ d : Dice, iadd .i64 100 (dval d 20) = 100 + dval d 20 := fun d => by
    have b := QbF (d := d) (n := 20) (by omega)
    exact Qb9 (by omega)
   simp only [Qp5, show igt ((n + 1 : Nat) : Int) 0 = true from decide_eq_true (by omega), Qac, hd, e2, c1, c2, c3, c4, c5, c6, c7, c8, c9, ca, cb]
   have hi : ∀ v d, dOk d = true → QdE x1 (n : Int) y4 y5_0 y5_1 y5_2 y5_4 y5_8 y15 (y20505 ++ [v]) d = QeP x1 (n : Int) y4 y5_0 y5_1 y5_2 y5_4 y5_8 y15 (y20505 ++ [v]) d := fun v d hd => ih _ _ (by simp only [List.length_append, List.length_singleton]; omega) hd
   have hz := hi (idV y50000 x1) (iD6 y50000 x1) (QxL hd)
   have goal2 : QeP x1 (n : Int) y4 y5_0 y5_1 y5_2 y5_4 y5_8 y15 (y20505 ++ [idV y50000 x1]) (iD6 y50000 x1) = QeP x1 ((n + 1 : Nat) : Int) y4 y5_0 y5_1 y5_2 y5_4 y5_8 y15 y20505 y50000 := by
    simp only [QeP, Int.toNat_natCast, idsZ, List.append_assoc, List.singleton_append]
   refine Eq.trans ?_ (hz.trans goal2)
   simp only [idV, iD6, iCh, iId, iKey, iD3, iB, iD2, iA, iD4, iD5]
   cases igt (dval (keyN y50000) 3) 0 with
   | true =>
    simp only [Qac, cond_true]
    cases done (dnext (sizeN (dofN (dnext (keyN y50000) 3) [5, 7]) (dof (dnext (keyN y50000) 3) [5, 7])) 20) 9 <;> rfl
   | false =>
    simp only [Qae, cond_false]
    cases done (dnext (dnext (keyN y50000) 3) 20) 9 <;> rfl
 exact key n _ _ (by omega) hd
theorem QH7 : ∀ S l p, g_f31.L 0 (fgt QiD S) = some (true, l) → pickA l = some p → loopF (Qaj g_f31 QiD Qkl) S = some p :=
 QaF (s := Qpe) ⟨by decide, by decide⟩ (by kernel_rfl) fun x y hok p hp => by
 simp only [Qas, Qap] at hp
 exact (QPo x.2.1 x.2.2.2.2.1 y.1 y.2.1.1 y.2.1.2.1 y.2.1.2.2.1 y.2.1.2.2.2.2.1 y.2.1.2.2.2.2.2.2.2.2.1 y.2.2.1 y.2.2.2.2.2.2.2.1 y.2.2.2.2.2.2.2.2.1 (by simpa using hok)).trans hp
theorem lk_f31 : Qz9.lok g_f31 := by
 repeat (first | exact trivial | exact QH7 | refine ⟨?_, ?_⟩)
theorem s_f31 (d : Dice) (nm : ByteArray) (h : epOk d nm = true) : r_f31 d nm = some (.ag [.t .str nm, .t tI (eLst d), .t tI (eMst d), .ms 50001, .t .bool (done (eD2 d) 2), .ms 50002, .t (.sl tI) (eAn d nm), .t (.sl tI) (eHs d nm), .t .bool (done (eD3 d) 2)], [.box (.t Qau (epN d nm)), .arr 3 tI (suiV (eD1 d)), .arr 60 Qak (eIdz d nm).1]) := by
 simp only [epOk, Bool.and_eq_true, decide_eq_true_eq] at h
 obtain ⟨h, hn⟩ := h
 have m0 := Qbx (d := d) (l := [1, 1, 2, 3]) (by decide)
 simp only [List.mem_cons, List.not_mem_nil, or_false] at m0
 have k1 := QaZ (l := [1, 1, 2, 3]) h
 have k2 := Qqz k1
 have k3 := Qat (n := 2) k2
 have k4 := Qat (n := 2) k3
 have e0 : isub .i64 5 (dof d [1, 1, 2, 3]) = 5 - eL0 d := QbE (by omega)
 have b4 := QbF (d := eD4 d) (n := 5 - eL0 d) (by show 0 < 5 - dof d [1, 1, 2, 3]; omega)
 have e1 : iadd .i64 (dof d [1, 1, 2, 3]) (dval (eD4 d) (5 - eL0 d)) = eL0 d + dval (eD4 d) (5 - eL0 d) := Qb9 (by show _ ∧ _; have : eL0 d = dof d [1, 1, 2, 3] := rfl; omega)
 have k5 := Qat (n := 5 - eL0 d) k4
 have k6 := Qat (n := 3) k5
 have k6' := QaZ (l := [3, 4, 2]) k6
 have k7 : dOk (eD7 d) = true := by
  unfold eD7
  cases eB d
  ·exact k6
  ·exact k6'
 have k8 := QaZ (l := [1, 2, 1, 3, 0]) k7
 have m7 := Qbx (d := eD7 d) (l := [1, 2, 1, 3, 0]) (by decide)
 simp only [List.mem_cons, List.not_mem_nil, or_false] at m7
 obtain ⟨k9, _⟩ := QwZ (dof (eD7 d) [1, 2, 1, 3, 0]).toNat nm (eD8 d) k8
 have k10 := Qat (n := 5) k9
 have c1 : ofOk d [1, 1, 2, 3] = true := QdP h (by decide) (by decide)
 have c3 : oneOk (suiN (dofN d [1, 1, 2, 3])) 2 = true := Qdz k2 (by omega) (by omega)
 have c4 : oneOk (dnext (suiN (dofN d [1, 1, 2, 3])) 2) 2 = true := Qdz k3 (by omega) (by omega)
 have c5 : QaN (eD4 d) (5 - eL0 d) = true := Qa1 k4 (by show 5 - dof d [1, 1, 2, 3] ≤ _; omega)
 have c6 : QaN (eD5 d) 3 = true := Qa1 k5 (by omega)
 have c7 : ofOk (eD6 d) [3, 4, 2] = true := QdP k6 (by decide) (by decide)
 have c8 : ofOk (eD7 d) [1, 2, 1, 3, 0] = true := QdP k7 (by decide) (by decide)
 have k8' : dOk (dofN (eD7 d) [1, 2, 1, 3, 0]) = true := k8
 have e5 : idsZ (dof (eD7 d) [1, 2, 1, 3, 0]).toNat nm (dofN (eD7 d) [1, 2, 1, 3, 0]) = eIdz d nm := rfl
 have c9 : (decide ((0 : Int) ≤ dof (eD7 d) [1, 2, 1, 3, 0] ∧ (([] : List Qal).length : Int) + dof (eD7 d) [1, 2, 1, 3, 0] ≤ 10 ∧ nm.size ≤ 1000) && true) = true := by
  rw [Bool.and_true]
  exact decide_eq_true ⟨by omega, by simp only [List.length_nil]; omega, hn⟩
 have c10 : QaN (eIdz d nm).2 5 = true := Qa1 k9 (by omega)
 have b10 := QbF (d := (eIdz d nm).2) (n := 5) (by omega)
 have c11 : cIx [[1, 2], [1, 2], [1], [2, 11], ([] : List Int)] (dval (eIdz d nm).2 5) = true := decide_eq_true (by simp only [List.length_cons, List.length_nil]; omega)
 have c12 : QaN (dnext (eIdz d nm).2 5) 3 = true := Qa1 k10 (by omega)
 have b12 := QbF (d := dnext (eIdz d nm).2 5) (n := 3) (by omega)
 have c13 : cIx [[1, 2, 3, 4], [2, 3, 4], ([3, 4] : List Int)] (dval (dnext (eIdz d nm).2 5) 3) = true := decide_eq_true (by simp only [List.length_cons, List.length_nil]; omega)
 simp only [r_f31, c1, k1, c3, c4, e0, c5, c6, e1, c7, Qac]
 cases hb : eB d with
 | true =>
  have e7 : dofN (eD6 d) [3, 4, 2] = eD7 d := by unfold eD7; rw [hb]; rfl
  have e8 : eLst d = 1 := by unfold eLst; rw [hb]; rfl
  have e9 : eMst d = dof (eD6 d) [3, 4, 2] := by unfold eMst; rw [hb]; rfl
  refine Eq.trans (congrArg (fun b => br b _ _) hb) ?_
  simp only [Qac, e7, c8, k8', e5, Qac, c10, c11, c12, c13]
  refine Eq.trans (congrArg (fun b => br b _ _) c9) ?_
  rw [Qac, e8, e9]
  refine Eq.trans (congrArg (fun b => br b _ _) c13) ?_
  rfl
 | false =>
  have e7 : eD6 d = eD7 d := by unfold eD7; rw [hb]; rfl
  have e8 : eLst d = eL0 d := by unfold eLst; rw [hb]; rfl
  have e9 : eMst d = eL0 d + dval (eD4 d) (5 - eL0 d) := by unfold eMst; rw [hb]; rfl
  refine Eq.trans (congrArg (fun b => br b _ _) hb) ?_
  simp only [Qae, e7, c8, k8', e5, Qac, c10, c11, c12, c13]
  refine Eq.trans (congrArg (fun b => br b _ _) c9) ?_
  rw [Qac, e8, e9]
  refine Eq.trans (congrArg (fun b => br b _ _) c13) ?_
  rfl
def QLa : Ent := specS [.ptr 50000 0, .ty .str] [.box Qau] (fun x y => (epOk y.1 x.2.1)) (fun x y => (.ag [(.t .str ((epV y.1 x.2.1).1)), (.t tI (((epV y.1 x.2.1).2).1)), (.t tI ((((epV y.1 x.2.1).2).2).1)), (.ms 50001), (.t .bool ((((((epV y.1 x.2.1).2).2).2).2).1)), (.ms 50002), (.t (.sl tI) ((((((((epV y.1 x.2.1).2).2).2).2).2).2).1)), (.t (.sl tI) (((((((((epV y.1 x.2.1).2).2).2).2).2).2).2).1)), (.t .bool ((((((((((epV y.1 x.2.1).2).2).2).2).2).2).2).2).1))])) (fun x y => [.box (.t Qau (epN y.1 x.2.1)), .arr 3 tI (((((epV y.1 x.2.1).2).2).2).1), .arr 60 Qak (((((((epV y.1 x.2.1).2).2).2).2).2).1)])
theorem ms_f31 : Meets Tryz.prog 31 (strip QLa) := QaI (R := runF g_f31 Qz9 QL8 true) (mG Tryz.func31 (by kernel_rfl) Tryz.ntmps31 (by kernel_rfl) gk_f31 lk_f31) fun x y hok => (e_f31 y.1 x.2.1).trans (s_f31 y.1 x.2.1 hok)
end
end Go.Proofs.YtkngeegkjhipeaaGreat.K
