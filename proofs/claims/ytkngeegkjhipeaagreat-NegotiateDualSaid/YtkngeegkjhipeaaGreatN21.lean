import Derived.Test.YtkngeegkjhipeaaGreatN20
set_option linter.unusedSimpArgs false
set_option linter.unusedVariables false
namespace Go.Proofs.YtkngeegkjhipeaaGreat.K
open Go.RowKit
noncomputable section
abbrev sApp : ByteArray := ByteArray.mk #[97, 112, 112]
abbrev sWeb : ByteArray := ByteArray.mk #[119, 101, 98]
theorem QBj (l : List Int) : (sortS l).length = l.length := by
 unfold sortS
 have : ∀ (l a : List Int), (l.foldl insS a).length = a.length + l.length := by
  intro l
  induction l with
  | nil => intro a; rfl
  | cons x r ih =>
   intro a
   rw [List.foldl_cons, ih, QwY, List.length_cons]
   omega
 rw [this]
 simp
theorem QG9 {d : Dice} (h : dOk d = true) : (suiV d).length ≤ 10 := by
 have := (QAn h).2
 unfold suiV
 cases done (suI d).2 4
 ·exact this
 ·rw [cond_true, QBj]
  exact this
theorem QJG {d : Dice} {nm : ByteArray} (h : dOk d = true) : dOk (eIdz d nm).2 = true := by
 have k4 := Qat (n := 2) (Qat (n := 2) (Qqz (QaZ (l := [1, 1, 2, 3]) h)))
 have k6 := Qat (n := 3) (Qat (n := 5 - eL0 d) k4)
 have k7 : dOk (eD7 d) = true := by
  unfold eD7
  cases eB d
  ·exact k6
  ·exact QaZ (l := [3, 4, 2]) k6
 exact (QwZ (dof (eD7 d) [1, 2, 1, 3, 0]).toNat nm (eD8 d) (QaZ (l := [1, 2, 1, 3, 0]) k7)).1
theorem QxM {d : Dice} {nm : ByteArray} (h : dOk d = true) : dOk (epN d nm) = true := Qat (n := 3) (Qat (n := 5) (QJG h))
def prZ : List Int → List Int → Dice → List Int × Dice
 | [], s, d => (s, d)
 | x :: r, s, d => if ilt (llen s) 16 = true then (if hasF s x = true then prZ r s d else if done d 2 = true then prZ r (s ++ [x]) (dnext d 2) else prZ r s (dnext d 2)) else (s, d)
abbrev pD1 (d : Dice) : Dice := epN d sApp
abbrev pD2 (d : Dice) : Dice := epN (pD1 d) sWeb
abbrev pD3 (d : Dice) : Dice := dnext (pD2 d) 3
abbrev pD4 (d : Dice) : Dice := dnext (pD3 d) 3
abbrev pB1 (d : Dice) : Bool := igt (dval (pD2 d) 3) 0
abbrev pB2 (d : Dice) : Bool := igt (dval (pD3 d) 3) 0
abbrev pC0 (d : Dice) : Qad := epV d sApp
abbrev pS0 (d : Dice) : Qad := epV (pD1 d) sWeb
def pAn (d : Dice) : List Int := bif pB1 d then [1, 2] else eAnch (pC0 d)
def pHs (d : Dice) : List Int := bif pB1 d then [1, 2, 3, 4] else eHash (pC0 d)
def pSz (d : Dice) : List Int × Dice := bif pB2 d && igt (llen (Qao (pC0 d))) 0 then prZ (Qao (pC0 d)) (Qao (pS0 d)) (pD4 d) else (Qao (pS0 d), pD4 d)
def prC (d : Dice) : Qad := ((pC0 d).1, ((pC0 d).2.1, ((pC0 d).2.2.1, (Qao (pC0 d), ((pC0 d).2.2.2.2.1, (eIds (pC0 d), (pAn d, (pHs d, ((pC0 d).2.2.2.2.2.2.2.2.1, ())))))))))
def prS (d : Dice) : Qad := ((pS0 d).1, ((pS0 d).2.1, ((pS0 d).2.2.1, ((pSz d).1, ((pS0 d).2.2.2.2.1, (eIds (pS0 d), (eAnch (pS0 d), (eHash (pS0 d), ((pS0 d).2.2.2.2.2.2.2.2.1, ())))))))))
def prV (d : Dice) : Qad × Qad := (prC d, prS d)
def prN (d : Dice) : Dice := (pSz d).2
noncomputable def QJE : List DO := dT Tryz.f10 7
noncomputable def QJD : List DO := dT Tryz.f10 8
noncomputable def QJC : List DO := dT Tryz.f10 10
def QiJ : Fg := ⟨[(0, none), (2, none), (3, none), (4, none), (5, none), (6, some tI)], [(2, some Qai), (3, some Qai), (4, none), (5, none), (8, none), (10, none), (61, none), (5008, none), (5010, none), (10008, none), (10010, none), (15008, none), (15010, none), (20503, none), (50000, some Qau)]⟩
noncomputable def Qkr : TC := (.sq (.sq (.reg (rT Tryz.f10 6)) (.cd (.t 37) .sk (.fg ⟨[(2, none), (3, none), (4, none), (5, none)], [(2, some Qai), (3, some Qai), (4, some Qai), (5, some Qai), (8, none), (10, none), (61, none), (5008, none), (5010, none), (10008, none), (10010, none), (15008, none), (15010, none), (20503, none), (50000, some Qau)]⟩ (.ex 0)))) (.sq (.bk 1 (.sq (.dr QJE [(0, [5, 10, 61, 5010, 10010, 15010, 20503]), (1, [5, 10, 61, 5010, 10010, 15010, 20503]), (2, [4, 8, 5008, 10008, 15008]), (3, [4, 8, 5008, 10008, 15008]), (4, []), (5, [8, 5008, 10008, 15008]), (6, [8, 5008, 10008, 15008]), (7, [3, 5, 10, 47, 61, 5010, 5047, 10010, 10047, 15010, 15047, 20503]), (8, []), (9, []), (10, [50000]), (11, [51, 5051, 10051, 15051, 50000]), (12, [])] (.of [0, 1, 2, 3, 4, 5, 6, 7, 8, 9, 10, 11, 12])) (.cd (.t 52) (.dr QJD [(0, [5, 10, 61, 5010, 10010, 15010, 20503]), (1, [5, 10, 61, 5010, 10010, 15010, 20503]), (2, [4, 8, 5008, 10008, 15008]), (3, [4, 8, 5008, 10008, 15008]), (4, []), (5, [8, 5008, 10008, 15008]), (6, [8, 5008, 10008, 15008]), (7, []), (8, [3, 5, 10, 61, 5010, 5061, 10010, 10061, 15010, 15061, 20503]), (9, [5, 10, 61, 5010, 10010, 15010, 20503]), (10, [3, 5, 10, 61, 5010, 10010, 15010, 20503])] (.of [0, 1, 2, 3, 4, 5, 6, 7, 8, 9, 10])) .sk))) (.reg (rT Tryz.f10 9))))
noncomputable def QAl : TC := (.sq (.reg (rT Tryz.f10 0)) (.sq (.reg (rT Tryz.f10 1)) (.sq (.sq (.reg (rT Tryz.f10 2)) (.cd (.t 13) (.reg (rT Tryz.f10 3)) .sk)) (.sq (.sq (.reg (rT Tryz.f10 4)) (.cd (.t 26) (.sq (.reg (rT Tryz.f10 5)) (.bk 0 (.nf 5 3 3 20503 (.lp 0 QiJ Qkr)))) .sk)) (.sq (.dr QJC [(0, [4, 8, 5008, 10008, 15008]), (1, [5, 10, 61, 5010, 10010, 15010, 20503]), (2, [2, 4, 8, 5008, 10008, 15008]), (3, [3, 5, 10, 61, 5010, 10010, 15010, 20503])] (.of [0, 1, 2, 3])) .rt)))))
def QMk : List (RV × Option Ty) := [((.c 2 true 9), none), ((.c 3 true 9), none)]
abbrev Qpq : Sh := ⟨[(0, .ptr 50000 0), (2, .ptr 2 0), (3, .ptr 3 0), (4, .ptr 4 0), (5, .ptr 5 0), (6, .ty tI)], [(2, .box Qai), (3, .box Qai), (4, .bag [.ty .str, .ty tI, .ty tI, .ms 8, .ty .bool, .ms 5008, .ty (.sl tI), .ty (.sl tI), .ty .bool]), (5, .bag [.ty .str, .ty tI, .ty tI, .ms 10, .ty .bool, .ms 5010, .ty (.sl tI), .ty (.sl tI), .ty .bool]), (8, .arr 3 tI), (10, .arr 3 tI), (61, .no), (5008, .arr 60 Qak), (5010, .arr 60 Qak), (10008, .no), (10010, .no), (15008, .no), (15010, .no), (20503, .no), (50000, .box Qau)]⟩
def Qhu (x6 : Int) (y2 y3 : Qad) (y4_0 : ByteArray) (y4_1 y4_2 : Int) (y4_4 : Bool) (y4_6 y4_7 : List Int) (y4_8 : Bool) (y5_0 : ByteArray) (y5_1 y5_2 : Int) (y5_4 : Bool) (y5_6 y5_7 : List Int) (y5_8 : Bool) (y8 y10 : List Int) (y5008 y5010 : List Qal) (y50000 : Dice) : VS := Qpq.st ((), (), (), (), (), x6, ()) (y2, y3, (y4_0, y4_1, y4_2, (), y4_4, (), y4_6, y4_7, y4_8, ()), (y5_0, y5_1, y5_2, (), y5_4, (), y5_6, y5_7, y5_8, ()), y8, y10, (), y5008, y5010, (), (), (), (), (), y50000, ())
abbrev QuN : Sh := ⟨[(2, .ptr 2 0), (3, .ptr 3 0), (4, .ptr 4 0), (5, .ptr 5 0)], [(2, .box Qai), (3, .box Qai), (4, .bag [.ty .str, .ty tI, .ty tI, .ms 8, .ty .bool, .ms 5008, .ty (.sl tI), .ty (.sl tI), .ty .bool]), (5, .bag [.ty .str, .ty tI, .ty tI, .ms 10, .ty .bool, .ms 5010, .ty (.sl tI), .ty (.sl tI), .ty .bool]), (8, .arr 3 tI), (10, .arr 3 tI), (61, .no), (5008, .arr 60 Qak), (5010, .arr 60 Qak), (10008, .no), (10010, .no), (15008, .no), (15010, .no), (20503, .no), (50000, .box Qau)]⟩
def Qb3 (y2 y3 : Qad) (y4_0 : ByteArray) (y4_1 y4_2 : Int) (y4_4 : Bool) (y4_6 y4_7 : List Int) (y4_8 : Bool) (y5_0 : ByteArray) (y5_1 y5_2 : Int) (y5_4 : Bool) (y5_6 y5_7 : List Int) (y5_8 : Bool) (y8 y10 : List Int) (y5008 y5010 : List Qal) (y50000 : Dice) : VS := QuN.st ((), (), (), (), ()) (y2, y3, (y4_0, y4_1, y4_2, (), y4_4, (), y4_6, y4_7, y4_8, ()), (y5_0, y5_1, y5_2, (), y5_4, (), y5_6, y5_7, y5_8, ()), y8, y10, (), y5008, y5010, (), (), (), (), (), y50000, ())
def QRz : VS → Option (Bool × List (Bool × Exit × VS)) := mkL Qpq (fun x y => (decide (0 ≤ x.2.2.2.2.2.1 ∧ x.2.2.2.2.2.1 ≤ y.2.2.2.2.1.length ∧ y.2.2.2.2.1.length ≤ 100 ∧ y.2.2.2.2.2.1.length ≤ 100) && dOk y.2.2.2.2.2.2.2.2.2.2.2.2.2.2.1)) (fun x y => [(true, .exit 0, Qb3 (y.1) (y.2.1) (y.2.2.1.1) (y.2.2.1.2.1) (y.2.2.1.2.2.1) (y.2.2.1.2.2.2.2.1) (y.2.2.1.2.2.2.2.2.2.1) (y.2.2.1.2.2.2.2.2.2.2.1) (y.2.2.1.2.2.2.2.2.2.2.2.1) (y.2.2.2.1.1) (y.2.2.2.1.2.1) (y.2.2.2.1.2.2.1) (y.2.2.2.1.2.2.2.2.1) (y.2.2.2.1.2.2.2.2.2.2.1) (y.2.2.2.1.2.2.2.2.2.2.2.1) (y.2.2.2.1.2.2.2.2.2.2.2.2.1) (y.2.2.2.2.1) ((prZ (y.2.2.2.2.1.drop x.2.2.2.2.2.1.toNat) y.2.2.2.2.2.1 y.2.2.2.2.2.2.2.2.2.2.2.2.2.2.1).1) (y.2.2.2.2.2.2.2.1) (y.2.2.2.2.2.2.2.2.1) ((prZ (y.2.2.2.2.1.drop x.2.2.2.2.2.1.toNat) y.2.2.2.2.2.1 y.2.2.2.2.2.2.2.2.2.2.2.2.2.2.1).2))])
def g_f10 : G := ⟨TYs, [], 65, EL [(27, Qud), (31, QLa), (32, Qjy), (33, Qq8)], (27 :: keeps), (Ls [QRz]), IL [], RL []⟩
def QGM (x6 : Int) (y2 y3 : Qad) (y4_0 : ByteArray) (y4_1 y4_2 : Int) (y4_4 : Bool) (y4_6 y4_7 : List Int) (y4_8 : Bool) (y5_0 : ByteArray) (y5_1 y5_2 : Int) (y5_4 : Bool) (y5_6 y5_7 : List Int) (y5_8 : Bool) (y8 y10 : List Int) (y5008 y5010 : List Qal) (y50000 : Dice) : Option (Exit × VS) :=
 let a1 := lgt tI y8 (Int.toNat x6)
 let a2 := iadd .i64 x6 1
 let a3 := cLd y8 (Int.toNat x6)
 br (ilt x6 (llen y8)) (br (ilt (llen y10) 16) (br (cIx y8 x6) (br a3 (br (QaY y10 a1) (br (!(hasF y10 a1)) (br (oneOk y50000 2) (br (done y50000 2) (br (cIx y8 x6) (br a3 (br (cApp y10 ([a1]) 8) (some (.normal, Qhu a2 y2 y3 y4_0 y4_1 y4_2 y4_4 y4_6 y4_7 y4_8 y5_0 y5_1 y5_2 y5_4 y5_6 y5_7 y5_8 y8 (y10 ++ ([a1])) y5008 y5010 (dnext y50000 2))) none) none) none) (some (.normal, Qhu a2 y2 y3 y4_0 y4_1 y4_2 y4_4 y4_6 y4_7 y4_8 y5_0 y5_1 y5_2 y5_4 y5_6 y5_7 y5_8 y8 y10 y5008 y5010 (dnext y50000 2)))) none) (some (.normal, Qhu a2 y2 y3 y4_0 y4_1 y4_2 y4_4 y4_6 y4_7 y4_8 y5_0 y5_1 y5_2 y5_4 y5_6 y5_7 y5_8 y8 y10 y5008 y5010 y50000))) none) none) none) (some (.exit 0, Qb3 y2 y3 y4_0 y4_1 y4_2 y4_4 y4_6 y4_7 y4_8 y5_0 y5_1 y5_2 y5_4 y5_6 y5_7 y5_8 y8 y10 y5008 y5010 y50000))) (some (.exit 0, Qb3 y2 y3 y4_0 y4_1 y4_2 y4_4 y4_6 y4_7 y4_8 y5_0 y5_1 y5_2 y5_4 y5_6 y5_7 y5_8 y8 y10 y5008 y5010 y50000))
noncomputable def QeK (x6 : Int) (y2 y3 : Qad) (y4_0 : ByteArray) (y4_1 y4_2 : Int) (y4_4 : Bool) (y4_6 y4_7 : List Int) (y4_8 : Bool) (y5_0 : ByteArray) (y5_1 y5_2 : Int) (y5_4 : Bool) (y5_6 y5_7 : List Int) (y5_8 : Bool) (y8 y10 : List Int) (y5008 y5010 : List Qal) (y50000 : Dice) : Option (Exit × VS) := loopF (Qaj g_f10 QiJ Qkr) (Qhu x6 y2 y3 y4_0 y4_1 y4_2 y4_4 y4_6 y4_7 y4_8 y5_0 y5_1 y5_2 y5_4 y5_6 y5_7 y5_8 y8 y10 y5008 y5010 y50000)
noncomputable def Qqc (x6 : Int) (y2 y3 : Qad) (y4_0 : ByteArray) (y4_1 y4_2 : Int) (y4_4 : Bool) (y4_6 y4_7 : List Int) (y4_8 : Bool) (y5_0 : ByteArray) (y5_1 y5_2 : Int) (y5_4 : Bool) (y5_6 y5_7 : List Int) (y5_8 : Bool) (y8 y10 : List Int) (y5008 y5010 : List Qal) (y50000 : Dice) : Option (Exit × VS) :=
 let a1 := lgt tI y8 (Int.toNat x6)
 let a2 := iadd .i64 x6 1
 let a3 := cLd y8 (Int.toNat x6)
 br (ilt x6 (llen y8)) (br (ilt (llen y10) 16) (br (cIx y8 x6) (br a3 (br (QaY y10 a1) (br (!(hasF y10 a1)) (br (oneOk y50000 2) (br (done y50000 2) (br (cIx y8 x6) (br a3 (br (cApp y10 ([a1]) 8) (QeK a2 y2 y3 y4_0 y4_1 y4_2 y4_4 y4_6 y4_7 y4_8 y5_0 y5_1 y5_2 y5_4 y5_6 y5_7 y5_8 y8 (y10 ++ ([a1])) y5008 y5010 (dnext y50000 2)) none) none) none) (QeK a2 y2 y3 y4_0 y4_1 y4_2 y4_4 y4_6 y4_7 y4_8 y5_0 y5_1 y5_2 y5_4 y5_6 y5_7 y5_8 y8 y10 y5008 y5010 (dnext y50000 2))) none) (QeK a2 y2 y3 y4_0 y4_1 y4_2 y4_4 y4_6 y4_7 y4_8 y5_0 y5_1 y5_2 y5_4 y5_6 y5_7 y5_8 y8 y10 y5008 y5010 y50000)) none) none) none) (some (.exit 0, Qb3 y2 y3 y4_0 y4_1 y4_2 y4_4 y4_6 y4_7 y4_8 y5_0 y5_1 y5_2 y5_4 y5_6 y5_7 y5_8 y8 y10 y5008 y5010 y50000))) (some (.exit 0, Qb3 y2 y3 y4_0 y4_1 y4_2 y4_4 y4_6 y4_7 y4_8 y5_0 y5_1 y5_2 y5_4 y5_6 y5_7 y5_8 y8 y10 y5008 y5010 y50000))
def Qgj (x6 : Int) (y2 y3 : Qad) (y4_0 : ByteArray) (y4_1 y4_2 : Int) (y4_4 : Bool) (y4_6 y4_7 : List Int) (y4_8 : Bool) (y5_0 : ByteArray) (y5_1 y5_2 : Int) (y5_4 : Bool) (y5_6 y5_7 : List Int) (y5_8 : Bool) (y8 y10 : List Int) (y5008 y5010 : List Qal) (y50000 : Dice) : Option (Exit × VS) :=
 let a1 := prZ (y8.drop x6.toNat) y10 y50000
 some (.exit 0, Qb3 (y2) (y3) (y4_0) (y4_1) (y4_2) (y4_4) (y4_6) (y4_7) (y4_8) (y5_0) (y5_1) (y5_2) (y5_4) (y5_6) (y5_7) (y5_8) (y8) (a1.1) (y5008) (y5010) (a1.2))
theorem QJ8 (x6 : Int) (y2 y3 : Qad) (y4_0 : ByteArray) (y4_1 y4_2 : Int) (y4_4 : Bool) (y4_6 y4_7 : List Int) (y4_8 : Bool) (y5_0 : ByteArray) (y5_1 y5_2 : Int) (y5_4 : Bool) (y5_6 y5_7 : List Int) (y5_8 : Bool) (y8 y10 : List Int) (y5008 y5010 : List Qal) (y50000 : Dice) : Qaj g_f10 QiJ Qkr (Qhu x6 y2 y3 y4_0 y4_1 y4_2 y4_4 y4_6 y4_7 y4_8 y5_0 y5_1 y5_2 y5_4 y5_6 y5_7 y5_8 y8 y10 y5008 y5010 y50000) = QGM x6 y2 y3 y4_0 y4_1 y4_2 y4_4 y4_6 y4_7 y4_8 y5_0 y5_1 y5_2 y5_4 y5_6 y5_7 y5_8 y8 y10 y5008 y5010 y50000 := by kernel_rfl
theorem QwT (x6 : Int) (y2 y3 : Qad) (y4_0 : ByteArray) (y4_1 y4_2 : Int) (y4_4 : Bool) (y4_6 y4_7 : List Int) (y4_8 : Bool) (y5_0 : ByteArray) (y5_1 y5_2 : Int) (y5_4 : Bool) (y5_6 y5_7 : List Int) (y5_8 : Bool) (y8 y10 : List Int) (y5008 y5010 : List Qal) (y50000 : Dice) : QeK x6 y2 y3 y4_0 y4_1 y4_2 y4_4 y4_6 y4_7 y4_8 y5_0 y5_1 y5_2 y5_4 y5_6 y5_7 y5_8 y8 y10 y5008 y5010 y50000 = Qqc x6 y2 y3 y4_0 y4_1 y4_2 y4_4 y4_6 y4_7 y4_8 y5_0 y5_1 y5_2 y5_4 y5_6 y5_7 y5_8 y8 y10 y5008 y5010 y50000 := (Qaq _ _).trans (by
 rw [QJ8]
 simp only [QGM, Qqc, QaE, nxt_n, nxt_r, nxt_e, nxt_0]
 rfl)
def r_f10 (d0 : Dice) : Option (V × List VO) :=
 let a16 := (ByteArray.mk #[97, 112, 112])
 let a1 := (epV (epN d0 a16) (ByteArray.mk #[119, 101, 98]))
 let a2 := epV d0 a16
 let a3 := (epN (epN d0 a16) (ByteArray.mk #[119, 101, 98]))
 let a7 := (((a1.2).2).2)
 let a4 := ((a7.2).2)
 let a5 := (((a2.2).2).2)
 let a9 := dnext (dnext a3 3) 3
 let a6 := (prZ ((a5.1).drop (0 : Int).toNat) (a7.1) a9)
 let a8 := (((a5.2).2).2)
 let a10 := ((((a4.2).2).2).1)
 let a11 := (((a2.2).2).1)
 let a12 := (((a8.2).2).1)
 let a13 := (((a1.2).2).1)
 let a14 := (((a4.2).2).1)
 let a15 := (((a5.2).2).1)
 let a17 := igt (dval (dnext a3 3) 3) 0
 let a18 := QaN (dnext a3 3) 3
 br (epOk d0 a16) (br (epOk (epN d0 a16) (ByteArray.mk #[119, 101, 98])) (br (QaN a3 3) (br (igt (dval a3 3) 0) (br a18 (br a17 (br (igt (llen (a5.1)) 0) (br (decide (0 ≤ (0 : Int) ∧ (0 : Int) ≤ (a5.1).length ∧ (a5.1).length ≤ 100 ∧ (a7.1).length ≤ 100) && dOk a9) (some (.tu [(.ag [(.t .str (a2.1)), (.t tI ((a2.2).1)), (.t tI a11), (.ms 50001), (.t .bool ((a5.2).1)), (.ms 50002), (.t (.sl tI) ([1, 2])), (.t (.sl tI) ([1, 2, 3, 4])), (.t .bool a12)]), (.ag [(.t .str (a1.1)), (.t tI ((a1.2).1)), (.t tI a13), (.ms 50003), (.t .bool ((a7.2).1)), (.ms 50004), (.t (.sl tI) ((a4.2).1)), (.t (.sl tI) a14), (.t .bool a10)])], [.box (.t Qau (a6.2)), .arr 3 tI (a5.1), .arr 60 Qak a15, .arr 3 tI (a6.1), .arr 60 Qak (a4.1)])) none) (some (.tu [(.ag [(.t .str (a2.1)), (.t tI ((a2.2).1)), (.t tI a11), (.ms 50001), (.t .bool ((a5.2).1)), (.ms 50002), (.t (.sl tI) ([1, 2])), (.t (.sl tI) ([1, 2, 3, 4])), (.t .bool a12)]), (.ag [(.t .str (a1.1)), (.t tI ((a1.2).1)), (.t tI a13), (.ms 50003), (.t .bool ((a7.2).1)), (.ms 50004), (.t (.sl tI) ((a4.2).1)), (.t (.sl tI) a14), (.t .bool a10)])], [.box (.t Qau a9), .arr 3 tI (a5.1), .arr 60 Qak a15, .arr 3 tI (a7.1), .arr 60 Qak (a4.1)]))) (some (.tu [(.ag [(.t .str (a2.1)), (.t tI ((a2.2).1)), (.t tI a11), (.ms 50001), (.t .bool ((a5.2).1)), (.ms 50002), (.t (.sl tI) ([1, 2])), (.t (.sl tI) ([1, 2, 3, 4])), (.t .bool a12)]), (.ag [(.t .str (a1.1)), (.t tI ((a1.2).1)), (.t tI a13), (.ms 50003), (.t .bool ((a7.2).1)), (.ms 50004), (.t (.sl tI) ((a4.2).1)), (.t (.sl tI) a14), (.t .bool a10)])], [.box (.t Qau a9), .arr 3 tI (a5.1), .arr 60 Qak a15, .arr 3 tI (a7.1), .arr 60 Qak (a4.1)]))) none) (br a18 (br a17 (br (igt (llen (a5.1)) 0) (br (decide (0 ≤ (0 : Int) ∧ (0 : Int) ≤ (a5.1).length ∧ (a5.1).length ≤ 100 ∧ (a7.1).length ≤ 100) && dOk a9) (some (.tu [(.ag [(.t .str (a2.1)), (.t tI ((a2.2).1)), (.t tI a11), (.ms 50001), (.t .bool ((a5.2).1)), (.ms 50002), (.t (.sl tI) (a8.1)), (.t (.sl tI) ((a8.2).1)), (.t .bool a12)]), (.ag [(.t .str (a1.1)), (.t tI ((a1.2).1)), (.t tI a13), (.ms 50003), (.t .bool ((a7.2).1)), (.ms 50004), (.t (.sl tI) ((a4.2).1)), (.t (.sl tI) a14), (.t .bool a10)])], [.box (.t Qau (a6.2)), .arr 3 tI (a5.1), .arr 60 Qak a15, .arr 3 tI (a6.1), .arr 60 Qak (a4.1)])) none) (some (.tu [(.ag [(.t .str (a2.1)), (.t tI ((a2.2).1)), (.t tI a11), (.ms 50001), (.t .bool ((a5.2).1)), (.ms 50002), (.t (.sl tI) (a8.1)), (.t (.sl tI) ((a8.2).1)), (.t .bool a12)]), (.ag [(.t .str (a1.1)), (.t tI ((a1.2).1)), (.t tI a13), (.ms 50003), (.t .bool ((a7.2).1)), (.ms 50004), (.t (.sl tI) ((a4.2).1)), (.t (.sl tI) a14), (.t .bool a10)])], [.box (.t Qau a9), .arr 3 tI (a5.1), .arr 60 Qak a15, .arr 3 tI (a7.1), .arr 60 Qak (a4.1)]))) (some (.tu [(.ag [(.t .str (a2.1)), (.t tI ((a2.2).1)), (.t tI a11), (.ms 50001), (.t .bool ((a5.2).1)), (.ms 50002), (.t (.sl tI) (a8.1)), (.t (.sl tI) ((a8.2).1)), (.t .bool a12)]), (.ag [(.t .str (a1.1)), (.t tI ((a1.2).1)), (.t tI a13), (.ms 50003), (.t .bool ((a7.2).1)), (.ms 50004), (.t (.sl tI) ((a4.2).1)), (.t (.sl tI) a14), (.t .bool a10)])], [.box (.t Qau a9), .arr 3 tI (a5.1), .arr 60 Qak a15, .arr 3 tI (a7.1), .arr 60 Qak (a4.1)]))) none)) none) none) none
theorem e_f10 (d0 : Dice) : runF g_f10 QAl QMk true [.ptr 50000 0] [.box (.t Qau d0)] = r_f10 d0 := by kernel_rfl
theorem en_f10 : Qag Tryz.prog 10 := .inr ⟨by decide, _, Tryz.func10, by kernel_rfl, by kernel_rfl⟩
theorem gk_f10 : GOk Tryz.prog g_f10 := Qan _ (gA (gC QMW QDp (gC en_f31 ms_f31 (gC QnD Qm3 (gC QxG Qwv gN)))))
theorem QPu (x6 : Int) (y2 y3 : Qad) (y4_0 : ByteArray) (y4_1 y4_2 : Int) (y4_4 : Bool) (y4_6 y4_7 : List Int) (y4_8 : Bool) (y5_0 : ByteArray) (y5_1 y5_2 : Int) (y5_4 : Bool) (y5_6 y5_7 : List Int) (y5_8 : Bool) (y8 y10 : List Int) (y5008 y5010 : List Qal) (y50000 : Dice) (h : (decide (0 ≤ x6 ∧ x6 ≤ y8.length ∧ y8.length ≤ 100 ∧ y10.length ≤ 100) && dOk y50000) = true) : QeK x6 y2 y3 y4_0 y4_1 y4_2 y4_4 y4_6 y4_7 y4_8 y5_0 y5_1 y5_2 y5_4 y5_6 y5_7 y5_8 y8 y10 y5008 y5010 y50000 = Qgj x6 y2 y3 y4_0 y4_1 y4_2 y4_4 y4_6 y4_7 y4_8 y5_0 y5_1 y5_2 y5_4 y5_6 y5_7 y5_8 y8 y10 y5008 y5010 y50000 := by
 obtain ⟨h, hd⟩ := Bool.and_eq_true_iff.1 h
 obtain ⟨h0, h1, h2, h3⟩ := of_decide_eq_true h
 clear h
 obtain ⟨k, rfl⟩ := Int.eq_ofNat_of_zero_le h0
 have key : ∀ k, k ≤ y8.length → ∀ (y10 : List Int) (y50000 : Dice), y10.length ≤ 100 → dOk y50000 = true → QeK (k : Int) y2 y3 y4_0 y4_1 y4_2 y4_4 y4_6 y4_7 y4_8 y5_0 y5_1 y5_2 y5_4 y5_6 y5_7 y5_8 y8 y10 y5008 y5010 y50000 = Qgj (k : Int) y2 y3 y4_0 y4_1 y4_2 y4_4 y4_6 y4_7 y4_8 y5_0 y5_1 y5_2 y5_4 y5_6 y5_7 y5_8 y8 y10 y5008 y5010 y50000 := by
  refine Qav y8 (fun k => ∀ (y10 : List Int) (y50000 : Dice), y10.length ≤ 100 → dOk y50000 = true → QeK (k : Int) y2 y3 y4_0 y4_1 y4_2 y4_4 y4_6 y4_7 y4_8 y5_0 y5_1 y5_2 y5_4 y5_6 y5_7 y5_8 y8 y10 y5008 y5010 y50000 = Qgj (k : Int) y2 y3 y4_0 y4_1 y4_2 y4_4 y4_6 y4_7 y4_8 y5_0 y5_1 y5_2 y5_4 y5_6 y5_7 y5_8 y8 y10 y5008 y5010 y50000) ?_ ?_
  ·intro y10 y50000 _ _
   rw [QwT]
   simp only [Qqc, Qgj, show ilt (y8.length : Int) (llen y8) = false from decide_eq_false (by simp only [llen]; omega), Qae, Int.toNat_natCast, List.drop_length, prZ]
  ·intro k hk ih y10 y50000 hy hd
   rw [QwT]
   have c1 : cLd y8 k = true := decide_eq_true (by omega)
   have c2 : ∀ v, QaY y10 v = true := fun v => decide_eq_true (by omega)
   have c3 : oneOk y50000 2 = true := Qdz hd (by omega) (by omega)
   have c4 : ∀ v, cApp y10 [v] 8 = true := fun v => cAppN (by omega) (by simp only [List.length_singleton]; omega)
   simp only [Qqc, show ilt (k : Int) (llen y8) = true from decide_eq_true (by simp only [llen]; omega), Qay, hk, decide_true, Qac, Int.toNat_natCast, add1 (show k < 4611686018427387904 by omega), QaG (y := tI) hk, c1, c2, c3, c4]
   by_cases hl : ilt (llen y10) 16 = true
   ·have hl2 : y10.length < 16 := by have := of_decide_eq_true hl; simp only [llen] at this; omega
    rw [ih y10 y50000 hy hd, ih y10 (dnext y50000 2) hy (Qat hd), ih (y10 ++ [y8[k]]) (dnext y50000 2) (by simp only [List.length_append, List.length_singleton]; omega) (Qat hd)]
    simp only [Qgj, Int.toNat_natCast, List.drop_eq_getElem_cons hk, prZ, hl, Qac, if_true]
    cases hasF y10 y8[k] <;> cases done y50000 2 <;> rfl
   ·rw [Bool.not_eq_true] at hl
    simp only [Qgj, Int.toNat_natCast, List.drop_eq_getElem_cons hk, prZ, hl, Qae, Bool.false_eq_true, if_false]
 exact key k (by omega) _ _ h3 hd
theorem QId : ∀ S l p, g_f10.L 0 (fgt QiJ S) = some (true, l) → pickA l = some p → loopF (Qaj g_f10 QiJ Qkr) S = some p :=
 QaF (s := Qpq) ⟨by decide, by decide⟩ (by kernel_rfl) fun x y hok p hp => by
 simp only [Qas, Qap] at hp
 exact (QPu x.2.2.2.2.2.1 y.1 y.2.1 y.2.2.1.1 y.2.2.1.2.1 y.2.2.1.2.2.1 y.2.2.1.2.2.2.2.1 y.2.2.1.2.2.2.2.2.2.1 y.2.2.1.2.2.2.2.2.2.2.1 y.2.2.1.2.2.2.2.2.2.2.2.1 y.2.2.2.1.1 y.2.2.2.1.2.1 y.2.2.2.1.2.2.1 y.2.2.2.1.2.2.2.2.1 y.2.2.2.1.2.2.2.2.2.2.1 y.2.2.2.1.2.2.2.2.2.2.2.1 y.2.2.2.1.2.2.2.2.2.2.2.2.1 y.2.2.2.2.1 y.2.2.2.2.2.1 y.2.2.2.2.2.2.2.1 y.2.2.2.2.2.2.2.2.1 y.2.2.2.2.2.2.2.2.2.2.2.2.2.2.1 (by simpa using hok)).trans hp
theorem lk_f10 : QAl.lok g_f10 := by
 repeat (first | exact trivial | exact QId | refine ⟨?_, ?_⟩)
theorem QbY {d : Dice} {nm : ByteArray} (h : dOk d = true) : (Qao (epV d nm)).length ≤ 10 := QG9 (QaZ (l := [1, 1, 2, 3]) h)
attribute [local irreducible] epV epN prZ
set_option maxRecDepth 100000 in
theorem s_f10 (d : Dice) (h : dOk d = true) : r_f10 d = some (.tu [.ag [.t .str (prC d).1, .t tI (prC d).2.1, .t tI (prC d).2.2.1, .ms 50001, .t .bool (prC d).2.2.2.2.1, .ms 50002, .t (.sl tI) (pAn d), .t (.sl tI) (pHs d), .t .bool (prC d).2.2.2.2.2.2.2.2.1], .ag [.t .str (prS d).1, .t tI (prS d).2.1, .t tI (prS d).2.2.1, .ms 50003, .t .bool (prS d).2.2.2.2.1, .ms 50004, .t (.sl tI) (eAnch (pS0 d)), .t (.sl tI) (eHash (pS0 d)), .t .bool (prS d).2.2.2.2.2.2.2.2.1]], [.box (.t Qau (prN d)), .arr 3 tI (Qao (pC0 d)), .arr 60 Qak (eIds (pC0 d)), .arr 3 tI (pSz d).1, .arr 60 Qak (eIds (pS0 d))]) := by
 have k1 := QxM (nm := sApp) h
 have k2 := QxM (nm := sWeb) k1
 have k3 := Qat (n := 3) k2
 have k4 := Qat (n := 3) k3
 have c1 : epOk d sApp = true := Bool.and_eq_true_iff.2 ⟨h, rfl⟩
 have c2 : epOk (epN d sApp) sWeb = true := Bool.and_eq_true_iff.2 ⟨k1, rfl⟩
 have c3 : QaN (epN (epN d sApp) sWeb) 3 = true := Qa1 k2 (by omega)
 have c4 : QaN (dnext (epN (epN d sApp) sWeb) 3) 3 = true := Qa1 k3 (by omega)
 have l1 : (Qao (pC0 d)).length ≤ 10 := QbY h
 have l2 : (Qao (pS0 d)).length ≤ 10 := QbY k1
 have c5 : (decide ((0 : Int) ≤ 0 ∧ (0 : Int) ≤ (Qao (pC0 d)).length ∧ (Qao (pC0 d)).length ≤ 100 ∧ (Qao (pS0 d)).length ≤ 100) && dOk (pD4 d)) = true := Bool.and_eq_true_iff.2 ⟨decide_eq_true (by omega), k4⟩
 simp only [r_f10, c1, c2, c3, c4, c5, Qac, Int.toNat_zero, List.drop_zero]
 unfold prC prS prN pSz pAn pHs
 cases hb1 : pB1 d with
 | true =>
  refine Eq.trans (congrArg (fun b => br b _ _) hb1) ?_
  rw [Qac]
  cases hb2 : pB2 d with
  | true =>
   refine Eq.trans (congrArg (fun b => br b _ _) hb2) ?_
   rw [Qac]
   cases hb3 : igt (llen (Qao (pC0 d))) 0 with
   | true => rfl
   | false => rfl
  | false =>
   refine Eq.trans (congrArg (fun b => br b _ _) hb2) ?_
   rfl
 | false =>
  refine Eq.trans (congrArg (fun b => br b _ _) hb1) ?_
  rw [Qae]
  cases hb2 : pB2 d with
  | true =>
   refine Eq.trans (congrArg (fun b => br b _ _) hb2) ?_
   rw [Qac]
   cases hb3 : igt (llen (Qao (pC0 d))) 0 with
   | true => rfl
   | false => rfl
  | false =>
   refine Eq.trans (congrArg (fun b => br b _ _) hb2) ?_
   rfl
set_option maxRecDepth 100000
def QLj : Ent := specS [.ptr 50000 0] [.box Qau] (fun x y => (dOk y.1)) (fun x y => (.tu [(.ag [(.t .str (((prV y.1).1).1)), (.t tI ((((prV y.1).1).2).1)), (.t tI (((((prV y.1).1).2).2).1)), (.ms 50001), (.t .bool (((((((prV y.1).1).2).2).2).2).1)), (.ms 50002), (.t (.sl tI) (((((((((prV y.1).1).2).2).2).2).2).2).1)), (.t (.sl tI) ((((((((((prV y.1).1).2).2).2).2).2).2).2).1)), (.t .bool (((((((((((prV y.1).1).2).2).2).2).2).2).2).2).1))]), (.ag [(.t .str (((prV y.1).2).1)), (.t tI ((((prV y.1).2).2).1)), (.t tI (((((prV y.1).2).2).2).1)), (.ms 50003), (.t .bool (((((((prV y.1).2).2).2).2).2).1)), (.ms 50004), (.t (.sl tI) (((((((((prV y.1).2).2).2).2).2).2).2).1)), (.t (.sl tI) ((((((((((prV y.1).2).2).2).2).2).2).2).2).1)), (.t .bool (((((((((((prV y.1).2).2).2).2).2).2).2).2).2).1))])])) (fun x y => [.box (.t Qau (prN y.1)), .arr 3 tI ((((((prV y.1).1).2).2).2).1), .arr 60 Qak ((((((((prV y.1).1).2).2).2).2).2).1), .arr 3 tI ((((((prV y.1).2).2).2).2).1), .arr 60 Qak ((((((((prV y.1).2).2).2).2).2).2).1)])
theorem ms_f10 : Meets Tryz.prog 10 (strip QLj) := QaI (R := runF g_f10 QAl QMk true) (mG Tryz.func10 (by kernel_rfl) Tryz.ntmps10 (by kernel_rfl) gk_f10 lk_f10) fun x y hok => (e_f10 y.1).trans (s_f10 y.1 hok)
end
end Go.Proofs.YtkngeegkjhipeaaGreat.K
