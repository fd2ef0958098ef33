import Derived.Test.YtkngeegkjhipeaaGreatN35
set_option linter.unusedSimpArgs false
set_option linter.unusedVariables false
namespace Go.Proofs.YtkngeegkjhipeaaGreat.K
open Go.RowKit
noncomputable section
def keq (z o : Keep) : Bool := and (ieq z.1 o.1) (and (ieq z.2.1 o.2.1) true)
def badB (l : List Keep) (w : List Int) (o : Keep) : Bool := l.any fun z => ieq z.1 o.1 && befF w z.2.1 o.2.1
def fndB (l : List Keep) (o : Keep) : Bool := l.any fun z => keq z o
def bothT (_l : List Int) (_d : Int) : Bool := true
def QF4 (_l : List Int) (t : Int) : Bool := decide (0 ≤ t ∧ t ≤ 255)
noncomputable def QQX : List DO := dT Tryz.f4 11
noncomputable def QQW : List DO := dT Tryz.f4 19
noncomputable def QQV : List DO := dT Tryz.f4 20
def Qnv : Fg := ⟨[(8, none), (10, some (.sl Qaj)), (15, some (.sl tI)), (16, some .bool), (17, some tI)], [(8, some Qaj), (26, none), (5026, none), (10026, none), (15026, none)]⟩
noncomputable def QoF : TC := (.sq (.sq (.reg (rT Tryz.f4 18)) (.cd (.t 178) .sk (.fg ⟨[(16, some .bool)], []⟩ (.ex 0)))) (.sq (.bk 1 (.sq (.dr QQW [(0, []), (1, []), (2, []), (3, []), (4, []), (5, []), (6, [8]), (7, []), (8, []), (9, [])] (.of [0, 1, 2, 3, 4, 5, 6, 7, 8, 9])) (.sq (.dr QQV [(0, []), (1, []), (2, []), (3, []), (4, []), (5, [8]), (6, [8]), (7, []), (8, []), (9, [26, 5026, 10026, 15026]), (10, []), (11, []), (12, []), (13, []), (14, []), (15, [8]), (16, [8]), (17, [6, 7, 26, 207, 5026, 5207, 10026, 10207, 15026, 15207]), (18, [])] (.of [0, 1, 2, 3, 4, 5, 6, 7, 8, 9, 10, 11, 12, 13, 14, 15, 16, 17, 18])) (.cd (.t 208) (.sq (.reg (rT Tryz.f4 21)) (.fg ⟨[(4, some .bool)], []⟩ .rt)) .sk)))) (.reg (rT Tryz.f4 22))))
noncomputable def tc_f4 : TC := (.sq (.reg (rT Tryz.f4 0)) (.sq (.sq (.reg (rT Tryz.f4 1)) (.cd (.t 20) (.sq (.reg (rT Tryz.f4 2)) .rt) .sk)) (.sq (.reg (rT Tryz.f4 3)) (.sq (.reg (rT Tryz.f4 4)) (.sq (.reg (rT Tryz.f4 5)) (.sq (.reg (rT Tryz.f4 6)) (.sq (.sq (.reg (rT Tryz.f4 7)) (.cd (.t 41) (.sq (.reg (rT Tryz.f4 8)) .rt) .sk)) (.sq (.reg (rT Tryz.f4 9)) (.sq (.reg (rT Tryz.f4 10)) (.sq (.sq (.fz [26, 5026, 10026, 15026] (.dr QQX [(0, []), (1, []), (2, []), (3, []), (4, []), (5, []), (6, []), (7, []), (8, []), (9, []), (10, []), (11, []), (12, [7]), (13, [7]), (14, []), (15, []), (16, []), (17, []), (18, [8]), (19, [8]), (20, [6]), (21, [6]), (22, [7]), (23, [7]), (24, []), (25, []), (26, []), (27, []), (28, [8]), (29, [8]), (30, [6]), (31, [6]), (32, [7]), (33, [7]), (34, []), (35, []), (36, []), (37, []), (38, [8]), (39, [8]), (40, [11]), (41, [11]), (42, []), (43, []), (44, []), (45, [8]), (46, [8]), (47, [11]), (48, [11]), (49, []), (50, []), (51, []), (52, [6]), (53, [6]), (54, [8]), (55, [8]), (56, []), (57, []), (58, []), (59, []), (60, [7]), (61, [7]), (62, [8]), (63, [8]), (64, []), (65, []), (66, []), (67, []), (68, [11]), (69, [11]), (70, [11]), (71, []), (72, []), (73, [7]), (74, [7]), (75, []), (76, []), (77, []), (78, []), (79, []), (80, [11]), (81, [11]), (82, [11]), (83, []), (84, []), (85, [])] (.of [0, 1, 2, 3, 4, 5, 6, 7, 8, 9, 10, 11, 12, 13, 14, 15, 16, 17, 18, 19, 20, 21, 22, 23, 24, 25, 26, 27, 28, 29, 30, 31, 32, 33, 34, 35, 36, 37, 38, 39, 40, 41, 42, 43, 44, 45, 46, 47, 48, 49, 50, 51, 52, 53, 54, 55, 56, 57, 58, 59, 60, 61, 62, 63, 64, 65, 66, 67, 68, 69, 70, 71, 72, 73, 74, 75, 76, 77, 78, 79, 80, 81, 82, 83, 84, 85]))) (.cd (.t 168) (.sq (.reg (rT Tryz.f4 12)) .rt) .sk)) (.sq (.reg (rT Tryz.f4 13)) (.sq (.sq (.reg (rT Tryz.f4 14)) (.cd (.t 172) (.reg (rT Tryz.f4 15)) .sk)) (.sq (.reg (rT Tryz.f4 16)) (.sq (.sq (.reg (rT Tryz.f4 17)) (.bk 0 (.lp 0 Qnv QoF))) (.sq (.reg (rT Tryz.f4 23)) .rt)))))))))))))))
def rv_f4 : List (RV × Option Ty) := [((.t 4), some .bool)]
abbrev QuA : Sh := ⟨[(8, .ptr 8 0), (10, .ty (.sl Qaj)), (15, .ty (.sl tI)), (16, .ty .bool), (17, .ty tI)], [(8, .box Qaj), (26, .no), (5026, .no), (10026, .no), (15026, .no)]⟩
def Qi1 (x10 : List Keep) (x15 : List Int) (x16 : Bool) (x17 : Int) (y8 : Keep) : VS := QuA.st ((), x10, x15, x16, x17, ()) (y8, (), (), (), (), ())
abbrev Quz : Sh := ⟨[(4, .ty .bool)], []⟩
def Qb2 (x4 : Bool) : VS := Quz.st (x4, ()) ()
abbrev QyD : Sh := ⟨[(16, .ty .bool)], []⟩
def QfZ (x16 : Bool) : VS := QyD.st (x16, ()) ()
def L_f4_0 : VS → Option (Bool × List (Bool × Exit × VS)) := mkL QuA (fun x y => (decide (0 ≤ x.2.2.2.2.1 ∧ x.2.2.2.2.1 ≤ x.2.1.length ∧ x.2.1.length ≤ 100000 ∧ x.2.2.1.length ≤ 100000))) (fun x y => [((badB (x.2.1.drop x.2.2.2.2.1.toNat) x.2.2.1 y.1), .ret, Qb2 (false)), (true, .exit 0, QfZ (x.2.2.2.1 || fndB (x.2.1.drop x.2.2.2.2.1.toNat) y.1))])
def g_f4 : G := ⟨TYs, [], 213, EL [(7, sp_f7), (8, sp_f8), (9, sp_f9), (10, QLg), (14, QA4), (19, QAH), (21, Qq8), (26, QAG), (27, QAF), (28, QLc)], keeps, (Ls [L_f4_0]), IL [], RL []⟩
def QMZ (x10 : List Keep) (x15 : List Int) (x16 : Bool) (x17 : Int) (y8 : Keep) : Option (Exit × VS) :=
 let a1 := lgt Qaj x10 (Int.toNat x17)
 let a2 := ieq (a1.1) y8.1
 let a3 := iadd .i64 x17 1
 let a4 := befOk x15 ((a1.2).1) y8.2.1
 let a5 := befF x15 ((a1.2).1) y8.2.1
 let a6 := ieq ((a1.2).1) y8.2.1
 br (ilt x17 (llen x10)) (br (x16) (br (cIx x10 x17) (br a2 (br (cIx x10 x17) (br a4 (br a5 (some (.ret, Qb2 false)) (some (.normal, Qi1 x10 x15 true a3 y8))) none) none) (some (.normal, Qi1 x10 x15 true a3 y8))) none) (br (cIx x10 x17) (br (cIx x10 x17) (br a2 (br (cIx x10 x17) (br a4 (br a5 (some (.ret, Qb2 false)) (some (.normal, Qi1 x10 x15 (and a2 (and a6 true)) a3 y8))) none) none) (some (.normal, Qi1 x10 x15 (and a2 (and a6 true)) a3 y8))) none) none)) (some (.exit 0, QfZ x16))
noncomputable def Qfs (x10 : List Keep) (x15 : List Int) (x16 : Bool) (x17 : Int) (y8 : Keep) : Option (Exit × VS) := loopF (Qai g_f4 Qnv QoF) (Qi1 x10 x15 x16 x17 y8)
noncomputable def Qwx (x10 : List Keep) (x15 : List Int) (x16 : Bool) (x17 : Int) (y8 : Keep) : Option (Exit × VS) :=
 let a1 := lgt Qaj x10 (Int.toNat x17)
 let a2 := ieq (a1.1) y8.1
 let a3 := iadd .i64 x17 1
 let a4 := befOk x15 ((a1.2).1) y8.2.1
 let a5 := befF x15 ((a1.2).1) y8.2.1
 let a6 := ieq ((a1.2).1) y8.2.1
 br (ilt x17 (llen x10)) (br (x16) (br (cIx x10 x17) (br a2 (br (cIx x10 x17) (br a4 (br a5 (some (.ret, Qb2 false)) (Qfs x10 x15 true a3 y8)) none) none) (Qfs x10 x15 true a3 y8)) none) (br (cIx x10 x17) (br (cIx x10 x17) (br a2 (br (cIx x10 x17) (br a4 (br a5 (some (.ret, Qb2 false)) (Qfs x10 x15 (and a2 (and a6 true)) a3 y8)) none) none) (Qfs x10 x15 (and a2 (and a6 true)) a3 y8)) none) none)) (some (.exit 0, QfZ x16))
def Qnh (x10 : List Keep) (x15 : List Int) (x16 : Bool) (x17 : Int) (y8 : Keep) : Option (Exit × VS) := br (badB (x10.drop x17.toNat) x15 y8) (some (.ret, Qb2 (false))) <| some (.exit 0, QfZ (x16 || fndB (x10.drop x17.toNat) y8))
theorem QQ9 (x10 : List Keep) (x15 : List Int) (x16 : Bool) (x17 : Int) (y8 : Keep) : Qai g_f4 Qnv QoF (Qi1 x10 x15 x16 x17 y8) = QMZ x10 x15 x16 x17 y8 := by kernel_rfl
theorem QEj (x10 : List Keep) (x15 : List Int) (x16 : Bool) (x17 : Int) (y8 : Keep) : Qfs x10 x15 x16 x17 y8 = Qwx x10 x15 x16 x17 y8 := (Qap _ _).trans (by
 rw [QQ9]
 simp only [QMZ, Qwx, QaE, nxt_n, nxt_r, nxt_e, nxt_0]
 rfl)
def Qwo (p0 : List Int) (p1 : Int) : Option (V × List VO) :=
 let a1 := prV (roll p0)
 let a2 := (((((a1.1).2).2).2).2)
 let a3 := (((((a1.2).2).2).2).2)
 br (ieq ((Qbd ((a1.1).1, (((a1.1).2).1, ((((a1.1).2).2).1, (((((a1.1).2).2).2).1, (a2.1, ((a2.2).1, (((a2.2).2).1, ((((a2.2).2).2).1, (((((a2.2).2).2).2).1, ()))))))))) ((a1.2).1, (((a1.2).2).1, ((((a1.2).2).2).1, (((((a1.2).2).2).2).1, (a3.1, ((a3.2).1, (((a3.2).2).1, ((((a3.2).2).2).1, (((((a3.2).2).2).2).1, ()))))))))) (icv .i64 p1)).2) 28) (some (.t .bool Qcp, [])) (some (.t .bool false, []))
def Qwp (p0 : List Int) (p1 : Int) : Option (V × List VO) :=
 let a1 := prV (roll p0)
 let a2 := ((a1.1).1, (((a1.1).2).1, ((((a1.1).2).2).1, (((((a1.1).2).2).2).1, ((((((a1.1).2).2).2).2).1, (((((((a1.1).2).2).2).2).2).1, ((((((((a1.1).2).2).2).2).2).2).1, (((((((((a1.1).2).2).2).2).2).2).2).1, ((((((((((a1.1).2).2).2).2).2).2).2).2).1, ())))))))))
 let a3 := ((a1.2).1, (((a1.2).2).1, ((((a1.2).2).2).1, (((((a1.2).2).2).2).1, ((((((a1.2).2).2).2).2).1, (((((((a1.2).2).2).2).2).2).1, ((((((((a1.2).2).2).2).2).2).2).1, (((((((((a1.2).2).2).2).2).2).2).2).1, ((((((((((a1.2).2).2).2).2).2).2).2).2).1, ())))))))))
 br (ieq ((Qbd a2 a3 (icv .i64 p1)).2) 27) (br (ieq (llen (QaM a2 a3)) 0) (some (.t .bool Qcp, [])) (Qwo p0 p1)) (Qwo p0 p1)
def Qwm (p0 : List Int) (p1 : Int) : Option (V × List VO) :=
 let a1 := prV (roll p0)
 let a2 := ((a1.1).1, (((a1.1).2).1, ((((a1.1).2).2).1, (((((a1.1).2).2).2).1, ((((((a1.1).2).2).2).2).1, (((((((a1.1).2).2).2).2).2).1, ((((((((a1.1).2).2).2).2).2).2).1, (((((((((a1.1).2).2).2).2).2).2).2).1, ((((((((((a1.1).2).2).2).2).2).2).2).2).1, ())))))))))
 let a3 := ((a1.2).1, (((a1.2).2).1, ((((a1.2).2).2).1, (((((a1.2).2).2).2).1, ((((((a1.2).2).2).2).2).1, (((((((a1.2).2).2).2).2).2).1, ((((((((a1.2).2).2).2).2).2).2).1, (((((((((a1.2).2).2).2).2).2).2).2).1, ((((((((((a1.2).2).2).2).2).2).2).2).2).1, ())))))))))
 br (false || fndB ((QaM a2 a3).drop (0 : Int).toNat) ((Qbd a2 a3 (icv .i64 p1)).1)) (some (.t .bool Qcp, [])) (some (.t .bool false, []))
def Qwn (p0 : List Int) (p1 : Int) : Option (V × List VO) :=
 let a3 := (((((prV (roll p0)).2).2).2).2)
 let a1 := (QaM (((prV (roll p0)).1).1, ((((prV (roll p0)).1).2).1, (((((prV (roll p0)).1).2).2).1, ((((((prV (roll p0)).1).2).2).2).1, (((((((prV (roll p0)).1).2).2).2).2).1, ((((((((prV (roll p0)).1).2).2).2).2).2).1, (((((((((prV (roll p0)).1).2).2).2).2).2).2).1, ((((((((((prV (roll p0)).1).2).2).2).2).2).2).2).1, (((((((((((prV (roll p0)).1).2).2).2).2).2).2).2).2).1, ()))))))))) (((prV (roll p0)).2).1, ((((prV (roll p0)).2).2).1, (((((prV (roll p0)).2).2).2).1, (a3.1, ((a3.2).1, (((a3.2).2).1, ((((a3.2).2).2).1, (((((a3.2).2).2).2).1, ((((((a3.2).2).2).2).2).1, ()))))))))))
 let a2 := ((Qbd (((prV (roll p0)).1).1, ((((prV (roll p0)).1).2).1, (((((prV (roll p0)).1).2).2).1, ((((((prV (roll p0)).1).2).2).2).1, (((((((prV (roll p0)).1).2).2).2).2).1, ((((((((prV (roll p0)).1).2).2).2).2).2).1, (((((((((prV (roll p0)).1).2).2).2).2).2).2).1, ((((((((((prV (roll p0)).1).2).2).2).2).2).2).2).1, (((((((((((prV (roll p0)).1).2).2).2).2).2).2).2).2).1, ()))))))))) (((prV (roll p0)).2).1, ((((prV (roll p0)).2).2).1, (((((prV (roll p0)).2).2).2).1, (a3.1, ((a3.2).1, (((a3.2).2).1, ((((a3.2).2).2).1, (((((a3.2).2).2).2).1, ((((((a3.2).2).2).2).2).1, ()))))))))) (icv .i64 p1)).1)
 let a4 := ((((((prV (roll p0)).1).2).2).2).1)
 let a5 := (a1.drop (0 : Int).toNat)
 br ((a3.2).1) (br (decide (0 ≤ (0 : Int) ∧ (0 : Int) ≤ a1.length ∧ a1.length ≤ 100000 ∧ (a3.1).length ≤ 100000)) (br (badB a5 (a3.1) a2) (some (.t .bool (false), [])) (Qwm p0 p1)) none) (br (decide (0 ≤ (0 : Int) ∧ (0 : Int) ≤ a1.length ∧ a1.length ≤ 100000 ∧ a4.length ≤ 100000)) (br (badB a5 a4 a2) (some (.t .bool (false), [])) (Qwm p0 p1)) none)
def r_f4 (p0 : List Int) (p1 : Int) : Option (V × List VO) :=
 let a5 := prV (roll p0)
 let a10 := (((a5.1).2).2)
 let a3 := ((a5.1).1, (((a5.1).2).1, (a10.1, ((a10.2).1, (((a10.2).2).1, ((((a10.2).2).2).1, (((((a10.2).2).2).2).1, ((((((a10.2).2).2).2).2).1, (((((((a10.2).2).2).2).2).2).1, ())))))))))
 let a7 := ((((a5.2).2).2).2)
 let a2 := ((a5.2).1, (((a5.2).2).1, ((((a5.2).2).2).1, (a7.1, ((a7.2).1, (((a7.2).2).1, ((((a7.2).2).2).1, (((((a7.2).2).2).2).1, ((((((a7.2).2).2).2).2).1, ())))))))))
 let a1 := Qbd a3 a2 (icv .i64 p1)
 let a4 := (((a1.1).2).1)
 let a6 := (((((Qay a4).1).2).2).2)
 let a8 := ((QaW a2 a4).1)
 let a9 := (((a7.2).2).1)
 br (!(light p0)) (some (.t .bool Qcp, [])) (br (dOk (roll p0)) (br (QiI a3 a2 (icv .i64 p1)) (br (QbU a3 a2) (br (ine (a1.2) 0) (br (and (ieq ((a1.1).1) 0) (and (ieq a4 0) true)) (br (ieq (a1.2) 29) (br (igt (llen (QaM a3 a2)) 0) (some (.t .bool Qcp, [])) (Qwp p0 p1)) (Qwp p0 p1)) (some (.t .bool false, []))) (br (idnOk a2 a4) (br (ine ((Qay a4).2) 0) (some (.t .bool false, [])) (br (!((QaW a2 a4).2)) (some (.t .bool false, [])) (br (ilt a8 0) (some (.t .bool false, [])) (br (ige a8 (llen a9)) (some (.t .bool false, [])) (br (ine ((a1.1).1) (imn (a10.1) ((((a5.2).2).2).1))) (some (.t .bool false, [])) (br (ilt ((a1.1).1) (imx (((a5.1).2).1) (((a5.2).2).1))) (some (.t .bool false, [])) (br (ilt ((a1.1).1) ((((a6.2).2).2).1)) (some (.t .bool false, [])) (br (igt ((a1.1).1) (((((a6.2).2).2).2).1)) (some (.t .bool false, [])) (br (QaU ((a10.2).1) a4) (br (!(hasF ((a10.2).1) a4)) (some (.t .bool false, [])) (br (QaU (a7.1) a4) (br (!(hasF (a7.1) a4)) (some (.t .bool false, [])) (br (ine ((a6.1).1) 0) (br (cIx a9 a8) (br (ine (((lgt Qam a9 (Int.toNat a8)).1).1) ((a6.1).1)) (some (.t .bool false, [])) (Qwn p0 p1)) none) (Qwn p0 p1))) none)) none))))))))) none)) none) none) none)
theorem e_f4 (p0 : List Int) (p1 : Int) : runF g_f4 tc_f4 rv_f4 false [.t (.sl tI) p0, .t (.int .u8) p1] [] = r_f4 p0 p1 := by kernel_rfl
theorem gk_f4 : GOk Tryz.prog g_f4 := Qal _ (gA (gC en_f7 ms_f7 (gC en_f8 ms_f8 (gC en_f9 ms_f9 (gC en_f10 ms_f10 (gC QMV QMD (gC QMU QMC (gC QxM QwA (gC QMT QMB (gC QFo QMA (gC en_f28 ms_f28 gN)))))))))))
theorem l_f4_0 (x10 : List Keep) (x15 : List Int) (x16 : Bool) (x17 : Int) (y8 : Keep) (h : (decide (0 ≤ x17 ∧ x17 ≤ x10.length ∧ x10.length ≤ 100000 ∧ x15.length ≤ 100000)) = true) : Qfs x10 x15 x16 x17 y8 = Qnh x10 x15 x16 x17 y8 := by
 obtain ⟨h0, h1, h2, h3⟩ := of_decide_eq_true h
 obtain ⟨k, rfl⟩ := Int.eq_ofNat_of_zero_le h0
 have key : ∀ k, k ≤ x10.length → ∀ x16 : Bool, Qfs x10 x15 x16 (k : Int) y8 = Qnh x10 x15 x16 (k : Int) y8 := by
  refine Qav x10 (fun k => ∀ x16 : Bool, Qfs x10 x15 x16 (k : Int) y8 = Qnh x10 x15 x16 (k : Int) y8) ?_ ?_
  ·intro x16
   rw [QEj]
   simp only [Qwx, Qnh, show ilt (x10.length : Int) (llen x10) = false from decide_eq_false (by simp only [llen]; omega), Qae, Int.toNat_natCast, List.drop_length, badB, fndB, List.any_nil, Bool.or_false]
  ·intro k hk ih x16
   rw [QEj]
   have c2 : ∀ v w, befOk x15 v w = true := fun v w => decide_eq_true h3
   simp only [Qwx, show ilt (k : Int) (llen x10) = true from decide_eq_true (by simp only [llen]; omega), QaA, hk, decide_true, Qac, Int.toNat_natCast, add1 (show k < 4611686018427387904 by omega), QaF (y := Qaj) hk, c2, ih]
   have e1 : badB (x10.drop k) x15 y8 = ((ieq x10[k].1 y8.1 && befF x15 x10[k].2.1 y8.2.1) || badB (x10.drop (k + 1)) x15 y8) := by
    rw [List.drop_eq_getElem_cons hk]
    rfl
   have e2 : fndB (x10.drop k) y8 = (keq x10[k] y8 || fndB (x10.drop (k + 1)) y8) := by
    rw [List.drop_eq_getElem_cons hk]
    rfl
   simp only [Qnh, Int.toNat_natCast, e1, e2]
   show br x16 _ _ = _
   unfold keq
   cases x16 with
   | true =>
    rw [Qac]
    cases ieq x10[k].1 y8.1 with
    | false => rfl
    | true => cases befF x15 x10[k].2.1 y8.2.1 <;> rfl
   | false =>
    rw [Qae]
    cases ieq x10[k].1 y8.1 with
    | false => rfl
    | true => cases befF x15 x10[k].2.1 y8.2.1 <;> rfl
 exact key k (by omega) x16
theorem QOi : ∀ S l p, g_f4.L 0 (fgt Qnv S) = some (true, l) → pickA l = some p → loopF (Qai g_f4 Qnv QoF) S = some p :=
 QaG (s := QuA) ⟨by decide, by decide⟩ (by kernel_rfl) fun x y hok p hp => by
 simp only [Qas, Qao] at hp
 exact (l_f4_0 x.2.1 x.2.2.1 x.2.2.2.1 x.2.2.2.2.1 y.1 (by simpa using hok)).trans hp
theorem lk_f4 : tc_f4.lok g_f4 := by
 repeat (first | exact trivial | exact QOi | refine ⟨?_, ?_⟩)
theorem and5 {c s : Qad} {v x : Int} (h : posE s (Qan c) v x = true) : ine (Qay x).2 0 = false ∧ ilt v (Qay x).1.2.2.2.2.2.2.1 = false ∧ igt v (Qay x).1.2.2.2.2.2.2.2.1 = false ∧ hasF (Qan c) x = true ∧ hasF (Qan s) x = true ∧ (QaW s x).2 = true := by
 simp only [posE, Bool.and_eq_true] at h
 obtain ⟨h1, h2, h3, h4, h5, h6⟩ := h
 refine ⟨by rw [Qjh, h1]; rfl, ?_, ?_, h4, h5, h6⟩
 ·simp only [ige, decide_eq_true_eq] at h2
  exact decide_eq_false (by omega)
 ·simp only [ige, decide_eq_true_eq] at h3
  exact decide_eq_false (by omega)
theorem QEO {s : Qad} {x : Int} (h : (QaW s x).2 = true) : ∃ k : Nat, (QaW s x).1 = (k : Int) ∧ k < (eIds s).length ∧ idAlg (lgt Qam (eIds s) k) (Qay x).1 = true := by
 unfold QaW ixAlg at h ⊢
 cases hi : ine (Qay x).2 0 with
 | true => rw [hi] at h; cases h
 | false =>
  rw [hi] at h
  cases hq : fstG (fun y => idAlg y (Qay x).1) (eIds s) with
  | none => rw [hq] at h; cases h
  | some k =>
   obtain ⟨h1, h2⟩ := Qfy hq
   exact ⟨k, rfl, h1, by rw [QaF (y := Qam) h1]; exact h2⟩
theorem bad_no {c s : Qad} {k : Nat} (h : fstG (posE s (Qan c) (hiC c s)) (outL s (Qan c)) = some k) : badB (QaM c s) (outL s (Qan c)) (hiC c s, ((outL s (Qan c)).getD k 0, ())) = false := by
 unfold badB
 rw [List.any_eq_false]
 intro z hz hc
 obtain ⟨h1, h2⟩ := Bool.and_eq_true_iff.1 hc
 have hp := (Qy2 hz).1
 have e : z.1 = hiC c s := by simpa [ieq] using h1
 rw [e] at hp
 rw [Qtc h _ hp] at h2
 cases h2
theorem QQl {l : List Keep} {o : Keep} (h : o ∈ l) : fndB l o = true := by
 unfold fndB
 rw [List.any_eq_true]
 exact ⟨o, h, by simp [keq, ieq]⟩
attribute [local irreducible] prV prN oddV oddN QaM withF suiV suiN
set_option maxRecDepth 100000 in
theorem s_f4 (l : List Int) (o : Int) (h : QF4 l o = true) : r_f4 l o = some (.t .bool (bothT l o), []) := by
 cases hl : light l with
 | false => simp only [r_f4, Qwp, Qwo, Qwn, Qwm, hl, Bool.not_false, Qac]; rfl
 | true =>
  have hd := QJG hl
  have hCs : endSm (prV (roll l)).1 = true := prVC hd
  have hSs : endSm (prV (roll l)).2 = true := prVS hd
  have hCv : QaS (prV (roll l)).1 = true := prV1 hd
  have hSv : QaS (prV (roll l)).2 = true := prV2 hd
  obtain ⟨C, hC⟩ : ∃ C, C = (prV (roll l)).1 := ⟨_, rfl⟩
  obtain ⟨S, hS⟩ : ∃ S, S = (prV (roll l)).2 := ⟨_, rfl⟩
  rw [← hC] at hCs hCv
  rw [← hS] at hSs hSv
  obtain ⟨q1, q2, q3⟩ := QLh hCs
  obtain ⟨t1, t2, t3⟩ := QLh hSs
  have hr : Qcy C S = true := Bool.and_eq_true_iff.2 ⟨hCv, hSv⟩
  have h := of_decide_eq_true h
  have hi : icv .i64 o = o := Go.IntWalk.i64_in _ (by omega)
  have c1 : QiI C S o = true := Bool.and_eq_true_iff.2 ⟨q1, t1⟩
  have c2 : QbU C S = true := Bool.and_eq_true_iff.2 ⟨q1, t1⟩
  have c3 : ∀ x, idnOk S x = true := fun x => decide_eq_true (Qbe t1).2.2.1
  have c4 : ∀ x, QaU C.2.2.2.1 x = true := fun x => decide_eq_true (Qbe q1).2.1
  have c5 : ∀ x, QaU S.2.2.2.1 x = true := fun x => decide_eq_true (Qbe t1).2.1
  have cl := QQZ C S
  have l1 := (Qbe q1).2.1
  have l2 := (Qbe t1).2.1
  have c6 : ∀ w : List Int, w.length ≤ 100000 → decide ((0 : Int) ≤ 0 ∧ (0 : Int) ≤ (QaM C S).length ∧ (QaM C S).length ≤ 100000 ∧ w.length ≤ 100000) = true := fun w hw => decide_eq_true ⟨Int.le_refl _, by omega, cl, hw⟩
  simp only [r_f4, Qwp, Qwo, Qwn, Qwm, hl, hd, Bool.not_true, Qae, Qac, eEta, ← hC, ← hS, QbW, hi, c1, c2, c3, c4, c5, c6 _ l1, c6 _ l2, Int.toNat_zero, List.drop_zero]
  rcases Qs9 (c := C) (s := S) (d := o) hr (by omega) with ⟨e, e2, _⟩ | ⟨e, _⟩ | ⟨e, e2⟩ | ⟨k, hk, hf, hv, hp, _, e⟩
  ·simp only [e, e2]
   rfl
  ·simp only [e]
   rfl
  ·have e3 : igt (llen (QaM C S)) 0 = true := decide_eq_true (by
    have := List.length_pos_iff.2 e2
    simp only [llen]
    omega)
   simp only [e, e3]
   rfl
  ·have hb := bad_no hf
   have hfd : fndB (QaM C S) (hiC C S, ((outL S (Qan C)).getD k 0, ())) = true := QQl (Qor hr hv (Int.le_refl _) hp)
   generalize (outL S (Qan C)).getD k 0 = x at hp e hb hfd
   obtain ⟨a1, a2, a3, a4, a5, a6⟩ := and5 hp
   obtain ⟨j, hj, hjl, ha⟩ := QEO a6
   have g1 : ine (hiC C S) (imn C.2.2.1 S.2.2.1) = false := QIK _
   have g2 : ilt (hiC C S) (imx C.2.1 S.2.1) = false := decide_eq_false (by show ¬ hiC C S < loC C S; omega)
   have g3 : ilt (j : Int) 0 = false := decide_eq_false (by omega)
   have g4 : ige (j : Int) (llen S.2.2.2.2.2.1) = false := decide_eq_false (by show ¬ (j : Int) ≥ ((eIds S).length : Int); omega)
   have g5 : cIx S.2.2.2.2.2.1 (j : Int) = true := by rw [QaA]; exact decide_eq_true hjl
   have g6 : ine (Qay x).1.2.2.2.1.1 0 = true → ine (lgt Qam S.2.2.2.2.2.1 j).1.1 (Qay x).1.2.2.2.1.1 = false := fun hq => by
    unfold idAlg at ha
    have : ieq (Qay x).1.2.2.2.1.1 0 = false := by rw [Qjh] at hq; simpa using hq
    rw [this, Bool.false_or] at ha
    rw [Qjh]
    rw [show ieq (lgt Qam S.2.2.2.2.2.1 j).1.1 (Qay x).1.2.2.2.1.1 = true from ha]
    rfl
   simp only [e, show ine (0 : Int) 0 = false from rfl, Qae, a1, a2, a3, a4, a5, a6, hj, g1, g2, g3, g4, g5, Bool.not_true, Qac, Int.toNat_natCast]
   have hend : ∀ w : List Int, badB (QaM C S) w (hiC C S, (x, ())) = false → br (badB (QaM C S) w (hiC C S, (x, ()))) (some (V.t .bool false, ([] : List VO))) (br (false || fndB (QaM C S) (hiC C S, (x, ()))) (some (V.t .bool Qcp, [])) (some (V.t .bool false, []))) = some (V.t .bool (bothT l o), []) := fun w hw => by
    rw [hw, Qae, hfd]
    rfl
   have hfin : br S.2.2.2.2.1 (br (badB (QaM C S) S.2.2.2.1 (hiC C S, (x, ()))) (some (V.t .bool false, ([] : List VO))) (br (false || fndB (QaM C S) (hiC C S, (x, ()))) (some (V.t .bool Qcp, [])) (some (V.t .bool false, [])))) (br (badB (QaM C S) C.2.2.2.1 (hiC C S, (x, ()))) (some (V.t .bool false, ([] : List VO))) (br (false || fndB (QaM C S) (hiC C S, (x, ()))) (some (V.t .bool Qcp, [])) (some (V.t .bool false, [])))) = some (V.t .bool (bothT l o), []) := by
    unfold outL at hb
    cases ho : S.2.2.2.2.1 with
    | true => rw [ho] at hb; exact hend _ hb
    | false => rw [ho] at hb; exact hend _ hb
   cases hq : ine (Qay x).1.2.2.2.1.1 0 with
   | true =>
    simp only [g6 hq, Qac, Qae]
    exact hfin
   | false =>
    simp only [Qae]
    exact hfin
def sp_f4 : Ent := spec (.pr (.sl tI) (.pr (.int .u8) .nil)) (fun x => (QF4 x.1 x.2.1)) (fun x => (.t .bool (bothT x.1 x.2.1)))
theorem ms_f4 : Meets Tryz.prog 4 (strip sp_f4) := Qaf (R := runF g_f4 tc_f4 rv_f4 false) (mG Tryz.func4 (by kernel_rfl) Tryz.ntmps4 (by kernel_rfl) gk_f4 lk_f4) fun x hok => (e_f4 x.1 x.2.1).trans (s_f4 x.1 x.2.1 hok)
end
theorem Qja (z0 : List Int) (z1 : Int) (w0 : Ty.wf (.sl (.int .i64)) z0) (w1 : Ty.wf (.int .u8) z1) : QF4 z0 z1 = true := decide_eq_true (wf_u8 w1)
theorem walkNegotiateBoth (z0 : (List Int)) (z1 : Int) (W : World) (v0 : Value) (v1 : Value) (c0 : C noX W (fun _ => .no) (V.t (.sl tI) z0).d v0) (c1 : C noX W (fun _ => .no) (V.t (.int .u8) z1).d v1) (w0 : Ty.wf (.sl tI) z0) (w1 : Ty.wf (.int .u8) z1) :
  Calls Tryz.prog 4 #[v0, v1] W fun r w' => r = .returned (.bool true) ∧ Below W.heap.size W w' :=
 Qy3 (by decide) ms_f4 (args := [.t (.sl tI) z0, .t (.int .u8) z1]) (Qyw (x := (z0, z1, ())) rfl (Qja z0 z1 w0 w1)) (by simp only [V.ds, Cs]; exact ⟨_, _, rfl, c0, _, _, rfl, c1, rfl⟩)
end Go.Proofs.YtkngeegkjhipeaaGreat.K
