/-
  law22.made: items, mostly valid.
-/
import Derived.Test.YtfehjdaielifiaaGreatM5
import Derived.Test.YtfehjdaielifiaaGreatP22
set_option linter.unusedSimpArgs false
set_option linter.unusedVariables false
namespace Go.Proofs.YtfehjdaielifiaaGreat.K.OI
open Go.RowKit
noncomputable section
def fillZ : Nat → List Link → Dice → List Link × Dice
  | 0, l, d => (l, d)
  | n + 1, l, d => if ilt (llen l) (iadd .i64 8 (dval d 2)) then fillZ n (l ++ [((2, (0, ())), (iadd .i64 (lgt tyLink l (Int.toNat (isub .i64 (llen l) 1))).2.1 1, ()))]) (dnext d 2) else (l, dnext d 2)
def deedS : ByteArray := ByteArray.mk #[100, 101, 101, 100]
def madeP (I : Item) (D : Dice) : Item × Dice :=
  bif ieq (dval D 16) 0 then ((dwd (dnext D 16) [ByteArray.mk #[], ByteArray.mk #[97, 32, 98]], I.2), dwdN (dnext D 16) [ByteArray.mk #[], ByteArray.mk #[97, 32, 98]])
  else bif ieq (dval D 16) 1 then ((I.1, (dof (dnext D 16) [0, 3], I.2.2)), dofN (dnext D 16) [0, 3])
  else bif ieq (dval D 16) 2 then ((I.1, (I.2.1, (dof (dnext D 16) [0, 5], I.2.2.2))), dofN (dnext D 16) [0, 5])
  else bif ieq (dval D 16) 3 then ((I.1, (I.2.1, (I.2.2.1, (([] : List Link), I.2.2.2.2)))), dnext D 16)
  else bif ieq (dval D 16) 4 then ((I.1, (I.2.1, (I.2.2.1, (I.2.2.2.1.set 0 ((99, (0, ())), (lgt tyLink I.2.2.2.1 0).2), I.2.2.2.2)))), dnext D 16)
  else bif ieq (dval D 16) 5 then ((I.1, (I.2.1, (I.2.2.1, (I.2.2.2.1, (dof (dnext D 16) [-1, 40001, 0], ()))))), dofN (dnext D 16) [-1, 40001, 0])
  else bif ieq (dval D 16) 6 then ((I.1, (I.2.1, (I.2.2.1, (I.2.2.2.1 ++ [lgt tyLink I.2.2.2.1 (Int.toNat (isub .i64 (llen I.2.2.2.1) 1))], I.2.2.2.2)))), dnext D 16)
  else bif ieq (dval D 16) 7 then ((I.1, (I.2.1, (I.2.2.1, ((fillZ (10 - I.2.2.2.1.length) I.2.2.2.1 (dnext D 16)).1, I.2.2.2.2)))), (fillZ (10 - I.2.2.2.1.length) I.2.2.2.1 (dnext D 16)).2)
  else bif ieq (dval D 16) 8 then ((I.1, (I.2.1, (I.2.2.1, (I.2.2.2.1.set 0 ((lgt tyLink I.2.2.2.1 0).1, (-1, (lgt tyLink I.2.2.2.1 0).2.2)), I.2.2.2.2)))), dnext D 16)
  else (I, dnext D 16)
def madeV (d : Dice) : Item := (madeP (itemV d deedS) (itemN d deedS)).1
def madeN (d : Dice) : Dice := (madeP (itemV d deedS) (itemN d deedS)).2
theorem nextOkJ {d : Dice} (h : dOk d = true) : nextOk d 2 = true := by simp [nextOk, h]
def dr_f13_0 : List DO := [(.mk (oP 44 (.fa 3 (.t 3))) []), (.mk (oL 45 44) [0]), (.mk (oP 46 (.fa 3 (.t 3))) []), (.mk (oL 47 46) [2]), (.mk (oP 48 (.fa 3 (.t 3))) []), (.mk (oL 49 48) [4]), (.mk (oP 50 (.len false (.t 49))) [5]), (.mk (oP 51 (.bin false .sub (.t 50) (cI 1))) [6]), (.mk (oP 52 (.ix 3 (.t 47) (.t 51))) [3, 7]), (.mk (oM 53 (.ld true 3 (.t 52))) [8]), (.mk (oM 54 (.bs 62 3 1 [(.v (.int .i64 0)), (.v (.int .i64 0)), (.v (.int .i64 0))] [(0, 3, (.t 53))])) [9]), (.mk (oM 55 (.app 62 3 24 (.t 45) (.t 54))) [1, 10]), (.mk (oP 56 (.fa 3 (.t 3))) [0, 1, 2, 3, 4, 5, 6, 7, 8, 9, 10, 11]), (.mk (.mk none none (.m (.st 1 (.t 56) (.t 55)))) [12, 11, 11, 0, 1, 2, 3, 4, 5, 6, 7, 8, 9, 10, 11])]
def dr_f13_1 : List DO := [(.mk (oP 59 (.fa 3 (.t 3))) []), (.mk (oL 60 59) [0]), (.mk (oP 61 (.len false (.t 60))) [1]), (.mk (oV 62 0) []), (.mk (oC 63 47 [(.t 62), (cI 2)]) [3]), (.mk (oP 64 (.bin false .add (cI 8) (.t 63))) [4]), (.mk (oP 65 (.bin false .lss (.t 61) (.t 64))) [2, 5])]
def dr_f13_2 : List DO := [(.mk (oP 66 (.fa 3 (.t 3))) []), (.mk (oL 67 66) [0]), (.mk (oP 68 (.bd [(.v (.int .i64 0)), (.v (.int .i64 0))] [(0, 1, (cI 2))])) []), (.mk (oP 69 (.fa 3 (.t 3))) []), (.mk (oL 70 69) [3]), (.mk (oP 71 (.fa 3 (.t 3))) []), (.mk (oL 72 71) [5]), (.mk (oP 73 (.len false (.t 72))) [6]), (.mk (oP 74 (.bin false .sub (.t 73) (cI 1))) [7]), (.mk (oP 75 (.ix 3 (.t 70) (.t 74))) [4, 8]), (.mk (oP 76 (.fa 2 (.t 75))) [9]), (.mk (oL 77 76) [10]), (.mk (oP 78 (.bin false .add (.t 77) (cI 1))) [11]), (.mk (oP 79 (.bd [(.v (.int .i64 0)), (.v (.int .i64 0)), (.v (.int .i64 0))] [(0, 2, (.t 68)), (2, 1, (.t 78))])) [2, 12]), (.mk (oM 80 (.bs 62 3 1 [(.v (.int .i64 0)), (.v (.int .i64 0)), (.v (.int .i64 0))] [(0, 3, (.t 79))])) [13]), (.mk (oM 81 (.app 62 3 24 (.t 67) (.t 80))) [1, 14]), (.mk (oP 82 (.fa 3 (.t 3))) [0, 1, 2, 3, 4, 5, 6, 7, 8, 9, 10, 11, 12, 13, 14, 15]), (.mk (.mk none none (.m (.st 1 (.t 82) (.t 81)))) [16, 15, 15, 0, 1, 2, 3, 4, 5, 6, 7, 8, 9, 10, 11, 12, 13, 14, 15])]
def fg_f13_0 : Fg := ⟨[(0, none), (2, none), (3, none)], [(2, some tyItem), (3, none), (5, none), (55, none), (81, none), (5005, none), (10005, none), (15005, none), (20303, none), (50000, some tyDice)]⟩
def tb_f13_0 : TC := (.sq (.sq (.dr dr_f13_1 [(0, [3, 5, 55, 81, 5005, 10005, 15005, 20303]), (1, [3, 5, 55, 81, 5005, 10005, 15005, 20303]), (2, [5, 55, 81, 5005, 10005, 15005, 20303]), (3, [50000]), (4, [63, 5063, 10063, 15063, 50000]), (5, []), (6, [])] (.of [0, 1, 2, 3, 4, 5, 6])) (.cd (.t 65) .sk (.fg ⟨[(2, none), (3, none)], [(2, some tyItem), (3, some tyItem), (5, none), (55, none), (81, none), (5005, none), (10005, none), (15005, none), (20303, none), (50000, some tyDice)]⟩ (.ex 1)))) (.bk 2 (.dr dr_f13_2 [(0, [3, 5, 55, 81, 5005, 10005, 15005, 20303]), (1, [3, 5, 55, 81, 5005, 10005, 15005, 20303]), (2, []), (3, [3, 5, 55, 81, 5005, 10005, 15005, 20303]), (4, [3, 5, 55, 81, 5005, 10005, 15005, 20303]), (5, [3, 5, 55, 81, 5005, 10005, 15005, 20303]), (6, [3, 5, 55, 81, 5005, 10005, 15005, 20303]), (7, [5, 55, 81, 5005, 10005, 15005, 20303]), (8, []), (9, [5, 55, 81, 5005, 10005, 15005, 20303]), (10, [5, 55, 81, 5005, 10005, 15005, 20303]), (11, [5, 55, 81, 5005, 10005, 15005, 20303]), (12, []), (13, []), (14, []), (15, [2, 3, 5, 55, 81, 5005, 5081, 10005, 10081, 15005, 15081, 20303]), (16, [3, 5, 55, 81, 5005, 10005, 15005, 20303]), (17, [2, 3, 5, 55, 81, 5005, 10005, 15005, 20303])] (.one 0 (.one 1 (.one 2 (.alt 3 (.alt 4 (.of [5, 6, 7, 8, 9, 10, 11, 12, 13, 14, 15, 16, 17]) (.one 5 (.alt 4 (.of [6, 7, 8, 9, 10, 11, 12, 13, 14, 15, 16, 17]) (.one 6 (.alt 4 (.of [7, 8, 9, 10, 11, 12, 13, 14, 15, 16, 17]) (.of [7, 8, 4, 9, 10, 11, 12, 13, 14, 15, 16, 17])))))) (.one 5 (.alt 3 (.alt 4 (.of [6, 7, 8, 9, 10, 11, 12, 13, 14, 15, 16, 17]) (.one 6 (.alt 4 (.of [7, 8, 9, 10, 11, 12, 13, 14, 15, 16, 17]) (.of [7, 8, 4, 9, 10, 11, 12, 13, 14, 15, 16, 17])))) (.one 6 (.alt 3 (.alt 4 (.of [7, 8, 9, 10, 11, 12, 13, 14, 15, 16, 17]) (.of [7, 8, 4, 9, 10, 11, 12, 13, 14, 15, 16, 17])) (.of [7, 8, 3, 4, 9, 10, 11, 12, 13, 14, 15, 16, 17]))))))))))))
/-- cipherplan/cipherplanlaw22.made -/
def tc_f13 : TC := (.sq (.reg [(oM 2 (.new [(.v (.string (ByteArray.mk #[]))), (.v (.int .i64 0)), (.v (.int .i64 0)), (.v (.slice none 0 0)), (.v (.int .i64 0))]))]) (.sq (.reg [(oV 4 0), (oC 5 32 [(.t 4), (.c (.v (.string (ByteArray.mk #[100, 101, 101, 100]))))]), (oM 3 (.new [(.v (.string (ByteArray.mk #[]))), (.v (.int .i64 0)), (.v (.int .i64 0)), (.v (.slice none 0 0)), (.v (.int .i64 0))])), (.mk none none (.m (.st 5 (.t 3) (.t 5))))]) (.sq (.sq (.reg [(oV 6 0), (oC 7 47 [(.t 6), (cI 16)])]) (.bk 0 (.sq (.reg [(oP 9 (.bin false .eql (.t 7) (cI 0))), (oV 8 9)]) (.cd (.t 8) (.reg [(oV 10 0), (oM 11 (.bs 9 1 2 [(.v (.string (ByteArray.mk #[]))), (.v (.string (ByteArray.mk #[])))] [(0, 1, (.c (.v (.string (ByteArray.mk #[]))))), (1, 1, (.c (.v (.string (ByteArray.mk #[97, 32, 98])))))])), (oC 12 48 [(.t 10), (.t 11)]), (oP 13 (.fa 0 (.t 3))), (.mk none none (.m (.st 1 (.t 13) (.t 12))))]) (.sq (.reg [(oP 15 (.bin false .eql (.t 7) (cI 1))), (oV 14 15)]) (.cd (.t 14) (.reg [(oV 16 0), (oM 17 (.bs 3 1 2 [(.v (.int .i64 0)), (.v (.int .i64 0))] [(0, 1, (cI 0)), (1, 1, (cI 3))])), (oC 18 22 [(.t 16), (.t 17)]), (oP 19 (.fa 1 (.t 3))), (.mk none none (.m (.st 1 (.t 19) (.t 18))))]) (.sq (.reg [(oP 21 (.bin false .eql (.t 7) (cI 2))), (oV 20 21)]) (.cd (.t 20) (.reg [(oV 22 0), (oM 23 (.bs 3 1 2 [(.v (.int .i64 0)), (.v (.int .i64 0))] [(0, 1, (cI 0)), (1, 1, (cI 5))])), (oC 24 22 [(.t 22), (.t 23)]), (oP 25 (.fa 2 (.t 3))), (.mk none none (.m (.st 1 (.t 25) (.t 24))))]) (.sq (.reg [(oP 27 (.bin false .eql (.t 7) (cI 3))), (oV 26 27)]) (.cd (.t 26) (.reg [(oP 28 (.fa 3 (.t 3))), (.mk none none (.m (.st 1 (.t 28) (.c (.v (.slice none 0 0))))))]) (.sq (.reg [(oP 30 (.bin false .eql (.t 7) (cI 4))), (oV 29 30)]) (.cd (.t 29) (.reg [(oP 31 (.fa 3 (.t 3))), (oL 32 31), (oP 33 (.bd [(.v (.int .i64 0)), (.v (.int .i64 0))] [(0, 1, (cI 99))])), (oP 34 (.ix 3 (.t 32) (cI 0))), (oP 35 (.fa 0 (.t 34))), (.mk none none (.m (.st 2 (.t 35) (.t 33))))]) (.sq (.reg [(oP 37 (.bin false .eql (.t 7) (cI 5))), (oV 36 37)]) (.cd (.t 36) (.reg [(oV 38 0), (oM 39 (.bs 3 1 3 [(.v (.int .i64 0)), (.v (.int .i64 0)), (.v (.int .i64 0))] [(0, 1, (cI (-1))), (1, 1, (cI 40001)), (2, 1, (cI 0))])), (oC 40 22 [(.t 38), (.t 39)]), (oP 41 (.fa 4 (.t 3))), (.mk none none (.m (.st 1 (.t 41) (.t 40))))]) (.sq (.reg [(oP 43 (.bin false .eql (.t 7) (cI 6))), (oV 42 43)]) (.cd (.t 42) (.dr dr_f13_0 [(0, [3, 5, 55, 81, 5005, 10005, 15005, 20303]), (1, [3, 5, 55, 81, 5005, 10005, 15005, 20303]), (2, [3, 5, 55, 81, 5005, 10005, 15005, 20303]), (3, [3, 5, 55, 81, 5005, 10005, 15005, 20303]), (4, [3, 5, 55, 81, 5005, 10005, 15005, 20303]), (5, [3, 5, 55, 81, 5005, 10005, 15005, 20303]), (6, [5, 55, 81, 5005, 10005, 15005, 20303]), (7, []), (8, [5, 55, 81, 5005, 10005, 15005, 20303]), (9, [5, 55, 81, 5005, 10005, 15005, 20303]), (10, []), (11, [2, 3, 5, 55, 81, 5005, 5055, 10005, 10055, 15005, 15055, 20303]), (12, [3, 5, 55, 81, 5005, 10005, 15005, 20303]), (13, [2, 3, 5, 55, 81, 5005, 10005, 15005, 20303])] (.one 0 (.one 1 (.alt 2 (.of [3, 4, 5, 6, 7, 8, 9, 10, 11, 12, 13]) (.one 4 (.alt 2 (.of [3, 5, 6, 7, 8, 9, 10, 11, 12, 13]) (.one 5 (.alt 2 (.of [3, 6, 7, 8, 9, 10, 11, 12, 13]) (.of [6, 7, 2, 3, 8, 9, 10, 11, 12, 13]))))))))) (.sq (.reg [(oP 58 (.bin false .eql (.t 7) (cI 7))), (oV 57 58)]) (.cd (.t 57) (.bk 1 (.nf 3 3 62 20303 (.lp 0 fg_f13_0 tb_f13_0))) (.sq (.reg [(oP 84 (.bin false .eql (.t 7) (cI 8))), (oV 83 84)]) (.cd (.t 83) (.reg [(oP 85 (.fa 3 (.t 3))), (oL 86 85), (oP 87 (.ix 3 (.t 86) (cI 0))), (oP 88 (.fa 2 (.t 87))), (.mk none none (.m (.st 1 (.t 88) (cI (-1)))))]) .sk)))))))))))))))))))) (.sq (.reg [(oM 89 (.ld true 5 (.t 3))), (.mk none none (.m (.st 5 (.t 2) (.t 89))))]) .rt))))
def rv_f13 : List (RV × Option Ty) := [((.c 2 true 5), some tyItem)]
abbrev sh_f13_0 : Sh := ⟨[(0, .ptr 50000 0), (2, .ptr 2 0), (3, .ptr 3 0)], [(2, .box tyItem), (3, .bag [.ty .str, .ty tI, .ty tI, .ms 5, .ty tI]), (5, .arr 62 tyLink), (55, .no), (81, .no), (5005, .no), (10005, .no), (15005, .no), (20303, .no), (50000, .box tyDice)]⟩
def st_f13_0 (y2 : Item) (y3_0 : ByteArray) (y3_1 : Int) (y3_2 : Int) (y3_4 : Int) (y5 : (List Link)) (y50000 : Dice) : VS := sh_f13_0.st ((), (), (), ()) (y2, (y3_0, y3_1, y3_2, (), y3_4, ()), y5, (), (), (), (), (), (), y50000, ())
abbrev sh_f13_0_e1 : Sh := ⟨[(2, .ptr 2 0), (3, .ptr 3 0)], [(2, .box tyItem), (3, .bag [.ty .str, .ty tI, .ty tI, .ms 5, .ty tI]), (5, .arr 62 tyLink), (55, .no), (81, .no), (5005, .no), (10005, .no), (15005, .no), (20303, .no), (50000, .box tyDice)]⟩
def st_f13_0_e1 (y2 : Item) (y3_0 : ByteArray) (y3_1 : Int) (y3_2 : Int) (y3_4 : Int) (y5 : (List Link)) (y50000 : Dice) : VS := sh_f13_0_e1.st ((), (), ()) (y2, (y3_0, y3_1, y3_2, (), y3_4, ()), y5, (), (), (), (), (), (), y50000, ())
-- loop 0: (y2 : Item) (y3_0 : ByteArray) (y3_1 : Int) (y3_2 : Int) (y3_4 : Int) (y5 : (List Link)) (y50000 : Dice); out: ('exit', 1) (y2 : Item) (y3_0 : ByteArray) (y3_1 : Int) (y3_2 : Int) (y3_4 : Int) (y5 : (List Link)) (y50000 : Dice)
def L_f13_0 : VS → Option (Bool × List (Bool × Exit × VS)) := mkL sh_f13_0 (fun x y => (dOk y.2.2.2.2.2.2.2.2.2.1 && decide (1 ≤ y.2.2.1.length ∧ y.2.2.1.length ≤ 9))) (fun x y => [(true, .exit 1, st_f13_0_e1 (y.1) (y.2.1.1) (y.2.1.2.1) (y.2.1.2.2.1) (y.2.1.2.2.2.2.1) ((fillZ (10 - y.2.2.1.length) y.2.2.1 y.2.2.2.2.2.2.2.2.2.1).1) ((fillZ (10 - y.2.2.1.length) y.2.2.1 y.2.2.2.2.2.2.2.2.2.1).2))])
def g_f13 : G := ⟨TYs, [], 90, EL [(22, sp_f22), (32, sp_f32), (47, sp_f47), (48, sp_f48)], keeps, (Ls [L_f13_0]), IL [], RL []⟩
def b_f13_0_1 (y2 : Item) (y3_0 : ByteArray) (y3_1 : Int) (y3_2 : Int) (y3_4 : Int) (y5 : (List Link)) (y50000 : Dice) : Option (Exit × VS) :=
  br (cIx y5 (isub .i64 (llen y5) 1))
    (br (cLd y5 (Int.toNat (isub .i64 (llen y5) 1)))
      (br (cApp y5 ([((2, (0, ())), ((iadd .i64 (((lgt tyLink y5 (Int.toNat (isub .i64 (llen y5) 1))).2).1) 1), ()))]) 24)
        (some (.normal, st_f13_0 y2 y3_0 y3_1 y3_2 y3_4 (y5 ++ ([((2, (0, ())), ((iadd .i64 (((lgt tyLink y5 (Int.toNat (isub .i64 (llen y5) 1))).2).1) 1), ()))])) (dnext y50000 2)))
        (none))
      (none))
    (none)
def b_f13_0_3 (y2 : Item) (y3_0 : ByteArray) (y3_1 : Int) (y3_2 : Int) (y3_4 : Int) (y5 : (List Link)) (y50000 : Dice) : Option (Exit × VS) :=
  frk
    (b_f13_0_1 y2 y3_0 y3_1 y3_2 y3_4 y5 y50000)
    (b_f13_0_1 y2 y3_0 y3_1 y3_2 y3_4 y5 y50000)
def b_f13_0_2 (y2 : Item) (y3_0 : ByteArray) (y3_1 : Int) (y3_2 : Int) (y3_4 : Int) (y5 : (List Link)) (y50000 : Dice) : Option (Exit × VS) :=
  frk
    (b_f13_0_1 y2 y3_0 y3_1 y3_2 y3_4 y5 y50000)
    (b_f13_0_3 y2 y3_0 y3_1 y3_2 y3_4 y5 y50000)
def b_f13_0 (y2 : Item) (y3_0 : ByteArray) (y3_1 : Int) (y3_2 : Int) (y3_4 : Int) (y5 : (List Link)) (y50000 : Dice) : Option (Exit × VS) :=
  br ((nextOk y50000 2))
    (br ((ilt (llen y5) (iadd .i64 8 (dval y50000 2))))
      (frk
        (frk
          (b_f13_0_1 y2 y3_0 y3_1 y3_2 y3_4 y5 y50000)
          (b_f13_0_2 y2 y3_0 y3_1 y3_2 y3_4 y5 y50000))
        (frk
          (b_f13_0_2 y2 y3_0 y3_1 y3_2 y3_4 y5 y50000)
          (frk
            (b_f13_0_3 y2 y3_0 y3_1 y3_2 y3_4 y5 y50000)
            (b_f13_0_1 y2 y3_0 y3_1 y3_2 y3_4 y5 y50000))))
      (some (.exit 1, st_f13_0_e1 y2 y3_0 y3_1 y3_2 y3_4 y5 (dnext y50000 2))))
    (none)
noncomputable def lp_f13_0 (y2 : Item) (y3_0 : ByteArray) (y3_1 : Int) (y3_2 : Int) (y3_4 : Int) (y5 : (List Link)) (y50000 : Dice) : Option (Exit × VS) := loopF (roundF g_f13 fg_f13_0 tb_f13_0) (st_f13_0 y2 y3_0 y3_1 y3_2 y3_4 y5 y50000)
noncomputable def n_f13_0_1 (y2 : Item) (y3_0 : ByteArray) (y3_1 : Int) (y3_2 : Int) (y3_4 : Int) (y5 : (List Link)) (y50000 : Dice) : Option (Exit × VS) :=
  br (cIx y5 (isub .i64 (llen y5) 1))
    (br (cLd y5 (Int.toNat (isub .i64 (llen y5) 1)))
      (br (cApp y5 ([((2, (0, ())), ((iadd .i64 (((lgt tyLink y5 (Int.toNat (isub .i64 (llen y5) 1))).2).1) 1), ()))]) 24)
        (lp_f13_0 y2 y3_0 y3_1 y3_2 y3_4 (y5 ++ ([((2, (0, ())), ((iadd .i64 (((lgt tyLink y5 (Int.toNat (isub .i64 (llen y5) 1))).2).1) 1), ()))])) (dnext y50000 2))
        (none))
      (none))
    (none)
noncomputable def n_f13_0_3 (y2 : Item) (y3_0 : ByteArray) (y3_1 : Int) (y3_2 : Int) (y3_4 : Int) (y5 : (List Link)) (y50000 : Dice) : Option (Exit × VS) :=
  frk
    (n_f13_0_1 y2 y3_0 y3_1 y3_2 y3_4 y5 y50000)
    (n_f13_0_1 y2 y3_0 y3_1 y3_2 y3_4 y5 y50000)
noncomputable def n_f13_0_2 (y2 : Item) (y3_0 : ByteArray) (y3_1 : Int) (y3_2 : Int) (y3_4 : Int) (y5 : (List Link)) (y50000 : Dice) : Option (Exit × VS) :=
  frk
    (n_f13_0_1 y2 y3_0 y3_1 y3_2 y3_4 y5 y50000)
    (n_f13_0_3 y2 y3_0 y3_1 y3_2 y3_4 y5 y50000)
noncomputable def n_f13_0 (y2 : Item) (y3_0 : ByteArray) (y3_1 : Int) (y3_2 : Int) (y3_4 : Int) (y5 : (List Link)) (y50000 : Dice) : Option (Exit × VS) :=
  br ((nextOk y50000 2))
    (br ((ilt (llen y5) (iadd .i64 8 (dval y50000 2))))
      (frk
        (frk
          (n_f13_0_1 y2 y3_0 y3_1 y3_2 y3_4 y5 y50000)
          (n_f13_0_2 y2 y3_0 y3_1 y3_2 y3_4 y5 y50000))
        (frk
          (n_f13_0_2 y2 y3_0 y3_1 y3_2 y3_4 y5 y50000)
          (frk
            (n_f13_0_3 y2 y3_0 y3_1 y3_2 y3_4 y5 y50000)
            (n_f13_0_1 y2 y3_0 y3_1 y3_2 y3_4 y5 y50000))))
      (some (.exit 1, st_f13_0_e1 y2 y3_0 y3_1 y3_2 y3_4 y5 (dnext y50000 2))))
    (none)
def la_f13_0 (y2 : Item) (y3_0 : ByteArray) (y3_1 : Int) (y3_2 : Int) (y3_4 : Int) (y5 : (List Link)) (y50000 : Dice) : Option (Exit × VS) := some (.exit 1, st_f13_0_e1 (y2) (y3_0) (y3_1) (y3_2) (y3_4) ((fillZ (10 - y5.length) y5 y50000).1) ((fillZ (10 - y5.length) y5 y50000).2))
theorem be_f13_0 (y2 : Item) (y3_0 : ByteArray) (y3_1 : Int) (y3_2 : Int) (y3_4 : Int) (y5 : (List Link)) (y50000 : Dice) : roundF g_f13 fg_f13_0 tb_f13_0 (st_f13_0 y2 y3_0 y3_1 y3_2 y3_4 y5 y50000) = b_f13_0 y2 y3_0 y3_1 y3_2 y3_4 y5 y50000 := by kernel_rfl
theorem ln_f13_0 (y2 : Item) (y3_0 : ByteArray) (y3_1 : Int) (y3_2 : Int) (y3_4 : Int) (y5 : (List Link)) (y50000 : Dice) : lp_f13_0 y2 y3_0 y3_1 y3_2 y3_4 y5 y50000 = n_f13_0 y2 y3_0 y3_1 y3_2 y3_4 y5 y50000 := (loopF_nxt _ _).trans (by
  rw [be_f13_0]
  simp only [b_f13_0, b_f13_0_1, b_f13_0_2, b_f13_0_3, frk_self, n_f13_0, n_f13_0_1, n_f13_0_2, n_f13_0_3, frk_self, nxt_br, nxt_n, nxt_r, nxt_e, nxt_0]
  rfl)
def r_f13_1 (d0 : Dice) : Option (V × List VO) :=
  br (cIx (((((itemV d0 (ByteArray.mk #[100, 101, 101, 100])).2).2).2).1) (isub .i64 (llen (((((itemV d0 (ByteArray.mk #[100, 101, 101, 100])).2).2).2).1)) 1))
    (br (cLd (((((itemV d0 (ByteArray.mk #[100, 101, 101, 100])).2).2).2).1) (Int.toNat (isub .i64 (llen (((((itemV d0 (ByteArray.mk #[100, 101, 101, 100])).2).2).2).1)) 1)))
      (br (cApp (((((itemV d0 (ByteArray.mk #[100, 101, 101, 100])).2).2).2).1) ([((((lgt tyLink (((((itemV d0 (ByteArray.mk #[100, 101, 101, 100])).2).2).2).1) (Int.toNat (isub .i64 (llen (((((itemV d0 (ByteArray.mk #[100, 101, 101, 100])).2).2).2).1)) 1))).1).1, ((((lgt tyLink (((((itemV d0 (ByteArray.mk #[100, 101, 101, 100])).2).2).2).1) (Int.toNat (isub .i64 (llen (((((itemV d0 (ByteArray.mk #[100, 101, 101, 100])).2).2).2).1)) 1))).1).2).1, ())), (((lgt tyLink (((((itemV d0 (ByteArray.mk #[100, 101, 101, 100])).2).2).2).1) (Int.toNat (isub .i64 (llen (((((itemV d0 (ByteArray.mk #[100, 101, 101, 100])).2).2).2).1)) 1))).2).1, ()))]) 24)
        (some (.t tyItem ((itemV d0 (ByteArray.mk #[100, 101, 101, 100])).1, (((itemV d0 (ByteArray.mk #[100, 101, 101, 100])).2).1, ((((itemV d0 (ByteArray.mk #[100, 101, 101, 100])).2).2).1, (((((((itemV d0 (ByteArray.mk #[100, 101, 101, 100])).2).2).2).1) ++ ([((((lgt tyLink (((((itemV d0 (ByteArray.mk #[100, 101, 101, 100])).2).2).2).1) (Int.toNat (isub .i64 (llen (((((itemV d0 (ByteArray.mk #[100, 101, 101, 100])).2).2).2).1)) 1))).1).1, ((((lgt tyLink (((((itemV d0 (ByteArray.mk #[100, 101, 101, 100])).2).2).2).1) (Int.toNat (isub .i64 (llen (((((itemV d0 (ByteArray.mk #[100, 101, 101, 100])).2).2).2).1)) 1))).1).2).1, ())), (((lgt tyLink (((((itemV d0 (ByteArray.mk #[100, 101, 101, 100])).2).2).2).1) (Int.toNat (isub .i64 (llen (((((itemV d0 (ByteArray.mk #[100, 101, 101, 100])).2).2).2).1)) 1))).2).1, ()))])), ((((((itemV d0 (ByteArray.mk #[100, 101, 101, 100])).2).2).2).2).1, ()))))), [.box (.t tyDice (dnext (itemN d0 (ByteArray.mk #[100, 101, 101, 100])) 16))]))
        (none))
      (none))
    (none)
def r_f13 (d0 : Dice) : Option (V × List VO) :=
  br ((dOkS d0 (ByteArray.mk #[100, 101, 101, 100])))
    (br ((nextOk (itemN d0 (ByteArray.mk #[100, 101, 101, 100])) 16))
      (br ((ieq (dval (itemN d0 (ByteArray.mk #[100, 101, 101, 100])) 16) 0))
        (br ((wdOk (dnext (itemN d0 (ByteArray.mk #[100, 101, 101, 100])) 16) ([(ByteArray.mk #[]), (ByteArray.mk #[97, 32, 98])])))
          (some (.t tyItem ((dwd (dnext (itemN d0 (ByteArray.mk #[100, 101, 101, 100])) 16) ([(ByteArray.mk #[]), (ByteArray.mk #[97, 32, 98])])), (((itemV d0 (ByteArray.mk #[100, 101, 101, 100])).2).1, ((((itemV d0 (ByteArray.mk #[100, 101, 101, 100])).2).2).1, (((((itemV d0 (ByteArray.mk #[100, 101, 101, 100])).2).2).2).1, ((((((itemV d0 (ByteArray.mk #[100, 101, 101, 100])).2).2).2).2).1, ()))))), [.box (.t tyDice (dwdN (dnext (itemN d0 (ByteArray.mk #[100, 101, 101, 100])) 16) ([(ByteArray.mk #[]), (ByteArray.mk #[97, 32, 98])])))]))
          (none))
        (br ((ieq (dval (itemN d0 (ByteArray.mk #[100, 101, 101, 100])) 16) 1))
          (br ((ofOk (dnext (itemN d0 (ByteArray.mk #[100, 101, 101, 100])) 16) ([0, 3])))
            (some (.t tyItem ((itemV d0 (ByteArray.mk #[100, 101, 101, 100])).1, ((dof (dnext (itemN d0 (ByteArray.mk #[100, 101, 101, 100])) 16) ([0, 3])), ((((itemV d0 (ByteArray.mk #[100, 101, 101, 100])).2).2).1, (((((itemV d0 (ByteArray.mk #[100, 101, 101, 100])).2).2).2).1, ((((((itemV d0 (ByteArray.mk #[100, 101, 101, 100])).2).2).2).2).1, ()))))), [.box (.t tyDice (dofN (dnext (itemN d0 (ByteArray.mk #[100, 101, 101, 100])) 16) ([0, 3])))]))
            (none))
          (br ((ieq (dval (itemN d0 (ByteArray.mk #[100, 101, 101, 100])) 16) 2))
            (br ((ofOk (dnext (itemN d0 (ByteArray.mk #[100, 101, 101, 100])) 16) ([0, 5])))
              (some (.t tyItem ((itemV d0 (ByteArray.mk #[100, 101, 101, 100])).1, (((itemV d0 (ByteArray.mk #[100, 101, 101, 100])).2).1, ((dof (dnext (itemN d0 (ByteArray.mk #[100, 101, 101, 100])) 16) ([0, 5])), (((((itemV d0 (ByteArray.mk #[100, 101, 101, 100])).2).2).2).1, ((((((itemV d0 (ByteArray.mk #[100, 101, 101, 100])).2).2).2).2).1, ()))))), [.box (.t tyDice (dofN (dnext (itemN d0 (ByteArray.mk #[100, 101, 101, 100])) 16) ([0, 5])))]))
              (none))
            (br ((ieq (dval (itemN d0 (ByteArray.mk #[100, 101, 101, 100])) 16) 3))
              (some (.t tyItem ((itemV d0 (ByteArray.mk #[100, 101, 101, 100])).1, (((itemV d0 (ByteArray.mk #[100, 101, 101, 100])).2).1, ((((itemV d0 (ByteArray.mk #[100, 101, 101, 100])).2).2).1, (([] : List Link), ((((((itemV d0 (ByteArray.mk #[100, 101, 101, 100])).2).2).2).2).1, ()))))), [.box (.t tyDice (dnext (itemN d0 (ByteArray.mk #[100, 101, 101, 100])) 16))]))
              (br ((ieq (dval (itemN d0 (ByteArray.mk #[100, 101, 101, 100])) 16) 4))
                (br (cIx (((((itemV d0 (ByteArray.mk #[100, 101, 101, 100])).2).2).2).1) 0)
                  (br (cLd (((((itemV d0 (ByteArray.mk #[100, 101, 101, 100])).2).2).2).1) (Int.toNat 0))
                    (some (.t tyItem ((itemV d0 (ByteArray.mk #[100, 101, 101, 100])).1, (((itemV d0 (ByteArray.mk #[100, 101, 101, 100])).2).1, ((((itemV d0 (ByteArray.mk #[100, 101, 101, 100])).2).2).1, ((List.set (((((itemV d0 (ByteArray.mk #[100, 101, 101, 100])).2).2).2).1) (Int.toNat 0) ((99, (0, ())), (lgt tyLink (((((itemV d0 (ByteArray.mk #[100, 101, 101, 100])).2).2).2).1) (Int.toNat 0)).2)), ((((((itemV d0 (ByteArray.mk #[100, 101, 101, 100])).2).2).2).2).1, ()))))), [.box (.t tyDice (dnext (itemN d0 (ByteArray.mk #[100, 101, 101, 100])) 16))]))
                    (none))
                  (none))
                (br ((ieq (dval (itemN d0 (ByteArray.mk #[100, 101, 101, 100])) 16) 5))
                  (br ((ofOk (dnext (itemN d0 (ByteArray.mk #[100, 101, 101, 100])) 16) ([(-1), 40001, 0])))
                    (some (.t tyItem ((itemV d0 (ByteArray.mk #[100, 101, 101, 100])).1, (((itemV d0 (ByteArray.mk #[100, 101, 101, 100])).2).1, ((((itemV d0 (ByteArray.mk #[100, 101, 101, 100])).2).2).1, (((((itemV d0 (ByteArray.mk #[100, 101, 101, 100])).2).2).2).1, ((dof (dnext (itemN d0 (ByteArray.mk #[100, 101, 101, 100])) 16) ([(-1), 40001, 0])), ()))))), [.box (.t tyDice (dofN (dnext (itemN d0 (ByteArray.mk #[100, 101, 101, 100])) 16) ([(-1), 40001, 0])))]))
                    (none))
                  (br ((ieq (dval (itemN d0 (ByteArray.mk #[100, 101, 101, 100])) 16) 6))
                    (frk
                      (r_f13_1 d0)
                      (frk
                        (r_f13_1 d0)
                        (frk
                          (r_f13_1 d0)
                          (r_f13_1 d0))))
                    (br ((ieq (dval (itemN d0 (ByteArray.mk #[100, 101, 101, 100])) 16) 7))
                      (br ((dOk (dnext (itemN d0 (ByteArray.mk #[100, 101, 101, 100])) 16) && decide (1 ≤ (((((itemV d0 (ByteArray.mk #[100, 101, 101, 100])).2).2).2).1).length ∧ (((((itemV d0 (ByteArray.mk #[100, 101, 101, 100])).2).2).2).1).length ≤ 9)))
                        (some (.t tyItem ((((itemV d0 (ByteArray.mk #[100, 101, 101, 100])).1)), (((((itemV d0 (ByteArray.mk #[100, 101, 101, 100])).2).1)), ((((((itemV d0 (ByteArray.mk #[100, 101, 101, 100])).2).2).1)), (((fillZ (10 - (((((itemV d0 (ByteArray.mk #[100, 101, 101, 100])).2).2).2).1).length) (((((itemV d0 (ByteArray.mk #[100, 101, 101, 100])).2).2).2).1) (dnext (itemN d0 (ByteArray.mk #[100, 101, 101, 100])) 16)).1), ((((((((itemV d0 (ByteArray.mk #[100, 101, 101, 100])).2).2).2).2).1)), ()))))), [.box (.t tyDice ((fillZ (10 - (((((itemV d0 (ByteArray.mk #[100, 101, 101, 100])).2).2).2).1).length) (((((itemV d0 (ByteArray.mk #[100, 101, 101, 100])).2).2).2).1) (dnext (itemN d0 (ByteArray.mk #[100, 101, 101, 100])) 16)).2))]))
                        (none))
                      (br ((ieq (dval (itemN d0 (ByteArray.mk #[100, 101, 101, 100])) 16) 8))
                        (br (cIx (((((itemV d0 (ByteArray.mk #[100, 101, 101, 100])).2).2).2).1) 0)
                          (br (cLd (((((itemV d0 (ByteArray.mk #[100, 101, 101, 100])).2).2).2).1) (Int.toNat 0))
                            (some (.t tyItem ((itemV d0 (ByteArray.mk #[100, 101, 101, 100])).1, (((itemV d0 (ByteArray.mk #[100, 101, 101, 100])).2).1, ((((itemV d0 (ByteArray.mk #[100, 101, 101, 100])).2).2).1, ((List.set (((((itemV d0 (ByteArray.mk #[100, 101, 101, 100])).2).2).2).1) (Int.toNat 0) ((lgt tyLink (((((itemV d0 (ByteArray.mk #[100, 101, 101, 100])).2).2).2).1) (Int.toNat 0)).1, ((-1), ((lgt tyLink (((((itemV d0 (ByteArray.mk #[100, 101, 101, 100])).2).2).2).1) (Int.toNat 0)).2).2))), ((((((itemV d0 (ByteArray.mk #[100, 101, 101, 100])).2).2).2).2).1, ()))))), [.box (.t tyDice (dnext (itemN d0 (ByteArray.mk #[100, 101, 101, 100])) 16))]))
                            (none))
                          (none))
                        (some (.t tyItem ((itemV d0 (ByteArray.mk #[100, 101, 101, 100])).1, (((itemV d0 (ByteArray.mk #[100, 101, 101, 100])).2).1, ((((itemV d0 (ByteArray.mk #[100, 101, 101, 100])).2).2).1, (((((itemV d0 (ByteArray.mk #[100, 101, 101, 100])).2).2).2).1, ((((((itemV d0 (ByteArray.mk #[100, 101, 101, 100])).2).2).2).2).1, ()))))), [.box (.t tyDice (dnext (itemN d0 (ByteArray.mk #[100, 101, 101, 100])) 16))])))))))))))
      (none))
    (none)
theorem e_f13 (d0 : Dice) : runF g_f13 tc_f13 rv_f13 false [.ptr 50000 0] [.box (.t tyDice d0)] = r_f13 d0 := by kernel_rfl
theorem ok_f13 : Option.map (trC Tryz.prog) Tryz.f13.body = some tc_f13.er := by kernel_rfl
theorem rok_f13 : trVs Tryz.prog Tryz.f13.results.toList = some (rv_f13.map Prod.fst) := by kernel_rfl
theorem en_f13 : Entered Tryz.prog 13 := .inr ⟨by decide, _, Tryz.func13, by kernel_rfl, by kernel_rfl⟩
theorem gk_f13 : GOk Tryz.prog g_f13 := gok_of _ (by
  intro p hp
  simp only [List.mem_cons, List.not_mem_nil, or_false] at hp
  rcases hp with rfl | rfl | rfl | rfl
  · exact ⟨en_f22, ms_f22⟩
  · exact ⟨en_f32, ms_f32⟩
  · exact ⟨en_f47, ms_f47⟩
  · exact ⟨en_f48, ms_f48⟩)
theorem l_f13_0 (y2 : Item) (y3_0 : ByteArray) (y3_1 : Int) (y3_2 : Int) (y3_4 : Int) (y5 : (List Link)) (y50000 : Dice) (h : (dOk y50000 && decide (1 ≤ y5.length ∧ y5.length ≤ 9)) = true) : lp_f13_0 y2 y3_0 y3_1 y3_2 y3_4 y5 y50000 = la_f13_0 y2 y3_0 y3_1 y3_2 y3_4 y5 y50000 := by
  simp only [Bool.and_eq_true, decide_eq_true_eq] at h
  obtain ⟨hd, h1, h2⟩ := h
  obtain ⟨m, hm⟩ : ∃ m, m = 9 - y5.length := ⟨_, rfl⟩
  induction m generalizing y5 y50000 with
  | zero =>
    rw [ln_f13_0]
    have hl : y5.length = 9 := by omega
    have hv := dval_lt (d := y50000) (n := 2) (by omega)
    have e8 : iadd .i64 8 (dval y50000 2) = 8 + dval y50000 2 := iadd_in (by omega)
    have c1 : ilt (llen y5) (iadd .i64 8 (dval y50000 2)) = false := by rw [e8]; simp only [ilt, llen, decide_eq_false_iff_not]; omega
    have e1 : 10 - y5.length = 0 + 1 := by omega
    simp only [n_f13_0, nextOkJ hd, br_true, c1, br_false, la_f13_0, e1, fillZ, Bool.false_eq_true, if_false]
  | succ m ih =>
    rw [ln_f13_0]
    have e1 : 10 - y5.length = (9 - y5.length) + 1 := by omega
    have es : isub .i64 (llen y5) 1 = ((y5.length - 1 : Nat) : Int) := by unfold llen; rw [isub_in (by omega)]; omega
    have c2 : cIx y5 ((y5.length - 1 : Nat) : Int) = true := by rw [cIx_nat]; exact decide_eq_true (by omega)
    have c3 : cLd y5 (y5.length - 1) = true := by simp only [cLd, decide_eq_true_eq]; omega
    have c4 : ∀ x : Link, cApp y5 [x] 24 = true := fun x => cApp_ok (by simp; omega) (by omega)
    have ihx : ∀ x : Link, ilt (llen y5) (iadd .i64 8 (dval y50000 2)) = true → lp_f13_0 y2 y3_0 y3_1 y3_2 y3_4 (y5 ++ [x]) (dnext y50000 2) = some (.exit 1, st_f13_0_e1 y2 y3_0 y3_1 y3_2 y3_4 (fillZ (9 - y5.length) (y5 ++ [x]) (dnext y50000 2)).1 (fillZ (9 - y5.length) (y5 ++ [x]) (dnext y50000 2)).2) := fun x hx => by
      have hv := dval_lt (d := y50000) (n := 2) (by omega)
      rw [ih (y5 ++ [x]) (dnext y50000 2) (dOk_next hd) (by simp) (by simp; omega) (by simp; omega)]
      simp only [la_f13_0, List.length_append, List.length_singleton, show 10 - (y5.length + 1) = 9 - y5.length by omega]
    simp only [n_f13_0, n_f13_0_1, n_f13_0_2, n_f13_0_3, frk_self, nextOkJ hd, br_true, frk_self, la_f13_0, e1, fillZ, es, c2, c3, c4, Int.toNat_natCast]
    cases hc : ilt (llen y5) (iadd .i64 8 (dval y50000 2)) with
    | false => simp only [br_false, Bool.false_eq_true, if_false]
    | true => simp only [br_true, if_true, ihx _ hc]
theorem lo_f13_0 : ∀ S l p, g_f13.L 0 (fgt fg_f13_0 S) = some (true, l) → pickA l = some p → loopF (roundF g_f13 fg_f13_0 tb_f13_0) S = some p :=
  lok_of (s := sh_f13_0) ⟨by decide, by decide⟩ (by kernel_rfl) fun x y hok p hp => by
  simp only [pickA_br, pickA_one] at hp
  exact (l_f13_0 y.1 y.2.1.1 y.2.1.2.1 y.2.1.2.2.1 y.2.1.2.2.2.2.1 y.2.2.1 y.2.2.2.2.2.2.2.2.2.1 (by simpa using hok)).trans hp
theorem lk_f13 : tc_f13.lok g_f13 := by
  repeat (first | exact trivial | exact lo_f13_0 | refine ⟨?_, ?_⟩)
theorem s_f13 (d : Dice) (h : dOk d = true) : r_f13 d = some (.t tyItem (madeV d), [.box (.t tyDice (madeN d))]) := by
  have hD : dOk (itemN d deedS) = true := dOk_item h
  have hl := itLk_len d
  have hl : 1 ≤ (itemV d deedS).2.2.2.1.length ∧ (itemV d deedS).2.2.2.1.length ≤ 3 := hl
  have hE : dOk (dnext (itemN d deedS) 16) = true := dOk_next hD
  have n16 : nextOk (itemN d deedS) 16 = true := by simp [nextOk, hD]
  simp only [r_f13, r_f13_1, frk_self, show dOkS d (ByteArray.mk #[100, 101, 101, 100]) = true from h, br_true, frk_self]
  unfold madeV madeN
  simp only [show (ByteArray.mk #[100, 101, 101, 100]) = deedS from rfl]
  generalize itemV d deedS = I at hl ⊢
  generalize itemN d deedS = D at hD hE n16 ⊢
  have w1 : wdOk (dnext D 16) [ByteArray.mk #[], ByteArray.mk #[97, 32, 98]] = true := by simp [wdOk, hE]
  have o1 : ofOk (dnext D 16) [0, 3] = true := by simp [ofOk, hE]
  have o2 : ofOk (dnext D 16) [0, 5] = true := by simp [ofOk, hE]
  have o3 : ofOk (dnext D 16) [-1, 40001, 0] = true := by simp [ofOk, hE]
  have c1 : cIx I.2.2.2.1 0 = true := by simp only [cIx, decide_eq_true_eq]; omega
  have c2 : cLd I.2.2.2.1 (Int.toNat 0) = true := by simp only [cLd, decide_eq_true_eq]; show 0 < _; omega
  have es : isub .i64 (llen I.2.2.2.1) 1 = ((I.2.2.2.1.length - 1 : Nat) : Int) := by unfold llen; rw [isub_in (by omega)]; omega
  have c3 : cIx I.2.2.2.1 (isub .i64 (llen I.2.2.2.1) 1) = true := by rw [es, cIx_nat]; exact decide_eq_true (by omega)
  have c4 : cLd I.2.2.2.1 (Int.toNat (isub .i64 (llen I.2.2.2.1) 1)) = true := by rw [es]; simp only [cLd, decide_eq_true_eq, Int.toNat_natCast]; omega
  have c5 : ∀ x : Link, cApp I.2.2.2.1 [x] 24 = true := fun x => cApp_ok (by simp; omega) (by omega)
  have c6 : (dOk (dnext D 16) && decide (1 ≤ I.2.2.2.1.length ∧ I.2.2.2.1.length ≤ 9)) = true := by rw [hE, Bool.true_and]; exact decide_eq_true (by omega)
  simp only [n16, w1, o1, o2, o3, c1, c2, c3, c4, c5, c6, br_true]
  unfold madeP
  generalize ieq (dval D 16) 0 = b0
  generalize ieq (dval D 16) 1 = b1
  generalize ieq (dval D 16) 2 = b2
  generalize ieq (dval D 16) 3 = b3
  generalize ieq (dval D 16) 4 = b4
  generalize ieq (dval D 16) 5 = b5
  generalize ieq (dval D 16) 6 = b6
  generalize ieq (dval D 16) 7 = b7
  generalize ieq (dval D 16) 8 = b8
  cases b0
  rotate_left
  · rfl
  cases b1
  rotate_left
  · rfl
  cases b2
  rotate_left
  · rfl
  cases b3
  rotate_left
  · rfl
  cases b4
  rotate_left
  · rfl
  cases b5
  rotate_left
  · rfl
  cases b6
  rotate_left
  · rfl
  cases b7
  rotate_left
  · rfl
  cases b8 <;> rfl
def sp_f13 : Ent := specP tyDice .nil (fun d x => (dOk d)) (fun d x => (.t tyItem (madeV d))) (fun d x => (madeN d))
theorem ms_f13 : Meets Tryz.prog 13 (strip sp_f13) := by
  obtain ⟨c, hc, hi⟩ := Option.map_eq_some_iff.1 ok_f13
  exact meets_specP (R := runF g_f13 tc_f13 rv_f13 false) (meets_of (by decide) Tryz.func13 hc hi Tryz.ntmps13 rok_f13 gk_f13 lk_f13 mixed) rfl fun d x hok => (e_f13 d).trans (s_f13 d hok)
end
end Go.Proofs.YtfehjdaielifiaaGreat.K.OI
