/-
 Policies out of dice: their slices are the caller's own.
-/
import Derived.Test.YtfehjdaielifiaaGreatM2
set_option linter.unusedSimpArgs false
set_option linter.unusedVariables false
namespace Go.Proofs.YtfehjdaielifiaaGreat.K
open Go.RowKit
def dr_f12_0 : List DO := [(.mk (oP 39 (.fa 4 (.t 5))) []), (.mk (oL 40 39) [0]), (.mk (oV 41 0) []), (.mk (oM 42 (.bs 3 1 3 [(.v (.int .i64 0)), (.v (.int .i64 0)), (.v (.int .i64 0))] [(0, 1, (cI 20)), (1, 1, (cI 1)), (2, 1, (cI 200))])) []), (.mk (oC 43 22 [(.t 41), (.t 42)]) [2, 3]), (.mk (oP 44 (.bin false .add (.t 40) (.t 43))) [1, 4]), (.mk (oP 45 (.fa 5 (.t 5))) [0, 1, 2, 3, 4, 5]), (.mk (.mk none none (.m (.st 1 (.t 45) (.t 44)))) [6, 5, 4, 0, 1, 2, 3, 4, 5])]
def dr_f12_1 : List DO := [(.mk (oP 58 (.fa 1 (.t 3))) []), (.mk (oL 59 58) [0]), (.mk (oV 60 0) []), (.mk (oC 61 47 [(.t 60), (cI 4)]) [2]), (.mk (oP 62 (.bin false .add (cI 1) (.t 61))) [3]), (.mk (oV 63 0) []), (.mk (oM 64 (.bs 3 1 3 [(.v (.int .i64 0)), (.v (.int .i64 0)), (.v (.int .i64 0))] [(0, 1, (cI 10)), (1, 1, (cI 100)), (2, 1, (cI 3000))])) []), (.mk (oC 65 22 [(.t 63), (.t 64)]) [5, 6, 3]), (.mk (oP 66 (.bd [(.v (.int .i64 0)), (.v (.int .i64 0))] [(0, 1, (.t 62)), (1, 1, (.t 65))])) [4, 7]), (.mk (oM 67 (.bs 80 2 1 [(.v (.int .i64 0)), (.v (.int .i64 0))] [(0, 2, (.t 66))])) [8]), (.mk (oM 68 (.app 80 2 16 (.t 59) (.t 67))) [1, 9, 7]), (.mk (oP 69 (.fa 1 (.t 3))) [0, 1, 2, 3, 4, 5, 6, 7, 8, 9, 10]), (.mk (.mk none none (.m (.st 1 (.t 69) (.t 68)))) [11, 10, 10, 0, 1, 2, 3, 4, 5, 6, 7, 8, 9, 10])]
def fg_f12_0 : Fg := ⟨[(0, none), (2, none), (3, none), (4, some tI)], [(2, some tyPolicy), (3, none), (50, none), (68, none), (20300, none), (20301, none), (50000, some tyDice)]⟩
def tb_f12_0 : TC := (.sq (.sq (.reg [(oV 9 4), (oP 10 (.bin false .gtr (.t 9) (cI 0)))]) (.cd (.t 10) .sk (.fg ⟨[(0, none), (2, none), (3, none)], [(2, some tyPolicy), (3, some tyPolicy), (50, none), (68, none), (20300, none), (20301, none), (50000, some tyDice)]⟩ (.ex 0)))) (.sq (.bk 1 (.sq (.reg [(oV 13 0), (oC 14 14 [(.t 13), (cI 3)]), (oV 15 0), (oM 16 (.bs 3 1 10 [(.v (.int .i64 0)), (.v (.int .i64 0)), (.v (.int .i64 0)), (.v (.int .i64 0)), (.v (.int .i64 0)), (.v (.int .i64 0)), (.v (.int .i64 0)), (.v (.int .i64 0)), (.v (.int .i64 0)), (.v (.int .i64 0))] [(0, 1, (cI 14)), (1, 1, (cI 1)), (2, 1, (cI 2)), (3, 1, (cI 5)), (4, 1, (cI 15)), (5, 1, (cI 0)), (6, 1, (cI 16)), (7, 1, (cI 10)), (8, 1, (cI 20)), (9, 1, (cI 7))])), (oC 17 22 [(.t 15), (.t 16)]), (oP 18 (.bd [(.v (.bool false)), (.v (.int .i64 0)), (.v (.int .i64 0)), (.v (.int .i64 0)), (.v (.int .i64 0)), (.v (.int .i64 0))] [(0, 1, (.t 14)), (1, 1, (.t 17)), (5, 1, (cI 40001))])), (oM 5 (.new [(.v (.bool false)), (.v (.int .i64 0)), (.v (.int .i64 0)), (.v (.int .i64 0)), (.v (.int .i64 0)), (.v (.int .i64 0))])), (.mk none none (.m (.st 6 (.t 5) (.t 18))))]) (.sq (.sq (.reg [(oV 19 0), (oC 20 14 [(.t 19), (cI 2)])]) (.cd (.t 20) (.reg [(oV 21 0), (oM 22 (.bs 3 1 5 [(.v (.int .i64 0)), (.v (.int .i64 0)), (.v (.int .i64 0)), (.v (.int .i64 0)), (.v (.int .i64 0))] [(0, 1, (cI 2048)), (1, 1, (cI 256)), (2, 1, (cI 1024)), (3, 1, (cI 3072)), (4, 1, (cI 129))])), (oC 23 22 [(.t 21), (.t 22)]), (oP 24 (.fa 2 (.t 5))), (.mk none none (.m (.st 1 (.t 24) (.t 23))))]) .sk)) (.sq (.sq (.reg [(oV 25 0), (oC 26 14 [(.t 25), (cI 3)])]) (.cd (.t 26) (.reg [(oV 27 0), (oC 28 47 [(.t 27), (cI 4)]), (oP 29 (.bin false .add (cI 1) (.t 28))), (oP 30 (.fa 3 (.t 5))), (.mk none none (.m (.st 1 (.t 30) (.t 29))))]) .sk)) (.sq (.sq (.reg [(oV 31 0), (oC 32 14 [(.t 31), (cI 2)])]) (.cd (.t 32) (.reg [(oV 33 0), (oM 34 (.bs 3 1 4 [(.v (.int .i64 0)), (.v (.int .i64 0)), (.v (.int .i64 0)), (.v (.int .i64 0))] [(0, 1, (cI 10)), (1, 1, (cI 30)), (2, 1, (cI 100)), (3, 1, (cI 7))])), (oC 35 22 [(.t 33), (.t 34)]), (oP 36 (.fa 4 (.t 5))), (.mk none none (.m (.st 1 (.t 36) (.t 35))))]) .sk)) (.sq (.sq (.reg [(oV 37 0), (oC 38 14 [(.t 37), (cI 3)])]) (.cd (.t 38) (.dr dr_f12_0 [(0, [5]), (1, [5]), (2, [50000]), (3, []), (4, [43, 5043, 10043, 15043, 50000]), (5, []), (6, [5]), (7, [5])] (.of [0, 1, 2, 3, 4, 5, 6, 7])) .sk)) (.reg [(oP 46 (.fa 0 (.t 3))), (oL 47 46), (oM 48 (.ld true 6 (.t 5))), (oM 49 (.bs 38 6 1 [(.v (.bool false)), (.v (.int .i64 0)), (.v (.int .i64 0)), (.v (.int .i64 0)), (.v (.int .i64 0)), (.v (.int .i64 0))] [(0, 6, (.t 48))])), (oM 50 (.app 38 6 48 (.t 47) (.t 49))), (oP 51 (.fa 0 (.t 3))), (.mk none none (.m (.st 1 (.t 51) (.t 50))))]))))))) (.reg [(oV 11 4), (oP 12 (.bin false .sub (.t 11) (cI 1))), (oV 4 12)])))
def fg_f12_1 : Fg := ⟨[(0, none), (2, none), (3, none), (6, some tI)], [(2, some tyPolicy), (3, none), (50, none), (68, none), (20300, none), (20301, none), (50000, some tyDice)]⟩
def tb_f12_1 : TC := (.sq (.sq (.reg [(oV 54 6), (oP 55 (.bin false .gtr (.t 54) (cI 0)))]) (.cd (.t 55) .sk (.fg ⟨[(2, none), (3, none)], [(2, some tyPolicy), (3, some tyPolicy), (50, none), (68, none), (20300, none), (20301, none), (50000, some tyDice)]⟩ (.ex 2)))) (.sq (.bk 3 (.dr dr_f12_1 [(0, [3, 50, 68, 20300, 20301]), (1, [3, 50, 68, 20300, 20301]), (2, [50000]), (3, [61, 5061, 10061, 15061, 50000]), (4, []), (5, [50000]), (6, []), (7, [65, 5065, 10065, 15065, 50000]), (8, []), (9, []), (10, [2, 3, 50, 68, 5068, 10068, 15068, 20300, 20301]), (11, [3, 50, 68, 20300, 20301]), (12, [2, 3, 50, 68, 20300, 20301])] (.of [0, 1, 2, 5, 6, 3, 4, 7, 8, 9, 10, 11, 12]))) (.reg [(oV 56 6), (oP 57 (.bin false .sub (.t 56) (cI 1))), (oV 6 57)])))
def tc_f12 : TC := (.sq (.reg [(oM 2 (.new [(.v (.slice none 0 0)), (.v (.slice none 0 0))]))]) (.sq (.reg [(oM 3 (.new [(.v (.slice none 0 0)), (.v (.slice none 0 0))]))]) (.sq (.sq (.reg [(oV 7 0), (oC 8 47 [(.t 7), (cI 7)]), (oV 4 8)]) (.bk 0 (.nf 3 1 80 20301 (.nf 3 0 38 20300 (.lp 0 fg_f12_0 tb_f12_0))))) (.sq (.sq (.reg [(oV 52 0), (oC 53 47 [(.t 52), (cI 3)]), (oV 6 53)]) (.bk 2 (.nf 3 0 38 20300 (.nf 3 1 80 20301 (.lp 1 fg_f12_1 tb_f12_1))))) (.sq (.reg [(oM 70 (.ld true 2 (.t 3))), (.mk none none (.m (.st 2 (.t 2) (.t 70))))]) .rt)))))
def rv_f12 : List (RV × Option Ty) := [((.c 2 true 2), none)]
abbrev sh_f12_0 : Sh := ⟨[(0, .ptr 50000 0), (2, .ptr 2 0), (3, .ptr 3 0), (4, .ty tI)], [(2, .box tyPolicy), (3, .bag [.ms 20300, .ms 20301]), (50, .no), (68, .no), (20300, .arr 38 tyRule), (20301, .arr 80 tyKeep), (50000, .box tyDice)]⟩
def st_f12_0 (x4 : Int) (y2 : Policy) (y20300 : (List Rule)) (y20301 : (List Keep)) (y50000 : Dice) : VS := sh_f12_0.st ((), (), (), x4, ()) (y2, ((), (), ()), (), (), y20300, y20301, y50000, ())
abbrev sh_f12_0_e0 : Sh := ⟨[(0, .ptr 50000 0), (2, .ptr 2 0), (3, .ptr 3 0)], [(2, .box tyPolicy), (3, .bag [.ms 20300, .ms 20301]), (50, .no), (68, .no), (20300, .arr 38 tyRule), (20301, .arr 80 tyKeep), (50000, .box tyDice)]⟩
def st_f12_0_e0 (y2 : Policy) (y20300 : (List Rule)) (y20301 : (List Keep)) (y50000 : Dice) : VS := sh_f12_0_e0.st ((), (), (), ()) (y2, ((), (), ()), (), (), y20300, y20301, y50000, ())
-- loop 0: (x4 : Int) (y2 : Policy) (y20300 : (List Rule)) (y20301 : (List Keep)) (y50000 : Dice); out: ('exit', 0) (y2 : Policy) (y20300 : (List Rule)) (y20301 : (List Keep)) (y50000 : Dice)
abbrev sh_f12_1 : Sh := ⟨[(0, .ptr 50000 0), (2, .ptr 2 0), (3, .ptr 3 0), (6, .ty tI)], [(2, .box tyPolicy), (3, .bag [.ms 20300, .ms 20301]), (50, .no), (68, .no), (20300, .arr 38 tyRule), (20301, .arr 80 tyKeep), (50000, .box tyDice)]⟩
def st_f12_1 (x6 : Int) (y2 : Policy) (y20300 : (List Rule)) (y20301 : (List Keep)) (y50000 : Dice) : VS := sh_f12_1.st ((), (), (), x6, ()) (y2, ((), (), ()), (), (), y20300, y20301, y50000, ())
abbrev sh_f12_1_e2 : Sh := ⟨[(2, .ptr 2 0), (3, .ptr 3 0)], [(2, .box tyPolicy), (3, .bag [.ms 20300, .ms 20301]), (50, .no), (68, .no), (20300, .arr 38 tyRule), (20301, .arr 80 tyKeep), (50000, .box tyDice)]⟩
def st_f12_1_e2 (y2 : Policy) (y20300 : (List Rule)) (y20301 : (List Keep)) (y50000 : Dice) : VS := sh_f12_1_e2.st ((), (), ()) (y2, ((), (), ()), (), (), y20300, y20301, y50000, ())
-- loop 1: (x6 : Int) (y2 : Policy) (y20300 : (List Rule)) (y20301 : (List Keep)) (y50000 : Dice); out: ('exit', 2) (y2 : Policy) (y20300 : (List Rule)) (y20301 : (List Keep)) (y50000 : Dice)
def L_f12_0 : VS → Option (Bool × List (Bool × Exit × VS)) := mkL sh_f12_0 (fun x y => (dOk y.2.2.2.2.2.2.1 && decide (0 ≤ x.2.2.2.1 ∧ x.2.2.2.1 ≤ 100 ∧ y.2.2.2.2.1.length + x.2.2.2.1.toNat ≤ 1000))) (fun x y => [(true, .exit 0, st_f12_0_e0 (y.1) (y.2.2.2.2.1 ++ (rulesZ x.2.2.2.1.toNat y.2.2.2.2.2.2.1).1) (y.2.2.2.2.2.1) ((rulesZ x.2.2.2.1.toNat y.2.2.2.2.2.2.1).2))])
def L_f12_1 : VS → Option (Bool × List (Bool × Exit × VS)) := mkL sh_f12_1 (fun x y => (dOk y.2.2.2.2.2.2.1 && decide (0 ≤ x.2.2.2.1 ∧ x.2.2.2.1 ≤ 100 ∧ y.2.2.2.2.2.1.length + x.2.2.2.1.toNat ≤ 1000))) (fun x y => [(true, .exit 2, st_f12_1_e2 (y.1) (y.2.2.2.2.1) (y.2.2.2.2.2.1 ++ (keepsZ x.2.2.2.1.toNat y.2.2.2.2.2.2.1).1) ((keepsZ x.2.2.2.1.toNat y.2.2.2.2.2.2.1).2))])
def g_f12 : G := ⟨TYs, [], 71, EL [(14, sp_f14), (22, sp_f22), (47, sp_f47)], keeps, (Ls [L_f12_0, L_f12_1]), IL [], RL []⟩
def b_f12_0 (x4 : Int) (y2 : Policy) (y20300 : (List Rule)) (y20301 : (List Keep)) (y50000 : Dice) : Option (Exit × VS) :=
 br ((igt x4 0))
  (br ((oneOk y50000 3))
   (br ((ofOk (dnext y50000 3) ([14, 1, 2, 5, 15, 0, 16, 10, 20, 7])))
    (br ((oneOk (dofN (dnext y50000 3) ([14, 1, 2, 5, 15, 0, 16, 10, 20, 7])) 2))
     (br ((done (dofN (dnext y50000 3) ([14, 1, 2, 5, 15, 0, 16, 10, 20, 7])) 2))
      (br ((ofOk (dnext (dofN (dnext y50000 3) ([14, 1, 2, 5, 15, 0, 16, 10, 20, 7])) 2) ([2048, 256, 1024, 3072, 129])))
       (br ((oneOk (dofN (dnext (dofN (dnext y50000 3) ([14, 1, 2, 5, 15, 0, 16, 10, 20, 7])) 2) ([2048, 256, 1024, 3072, 129])) 3))
        (br ((done (dofN (dnext (dofN (dnext y50000 3) ([14, 1, 2, 5, 15, 0, 16, 10, 20, 7])) 2) ([2048, 256, 1024, 3072, 129])) 3))
         (br ((nextOk (dnext (dofN (dnext (dofN (dnext y50000 3) ([14, 1, 2, 5, 15, 0, 16, 10, 20, 7])) 2) ([2048, 256, 1024, 3072, 129])) 3) 4))
          (br ((oneOk (dnext (dnext (dofN (dnext (dofN (dnext y50000 3) ([14, 1, 2, 5, 15, 0, 16, 10, 20, 7])) 2) ([2048, 256, 1024, 3072, 129])) 3) 4) 2))
           (br ((done (dnext (dnext (dofN (dnext (dofN (dnext y50000 3) ([14, 1, 2, 5, 15, 0, 16, 10, 20, 7])) 2) ([2048, 256, 1024, 3072, 129])) 3) 4) 2))
            (br ((ofOk (dnext (dnext (dnext (dofN (dnext (dofN (dnext y50000 3) ([14, 1, 2, 5, 15, 0, 16, 10, 20, 7])) 2) ([2048, 256, 1024, 3072, 129])) 3) 4) 2) ([10, 30, 100, 7])))
             (br ((oneOk (dofN (dnext (dnext (dnext (dofN (dnext (dofN (dnext y50000 3) ([14, 1, 2, 5, 15, 0, 16, 10, 20, 7])) 2) ([2048, 256, 1024, 3072, 129])) 3) 4) 2) ([10, 30, 100, 7])) 3))
              (br ((done (dofN (dnext (dnext (dnext (dofN (dnext (dofN (dnext y50000 3) ([14, 1, 2, 5, 15, 0, 16, 10, 20, 7])) 2) ([2048, 256, 1024, 3072, 129])) 3) 4) 2) ([10, 30, 100, 7])) 3))
               (br ((ofOk (dnext (dofN (dnext (dnext (dnext (dofN (dnext (dofN (dnext y50000 3) ([14, 1, 2, 5, 15, 0, 16, 10, 20, 7])) 2) ([2048, 256, 1024, 3072, 129])) 3) 4) 2) ([10, 30, 100, 7])) 3) ([20, 1, 200])))
                (br (cApp y20300 ([((done y50000 3), ((dof (dnext y50000 3) ([14, 1, 2, 5, 15, 0, 16, 10, 20, 7])), ((dof (dnext (dofN (dnext y50000 3) ([14, 1, 2, 5, 15, 0, 16, 10, 20, 7])) 2) ([2048, 256, 1024, 3072, 129])), ((iadd .i64 1 (dval (dnext (dofN (dnext (dofN (dnext y50000 3) ([14, 1, 2, 5, 15, 0, 16, 10, 20, 7])) 2) ([2048, 256, 1024, 3072, 129])) 3) 4)), ((dof (dnext (dnext (dnext (dofN (dnext (dofN (dnext y50000 3) ([14, 1, 2, 5, 15, 0, 16, 10, 20, 7])) 2) ([2048, 256, 1024, 3072, 129])) 3) 4) 2) ([10, 30, 100, 7])), ((iadd .i64 (dof (dnext (dnext (dnext (dofN (dnext (dofN (dnext y50000 3) ([14, 1, 2, 5, 15, 0, 16, 10, 20, 7])) 2) ([2048, 256, 1024, 3072, 129])) 3) 4) 2) ([10, 30, 100, 7])) (dof (dnext (dofN (dnext (dnext (dnext (dofN (dnext (dofN (dnext y50000 3) ([14, 1, 2, 5, 15, 0, 16, 10, 20, 7])) 2) ([2048, 256, 1024, 3072, 129])) 3) 4) 2) ([10, 30, 100, 7])) 3) ([20, 1, 200]))), ()))))))]) 48)
                 (some (.normal, st_f12_0 (isub .i64 x4 1) y2 (y20300 ++ ([((done y50000 3), ((dof (dnext y50000 3) ([14, 1, 2, 5, 15, 0, 16, 10, 20, 7])), ((dof (dnext (dofN (dnext y50000 3) ([14, 1, 2, 5, 15, 0, 16, 10, 20, 7])) 2) ([2048, 256, 1024, 3072, 129])), ((iadd .i64 1 (dval (dnext (dofN (dnext (dofN (dnext y50000 3) ([14, 1, 2, 5, 15, 0, 16, 10, 20, 7])) 2) ([2048, 256, 1024, 3072, 129])) 3) 4)), ((dof (dnext (dnext (dnext (dofN (dnext (dofN (dnext y50000 3) ([14, 1, 2, 5, 15, 0, 16, 10, 20, 7])) 2) ([2048, 256, 1024, 3072, 129])) 3) 4) 2) ([10, 30, 100, 7])), ((iadd .i64 (dof (dnext (dnext (dnext (dofN (dnext (dofN (dnext y50000 3) ([14, 1, 2, 5, 15, 0, 16, 10, 20, 7])) 2) ([2048, 256, 1024, 3072, 129])) 3) 4) 2) ([10, 30, 100, 7])) (dof (dnext (dofN (dnext (dnext (dnext (dofN (dnext (dofN (dnext y50000 3) ([14, 1, 2, 5, 15, 0, 16, 10, 20, 7])) 2) ([2048, 256, 1024, 3072, 129])) 3) 4) 2) ([10, 30, 100, 7])) 3) ([20, 1, 200]))), ()))))))])) y20301 (dofN (dnext (dofN (dnext (dnext (dnext (dofN (dnext (dofN (dnext y50000 3) ([14, 1, 2, 5, 15, 0, 16, 10, 20, 7])) 2) ([2048, 256, 1024, 3072, 129])) 3) 4) 2) ([10, 30, 100, 7])) 3) ([20, 1, 200]))))
                 (none))
                (none))
               (br (cApp y20300 ([((done y50000 3), ((dof (dnext y50000 3) ([14, 1, 2, 5, 15, 0, 16, 10, 20, 7])), ((dof (dnext (dofN (dnext y50000 3) ([14, 1, 2, 5, 15, 0, 16, 10, 20, 7])) 2) ([2048, 256, 1024, 3072, 129])), ((iadd .i64 1 (dval (dnext (dofN (dnext (dofN (dnext y50000 3) ([14, 1, 2, 5, 15, 0, 16, 10, 20, 7])) 2) ([2048, 256, 1024, 3072, 129])) 3) 4)), ((dof (dnext (dnext (dnext (dofN (dnext (dofN (dnext y50000 3) ([14, 1, 2, 5, 15, 0, 16, 10, 20, 7])) 2) ([2048, 256, 1024, 3072, 129])) 3) 4) 2) ([10, 30, 100, 7])), (40001, ()))))))]) 48)
                (some (.normal, st_f12_0 (isub .i64 x4 1) y2 (y20300 ++ ([((done y50000 3), ((dof (dnext y50000 3) ([14, 1, 2, 5, 15, 0, 16, 10, 20, 7])), ((dof (dnext (dofN (dnext y50000 3) ([14, 1, 2, 5, 15, 0, 16, 10, 20, 7])) 2) ([2048, 256, 1024, 3072, 129])), ((iadd .i64 1 (dval (dnext (dofN (dnext (dofN (dnext y50000 3) ([14, 1, 2, 5, 15, 0, 16, 10, 20, 7])) 2) ([2048, 256, 1024, 3072, 129])) 3) 4)), ((dof (dnext (dnext (dnext (dofN (dnext (dofN (dnext y50000 3) ([14, 1, 2, 5, 15, 0, 16, 10, 20, 7])) 2) ([2048, 256, 1024, 3072, 129])) 3) 4) 2) ([10, 30, 100, 7])), (40001, ()))))))])) y20301 (dnext (dofN (dnext (dnext (dnext (dofN (dnext (dofN (dnext y50000 3) ([14, 1, 2, 5, 15, 0, 16, 10, 20, 7])) 2) ([2048, 256, 1024, 3072, 129])) 3) 4) 2) ([10, 30, 100, 7])) 3)))
                (none)))
              (none))
             (none))
            (br ((oneOk (dnext (dnext (dnext (dofN (dnext (dofN (dnext y50000 3) ([14, 1, 2, 5, 15, 0, 16, 10, 20, 7])) 2) ([2048, 256, 1024, 3072, 129])) 3) 4) 2) 3))
             (br ((done (dnext (dnext (dnext (dofN (dnext (dofN (dnext y50000 3) ([14, 1, 2, 5, 15, 0, 16, 10, 20, 7])) 2) ([2048, 256, 1024, 3072, 129])) 3) 4) 2) 3))
              (br ((ofOk (dnext (dnext (dnext (dnext (dofN (dnext (dofN (dnext y50000 3) ([14, 1, 2, 5, 15, 0, 16, 10, 20, 7])) 2) ([2048, 256, 1024, 3072, 129])) 3) 4) 2) 3) ([20, 1, 200])))
               (br (cApp y20300 ([((done y50000 3), ((dof (dnext y50000 3) ([14, 1, 2, 5, 15, 0, 16, 10, 20, 7])), ((dof (dnext (dofN (dnext y50000 3) ([14, 1, 2, 5, 15, 0, 16, 10, 20, 7])) 2) ([2048, 256, 1024, 3072, 129])), ((iadd .i64 1 (dval (dnext (dofN (dnext (dofN (dnext y50000 3) ([14, 1, 2, 5, 15, 0, 16, 10, 20, 7])) 2) ([2048, 256, 1024, 3072, 129])) 3) 4)), (0, ((iadd .i64 0 (dof (dnext (dnext (dnext (dnext (dofN (dnext (dofN (dnext y50000 3) ([14, 1, 2, 5, 15, 0, 16, 10, 20, 7])) 2) ([2048, 256, 1024, 3072, 129])) 3) 4) 2) 3) ([20, 1, 200]))), ()))))))]) 48)
                (some (.normal, st_f12_0 (isub .i64 x4 1) y2 (y20300 ++ ([((done y50000 3), ((dof (dnext y50000 3) ([14, 1, 2, 5, 15, 0, 16, 10, 20, 7])), ((dof (dnext (dofN (dnext y50000 3) ([14, 1, 2, 5, 15, 0, 16, 10, 20, 7])) 2) ([2048, 256, 1024, 3072, 129])), ((iadd .i64 1 (dval (dnext (dofN (dnext (dofN (dnext y50000 3) ([14, 1, 2, 5, 15, 0, 16, 10, 20, 7])) 2) ([2048, 256, 1024, 3072, 129])) 3) 4)), (0, ((iadd .i64 0 (dof (dnext (dnext (dnext (dnext (dofN (dnext (dofN (dnext y50000 3) ([14, 1, 2, 5, 15, 0, 16, 10, 20, 7])) 2) ([2048, 256, 1024, 3072, 129])) 3) 4) 2) 3) ([20, 1, 200]))), ()))))))])) y20301 (dofN (dnext (dnext (dnext (dnext (dofN (dnext (dofN (dnext y50000 3) ([14, 1, 2, 5, 15, 0, 16, 10, 20, 7])) 2) ([2048, 256, 1024, 3072, 129])) 3) 4) 2) 3) ([20, 1, 200]))))
                (none))
               (none))
              (br (cApp y20300 ([((done y50000 3), ((dof (dnext y50000 3) ([14, 1, 2, 5, 15, 0, 16, 10, 20, 7])), ((dof (dnext (dofN (dnext y50000 3) ([14, 1, 2, 5, 15, 0, 16, 10, 20, 7])) 2) ([2048, 256, 1024, 3072, 129])), ((iadd .i64 1 (dval (dnext (dofN (dnext (dofN (dnext y50000 3) ([14, 1, 2, 5, 15, 0, 16, 10, 20, 7])) 2) ([2048, 256, 1024, 3072, 129])) 3) 4)), (0, (40001, ()))))))]) 48)
               (some (.normal, st_f12_0 (isub .i64 x4 1) y2 (y20300 ++ ([((done y50000 3), ((dof (dnext y50000 3) ([14, 1, 2, 5, 15, 0, 16, 10, 20, 7])), ((dof (dnext (dofN (dnext y50000 3) ([14, 1, 2, 5, 15, 0, 16, 10, 20, 7])) 2) ([2048, 256, 1024, 3072, 129])), ((iadd .i64 1 (dval (dnext (dofN (dnext (dofN (dnext y50000 3) ([14, 1, 2, 5, 15, 0, 16, 10, 20, 7])) 2) ([2048, 256, 1024, 3072, 129])) 3) 4)), (0, (40001, ()))))))])) y20301 (dnext (dnext (dnext (dnext (dofN (dnext (dofN (dnext y50000 3) ([14, 1, 2, 5, 15, 0, 16, 10, 20, 7])) 2) ([2048, 256, 1024, 3072, 129])) 3) 4) 2) 3)))
               (none)))
             (none)))
           (none))
          (none))
         (br ((oneOk (dnext (dofN (dnext (dofN (dnext y50000 3) ([14, 1, 2, 5, 15, 0, 16, 10, 20, 7])) 2) ([2048, 256, 1024, 3072, 129])) 3) 2))
          (br ((done (dnext (dofN (dnext (dofN (dnext y50000 3) ([14, 1, 2, 5, 15, 0, 16, 10, 20, 7])) 2) ([2048, 256, 1024, 3072, 129])) 3) 2))
           (br ((ofOk (dnext (dnext (dofN (dnext (dofN (dnext y50000 3) ([14, 1, 2, 5, 15, 0, 16, 10, 20, 7])) 2) ([2048, 256, 1024, 3072, 129])) 3) 2) ([10, 30, 100, 7])))
            (br ((oneOk (dofN (dnext (dnext (dofN (dnext (dofN (dnext y50000 3) ([14, 1, 2, 5, 15, 0, 16, 10, 20, 7])) 2) ([2048, 256, 1024, 3072, 129])) 3) 2) ([10, 30, 100, 7])) 3))
             (br ((done (dofN (dnext (dnext (dofN (dnext (dofN (dnext y50000 3) ([14, 1, 2, 5, 15, 0, 16, 10, 20, 7])) 2) ([2048, 256, 1024, 3072, 129])) 3) 2) ([10, 30, 100, 7])) 3))
              (br ((ofOk (dnext (dofN (dnext (dnext (dofN (dnext (dofN (dnext y50000 3) ([14, 1, 2, 5, 15, 0, 16, 10, 20, 7])) 2) ([2048, 256, 1024, 3072, 129])) 3) 2) ([10, 30, 100, 7])) 3) ([20, 1, 200])))
               (br (cApp y20300 ([((done y50000 3), ((dof (dnext y50000 3) ([14, 1, 2, 5, 15, 0, 16, 10, 20, 7])), ((dof (dnext (dofN (dnext y50000 3) ([14, 1, 2, 5, 15, 0, 16, 10, 20, 7])) 2) ([2048, 256, 1024, 3072, 129])), (0, ((dof (dnext (dnext (dofN (dnext (dofN (dnext y50000 3) ([14, 1, 2, 5, 15, 0, 16, 10, 20, 7])) 2) ([2048, 256, 1024, 3072, 129])) 3) 2) ([10, 30, 100, 7])), ((iadd .i64 (dof (dnext (dnext (dofN (dnext (dofN (dnext y50000 3) ([14, 1, 2, 5, 15, 0, 16, 10, 20, 7])) 2) ([2048, 256, 1024, 3072, 129])) 3) 2) ([10, 30, 100, 7])) (dof (dnext (dofN (dnext (dnext (dofN (dnext (dofN (dnext y50000 3) ([14, 1, 2, 5, 15, 0, 16, 10, 20, 7])) 2) ([2048, 256, 1024, 3072, 129])) 3) 2) ([10, 30, 100, 7])) 3) ([20, 1, 200]))), ()))))))]) 48)
                (some (.normal, st_f12_0 (isub .i64 x4 1) y2 (y20300 ++ ([((done y50000 3), ((dof (dnext y50000 3) ([14, 1, 2, 5, 15, 0, 16, 10, 20, 7])), ((dof (dnext (dofN (dnext y50000 3) ([14, 1, 2, 5, 15, 0, 16, 10, 20, 7])) 2) ([2048, 256, 1024, 3072, 129])), (0, ((dof (dnext (dnext (dofN (dnext (dofN (dnext y50000 3) ([14, 1, 2, 5, 15, 0, 16, 10, 20, 7])) 2) ([2048, 256, 1024, 3072, 129])) 3) 2) ([10, 30, 100, 7])), ((iadd .i64 (dof (dnext (dnext (dofN (dnext (dofN (dnext y50000 3) ([14, 1, 2, 5, 15, 0, 16, 10, 20, 7])) 2) ([2048, 256, 1024, 3072, 129])) 3) 2) ([10, 30, 100, 7])) (dof (dnext (dofN (dnext (dnext (dofN (dnext (dofN (dnext y50000 3) ([14, 1, 2, 5, 15, 0, 16, 10, 20, 7])) 2) ([2048, 256, 1024, 3072, 129])) 3) 2) ([10, 30, 100, 7])) 3) ([20, 1, 200]))), ()))))))])) y20301 (dofN (dnext (dofN (dnext (dnext (dofN (dnext (dofN (dnext y50000 3) ([14, 1, 2, 5, 15, 0, 16, 10, 20, 7])) 2) ([2048, 256, 1024, 3072, 129])) 3) 2) ([10, 30, 100, 7])) 3) ([20, 1, 200]))))
                (none))
               (none))
              (br (cApp y20300 ([((done y50000 3), ((dof (dnext y50000 3) ([14, 1, 2, 5, 15, 0, 16, 10, 20, 7])), ((dof (dnext (dofN (dnext y50000 3) ([14, 1, 2, 5, 15, 0, 16, 10, 20, 7])) 2) ([2048, 256, 1024, 3072, 129])), (0, ((dof (dnext (dnext (dofN (dnext (dofN (dnext y50000 3) ([14, 1, 2, 5, 15, 0, 16, 10, 20, 7])) 2) ([2048, 256, 1024, 3072, 129])) 3) 2) ([10, 30, 100, 7])), (40001, ()))))))]) 48)
               (some (.normal, st_f12_0 (isub .i64 x4 1) y2 (y20300 ++ ([((done y50000 3), ((dof (dnext y50000 3) ([14, 1, 2, 5, 15, 0, 16, 10, 20, 7])), ((dof (dnext (dofN (dnext y50000 3) ([14, 1, 2, 5, 15, 0, 16, 10, 20, 7])) 2) ([2048, 256, 1024, 3072, 129])), (0, ((dof (dnext (dnext (dofN (dnext (dofN (dnext y50000 3) ([14, 1, 2, 5, 15, 0, 16, 10, 20, 7])) 2) ([2048, 256, 1024, 3072, 129])) 3) 2) ([10, 30, 100, 7])), (40001, ()))))))])) y20301 (dnext (dofN (dnext (dnext (dofN (dnext (dofN (dnext y50000 3) ([14, 1, 2, 5, 15, 0, 16, 10, 20, 7])) 2) ([2048, 256, 1024, 3072, 129])) 3) 2) ([10, 30, 100, 7])) 3)))
               (none)))
             (none))
            (none))
           (br ((oneOk (dnext (dnext (dofN (dnext (dofN (dnext y50000 3) ([14, 1, 2, 5, 15, 0, 16, 10, 20, 7])) 2) ([2048, 256, 1024, 3072, 129])) 3) 2) 3))
            (br ((done (dnext (dnext (dofN (dnext (dofN (dnext y50000 3) ([14, 1, 2, 5, 15, 0, 16, 10, 20, 7])) 2) ([2048, 256, 1024, 3072, 129])) 3) 2) 3))
             (br ((ofOk (dnext (dnext (dnext (dofN (dnext (dofN (dnext y50000 3) ([14, 1, 2, 5, 15, 0, 16, 10, 20, 7])) 2) ([2048, 256, 1024, 3072, 129])) 3) 2) 3) ([20, 1, 200])))
              (br (cApp y20300 ([((done y50000 3), ((dof (dnext y50000 3) ([14, 1, 2, 5, 15, 0, 16, 10, 20, 7])), ((dof (dnext (dofN (dnext y50000 3) ([14, 1, 2, 5, 15, 0, 16, 10, 20, 7])) 2) ([2048, 256, 1024, 3072, 129])), (0, (0, ((iadd .i64 0 (dof (dnext (dnext (dnext (dofN (dnext (dofN (dnext y50000 3) ([14, 1, 2, 5, 15, 0, 16, 10, 20, 7])) 2) ([2048, 256, 1024, 3072, 129])) 3) 2) 3) ([20, 1, 200]))), ()))))))]) 48)
               (some (.normal, st_f12_0 (isub .i64 x4 1) y2 (y20300 ++ ([((done y50000 3), ((dof (dnext y50000 3) ([14, 1, 2, 5, 15, 0, 16, 10, 20, 7])), ((dof (dnext (dofN (dnext y50000 3) ([14, 1, 2, 5, 15, 0, 16, 10, 20, 7])) 2) ([2048, 256, 1024, 3072, 129])), (0, (0, ((iadd .i64 0 (dof (dnext (dnext (dnext (dofN (dnext (dofN (dnext y50000 3) ([14, 1, 2, 5, 15, 0, 16, 10, 20, 7])) 2) ([2048, 256, 1024, 3072, 129])) 3) 2) 3) ([20, 1, 200]))), ()))))))])) y20301 (dofN (dnext (dnext (dnext (dofN (dnext (dofN (dnext y50000 3) ([14, 1, 2, 5, 15, 0, 16, 10, 20, 7])) 2) ([2048, 256, 1024, 3072, 129])) 3) 2) 3) ([20, 1, 200]))))
               (none))
              (none))
             (br (cApp y20300 ([((done y50000 3), ((dof (dnext y50000 3) ([14, 1, 2, 5, 15, 0, 16, 10, 20, 7])), ((dof (dnext (dofN (dnext y50000 3) ([14, 1, 2, 5, 15, 0, 16, 10, 20, 7])) 2) ([2048, 256, 1024, 3072, 129])), (0, (0, (40001, ()))))))]) 48)
              (some (.normal, st_f12_0 (isub .i64 x4 1) y2 (y20300 ++ ([((done y50000 3), ((dof (dnext y50000 3) ([14, 1, 2, 5, 15, 0, 16, 10, 20, 7])), ((dof (dnext (dofN (dnext y50000 3) ([14, 1, 2, 5, 15, 0, 16, 10, 20, 7])) 2) ([2048, 256, 1024, 3072, 129])), (0, (0, (40001, ()))))))])) y20301 (dnext (dnext (dnext (dofN (dnext (dofN (dnext y50000 3) ([14, 1, 2, 5, 15, 0, 16, 10, 20, 7])) 2) ([2048, 256, 1024, 3072, 129])) 3) 2) 3)))
              (none)))
            (none)))
          (none)))
        (none))
       (none))
      (br ((oneOk (dnext (dofN (dnext y50000 3) ([14, 1, 2, 5, 15, 0, 16, 10, 20, 7])) 2) 3))
       (br ((done (dnext (dofN (dnext y50000 3) ([14, 1, 2, 5, 15, 0, 16, 10, 20, 7])) 2) 3))
        (br ((nextOk (dnext (dnext (dofN (dnext y50000 3) ([14, 1, 2, 5, 15, 0, 16, 10, 20, 7])) 2) 3) 4))
         (br ((oneOk (dnext (dnext (dnext (dofN (dnext y50000 3) ([14, 1, 2, 5, 15, 0, 16, 10, 20, 7])) 2) 3) 4) 2))
          (br ((done (dnext (dnext (dnext (dofN (dnext y50000 3) ([14, 1, 2, 5, 15, 0, 16, 10, 20, 7])) 2) 3) 4) 2))
           (br ((ofOk (dnext (dnext (dnext (dnext (dofN (dnext y50000 3) ([14, 1, 2, 5, 15, 0, 16, 10, 20, 7])) 2) 3) 4) 2) ([10, 30, 100, 7])))
            (br ((oneOk (dofN (dnext (dnext (dnext (dnext (dofN (dnext y50000 3) ([14, 1, 2, 5, 15, 0, 16, 10, 20, 7])) 2) 3) 4) 2) ([10, 30, 100, 7])) 3))
             (br ((done (dofN (dnext (dnext (dnext (dnext (dofN (dnext y50000 3) ([14, 1, 2, 5, 15, 0, 16, 10, 20, 7])) 2) 3) 4) 2) ([10, 30, 100, 7])) 3))
              (br ((ofOk (dnext (dofN (dnext (dnext (dnext (dnext (dofN (dnext y50000 3) ([14, 1, 2, 5, 15, 0, 16, 10, 20, 7])) 2) 3) 4) 2) ([10, 30, 100, 7])) 3) ([20, 1, 200])))
               (br (cApp y20300 ([((done y50000 3), ((dof (dnext y50000 3) ([14, 1, 2, 5, 15, 0, 16, 10, 20, 7])), (0, ((iadd .i64 1 (dval (dnext (dnext (dofN (dnext y50000 3) ([14, 1, 2, 5, 15, 0, 16, 10, 20, 7])) 2) 3) 4)), ((dof (dnext (dnext (dnext (dnext (dofN (dnext y50000 3) ([14, 1, 2, 5, 15, 0, 16, 10, 20, 7])) 2) 3) 4) 2) ([10, 30, 100, 7])), ((iadd .i64 (dof (dnext (dnext (dnext (dnext (dofN (dnext y50000 3) ([14, 1, 2, 5, 15, 0, 16, 10, 20, 7])) 2) 3) 4) 2) ([10, 30, 100, 7])) (dof (dnext (dofN (dnext (dnext (dnext (dnext (dofN (dnext y50000 3) ([14, 1, 2, 5, 15, 0, 16, 10, 20, 7])) 2) 3) 4) 2) ([10, 30, 100, 7])) 3) ([20, 1, 200]))), ()))))))]) 48)
                (some (.normal, st_f12_0 (isub .i64 x4 1) y2 (y20300 ++ ([((done y50000 3), ((dof (dnext y50000 3) ([14, 1, 2, 5, 15, 0, 16, 10, 20, 7])), (0, ((iadd .i64 1 (dval (dnext (dnext (dofN (dnext y50000 3) ([14, 1, 2, 5, 15, 0, 16, 10, 20, 7])) 2) 3) 4)), ((dof (dnext (dnext (dnext (dnext (dofN (dnext y50000 3) ([14, 1, 2, 5, 15, 0, 16, 10, 20, 7])) 2) 3) 4) 2) ([10, 30, 100, 7])), ((iadd .i64 (dof (dnext (dnext (dnext (dnext (dofN (dnext y50000 3) ([14, 1, 2, 5, 15, 0, 16, 10, 20, 7])) 2) 3) 4) 2) ([10, 30, 100, 7])) (dof (dnext (dofN (dnext (dnext (dnext (dnext (dofN (dnext y50000 3) ([14, 1, 2, 5, 15, 0, 16, 10, 20, 7])) 2) 3) 4) 2) ([10, 30, 100, 7])) 3) ([20, 1, 200]))), ()))))))])) y20301 (dofN (dnext (dofN (dnext (dnext (dnext (dnext (dofN (dnext y50000 3) ([14, 1, 2, 5, 15, 0, 16, 10, 20, 7])) 2) 3) 4) 2) ([10, 30, 100, 7])) 3) ([20, 1, 200]))))
                (none))
               (none))
              (br (cApp y20300 ([((done y50000 3), ((dof (dnext y50000 3) ([14, 1, 2, 5, 15, 0, 16, 10, 20, 7])), (0, ((iadd .i64 1 (dval (dnext (dnext (dofN (dnext y50000 3) ([14, 1, 2, 5, 15, 0, 16, 10, 20, 7])) 2) 3) 4)), ((dof (dnext (dnext (dnext (dnext (dofN (dnext y50000 3) ([14, 1, 2, 5, 15, 0, 16, 10, 20, 7])) 2) 3) 4) 2) ([10, 30, 100, 7])), (40001, ()))))))]) 48)
               (some (.normal, st_f12_0 (isub .i64 x4 1) y2 (y20300 ++ ([((done y50000 3), ((dof (dnext y50000 3) ([14, 1, 2, 5, 15, 0, 16, 10, 20, 7])), (0, ((iadd .i64 1 (dval (dnext (dnext (dofN (dnext y50000 3) ([14, 1, 2, 5, 15, 0, 16, 10, 20, 7])) 2) 3) 4)), ((dof (dnext (dnext (dnext (dnext (dofN (dnext y50000 3) ([14, 1, 2, 5, 15, 0, 16, 10, 20, 7])) 2) 3) 4) 2) ([10, 30, 100, 7])), (40001, ()))))))])) y20301 (dnext (dofN (dnext (dnext (dnext (dnext (dofN (dnext y50000 3) ([14, 1, 2, 5, 15, 0, 16, 10, 20, 7])) 2) 3) 4) 2) ([10, 30, 100, 7])) 3)))
               (none)))
             (none))
            (none))
           (br ((oneOk (dnext (dnext (dnext (dnext (dofN (dnext y50000 3) ([14, 1, 2, 5, 15, 0, 16, 10, 20, 7])) 2) 3) 4) 2) 3))
            (br ((done (dnext (dnext (dnext (dnext (dofN (dnext y50000 3) ([14, 1, 2, 5, 15, 0, 16, 10, 20, 7])) 2) 3) 4) 2) 3))
             (br ((ofOk (dnext (dnext (dnext (dnext (dnext (dofN (dnext y50000 3) ([14, 1, 2, 5, 15, 0, 16, 10, 20, 7])) 2) 3) 4) 2) 3) ([20, 1, 200])))
              (br (cApp y20300 ([((done y50000 3), ((dof (dnext y50000 3) ([14, 1, 2, 5, 15, 0, 16, 10, 20, 7])), (0, ((iadd .i64 1 (dval (dnext (dnext (dofN (dnext y50000 3) ([14, 1, 2, 5, 15, 0, 16, 10, 20, 7])) 2) 3) 4)), (0, ((iadd .i64 0 (dof (dnext (dnext (dnext (dnext (dnext (dofN (dnext y50000 3) ([14, 1, 2, 5, 15, 0, 16, 10, 20, 7])) 2) 3) 4) 2) 3) ([20, 1, 200]))), ()))))))]) 48)
               (some (.normal, st_f12_0 (isub .i64 x4 1) y2 (y20300 ++ ([((done y50000 3), ((dof (dnext y50000 3) ([14, 1, 2, 5, 15, 0, 16, 10, 20, 7])), (0, ((iadd .i64 1 (dval (dnext (dnext (dofN (dnext y50000 3) ([14, 1, 2, 5, 15, 0, 16, 10, 20, 7])) 2) 3) 4)), (0, ((iadd .i64 0 (dof (dnext (dnext (dnext (dnext (dnext (dofN (dnext y50000 3) ([14, 1, 2, 5, 15, 0, 16, 10, 20, 7])) 2) 3) 4) 2) 3) ([20, 1, 200]))), ()))))))])) y20301 (dofN (dnext (dnext (dnext (dnext (dnext (dofN (dnext y50000 3) ([14, 1, 2, 5, 15, 0, 16, 10, 20, 7])) 2) 3) 4) 2) 3) ([20, 1, 200]))))
               (none))
              (none))
             (br (cApp y20300 ([((done y50000 3), ((dof (dnext y50000 3) ([14, 1, 2, 5, 15, 0, 16, 10, 20, 7])), (0, ((iadd .i64 1 (dval (dnext (dnext (dofN (dnext y50000 3) ([14, 1, 2, 5, 15, 0, 16, 10, 20, 7])) 2) 3) 4)), (0, (40001, ()))))))]) 48)
              (some (.normal, st_f12_0 (isub .i64 x4 1) y2 (y20300 ++ ([((done y50000 3), ((dof (dnext y50000 3) ([14, 1, 2, 5, 15, 0, 16, 10, 20, 7])), (0, ((iadd .i64 1 (dval (dnext (dnext (dofN (dnext y50000 3) ([14, 1, 2, 5, 15, 0, 16, 10, 20, 7])) 2) 3) 4)), (0, (40001, ()))))))])) y20301 (dnext (dnext (dnext (dnext (dnext (dofN (dnext y50000 3) ([14, 1, 2, 5, 15, 0, 16, 10, 20, 7])) 2) 3) 4) 2) 3)))
              (none)))
            (none)))
          (none))
         (none))
        (br ((oneOk (dnext (dnext (dofN (dnext y50000 3) ([14, 1, 2, 5, 15, 0, 16, 10, 20, 7])) 2) 3) 2))
         (br ((done (dnext (dnext (dofN (dnext y50000 3) ([14, 1, 2, 5, 15, 0, 16, 10, 20, 7])) 2) 3) 2))
          (br ((ofOk (dnext (dnext (dnext (dofN (dnext y50000 3) ([14, 1, 2, 5, 15, 0, 16, 10, 20, 7])) 2) 3) 2) ([10, 30, 100, 7])))
           (br ((oneOk (dofN (dnext (dnext (dnext (dofN (dnext y50000 3) ([14, 1, 2, 5, 15, 0, 16, 10, 20, 7])) 2) 3) 2) ([10, 30, 100, 7])) 3))
            (br ((done (dofN (dnext (dnext (dnext (dofN (dnext y50000 3) ([14, 1, 2, 5, 15, 0, 16, 10, 20, 7])) 2) 3) 2) ([10, 30, 100, 7])) 3))
             (br ((ofOk (dnext (dofN (dnext (dnext (dnext (dofN (dnext y50000 3) ([14, 1, 2, 5, 15, 0, 16, 10, 20, 7])) 2) 3) 2) ([10, 30, 100, 7])) 3) ([20, 1, 200])))
              (br (cApp y20300 ([((done y50000 3), ((dof (dnext y50000 3) ([14, 1, 2, 5, 15, 0, 16, 10, 20, 7])), (0, (0, ((dof (dnext (dnext (dnext (dofN (dnext y50000 3) ([14, 1, 2, 5, 15, 0, 16, 10, 20, 7])) 2) 3) 2) ([10, 30, 100, 7])), ((iadd .i64 (dof (dnext (dnext (dnext (dofN (dnext y50000 3) ([14, 1, 2, 5, 15, 0, 16, 10, 20, 7])) 2) 3) 2) ([10, 30, 100, 7])) (dof (dnext (dofN (dnext (dnext (dnext (dofN (dnext y50000 3) ([14, 1, 2, 5, 15, 0, 16, 10, 20, 7])) 2) 3) 2) ([10, 30, 100, 7])) 3) ([20, 1, 200]))), ()))))))]) 48)
               (some (.normal, st_f12_0 (isub .i64 x4 1) y2 (y20300 ++ ([((done y50000 3), ((dof (dnext y50000 3) ([14, 1, 2, 5, 15, 0, 16, 10, 20, 7])), (0, (0, ((dof (dnext (dnext (dnext (dofN (dnext y50000 3) ([14, 1, 2, 5, 15, 0, 16, 10, 20, 7])) 2) 3) 2) ([10, 30, 100, 7])), ((iadd .i64 (dof (dnext (dnext (dnext (dofN (dnext y50000 3) ([14, 1, 2, 5, 15, 0, 16, 10, 20, 7])) 2) 3) 2) ([10, 30, 100, 7])) (dof (dnext (dofN (dnext (dnext (dnext (dofN (dnext y50000 3) ([14, 1, 2, 5, 15, 0, 16, 10, 20, 7])) 2) 3) 2) ([10, 30, 100, 7])) 3) ([20, 1, 200]))), ()))))))])) y20301 (dofN (dnext (dofN (dnext (dnext (dnext (dofN (dnext y50000 3) ([14, 1, 2, 5, 15, 0, 16, 10, 20, 7])) 2) 3) 2) ([10, 30, 100, 7])) 3) ([20, 1, 200]))))
               (none))
              (none))
             (br (cApp y20300 ([((done y50000 3), ((dof (dnext y50000 3) ([14, 1, 2, 5, 15, 0, 16, 10, 20, 7])), (0, (0, ((dof (dnext (dnext (dnext (dofN (dnext y50000 3) ([14, 1, 2, 5, 15, 0, 16, 10, 20, 7])) 2) 3) 2) ([10, 30, 100, 7])), (40001, ()))))))]) 48)
              (some (.normal, st_f12_0 (isub .i64 x4 1) y2 (y20300 ++ ([((done y50000 3), ((dof (dnext y50000 3) ([14, 1, 2, 5, 15, 0, 16, 10, 20, 7])), (0, (0, ((dof (dnext (dnext (dnext (dofN (dnext y50000 3) ([14, 1, 2, 5, 15, 0, 16, 10, 20, 7])) 2) 3) 2) ([10, 30, 100, 7])), (40001, ()))))))])) y20301 (dnext (dofN (dnext (dnext (dnext (dofN (dnext y50000 3) ([14, 1, 2, 5, 15, 0, 16, 10, 20, 7])) 2) 3) 2) ([10, 30, 100, 7])) 3)))
              (none)))
            (none))
           (none))
          (br ((oneOk (dnext (dnext (dnext (dofN (dnext y50000 3) ([14, 1, 2, 5, 15, 0, 16, 10, 20, 7])) 2) 3) 2) 3))
           (br ((done (dnext (dnext (dnext (dofN (dnext y50000 3) ([14, 1, 2, 5, 15, 0, 16, 10, 20, 7])) 2) 3) 2) 3))
            (br ((ofOk (dnext (dnext (dnext (dnext (dofN (dnext y50000 3) ([14, 1, 2, 5, 15, 0, 16, 10, 20, 7])) 2) 3) 2) 3) ([20, 1, 200])))
             (br (cApp y20300 ([((done y50000 3), ((dof (dnext y50000 3) ([14, 1, 2, 5, 15, 0, 16, 10, 20, 7])), (0, (0, (0, ((iadd .i64 0 (dof (dnext (dnext (dnext (dnext (dofN (dnext y50000 3) ([14, 1, 2, 5, 15, 0, 16, 10, 20, 7])) 2) 3) 2) 3) ([20, 1, 200]))), ()))))))]) 48)
              (some (.normal, st_f12_0 (isub .i64 x4 1) y2 (y20300 ++ ([((done y50000 3), ((dof (dnext y50000 3) ([14, 1, 2, 5, 15, 0, 16, 10, 20, 7])), (0, (0, (0, ((iadd .i64 0 (dof (dnext (dnext (dnext (dnext (dofN (dnext y50000 3) ([14, 1, 2, 5, 15, 0, 16, 10, 20, 7])) 2) 3) 2) 3) ([20, 1, 200]))), ()))))))])) y20301 (dofN (dnext (dnext (dnext (dnext (dofN (dnext y50000 3) ([14, 1, 2, 5, 15, 0, 16, 10, 20, 7])) 2) 3) 2) 3) ([20, 1, 200]))))
              (none))
             (none))
            (br (cApp y20300 ([((done y50000 3), ((dof (dnext y50000 3) ([14, 1, 2, 5, 15, 0, 16, 10, 20, 7])), (0, (0, (0, (40001, ()))))))]) 48)
             (some (.normal, st_f12_0 (isub .i64 x4 1) y2 (y20300 ++ ([((done y50000 3), ((dof (dnext y50000 3) ([14, 1, 2, 5, 15, 0, 16, 10, 20, 7])), (0, (0, (0, (40001, ()))))))])) y20301 (dnext (dnext (dnext (dnext (dofN (dnext y50000 3) ([14, 1, 2, 5, 15, 0, 16, 10, 20, 7])) 2) 3) 2) 3)))
             (none)))
           (none)))
         (none)))
       (none)))
     (none))
    (none))
   (none))
  (some (.exit 0, st_f12_0_e0 y2 y20300 y20301 y50000))
noncomputable def lp_f12_0 (x4 : Int) (y2 : Policy) (y20300 : (List Rule)) (y20301 : (List Keep)) (y50000 : Dice) : Option (Exit × VS) := loopF (roundF g_f12 fg_f12_0 tb_f12_0) (st_f12_0 x4 y2 y20300 y20301 y50000)
noncomputable def n_f12_0 (x4 : Int) (y2 : Policy) (y20300 : (List Rule)) (y20301 : (List Keep)) (y50000 : Dice) : Option (Exit × VS) :=
 br ((igt x4 0))
  (br ((oneOk y50000 3))
   (br ((ofOk (dnext y50000 3) ([14, 1, 2, 5, 15, 0, 16, 10, 20, 7])))
    (br ((oneOk (dofN (dnext y50000 3) ([14, 1, 2, 5, 15, 0, 16, 10, 20, 7])) 2))
     (br ((done (dofN (dnext y50000 3) ([14, 1, 2, 5, 15, 0, 16, 10, 20, 7])) 2))
      (br ((ofOk (dnext (dofN (dnext y50000 3) ([14, 1, 2, 5, 15, 0, 16, 10, 20, 7])) 2) ([2048, 256, 1024, 3072, 129])))
       (br ((oneOk (dofN (dnext (dofN (dnext y50000 3) ([14, 1, 2, 5, 15, 0, 16, 10, 20, 7])) 2) ([2048, 256, 1024, 3072, 129])) 3))
        (br ((done (dofN (dnext (dofN (dnext y50000 3) ([14, 1, 2, 5, 15, 0, 16, 10, 20, 7])) 2) ([2048, 256, 1024, 3072, 129])) 3))
         (br ((nextOk (dnext (dofN (dnext (dofN (dnext y50000 3) ([14, 1, 2, 5, 15, 0, 16, 10, 20, 7])) 2) ([2048, 256, 1024, 3072, 129])) 3) 4))
          (br ((oneOk (dnext (dnext (dofN (dnext (dofN (dnext y50000 3) ([14, 1, 2, 5, 15, 0, 16, 10, 20, 7])) 2) ([2048, 256, 1024, 3072, 129])) 3) 4) 2))
           (br ((done (dnext (dnext (dofN (dnext (dofN (dnext y50000 3) ([14, 1, 2, 5, 15, 0, 16, 10, 20, 7])) 2) ([2048, 256, 1024, 3072, 129])) 3) 4) 2))
            (br ((ofOk (dnext (dnext (dnext (dofN (dnext (dofN (dnext y50000 3) ([14, 1, 2, 5, 15, 0, 16, 10, 20, 7])) 2) ([2048, 256, 1024, 3072, 129])) 3) 4) 2) ([10, 30, 100, 7])))
             (br ((oneOk (dofN (dnext (dnext (dnext (dofN (dnext (dofN (dnext y50000 3) ([14, 1, 2, 5, 15, 0, 16, 10, 20, 7])) 2) ([2048, 256, 1024, 3072, 129])) 3) 4) 2) ([10, 30, 100, 7])) 3))
              (br ((done (dofN (dnext (dnext (dnext (dofN (dnext (dofN (dnext y50000 3) ([14, 1, 2, 5, 15, 0, 16, 10, 20, 7])) 2) ([2048, 256, 1024, 3072, 129])) 3) 4) 2) ([10, 30, 100, 7])) 3))
               (br ((ofOk (dnext (dofN (dnext (dnext (dnext (dofN (dnext (dofN (dnext y50000 3) ([14, 1, 2, 5, 15, 0, 16, 10, 20, 7])) 2) ([2048, 256, 1024, 3072, 129])) 3) 4) 2) ([10, 30, 100, 7])) 3) ([20, 1, 200])))
                (br (cApp y20300 ([((done y50000 3), ((dof (dnext y50000 3) ([14, 1, 2, 5, 15, 0, 16, 10, 20, 7])), ((dof (dnext (dofN (dnext y50000 3) ([14, 1, 2, 5, 15, 0, 16, 10, 20, 7])) 2) ([2048, 256, 1024, 3072, 129])), ((iadd .i64 1 (dval (dnext (dofN (dnext (dofN (dnext y50000 3) ([14, 1, 2, 5, 15, 0, 16, 10, 20, 7])) 2) ([2048, 256, 1024, 3072, 129])) 3) 4)), ((dof (dnext (dnext (dnext (dofN (dnext (dofN (dnext y50000 3) ([14, 1, 2, 5, 15, 0, 16, 10, 20, 7])) 2) ([2048, 256, 1024, 3072, 129])) 3) 4) 2) ([10, 30, 100, 7])), ((iadd .i64 (dof (dnext (dnext (dnext (dofN (dnext (dofN (dnext y50000 3) ([14, 1, 2, 5, 15, 0, 16, 10, 20, 7])) 2) ([2048, 256, 1024, 3072, 129])) 3) 4) 2) ([10, 30, 100, 7])) (dof (dnext (dofN (dnext (dnext (dnext (dofN (dnext (dofN (dnext y50000 3) ([14, 1, 2, 5, 15, 0, 16, 10, 20, 7])) 2) ([2048, 256, 1024, 3072, 129])) 3) 4) 2) ([10, 30, 100, 7])) 3) ([20, 1, 200]))), ()))))))]) 48)
                 (lp_f12_0 (isub .i64 x4 1) y2 (y20300 ++ ([((done y50000 3), ((dof (dnext y50000 3) ([14, 1, 2, 5, 15, 0, 16, 10, 20, 7])), ((dof (dnext (dofN (dnext y50000 3) ([14, 1, 2, 5, 15, 0, 16, 10, 20, 7])) 2) ([2048, 256, 1024, 3072, 129])), ((iadd .i64 1 (dval (dnext (dofN (dnext (dofN (dnext y50000 3) ([14, 1, 2, 5, 15, 0, 16, 10, 20, 7])) 2) ([2048, 256, 1024, 3072, 129])) 3) 4)), ((dof (dnext (dnext (dnext (dofN (dnext (dofN (dnext y50000 3) ([14, 1, 2, 5, 15, 0, 16, 10, 20, 7])) 2) ([2048, 256, 1024, 3072, 129])) 3) 4) 2) ([10, 30, 100, 7])), ((iadd .i64 (dof (dnext (dnext (dnext (dofN (dnext (dofN (dnext y50000 3) ([14, 1, 2, 5, 15, 0, 16, 10, 20, 7])) 2) ([2048, 256, 1024, 3072, 129])) 3) 4) 2) ([10, 30, 100, 7])) (dof (dnext (dofN (dnext (dnext (dnext (dofN (dnext (dofN (dnext y50000 3) ([14, 1, 2, 5, 15, 0, 16, 10, 20, 7])) 2) ([2048, 256, 1024, 3072, 129])) 3) 4) 2) ([10, 30, 100, 7])) 3) ([20, 1, 200]))), ()))))))])) y20301 (dofN (dnext (dofN (dnext (dnext (dnext (dofN (dnext (dofN (dnext y50000 3) ([14, 1, 2, 5, 15, 0, 16, 10, 20, 7])) 2) ([2048, 256, 1024, 3072, 129])) 3) 4) 2) ([10, 30, 100, 7])) 3) ([20, 1, 200])))
                 (none))
                (none))
               (br (cApp y20300 ([((done y50000 3), ((dof (dnext y50000 3) ([14, 1, 2, 5, 15, 0, 16, 10, 20, 7])), ((dof (dnext (dofN (dnext y50000 3) ([14, 1, 2, 5, 15, 0, 16, 10, 20, 7])) 2) ([2048, 256, 1024, 3072, 129])), ((iadd .i64 1 (dval (dnext (dofN (dnext (dofN (dnext y50000 3) ([14, 1, 2, 5, 15, 0, 16, 10, 20, 7])) 2) ([2048, 256, 1024, 3072, 129])) 3) 4)), ((dof (dnext (dnext (dnext (dofN (dnext (dofN (dnext y50000 3) ([14, 1, 2, 5, 15, 0, 16, 10, 20, 7])) 2) ([2048, 256, 1024, 3072, 129])) 3) 4) 2) ([10, 30, 100, 7])), (40001, ()))))))]) 48)
                (lp_f12_0 (isub .i64 x4 1) y2 (y20300 ++ ([((done y50000 3), ((dof (dnext y50000 3) ([14, 1, 2, 5, 15, 0, 16, 10, 20, 7])), ((dof (dnext (dofN (dnext y50000 3) ([14, 1, 2, 5, 15, 0, 16, 10, 20, 7])) 2) ([2048, 256, 1024, 3072, 129])), ((iadd .i64 1 (dval (dnext (dofN (dnext (dofN (dnext y50000 3) ([14, 1, 2, 5, 15, 0, 16, 10, 20, 7])) 2) ([2048, 256, 1024, 3072, 129])) 3) 4)), ((dof (dnext (dnext (dnext (dofN (dnext (dofN (dnext y50000 3) ([14, 1, 2, 5, 15, 0, 16, 10, 20, 7])) 2) ([2048, 256, 1024, 3072, 129])) 3) 4) 2) ([10, 30, 100, 7])), (40001, ()))))))])) y20301 (dnext (dofN (dnext (dnext (dnext (dofN (dnext (dofN (dnext y50000 3) ([14, 1, 2, 5, 15, 0, 16, 10, 20, 7])) 2) ([2048, 256, 1024, 3072, 129])) 3) 4) 2) ([10, 30, 100, 7])) 3))
                (none)))
              (none))
             (none))
            (br ((oneOk (dnext (dnext (dnext (dofN (dnext (dofN (dnext y50000 3) ([14, 1, 2, 5, 15, 0, 16, 10, 20, 7])) 2) ([2048, 256, 1024, 3072, 129])) 3) 4) 2) 3))
             (br ((done (dnext (dnext (dnext (dofN (dnext (dofN (dnext y50000 3) ([14, 1, 2, 5, 15, 0, 16, 10, 20, 7])) 2) ([2048, 256, 1024, 3072, 129])) 3) 4) 2) 3))
              (br ((ofOk (dnext (dnext (dnext (dnext (dofN (dnext (dofN (dnext y50000 3) ([14, 1, 2, 5, 15, 0, 16, 10, 20, 7])) 2) ([2048, 256, 1024, 3072, 129])) 3) 4) 2) 3) ([20, 1, 200])))
               (br (cApp y20300 ([((done y50000 3), ((dof (dnext y50000 3) ([14, 1, 2, 5, 15, 0, 16, 10, 20, 7])), ((dof (dnext (dofN (dnext y50000 3) ([14, 1, 2, 5, 15, 0, 16, 10, 20, 7])) 2) ([2048, 256, 1024, 3072, 129])), ((iadd .i64 1 (dval (dnext (dofN (dnext (dofN (dnext y50000 3) ([14, 1, 2, 5, 15, 0, 16, 10, 20, 7])) 2) ([2048, 256, 1024, 3072, 129])) 3) 4)), (0, ((iadd .i64 0 (dof (dnext (dnext (dnext (dnext (dofN (dnext (dofN (dnext y50000 3) ([14, 1, 2, 5, 15, 0, 16, 10, 20, 7])) 2) ([2048, 256, 1024, 3072, 129])) 3) 4) 2) 3) ([20, 1, 200]))), ()))))))]) 48)
                (lp_f12_0 (isub .i64 x4 1) y2 (y20300 ++ ([((done y50000 3), ((dof (dnext y50000 3) ([14, 1, 2, 5, 15, 0, 16, 10, 20, 7])), ((dof (dnext (dofN (dnext y50000 3) ([14, 1, 2, 5, 15, 0, 16, 10, 20, 7])) 2) ([2048, 256, 1024, 3072, 129])), ((iadd .i64 1 (dval (dnext (dofN (dnext (dofN (dnext y50000 3) ([14, 1, 2, 5, 15, 0, 16, 10, 20, 7])) 2) ([2048, 256, 1024, 3072, 129])) 3) 4)), (0, ((iadd .i64 0 (dof (dnext (dnext (dnext (dnext (dofN (dnext (dofN (dnext y50000 3) ([14, 1, 2, 5, 15, 0, 16, 10, 20, 7])) 2) ([2048, 256, 1024, 3072, 129])) 3) 4) 2) 3) ([20, 1, 200]))), ()))))))])) y20301 (dofN (dnext (dnext (dnext (dnext (dofN (dnext (dofN (dnext y50000 3) ([14, 1, 2, 5, 15, 0, 16, 10, 20, 7])) 2) ([2048, 256, 1024, 3072, 129])) 3) 4) 2) 3) ([20, 1, 200])))
                (none))
               (none))
              (br (cApp y20300 ([((done y50000 3), ((dof (dnext y50000 3) ([14, 1, 2, 5, 15, 0, 16, 10, 20, 7])), ((dof (dnext (dofN (dnext y50000 3) ([14, 1, 2, 5, 15, 0, 16, 10, 20, 7])) 2) ([2048, 256, 1024, 3072, 129])), ((iadd .i64 1 (dval (dnext (dofN (dnext (dofN (dnext y50000 3) ([14, 1, 2, 5, 15, 0, 16, 10, 20, 7])) 2) ([2048, 256, 1024, 3072, 129])) 3) 4)), (0, (40001, ()))))))]) 48)
               (lp_f12_0 (isub .i64 x4 1) y2 (y20300 ++ ([((done y50000 3), ((dof (dnext y50000 3) ([14, 1, 2, 5, 15, 0, 16, 10, 20, 7])), ((dof (dnext (dofN (dnext y50000 3) ([14, 1, 2, 5, 15, 0, 16, 10, 20, 7])) 2) ([2048, 256, 1024, 3072, 129])), ((iadd .i64 1 (dval (dnext (dofN (dnext (dofN (dnext y50000 3) ([14, 1, 2, 5, 15, 0, 16, 10, 20, 7])) 2) ([2048, 256, 1024, 3072, 129])) 3) 4)), (0, (40001, ()))))))])) y20301 (dnext (dnext (dnext (dnext (dofN (dnext (dofN (dnext y50000 3) ([14, 1, 2, 5, 15, 0, 16, 10, 20, 7])) 2) ([2048, 256, 1024, 3072, 129])) 3) 4) 2) 3))
               (none)))
             (none)))
           (none))
          (none))
         (br ((oneOk (dnext (dofN (dnext (dofN (dnext y50000 3) ([14, 1, 2, 5, 15, 0, 16, 10, 20, 7])) 2) ([2048, 256, 1024, 3072, 129])) 3) 2))
          (br ((done (dnext (dofN (dnext (dofN (dnext y50000 3) ([14, 1, 2, 5, 15, 0, 16, 10, 20, 7])) 2) ([2048, 256, 1024, 3072, 129])) 3) 2))
           (br ((ofOk (dnext (dnext (dofN (dnext (dofN (dnext y50000 3) ([14, 1, 2, 5, 15, 0, 16, 10, 20, 7])) 2) ([2048, 256, 1024, 3072, 129])) 3) 2) ([10, 30, 100, 7])))
            (br ((oneOk (dofN (dnext (dnext (dofN (dnext (dofN (dnext y50000 3) ([14, 1, 2, 5, 15, 0, 16, 10, 20, 7])) 2) ([2048, 256, 1024, 3072, 129])) 3) 2) ([10, 30, 100, 7])) 3))
             (br ((done (dofN (dnext (dnext (dofN (dnext (dofN (dnext y50000 3) ([14, 1, 2, 5, 15, 0, 16, 10, 20, 7])) 2) ([2048, 256, 1024, 3072, 129])) 3) 2) ([10, 30, 100, 7])) 3))
              (br ((ofOk (dnext (dofN (dnext (dnext (dofN (dnext (dofN (dnext y50000 3) ([14, 1, 2, 5, 15, 0, 16, 10, 20, 7])) 2) ([2048, 256, 1024, 3072, 129])) 3) 2) ([10, 30, 100, 7])) 3) ([20, 1, 200])))
               (br (cApp y20300 ([((done y50000 3), ((dof (dnext y50000 3) ([14, 1, 2, 5, 15, 0, 16, 10, 20, 7])), ((dof (dnext (dofN (dnext y50000 3) ([14, 1, 2, 5, 15, 0, 16, 10, 20, 7])) 2) ([2048, 256, 1024, 3072, 129])), (0, ((dof (dnext (dnext (dofN (dnext (dofN (dnext y50000 3) ([14, 1, 2, 5, 15, 0, 16, 10, 20, 7])) 2) ([2048, 256, 1024, 3072, 129])) 3) 2) ([10, 30, 100, 7])), ((iadd .i64 (dof (dnext (dnext (dofN (dnext (dofN (dnext y50000 3) ([14, 1, 2, 5, 15, 0, 16, 10, 20, 7])) 2) ([2048, 256, 1024, 3072, 129])) 3) 2) ([10, 30, 100, 7])) (dof (dnext (dofN (dnext (dnext (dofN (dnext (dofN (dnext y50000 3) ([14, 1, 2, 5, 15, 0, 16, 10, 20, 7])) 2) ([2048, 256, 1024, 3072, 129])) 3) 2) ([10, 30, 100, 7])) 3) ([20, 1, 200]))), ()))))))]) 48)
                (lp_f12_0 (isub .i64 x4 1) y2 (y20300 ++ ([((done y50000 3), ((dof (dnext y50000 3) ([14, 1, 2, 5, 15, 0, 16, 10, 20, 7])), ((dof (dnext (dofN (dnext y50000 3) ([14, 1, 2, 5, 15, 0, 16, 10, 20, 7])) 2) ([2048, 256, 1024, 3072, 129])), (0, ((dof (dnext (dnext (dofN (dnext (dofN (dnext y50000 3) ([14, 1, 2, 5, 15, 0, 16, 10, 20, 7])) 2) ([2048, 256, 1024, 3072, 129])) 3) 2) ([10, 30, 100, 7])), ((iadd .i64 (dof (dnext (dnext (dofN (dnext (dofN (dnext y50000 3) ([14, 1, 2, 5, 15, 0, 16, 10, 20, 7])) 2) ([2048, 256, 1024, 3072, 129])) 3) 2) ([10, 30, 100, 7])) (dof (dnext (dofN (dnext (dnext (dofN (dnext (dofN (dnext y50000 3) ([14, 1, 2, 5, 15, 0, 16, 10, 20, 7])) 2) ([2048, 256, 1024, 3072, 129])) 3) 2) ([10, 30, 100, 7])) 3) ([20, 1, 200]))), ()))))))])) y20301 (dofN (dnext (dofN (dnext (dnext (dofN (dnext (dofN (dnext y50000 3) ([14, 1, 2, 5, 15, 0, 16, 10, 20, 7])) 2) ([2048, 256, 1024, 3072, 129])) 3) 2) ([10, 30, 100, 7])) 3) ([20, 1, 200])))
                (none))
               (none))
              (br (cApp y20300 ([((done y50000 3), ((dof (dnext y50000 3) ([14, 1, 2, 5, 15, 0, 16, 10, 20, 7])), ((dof (dnext (dofN (dnext y50000 3) ([14, 1, 2, 5, 15, 0, 16, 10, 20, 7])) 2) ([2048, 256, 1024, 3072, 129])), (0, ((dof (dnext (dnext (dofN (dnext (dofN (dnext y50000 3) ([14, 1, 2, 5, 15, 0, 16, 10, 20, 7])) 2) ([2048, 256, 1024, 3072, 129])) 3) 2) ([10, 30, 100, 7])), (40001, ()))))))]) 48)
               (lp_f12_0 (isub .i64 x4 1) y2 (y20300 ++ ([((done y50000 3), ((dof (dnext y50000 3) ([14, 1, 2, 5, 15, 0, 16, 10, 20, 7])), ((dof (dnext (dofN (dnext y50000 3) ([14, 1, 2, 5, 15, 0, 16, 10, 20, 7])) 2) ([2048, 256, 1024, 3072, 129])), (0, ((dof (dnext (dnext (dofN (dnext (dofN (dnext y50000 3) ([14, 1, 2, 5, 15, 0, 16, 10, 20, 7])) 2) ([2048, 256, 1024, 3072, 129])) 3) 2) ([10, 30, 100, 7])), (40001, ()))))))])) y20301 (dnext (dofN (dnext (dnext (dofN (dnext (dofN (dnext y50000 3) ([14, 1, 2, 5, 15, 0, 16, 10, 20, 7])) 2) ([2048, 256, 1024, 3072, 129])) 3) 2) ([10, 30, 100, 7])) 3))
               (none)))
             (none))
            (none))
           (br ((oneOk (dnext (dnext (dofN (dnext (dofN (dnext y50000 3) ([14, 1, 2, 5, 15, 0, 16, 10, 20, 7])) 2) ([2048, 256, 1024, 3072, 129])) 3) 2) 3))
            (br ((done (dnext (dnext (dofN (dnext (dofN (dnext y50000 3) ([14, 1, 2, 5, 15, 0, 16, 10, 20, 7])) 2) ([2048, 256, 1024, 3072, 129])) 3) 2) 3))
             (br ((ofOk (dnext (dnext (dnext (dofN (dnext (dofN (dnext y50000 3) ([14, 1, 2, 5, 15, 0, 16, 10, 20, 7])) 2) ([2048, 256, 1024, 3072, 129])) 3) 2) 3) ([20, 1, 200])))
              (br (cApp y20300 ([((done y50000 3), ((dof (dnext y50000 3) ([14, 1, 2, 5, 15, 0, 16, 10, 20, 7])), ((dof (dnext (dofN (dnext y50000 3) ([14, 1, 2, 5, 15, 0, 16, 10, 20, 7])) 2) ([2048, 256, 1024, 3072, 129])), (0, (0, ((iadd .i64 0 (dof (dnext (dnext (dnext (dofN (dnext (dofN (dnext y50000 3) ([14, 1, 2, 5, 15, 0, 16, 10, 20, 7])) 2) ([2048, 256, 1024, 3072, 129])) 3) 2) 3) ([20, 1, 200]))), ()))))))]) 48)
               (lp_f12_0 (isub .i64 x4 1) y2 (y20300 ++ ([((done y50000 3), ((dof (dnext y50000 3) ([14, 1, 2, 5, 15, 0, 16, 10, 20, 7])), ((dof (dnext (dofN (dnext y50000 3) ([14, 1, 2, 5, 15, 0, 16, 10, 20, 7])) 2) ([2048, 256, 1024, 3072, 129])), (0, (0, ((iadd .i64 0 (dof (dnext (dnext (dnext (dofN (dnext (dofN (dnext y50000 3) ([14, 1, 2, 5, 15, 0, 16, 10, 20, 7])) 2) ([2048, 256, 1024, 3072, 129])) 3) 2) 3) ([20, 1, 200]))), ()))))))])) y20301 (dofN (dnext (dnext (dnext (dofN (dnext (dofN (dnext y50000 3) ([14, 1, 2, 5, 15, 0, 16, 10, 20, 7])) 2) ([2048, 256, 1024, 3072, 129])) 3) 2) 3) ([20, 1, 200])))
               (none))
              (none))
             (br (cApp y20300 ([((done y50000 3), ((dof (dnext y50000 3) ([14, 1, 2, 5, 15, 0, 16, 10, 20, 7])), ((dof (dnext (dofN (dnext y50000 3) ([14, 1, 2, 5, 15, 0, 16, 10, 20, 7])) 2) ([2048, 256, 1024, 3072, 129])), (0, (0, (40001, ()))))))]) 48)
              (lp_f12_0 (isub .i64 x4 1) y2 (y20300 ++ ([((done y50000 3), ((dof (dnext y50000 3) ([14, 1, 2, 5, 15, 0, 16, 10, 20, 7])), ((dof (dnext (dofN (dnext y50000 3) ([14, 1, 2, 5, 15, 0, 16, 10, 20, 7])) 2) ([2048, 256, 1024, 3072, 129])), (0, (0, (40001, ()))))))])) y20301 (dnext (dnext (dnext (dofN (dnext (dofN (dnext y50000 3) ([14, 1, 2, 5, 15, 0, 16, 10, 20, 7])) 2) ([2048, 256, 1024, 3072, 129])) 3) 2) 3))
              (none)))
            (none)))
          (none)))
        (none))
       (none))
      (br ((oneOk (dnext (dofN (dnext y50000 3) ([14, 1, 2, 5, 15, 0, 16, 10, 20, 7])) 2) 3))
       (br ((done (dnext (dofN (dnext y50000 3) ([14, 1, 2, 5, 15, 0, 16, 10, 20, 7])) 2) 3))
        (br ((nextOk (dnext (dnext (dofN (dnext y50000 3) ([14, 1, 2, 5, 15, 0, 16, 10, 20, 7])) 2) 3) 4))
         (br ((oneOk (dnext (dnext (dnext (dofN (dnext y50000 3) ([14, 1, 2, 5, 15, 0, 16, 10, 20, 7])) 2) 3) 4) 2))
          (br ((done (dnext (dnext (dnext (dofN (dnext y50000 3) ([14, 1, 2, 5, 15, 0, 16, 10, 20, 7])) 2) 3) 4) 2))
           (br ((ofOk (dnext (dnext (dnext (dnext (dofN (dnext y50000 3) ([14, 1, 2, 5, 15, 0, 16, 10, 20, 7])) 2) 3) 4) 2) ([10, 30, 100, 7])))
            (br ((oneOk (dofN (dnext (dnext (dnext (dnext (dofN (dnext y50000 3) ([14, 1, 2, 5, 15, 0, 16, 10, 20, 7])) 2) 3) 4) 2) ([10, 30, 100, 7])) 3))
             (br ((done (dofN (dnext (dnext (dnext (dnext (dofN (dnext y50000 3) ([14, 1, 2, 5, 15, 0, 16, 10, 20, 7])) 2) 3) 4) 2) ([10, 30, 100, 7])) 3))
              (br ((ofOk (dnext (dofN (dnext (dnext (dnext (dnext (dofN (dnext y50000 3) ([14, 1, 2, 5, 15, 0, 16, 10, 20, 7])) 2) 3) 4) 2) ([10, 30, 100, 7])) 3) ([20, 1, 200])))
               (br (cApp y20300 ([((done y50000 3), ((dof (dnext y50000 3) ([14, 1, 2, 5, 15, 0, 16, 10, 20, 7])), (0, ((iadd .i64 1 (dval (dnext (dnext (dofN (dnext y50000 3) ([14, 1, 2, 5, 15, 0, 16, 10, 20, 7])) 2) 3) 4)), ((dof (dnext (dnext (dnext (dnext (dofN (dnext y50000 3) ([14, 1, 2, 5, 15, 0, 16, 10, 20, 7])) 2) 3) 4) 2) ([10, 30, 100, 7])), ((iadd .i64 (dof (dnext (dnext (dnext (dnext (dofN (dnext y50000 3) ([14, 1, 2, 5, 15, 0, 16, 10, 20, 7])) 2) 3) 4) 2) ([10, 30, 100, 7])) (dof (dnext (dofN (dnext (dnext (dnext (dnext (dofN (dnext y50000 3) ([14, 1, 2, 5, 15, 0, 16, 10, 20, 7])) 2) 3) 4) 2) ([10, 30, 100, 7])) 3) ([20, 1, 200]))), ()))))))]) 48)
                (lp_f12_0 (isub .i64 x4 1) y2 (y20300 ++ ([((done y50000 3), ((dof (dnext y50000 3) ([14, 1, 2, 5, 15, 0, 16, 10, 20, 7])), (0, ((iadd .i64 1 (dval (dnext (dnext (dofN (dnext y50000 3) ([14, 1, 2, 5, 15, 0, 16, 10, 20, 7])) 2) 3) 4)), ((dof (dnext (dnext (dnext (dnext (dofN (dnext y50000 3) ([14, 1, 2, 5, 15, 0, 16, 10, 20, 7])) 2) 3) 4) 2) ([10, 30, 100, 7])), ((iadd .i64 (dof (dnext (dnext (dnext (dnext (dofN (dnext y50000 3) ([14, 1, 2, 5, 15, 0, 16, 10, 20, 7])) 2) 3) 4) 2) ([10, 30, 100, 7])) (dof (dnext (dofN (dnext (dnext (dnext (dnext (dofN (dnext y50000 3) ([14, 1, 2, 5, 15, 0, 16, 10, 20, 7])) 2) 3) 4) 2) ([10, 30, 100, 7])) 3) ([20, 1, 200]))), ()))))))])) y20301 (dofN (dnext (dofN (dnext (dnext (dnext (dnext (dofN (dnext y50000 3) ([14, 1, 2, 5, 15, 0, 16, 10, 20, 7])) 2) 3) 4) 2) ([10, 30, 100, 7])) 3) ([20, 1, 200])))
                (none))
               (none))
              (br (cApp y20300 ([((done y50000 3), ((dof (dnext y50000 3) ([14, 1, 2, 5, 15, 0, 16, 10, 20, 7])), (0, ((iadd .i64 1 (dval (dnext (dnext (dofN (dnext y50000 3) ([14, 1, 2, 5, 15, 0, 16, 10, 20, 7])) 2) 3) 4)), ((dof (dnext (dnext (dnext (dnext (dofN (dnext y50000 3) ([14, 1, 2, 5, 15, 0, 16, 10, 20, 7])) 2) 3) 4) 2) ([10, 30, 100, 7])), (40001, ()))))))]) 48)
               (lp_f12_0 (isub .i64 x4 1) y2 (y20300 ++ ([((done y50000 3), ((dof (dnext y50000 3) ([14, 1, 2, 5, 15, 0, 16, 10, 20, 7])), (0, ((iadd .i64 1 (dval (dnext (dnext (dofN (dnext y50000 3) ([14, 1, 2, 5, 15, 0, 16, 10, 20, 7])) 2) 3) 4)), ((dof (dnext (dnext (dnext (dnext (dofN (dnext y50000 3) ([14, 1, 2, 5, 15, 0, 16, 10, 20, 7])) 2) 3) 4) 2) ([10, 30, 100, 7])), (40001, ()))))))])) y20301 (dnext (dofN (dnext (dnext (dnext (dnext (dofN (dnext y50000 3) ([14, 1, 2, 5, 15, 0, 16, 10, 20, 7])) 2) 3) 4) 2) ([10, 30, 100, 7])) 3))
               (none)))
             (none))
            (none))
           (br ((oneOk (dnext (dnext (dnext (dnext (dofN (dnext y50000 3) ([14, 1, 2, 5, 15, 0, 16, 10, 20, 7])) 2) 3) 4) 2) 3))
            (br ((done (dnext (dnext (dnext (dnext (dofN (dnext y50000 3) ([14, 1, 2, 5, 15, 0, 16, 10, 20, 7])) 2) 3) 4) 2) 3))
             (br ((ofOk (dnext (dnext (dnext (dnext (dnext (dofN (dnext y50000 3) ([14, 1, 2, 5, 15, 0, 16, 10, 20, 7])) 2) 3) 4) 2) 3) ([20, 1, 200])))
              (br (cApp y20300 ([((done y50000 3), ((dof (dnext y50000 3) ([14, 1, 2, 5, 15, 0, 16, 10, 20, 7])), (0, ((iadd .i64 1 (dval (dnext (dnext (dofN (dnext y50000 3) ([14, 1, 2, 5, 15, 0, 16, 10, 20, 7])) 2) 3) 4)), (0, ((iadd .i64 0 (dof (dnext (dnext (dnext (dnext (dnext (dofN (dnext y50000 3) ([14, 1, 2, 5, 15, 0, 16, 10, 20, 7])) 2) 3) 4) 2) 3) ([20, 1, 200]))), ()))))))]) 48)
               (lp_f12_0 (isub .i64 x4 1) y2 (y20300 ++ ([((done y50000 3), ((dof (dnext y50000 3) ([14, 1, 2, 5, 15, 0, 16, 10, 20, 7])), (0, ((iadd .i64 1 (dval (dnext (dnext (dofN (dnext y50000 3) ([14, 1, 2, 5, 15, 0, 16, 10, 20, 7])) 2) 3) 4)), (0, ((iadd .i64 0 (dof (dnext (dnext (dnext (dnext (dnext (dofN (dnext y50000 3) ([14, 1, 2, 5, 15, 0, 16, 10, 20, 7])) 2) 3) 4) 2) 3) ([20, 1, 200]))), ()))))))])) y20301 (dofN (dnext (dnext (dnext (dnext (dnext (dofN (dnext y50000 3) ([14, 1, 2, 5, 15, 0, 16, 10, 20, 7])) 2) 3) 4) 2) 3) ([20, 1, 200])))
               (none))
              (none))
             (br (cApp y20300 ([((done y50000 3), ((dof (dnext y50000 3) ([14, 1, 2, 5, 15, 0, 16, 10, 20, 7])), (0, ((iadd .i64 1 (dval (dnext (dnext (dofN (dnext y50000 3) ([14, 1, 2, 5, 15, 0, 16, 10, 20, 7])) 2) 3) 4)), (0, (40001, ()))))))]) 48)
              (lp_f12_0 (isub .i64 x4 1) y2 (y20300 ++ ([((done y50000 3), ((dof (dnext y50000 3) ([14, 1, 2, 5, 15, 0, 16, 10, 20, 7])), (0, ((iadd .i64 1 (dval (dnext (dnext (dofN (dnext y50000 3) ([14, 1, 2, 5, 15, 0, 16, 10, 20, 7])) 2) 3) 4)), (0, (40001, ()))))))])) y20301 (dnext (dnext (dnext (dnext (dnext (dofN (dnext y50000 3) ([14, 1, 2, 5, 15, 0, 16, 10, 20, 7])) 2) 3) 4) 2) 3))
              (none)))
            (none)))
          (none))
         (none))
        (br ((oneOk (dnext (dnext (dofN (dnext y50000 3) ([14, 1, 2, 5, 15, 0, 16, 10, 20, 7])) 2) 3) 2))
         (br ((done (dnext (dnext (dofN (dnext y50000 3) ([14, 1, 2, 5, 15, 0, 16, 10, 20, 7])) 2) 3) 2))
          (br ((ofOk (dnext (dnext (dnext (dofN (dnext y50000 3) ([14, 1, 2, 5, 15, 0, 16, 10, 20, 7])) 2) 3) 2) ([10, 30, 100, 7])))
           (br ((oneOk (dofN (dnext (dnext (dnext (dofN (dnext y50000 3) ([14, 1, 2, 5, 15, 0, 16, 10, 20, 7])) 2) 3) 2) ([10, 30, 100, 7])) 3))
            (br ((done (dofN (dnext (dnext (dnext (dofN (dnext y50000 3) ([14, 1, 2, 5, 15, 0, 16, 10, 20, 7])) 2) 3) 2) ([10, 30, 100, 7])) 3))
             (br ((ofOk (dnext (dofN (dnext (dnext (dnext (dofN (dnext y50000 3) ([14, 1, 2, 5, 15, 0, 16, 10, 20, 7])) 2) 3) 2) ([10, 30, 100, 7])) 3) ([20, 1, 200])))
              (br (cApp y20300 ([((done y50000 3), ((dof (dnext y50000 3) ([14, 1, 2, 5, 15, 0, 16, 10, 20, 7])), (0, (0, ((dof (dnext (dnext (dnext (dofN (dnext y50000 3) ([14, 1, 2, 5, 15, 0, 16, 10, 20, 7])) 2) 3) 2) ([10, 30, 100, 7])), ((iadd .i64 (dof (dnext (dnext (dnext (dofN (dnext y50000 3) ([14, 1, 2, 5, 15, 0, 16, 10, 20, 7])) 2) 3) 2) ([10, 30, 100, 7])) (dof (dnext (dofN (dnext (dnext (dnext (dofN (dnext y50000 3) ([14, 1, 2, 5, 15, 0, 16, 10, 20, 7])) 2) 3) 2) ([10, 30, 100, 7])) 3) ([20, 1, 200]))), ()))))))]) 48)
               (lp_f12_0 (isub .i64 x4 1) y2 (y20300 ++ ([((done y50000 3), ((dof (dnext y50000 3) ([14, 1, 2, 5, 15, 0, 16, 10, 20, 7])), (0, (0, ((dof (dnext (dnext (dnext (dofN (dnext y50000 3) ([14, 1, 2, 5, 15, 0, 16, 10, 20, 7])) 2) 3) 2) ([10, 30, 100, 7])), ((iadd .i64 (dof (dnext (dnext (dnext (dofN (dnext y50000 3) ([14, 1, 2, 5, 15, 0, 16, 10, 20, 7])) 2) 3) 2) ([10, 30, 100, 7])) (dof (dnext (dofN (dnext (dnext (dnext (dofN (dnext y50000 3) ([14, 1, 2, 5, 15, 0, 16, 10, 20, 7])) 2) 3) 2) ([10, 30, 100, 7])) 3) ([20, 1, 200]))), ()))))))])) y20301 (dofN (dnext (dofN (dnext (dnext (dnext (dofN (dnext y50000 3) ([14, 1, 2, 5, 15, 0, 16, 10, 20, 7])) 2) 3) 2) ([10, 30, 100, 7])) 3) ([20, 1, 200])))
               (none))
              (none))
             (br (cApp y20300 ([((done y50000 3), ((dof (dnext y50000 3) ([14, 1, 2, 5, 15, 0, 16, 10, 20, 7])), (0, (0, ((dof (dnext (dnext (dnext (dofN (dnext y50000 3) ([14, 1, 2, 5, 15, 0, 16, 10, 20, 7])) 2) 3) 2) ([10, 30, 100, 7])), (40001, ()))))))]) 48)
              (lp_f12_0 (isub .i64 x4 1) y2 (y20300 ++ ([((done y50000 3), ((dof (dnext y50000 3) ([14, 1, 2, 5, 15, 0, 16, 10, 20, 7])), (0, (0, ((dof (dnext (dnext (dnext (dofN (dnext y50000 3) ([14, 1, 2, 5, 15, 0, 16, 10, 20, 7])) 2) 3) 2) ([10, 30, 100, 7])), (40001, ()))))))])) y20301 (dnext (dofN (dnext (dnext (dnext (dofN (dnext y50000 3) ([14, 1, 2, 5, 15, 0, 16, 10, 20, 7])) 2) 3) 2) ([10, 30, 100, 7])) 3))
              (none)))
            (none))
           (none))
          (br ((oneOk (dnext (dnext (dnext (dofN (dnext y50000 3) ([14, 1, 2, 5, 15, 0, 16, 10, 20, 7])) 2) 3) 2) 3))
           (br ((done (dnext (dnext (dnext (dofN (dnext y50000 3) ([14, 1, 2, 5, 15, 0, 16, 10, 20, 7])) 2) 3) 2) 3))
            (br ((ofOk (dnext (dnext (dnext (dnext (dofN (dnext y50000 3) ([14, 1, 2, 5, 15, 0, 16, 10, 20, 7])) 2) 3) 2) 3) ([20, 1, 200])))
             (br (cApp y20300 ([((done y50000 3), ((dof (dnext y50000 3) ([14, 1, 2, 5, 15, 0, 16, 10, 20, 7])), (0, (0, (0, ((iadd .i64 0 (dof (dnext (dnext (dnext (dnext (dofN (dnext y50000 3) ([14, 1, 2, 5, 15, 0, 16, 10, 20, 7])) 2) 3) 2) 3) ([20, 1, 200]))), ()))))))]) 48)
              (lp_f12_0 (isub .i64 x4 1) y2 (y20300 ++ ([((done y50000 3), ((dof (dnext y50000 3) ([14, 1, 2, 5, 15, 0, 16, 10, 20, 7])), (0, (0, (0, ((iadd .i64 0 (dof (dnext (dnext (dnext (dnext (dofN (dnext y50000 3) ([14, 1, 2, 5, 15, 0, 16, 10, 20, 7])) 2) 3) 2) 3) ([20, 1, 200]))), ()))))))])) y20301 (dofN (dnext (dnext (dnext (dnext (dofN (dnext y50000 3) ([14, 1, 2, 5, 15, 0, 16, 10, 20, 7])) 2) 3) 2) 3) ([20, 1, 200])))
              (none))
             (none))
            (br (cApp y20300 ([((done y50000 3), ((dof (dnext y50000 3) ([14, 1, 2, 5, 15, 0, 16, 10, 20, 7])), (0, (0, (0, (40001, ()))))))]) 48)
             (lp_f12_0 (isub .i64 x4 1) y2 (y20300 ++ ([((done y50000 3), ((dof (dnext y50000 3) ([14, 1, 2, 5, 15, 0, 16, 10, 20, 7])), (0, (0, (0, (40001, ()))))))])) y20301 (dnext (dnext (dnext (dnext (dofN (dnext y50000 3) ([14, 1, 2, 5, 15, 0, 16, 10, 20, 7])) 2) 3) 2) 3))
             (none)))
           (none)))
         (none)))
       (none)))
     (none))
    (none))
   (none))
  (some (.exit 0, st_f12_0_e0 y2 y20300 y20301 y50000))
def la_f12_0 (x4 : Int) (y2 : Policy) (y20300 : (List Rule)) (y20301 : (List Keep)) (y50000 : Dice) : Option (Exit × VS) := some (.exit 0, st_f12_0_e0 (y2) (y20300 ++ (rulesZ x4.toNat y50000).1) (y20301) ((rulesZ x4.toNat y50000).2))
theorem be_f12_0 (x4 : Int) (y2 : Policy) (y20300 : (List Rule)) (y20301 : (List Keep)) (y50000 : Dice) : roundF g_f12 fg_f12_0 tb_f12_0 (st_f12_0 x4 y2 y20300 y20301 y50000) = b_f12_0 x4 y2 y20300 y20301 y50000 := by kernel_rfl
theorem ln_f12_0 (x4 : Int) (y2 : Policy) (y20300 : (List Rule)) (y20301 : (List Keep)) (y50000 : Dice) : lp_f12_0 x4 y2 y20300 y20301 y50000 = n_f12_0 x4 y2 y20300 y20301 y50000 := (loopF_nxt _ _).trans (by
 rw [be_f12_0]
 simp only [b_f12_0, n_f12_0, nxt_br, nxt_n, nxt_r, nxt_e, nxt_0]
 rfl)
def b_f12_1 (x6 : Int) (y2 : Policy) (y20300 : (List Rule)) (y20301 : (List Keep)) (y50000 : Dice) : Option (Exit × VS) :=
 br ((igt x6 0))
  (br ((nextOk y50000 4))
   (br ((ofOk (dnext y50000 4) ([10, 100, 3000])))
    (br (cApp y20301 ([((iadd .i64 1 (dval y50000 4)), ((dof (dnext y50000 4) ([10, 100, 3000])), ()))]) 16)
     (some (.normal, st_f12_1 (isub .i64 x6 1) y2 y20300 (y20301 ++ ([((iadd .i64 1 (dval y50000 4)), ((dof (dnext y50000 4) ([10, 100, 3000])), ()))])) (dofN (dnext y50000 4) ([10, 100, 3000]))))
     (none))
    (none))
   (none))
  (some (.exit 2, st_f12_1_e2 y2 y20300 y20301 y50000))
noncomputable def lp_f12_1 (x6 : Int) (y2 : Policy) (y20300 : (List Rule)) (y20301 : (List Keep)) (y50000 : Dice) : Option (Exit × VS) := loopF (roundF g_f12 fg_f12_1 tb_f12_1) (st_f12_1 x6 y2 y20300 y20301 y50000)
noncomputable def n_f12_1 (x6 : Int) (y2 : Policy) (y20300 : (List Rule)) (y20301 : (List Keep)) (y50000 : Dice) : Option (Exit × VS) :=
 br ((igt x6 0))
  (br ((nextOk y50000 4))
   (br ((ofOk (dnext y50000 4) ([10, 100, 3000])))
    (br (cApp y20301 ([((iadd .i64 1 (dval y50000 4)), ((dof (dnext y50000 4) ([10, 100, 3000])), ()))]) 16)
     (lp_f12_1 (isub .i64 x6 1) y2 y20300 (y20301 ++ ([((iadd .i64 1 (dval y50000 4)), ((dof (dnext y50000 4) ([10, 100, 3000])), ()))])) (dofN (dnext y50000 4) ([10, 100, 3000])))
     (none))
    (none))
   (none))
  (some (.exit 2, st_f12_1_e2 y2 y20300 y20301 y50000))
def la_f12_1 (x6 : Int) (y2 : Policy) (y20300 : (List Rule)) (y20301 : (List Keep)) (y50000 : Dice) : Option (Exit × VS) := some (.exit 2, st_f12_1_e2 (y2) (y20300) (y20301 ++ (keepsZ x6.toNat y50000).1) ((keepsZ x6.toNat y50000).2))
theorem be_f12_1 (x6 : Int) (y2 : Policy) (y20300 : (List Rule)) (y20301 : (List Keep)) (y50000 : Dice) : roundF g_f12 fg_f12_1 tb_f12_1 (st_f12_1 x6 y2 y20300 y20301 y50000) = b_f12_1 x6 y2 y20300 y20301 y50000 := by kernel_rfl
theorem ln_f12_1 (x6 : Int) (y2 : Policy) (y20300 : (List Rule)) (y20301 : (List Keep)) (y50000 : Dice) : lp_f12_1 x6 y2 y20300 y20301 y50000 = n_f12_1 x6 y2 y20300 y20301 y50000 := (loopF_nxt _ _).trans (by
 rw [be_f12_1]
 simp only [b_f12_1, n_f12_1, nxt_br, nxt_n, nxt_r, nxt_e, nxt_0]
 rfl)
def r_f12 (d0 : Dice) : Option (V × List VO) :=
 br ((nextOk d0 7))
  (br ((dOk (dnext d0 7) && decide (0 ≤ (dval d0 7) ∧ (dval d0 7) ≤ 100 ∧ ([] : List Rule).length + (dval d0 7).toNat ≤ 1000)))
   (br ((nextOk ((rulesZ (dval d0 7).toNat (dnext d0 7)).2) 3))
    (br ((dOk (dnext ((rulesZ (dval d0 7).toNat (dnext d0 7)).2) 3) && decide (0 ≤ (dval ((rulesZ (dval d0 7).toNat (dnext d0 7)).2) 3) ∧ (dval ((rulesZ (dval d0 7).toNat (dnext d0 7)).2) 3) ≤ 100 ∧ (([] : List Keep)).length + (dval ((rulesZ (dval d0 7).toNat (dnext d0 7)).2) 3).toNat ≤ 1000)))
     (some (.ag [(.ms 50001), (.ms 50002)], [.box (.t tyDice ((keepsZ (dval ((rulesZ (dval d0 7).toNat (dnext d0 7)).2) 3).toNat (dnext ((rulesZ (dval d0 7).toNat (dnext d0 7)).2) 3)).2)), .arr 38 tyRule ((([] : List Rule) ++ (rulesZ (dval d0 7).toNat (dnext d0 7)).1)), .arr 80 tyKeep ((([] : List Keep)) ++ (keepsZ (dval ((rulesZ (dval d0 7).toNat (dnext d0 7)).2) 3).toNat (dnext ((rulesZ (dval d0 7).toNat (dnext d0 7)).2) 3)).1)]))
     (none))
    (none))
   (none))
  (none)
theorem e_f12 (d0 : Dice) : runF g_f12 tc_f12 rv_f12 true [.ptr 50000 0] [.box (.t tyDice d0)] = r_f12 d0 := by kernel_rfl
theorem ok_f12 : Option.map (trC Tryz.prog) Tryz.f12.body = some tc_f12.er := by kernel_rfl
theorem rok_f12 : trVs Tryz.prog Tryz.f12.results.toList = some (rv_f12.map Prod.fst) := by kernel_rfl
theorem en_f12 : Entered Tryz.prog 12 := .inr ⟨by decide, _, Tryz.func12, by kernel_rfl, by kernel_rfl⟩
theorem gk_f12 : GOk Tryz.prog g_f12 := gok_of _ (by
 intro p hp
 simp only [List.mem_cons, List.not_mem_nil, or_false] at hp
 rcases hp with rfl | rfl | rfl
 ·exact ⟨en_f14, ms_f14⟩
 ·exact ⟨en_f22, ms_f22⟩
 ·exact ⟨en_f47, ms_f47⟩)
theorem l_f12_0 (x4 : Int) (y2 : Policy) (y20300 : (List Rule)) (y20301 : (List Keep)) (y50000 : Dice) (h : (dOk y50000 && decide (0 ≤ x4 ∧ x4 ≤ 100 ∧ y20300.length + x4.toNat ≤ 1000)) = true) : lp_f12_0 x4 y2 y20300 y20301 y50000 = la_f12_0 x4 y2 y20300 y20301 y50000 := by
 simp only [Bool.and_eq_true, decide_eq_true_eq] at h
 obtain ⟨hd, h1, h2q, h3⟩ := h
 obtain ⟨k, rfl⟩ := Int.eq_ofNat_of_zero_le h1
 rw [Int.toNat_natCast] at h3
 have h2 : k ≤ 100 := by omega
 clear h1 h2q
 induction k generalizing y20300 y50000 with
 | zero =>
  rw [ln_f12_0]
  have e1 : igt ((0 : Nat) : Int) 0 = false := rfl
  simp only [n_f12_0, e1, br_false, la_f12_0, Int.toNat_natCast, rulesZ, List.append_nil]
 | succ k ih =>
  rw [ln_f12_0]
  have e1 : igt ((k + 1 : Nat) : Int) 0 = true := by simp only [igt, decide_eq_true_eq]; omega
  have e2 : isub .i64 ((k + 1 : Nat) : Int) 1 = (k : Int) := by rw [isub_in (by omega)]; omega
  simp only [n_f12_0, e1, e2, br_true]
  have hla : la_f12_0 ((k + 1 : Nat) : Int) y2 y20300 y20301 y50000 = la_f12_0 (k : Int) y2 (y20300 ++ [(rDraw y50000).1]) y20301 (rDraw y50000).2 := by
   simp only [la_f12_0, Int.toNat_natCast, rulesZ, List.append_assoc]
   rfl
  rw [hla, ← ih _ _ (dOk_rDraw hd) (by simp; omega) (by omega)]
  clear ih hla
  have hi : ∀ x : Rule, cApp y20300 [x] 48 = true := fun x => cApp_ok (by simp; omega) (by omega)
  have o2 : ∀ d, dOk d = true → oneOk d 2 = true := fun d h => by simp [oneOk, nextOk, h]
  have o3 : ∀ d, dOk d = true → oneOk d 3 = true := fun d h => by simp [oneOk, nextOk, h]
  have n4 : ∀ d, dOk d = true → nextOk d 4 = true := fun d h => by simp [nextOk, h]
  have f1 : ∀ d, dOk d = true → ofOk d [14, 1, 2, 5, 15, 0, 16, 10, 20, 7] = true := fun d h => by simp [ofOk, h]
  have f2 : ∀ d, dOk d = true → ofOk d [2048, 256, 1024, 3072, 129] = true := fun d h => by simp [ofOk, h]
  have f3 : ∀ d, dOk d = true → ofOk d [10, 30, 100, 7] = true := fun d h => by simp [ofOk, h]
  have f4 : ∀ d, dOk d = true → ofOk d [20, 1, 200] = true := fun d h => by simp [ofOk, h]
  simp (maxDischargeDepth := 30) only [o2, o3, n4, f1, f2, f3, f4, dOk_nextI, dOk_of, hd, hi, br_true]
  repeat' (refine br_intro ?_ ?_ <;> intro _)
  all_goals simp only [rDraw, *, if_true, if_false, Bool.false_eq_true]
theorem l_f12_1 (x6 : Int) (y2 : Policy) (y20300 : (List Rule)) (y20301 : (List Keep)) (y50000 : Dice) (h : (dOk y50000 && decide (0 ≤ x6 ∧ x6 ≤ 100 ∧ y20301.length + x6.toNat ≤ 1000)) = true) : lp_f12_1 x6 y2 y20300 y20301 y50000 = la_f12_1 x6 y2 y20300 y20301 y50000 := by
 simp only [Bool.and_eq_true, decide_eq_true_eq] at h
 obtain ⟨hd, h1, h2q, h3⟩ := h
 obtain ⟨k, rfl⟩ := Int.eq_ofNat_of_zero_le h1
 rw [Int.toNat_natCast] at h3
 have h2 : k ≤ 100 := by omega
 clear h1 h2q
 induction k generalizing y20301 y50000 with
 | zero =>
  rw [ln_f12_1]
  have e1 : igt ((0 : Nat) : Int) 0 = false := rfl
  simp only [n_f12_1, e1, br_false, la_f12_1, Int.toNat_natCast, keepsZ, List.append_nil]
 | succ k ih =>
  rw [ln_f12_1]
  have e1 : igt ((k + 1 : Nat) : Int) 0 = true := by simp only [igt, decide_eq_true_eq]; omega
  have e2 : isub .i64 ((k + 1 : Nat) : Int) 1 = (k : Int) := by rw [isub_in (by omega)]; omega
  simp only [n_f12_1, e1, e2, br_true]
  have hla : la_f12_1 ((k + 1 : Nat) : Int) y2 y20300 y20301 y50000 = la_f12_1 (k : Int) y2 y20300 (y20301 ++ [(kDraw y50000).1]) (kDraw y50000).2 := by
   simp only [la_f12_1, Int.toNat_natCast, keepsZ, List.append_assoc]
   rfl
  rw [hla, ← ih _ _ (dOk_kDraw hd) (by simp; omega) (by omega)]
  clear ih hla
  have hi : ∀ x : Keep, cApp y20301 [x] 16 = true := fun x => cApp_ok (by simp; omega) (by omega)
  have n4 : ∀ d, dOk d = true → nextOk d 4 = true := fun d h => by simp [nextOk, h]
  have f1 : ∀ d, dOk d = true → ofOk d [10, 100, 3000] = true := fun d h => by simp [ofOk, h]
  simp (maxDischargeDepth := 30) only [n4, f1, dOk_nextI, dOk_of, hd, hi, br_true]
  rfl
theorem lo_f12_0 : ∀ S l p, g_f12.L 0 (fgt fg_f12_0 S) = some (true, l) → pickA l = some p → loopF (roundF g_f12 fg_f12_0 tb_f12_0) S = some p :=
 lok_of (s := sh_f12_0) ⟨by decide, by decide⟩ (by kernel_rfl) fun x y hok p hp => by
 simp only [pickA_br, pickA_one] at hp
 exact (l_f12_0 x.2.2.2.1 y.1 y.2.2.2.2.1 y.2.2.2.2.2.1 y.2.2.2.2.2.2.1 (by simpa using hok)).trans hp
theorem lo_f12_1 : ∀ S l p, g_f12.L 1 (fgt fg_f12_1 S) = some (true, l) → pickA l = some p → loopF (roundF g_f12 fg_f12_1 tb_f12_1) S = some p :=
 lok_of (s := sh_f12_1) ⟨by decide, by decide⟩ (by kernel_rfl) fun x y hok p hp => by
 simp only [pickA_br, pickA_one] at hp
 exact (l_f12_1 x.2.2.2.1 y.1 y.2.2.2.2.1 y.2.2.2.2.2.1 y.2.2.2.2.2.2.1 (by simpa using hok)).trans hp
theorem lk_f12 : tc_f12.lok g_f12 := by
 repeat (first | exact trivial | exact lo_f12_0 | exact lo_f12_1 | refine ⟨?_, ?_⟩)
theorem s_f12 (d : Dice) (h : dOk d = true) : r_f12 d = some (.ag [.ms 50001, .ms 50002], [.box (.t tyDice (polN d)), .arr 38 tyRule (polV d).1, .arr 80 tyKeep (polV d).2.1]) := by
 have n7 : ∀ d, dOk d = true → nextOk d 7 = true := fun d h => by simp [nextOk, h]
 have n3 : ∀ d, dOk d = true → nextOk d 3 = true := fun d h => by simp [nextOk, h]
 have b7 := dval_lt (d := d) (n := 7) (by omega)
 have h2 : dOk (rulesZ (dval d 7).toNat (dnext d 7)).2 = true := dOk_rules (dOk_next h)
 have b3 := dval_lt (d := (rulesZ (dval d 7).toNat (dnext d 7)).2) (n := 3) (by omega)
 simp only [r_f12, n7 d h, br_true, List.nil_append]
 rw [dOk_next h, Bool.true_and, dec_true ⟨b7.1, by omega, by rw [List.length_nil]; omega⟩, br_true, n3 _ h2, br_true, dOk_next h2, Bool.true_and, dec_true ⟨b3.1, by omega, by rw [List.length_nil]; omega⟩, br_true]
 rfl
def sp_f12 : Ent := specS [.ptr 50000 0] [.box tyDice] (fun x y => (dOk y.1)) (fun x y => (.ag [(.ms 50001), (.ms 50002)])) (fun x y => [.box (.t tyDice (polN y.1)), .arr 38 tyRule ((polV y.1).1), .arr 80 tyKeep (((polV y.1).2).1)])
theorem ms_f12 : Meets Tryz.prog 12 (strip sp_f12) := by
 obtain ⟨c, hc, hi⟩ := Option.map_eq_some_iff.1 ok_f12
 exact meets_specS (R := runF g_f12 tc_f12 rv_f12 true) (meets_of (by decide) Tryz.func12 hc hi Tryz.ntmps12 rok_f12 gk_f12 lk_f12 mixed) fun x y hok => (e_f12 y.1).trans (s_f12 y.1 hok)
end Go.Proofs.YtfehjdaielifiaaGreat.K
