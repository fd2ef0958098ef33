/-
  Policies out of dice: their slices are the caller's own.
-/
import Derived.Test.YtfehjdaielifiaaM2
set_option linter.unusedSimpArgs false
set_option linter.unusedVariables false
namespace Go.Proofs.Ytfehjdaielifiaa.K
open Go.RowKit
def dr_make_Policy_0 : List DO := [(.mk (.mk (some 39) none (.m (.pu (.fa 4 (.t 5))))) []), (.mk (.mk (some 40) none (.m (.ld false 1 (.t 39)))) [0]), (.mk (.mk (some 41) none (.m (.pu (.mv (.t 0))))) []), (.mk (.mk (some 42) none (.m (.bs 3 1 3 [(.v (.int .i64 0)), (.v (.int .i64 0)), (.v (.int .i64 0))] [(0, 1, (.c (.v (.int .i64 20)))), (1, 1, (.c (.v (.int .i64 1)))), (2, 1, (.c (.v (.int .i64 200))))]))) []), (.mk (.mk (some 43) none (.call 23 [(.t 41), (.t 42)])) [2, 3]), (.mk (.mk (some 44) none (.m (.pu (.bin false .add (.t 40) (.t 43))))) [1, 4]), (.mk (.mk (some 45) none (.m (.pu (.fa 5 (.t 5))))) [0, 1, 2, 3, 4, 5]), (.mk (.mk none none (.m (.st 1 (.t 45) (.t 44)))) [6, 5, 4, 0, 1, 2, 3, 4, 5])]
def dr_make_Policy_1 : List DO := [(.mk (.mk (some 58) none (.m (.pu (.fa 1 (.t 3))))) []), (.mk (.mk (some 59) none (.m (.ld false 1 (.t 58)))) [0]), (.mk (.mk (some 60) none (.m (.pu (.mv (.t 0))))) []), (.mk (.mk (some 61) none (.call 16 [(.t 60), (.c (.v (.int .i64 4)))])) [2]), (.mk (.mk (some 62) none (.m (.pu (.bin false .add (.c (.v (.int .i64 1))) (.t 61))))) [3]), (.mk (.mk (some 63) none (.m (.pu (.mv (.t 0))))) []), (.mk (.mk (some 64) none (.m (.bs 3 1 3 [(.v (.int .i64 0)), (.v (.int .i64 0)), (.v (.int .i64 0))] [(0, 1, (.c (.v (.int .i64 10)))), (1, 1, (.c (.v (.int .i64 100)))), (2, 1, (.c (.v (.int .i64 3000))))]))) []), (.mk (.mk (some 65) none (.call 23 [(.t 63), (.t 64)])) [5, 6, 3]), (.mk (.mk (some 66) none (.m (.pu (.bd [(.v (.int .i64 0)), (.v (.int .i64 0))] [(0, 1, (.t 62)), (1, 1, (.t 65))])))) [4, 7]), (.mk (.mk (some 67) none (.m (.bs 62 2 1 [(.v (.int .i64 0)), (.v (.int .i64 0))] [(0, 2, (.t 66))]))) [8]), (.mk (.mk (some 68) none (.m (.app 62 2 16 (.t 59) (.t 67)))) [1, 9, 7]), (.mk (.mk (some 69) none (.m (.pu (.fa 1 (.t 3))))) [0, 1, 2, 3, 4, 5, 6, 7, 8, 9, 10]), (.mk (.mk none none (.m (.st 1 (.t 69) (.t 68)))) [11, 10, 10, 0, 1, 2, 3, 4, 5, 6, 7, 8, 9, 10])]
def fg_make_Policy_0 : Fg := ⟨[(0, none), (2, none), (3, none), (4, some tI)], [(2, some tyPolicy), (3, none), (50, none), (68, none), (20300, none), (20301, none), (50000, some tyDice)]⟩
def tb_make_Policy_0 : TC := (.sq (.sq (.reg [(.mk (some 9) none (.m (.pu (.mv (.t 4))))), (.mk (some 10) none (.m (.pu (.bin false .gtr (.t 9) (.c (.v (.int .i64 0)))))))]) (.cd (.t 10) .sk (.fg ⟨[(0, none), (2, none), (3, none)], [(2, some tyPolicy), (3, some tyPolicy), (50, none), (68, none), (20300, none), (20301, none), (50000, some tyDice)]⟩ (.ex 0)))) (.sq (.bk 1 (.sq (.reg [(.mk (some 13) none (.m (.pu (.mv (.t 0))))), (.mk (some 14) none (.call 22 [(.t 13), (.c (.v (.int .i64 3)))])), (.mk (some 15) none (.m (.pu (.mv (.t 0))))), (.mk (some 16) none (.m (.bs 3 1 10 [(.v (.int .i64 0)), (.v (.int .i64 0)), (.v (.int .i64 0)), (.v (.int .i64 0)), (.v (.int .i64 0)), (.v (.int .i64 0)), (.v (.int .i64 0)), (.v (.int .i64 0)), (.v (.int .i64 0)), (.v (.int .i64 0))] [(0, 1, (.c (.v (.int .i64 14)))), (1, 1, (.c (.v (.int .i64 1)))), (2, 1, (.c (.v (.int .i64 2)))), (3, 1, (.c (.v (.int .i64 5)))), (4, 1, (.c (.v (.int .i64 15)))), (5, 1, (.c (.v (.int .i64 0)))), (6, 1, (.c (.v (.int .i64 16)))), (7, 1, (.c (.v (.int .i64 10)))), (8, 1, (.c (.v (.int .i64 20)))), (9, 1, (.c (.v (.int .i64 7))))]))), (.mk (some 17) none (.call 23 [(.t 15), (.t 16)])), (.mk (some 18) none (.m (.pu (.bd [(.v (.bool false)), (.v (.int .i64 0)), (.v (.int .i64 0)), (.v (.int .i64 0)), (.v (.int .i64 0)), (.v (.int .i64 0))] [(0, 1, (.t 14)), (1, 1, (.t 17)), (5, 1, (.c (.v (.int .i64 40001))))])))), (.mk (some 5) none (.m (.new [(.v (.bool false)), (.v (.int .i64 0)), (.v (.int .i64 0)), (.v (.int .i64 0)), (.v (.int .i64 0)), (.v (.int .i64 0))]))), (.mk none none (.m (.st 6 (.t 5) (.t 18))))]) (.sq (.sq (.reg [(.mk (some 19) none (.m (.pu (.mv (.t 0))))), (.mk (some 20) none (.call 22 [(.t 19), (.c (.v (.int .i64 2)))]))]) (.cd (.t 20) (.reg [(.mk (some 21) none (.m (.pu (.mv (.t 0))))), (.mk (some 22) none (.m (.bs 3 1 5 [(.v (.int .i64 0)), (.v (.int .i64 0)), (.v (.int .i64 0)), (.v (.int .i64 0)), (.v (.int .i64 0))] [(0, 1, (.c (.v (.int .i64 2048)))), (1, 1, (.c (.v (.int .i64 256)))), (2, 1, (.c (.v (.int .i64 1024)))), (3, 1, (.c (.v (.int .i64 3072)))), (4, 1, (.c (.v (.int .i64 129))))]))), (.mk (some 23) none (.call 23 [(.t 21), (.t 22)])), (.mk (some 24) none (.m (.pu (.fa 2 (.t 5))))), (.mk none none (.m (.st 1 (.t 24) (.t 23))))]) .sk)) (.sq (.sq (.reg [(.mk (some 25) none (.m (.pu (.mv (.t 0))))), (.mk (some 26) none (.call 22 [(.t 25), (.c (.v (.int .i64 3)))]))]) (.cd (.t 26) (.reg [(.mk (some 27) none (.m (.pu (.mv (.t 0))))), (.mk (some 28) none (.call 16 [(.t 27), (.c (.v (.int .i64 4)))])), (.mk (some 29) none (.m (.pu (.bin false .add (.c (.v (.int .i64 1))) (.t 28))))), (.mk (some 30) none (.m (.pu (.fa 3 (.t 5))))), (.mk none none (.m (.st 1 (.t 30) (.t 29))))]) .sk)) (.sq (.sq (.reg [(.mk (some 31) none (.m (.pu (.mv (.t 0))))), (.mk (some 32) none (.call 22 [(.t 31), (.c (.v (.int .i64 2)))]))]) (.cd (.t 32) (.reg [(.mk (some 33) none (.m (.pu (.mv (.t 0))))), (.mk (some 34) none (.m (.bs 3 1 4 [(.v (.int .i64 0)), (.v (.int .i64 0)), (.v (.int .i64 0)), (.v (.int .i64 0))] [(0, 1, (.c (.v (.int .i64 10)))), (1, 1, (.c (.v (.int .i64 30)))), (2, 1, (.c (.v (.int .i64 100)))), (3, 1, (.c (.v (.int .i64 7))))]))), (.mk (some 35) none (.call 23 [(.t 33), (.t 34)])), (.mk (some 36) none (.m (.pu (.fa 4 (.t 5))))), (.mk none none (.m (.st 1 (.t 36) (.t 35))))]) .sk)) (.sq (.sq (.reg [(.mk (some 37) none (.m (.pu (.mv (.t 0))))), (.mk (some 38) none (.call 22 [(.t 37), (.c (.v (.int .i64 3)))]))]) (.cd (.t 38) (.dr dr_make_Policy_0 [(0, [5]), (1, [5]), (2, [50000]), (3, []), (4, [43, 5043, 10043, 15043, 50000]), (5, []), (6, [5]), (7, [5])] (.of [0, 1, 2, 3, 4, 5, 6, 7])) .sk)) (.reg [(.mk (some 46) none (.m (.pu (.fa 0 (.t 3))))), (.mk (some 47) none (.m (.ld false 1 (.t 46)))), (.mk (some 48) none (.m (.ld true 6 (.t 5)))), (.mk (some 49) none (.m (.bs 51 6 1 [(.v (.bool false)), (.v (.int .i64 0)), (.v (.int .i64 0)), (.v (.int .i64 0)), (.v (.int .i64 0)), (.v (.int .i64 0))] [(0, 6, (.t 48))]))), (.mk (some 50) none (.m (.app 51 6 48 (.t 47) (.t 49)))), (.mk (some 51) none (.m (.pu (.fa 0 (.t 3))))), (.mk none none (.m (.st 1 (.t 51) (.t 50))))]))))))) (.reg [(.mk (some 11) none (.m (.pu (.mv (.t 4))))), (.mk (some 12) none (.m (.pu (.bin false .sub (.t 11) (.c (.v (.int .i64 1))))))), (.mk (some 4) none (.m (.pu (.mv (.t 12)))))])))
def fg_make_Policy_1 : Fg := ⟨[(0, none), (2, none), (3, none), (6, some tI)], [(2, some tyPolicy), (3, none), (50, none), (68, none), (20300, none), (20301, none), (50000, some tyDice)]⟩
def tb_make_Policy_1 : TC := (.sq (.sq (.reg [(.mk (some 54) none (.m (.pu (.mv (.t 6))))), (.mk (some 55) none (.m (.pu (.bin false .gtr (.t 54) (.c (.v (.int .i64 0)))))))]) (.cd (.t 55) .sk (.fg ⟨[(2, none), (3, none)], [(2, some tyPolicy), (3, some tyPolicy), (50, none), (68, none), (20300, none), (20301, none), (50000, some tyDice)]⟩ (.ex 2)))) (.sq (.bk 3 (.dr dr_make_Policy_1 [(0, [3, 50, 68, 20300, 20301]), (1, [3, 50, 68, 20300, 20301]), (2, [50000]), (3, [61, 5061, 10061, 15061, 50000]), (4, []), (5, [50000]), (6, []), (7, [65, 5065, 10065, 15065, 50000]), (8, []), (9, []), (10, [2, 3, 50, 68, 5068, 10068, 15068, 20300, 20301]), (11, [3, 50, 68, 20300, 20301]), (12, [2, 3, 50, 68, 20300, 20301])] (.of [0, 1, 2, 5, 6, 3, 4, 7, 8, 9, 10, 11, 12]))) (.reg [(.mk (some 56) none (.m (.pu (.mv (.t 6))))), (.mk (some 57) none (.m (.pu (.bin false .sub (.t 56) (.c (.v (.int .i64 1))))))), (.mk (some 6) none (.m (.pu (.mv (.t 57)))))])))
/-- cipherplan/cipherplanmake.Policy -/
def tc_make_Policy : TC := (.sq (.reg [(.mk (some 2) none (.m (.new [(.v (.slice none 0 0)), (.v (.slice none 0 0))])))]) (.sq (.reg [(.mk (some 3) none (.m (.new [(.v (.slice none 0 0)), (.v (.slice none 0 0))])))]) (.sq (.sq (.reg [(.mk (some 7) none (.m (.pu (.mv (.t 0))))), (.mk (some 8) none (.call 16 [(.t 7), (.c (.v (.int .i64 7)))])), (.mk (some 4) none (.m (.pu (.mv (.t 8)))))]) (.bk 0 (.nf 3 1 62 20301 (.nf 3 0 51 20300 (.lp 0 fg_make_Policy_0 tb_make_Policy_0))))) (.sq (.sq (.reg [(.mk (some 52) none (.m (.pu (.mv (.t 0))))), (.mk (some 53) none (.call 16 [(.t 52), (.c (.v (.int .i64 3)))])), (.mk (some 6) none (.m (.pu (.mv (.t 53)))))]) (.bk 2 (.nf 3 0 51 20300 (.nf 3 1 62 20301 (.lp 1 fg_make_Policy_1 tb_make_Policy_1))))) (.sq (.reg [(.mk (some 70) none (.m (.ld true 2 (.t 3)))), (.mk none none (.m (.st 2 (.t 2) (.t 70))))]) .rt)))))
def rv_make_Policy : List (RV × Option Ty) := [((.c 2 true 2), none)]
abbrev sh_make_Policy_0 : Sh := ⟨[(0, .ptr 50000 0), (2, .ptr 2 0), (3, .ptr 3 0), (4, .ty tI)], [(2, .box tyPolicy), (3, .bag [.ms 20300, .ms 20301]), (50, .no), (68, .no), (20300, .arr 51 tyRule), (20301, .arr 62 tyKeep), (50000, .box tyDice)]⟩
def st_make_Policy_0 (x4 : Int) (y2 : Policy) (y20300 : (List Rule)) (y20301 : (List Keep)) (y50000 : Dice) : VS := sh_make_Policy_0.st ((), (), (), x4, ()) (y2, ((), (), ()), (), (), y20300, y20301, y50000, ())
abbrev sh_make_Policy_0_e0 : Sh := ⟨[(0, .ptr 50000 0), (2, .ptr 2 0), (3, .ptr 3 0)], [(2, .box tyPolicy), (3, .bag [.ms 20300, .ms 20301]), (50, .no), (68, .no), (20300, .arr 51 tyRule), (20301, .arr 62 tyKeep), (50000, .box tyDice)]⟩
def st_make_Policy_0_e0 (y2 : Policy) (y20300 : (List Rule)) (y20301 : (List Keep)) (y50000 : Dice) : VS := sh_make_Policy_0_e0.st ((), (), (), ()) (y2, ((), (), ()), (), (), y20300, y20301, y50000, ())
-- loop 0: (x4 : Int) (y2 : Policy) (y20300 : (List Rule)) (y20301 : (List Keep)) (y50000 : Dice); out: ('exit', 0) (y2 : Policy) (y20300 : (List Rule)) (y20301 : (List Keep)) (y50000 : Dice)
abbrev sh_make_Policy_1 : Sh := ⟨[(0, .ptr 50000 0), (2, .ptr 2 0), (3, .ptr 3 0), (6, .ty tI)], [(2, .box tyPolicy), (3, .bag [.ms 20300, .ms 20301]), (50, .no), (68, .no), (20300, .arr 51 tyRule), (20301, .arr 62 tyKeep), (50000, .box tyDice)]⟩
def st_make_Policy_1 (x6 : Int) (y2 : Policy) (y20300 : (List Rule)) (y20301 : (List Keep)) (y50000 : Dice) : VS := sh_make_Policy_1.st ((), (), (), x6, ()) (y2, ((), (), ()), (), (), y20300, y20301, y50000, ())
abbrev sh_make_Policy_1_e2 : Sh := ⟨[(2, .ptr 2 0), (3, .ptr 3 0)], [(2, .box tyPolicy), (3, .bag [.ms 20300, .ms 20301]), (50, .no), (68, .no), (20300, .arr 51 tyRule), (20301, .arr 62 tyKeep), (50000, .box tyDice)]⟩
def st_make_Policy_1_e2 (y2 : Policy) (y20300 : (List Rule)) (y20301 : (List Keep)) (y50000 : Dice) : VS := sh_make_Policy_1_e2.st ((), (), ()) (y2, ((), (), ()), (), (), y20300, y20301, y50000, ())
-- loop 1: (x6 : Int) (y2 : Policy) (y20300 : (List Rule)) (y20301 : (List Keep)) (y50000 : Dice); out: ('exit', 2) (y2 : Policy) (y20300 : (List Rule)) (y20301 : (List Keep)) (y50000 : Dice)
def L_make_Policy_0 : VS → Option (Bool × List (Bool × Exit × VS)) := mkL sh_make_Policy_0 (fun x y => (dOk y.2.2.2.2.2.2.1 && decide (0 ≤ x.2.2.2.1 ∧ x.2.2.2.1 ≤ 100 ∧ y.2.2.2.2.1.length + x.2.2.2.1.toNat ≤ 1000))) (fun x y => [(true, .exit 0, st_make_Policy_0_e0 (y.1) (y.2.2.2.2.1 ++ (rulesZ x.2.2.2.1.toNat y.2.2.2.2.2.2.1).1) (y.2.2.2.2.2.1) ((rulesZ x.2.2.2.1.toNat y.2.2.2.2.2.2.1).2))])
def L_make_Policy_1 : VS → Option (Bool × List (Bool × Exit × VS)) := mkL sh_make_Policy_1 (fun x y => (dOk y.2.2.2.2.2.2.1 && decide (0 ≤ x.2.2.2.1 ∧ x.2.2.2.1 ≤ 100 ∧ y.2.2.2.2.2.1.length + x.2.2.2.1.toNat ≤ 1000))) (fun x y => [(true, .exit 2, st_make_Policy_1_e2 (y.1) (y.2.2.2.2.1) (y.2.2.2.2.2.1 ++ (keepsZ x.2.2.2.1.toNat y.2.2.2.2.2.2.1).1) ((keepsZ x.2.2.2.1.toNat y.2.2.2.2.2.2.1).2))])
def g_make_Policy : G := ⟨TYs, [], 71, EL [(16, sp_make_Dice_Next), (22, sp_make_Dice_One), (23, sp_make_Dice_Of)], keeps, (Ls [L_make_Policy_0, L_make_Policy_1]), IL [], RL []⟩
def b_make_Policy_0 (x4 : Int) (y2 : Policy) (y20300 : (List Rule)) (y20301 : (List Keep)) (y50000 : Dice) : Option (Exit × VS) :=
  br ((igt x4 0))
    (br ((oneOk y50000 3))
      (br ((ofOk (dnext y50000 3) ([14, 1, 2, 5, 15, 0, 16, 10, 20, 7])))
        (br ((oneOk (dofN (dnext y50000 3) ([14, 1, 2, 5, 15, 0, 16, 10, 20, 7])) 2))
          (br ((done (dofN (dnext y50000 3) ([14, 1, 2, 5, 15, 0, 16, 10, 20, 7])) 2))
            (br ((ofOk (dnext (dofN (dnext y50000 3) ([14, 1, 2, 5, 15, 0, 16, 10, 20, 7])) 2) ([2048, 256, 1024, 3072, 129])))
              (br ((oneOk (dofN (dnext (dofN (dnext y50000 3) ([14, 1, 2, 5, 15, 0, 16, 10, 20, 7])) 2) ([2048, 256, 1024, 3072, 129])) 3))
                (br ((done (dofN (dnext (dofN (dnext y50000 3) ([14, 1, 2, 5, 15, 0, 16, 10, 20, 7])) 2) ([2048, 256, 1024, 3072, 129])) 3))
                  (br ((nextOk (dnext (dofN (dnext (dofN (dnext y50000 3) ([14, 1, 2, 5, 15, 0, 16, 10, 20, 7])) 2) ([2048, 256, 1024, 3072, 129])) 3) 4))
                    (br ((oneOk (dnext (dnext (dofN (dnext (dofN (dnext y50000 3) ([14, 1, 2, 5, 15, 0, 16, 10, 20, 7])) 2) ([2048, 256, 1024, 3072, 129])) 3) 4) 2))
                      (br ((done (dnext (dnext (dofN (dnext (dofN (dnext y50000 3) ([14, 1, 2, 5, 15, 0, 16, 10, 20, 7])) 2) ([2048, 256, 1024, 3072, 129])) 3) 4) 2))
                        (br ((ofOk (dnext (dnext (dnext (dofN (dnext (dofN (dnext y50000 3) ([14, 1, 2, 5, 15, 0, 16, 10, 20, 7])) 2) ([2048, 256, 1024, 3072, 129])) 3) 4) 2) ([10, 30, 100, 7])))
                          (br ((oneOk (dofN (dnext (dnext (dnext (dofN (dnext (dofN (dnext y50000 3) ([14, 1, 2, 5, 15, 0, 16, 10, 20, 7])) 2) ([2048, 256, 1024, 3072, 129])) 3) 4) 2) ([10, 30, 100, 7])) 3))
                            (br ((done (dofN (dnext (dnext (dnext (dofN (dnext (dofN (dnext y50000 3) ([14, 1, 2, 5, 15, 0, 16, 10, 20, 7])) 2) ([2048, 256, 1024, 3072, 129])) 3) 4) 2) ([10, 30, 100, 7])) 3))
                              (br ((ofOk (dnext (dofN (dnext (dnext (dnext (dofN (dnext (dofN (dnext y50000 3) ([14, 1, 2, 5, 15, 0, 16, 10, 20, 7])) 2) ([2048, 256, 1024, 3072, 129])) 3) 4) 2) ([10, 30, 100, 7])) 3) ([20, 1, 200])))
                                (br (cApp y20300 ([((done y50000 3), ((dof (dnext y50000 3) ([14, 1, 2, 5, 15, 0, 16, 10, 20, 7])), ((dof (dnext (dofN (dnext y50000 3) ([14, 1, 2, 5, 15, 0, 16, 10, 20, 7])) 2) ([2048, 256, 1024, 3072, 129])), ((iadd .i64 1 (dval (dnext (dofN (dnext (dofN (dnext y50000 3) ([14, 1, 2, 5, 15, 0, 16, 10, 20, 7])) 2) ([2048, 256, 1024, 3072, 129])) 3) 4)), ((dof (dnext (dnext (dnext (dofN (dnext (dofN (dnext y50000 3) ([14, 1, 2, 5, 15, 0, 16, 10, 20, 7])) 2) ([2048, 256, 1024, 3072, 129])) 3) 4) 2) ([10, 30, 100, 7])), ((iadd .i64 (dof (dnext (dnext (dnext (dofN (dnext (dofN (dnext y50000 3) ([14, 1, 2, 5, 15, 0, 16, 10, 20, 7])) 2) ([2048, 256, 1024, 3072, 129])) 3) 4) 2) ([10, 30, 100, 7])) (dof (dnext (dofN (dnext (dnext (dnext (dofN (dnext (dofN (dnext y50000 3) ([14, 1, 2, 5, 15, 0, 16, 10, 20, 7])) 2) ([2048, 256, 1024, 3072, 129])) 3) 4) 2) ([10, 30, 100, 7])) 3) ([20, 1, 200]))), ()))))))]) 48)
                                  (some (.normal, st_make_Policy_0 (isub .i64 x4 1) y2 (y20300 ++ ([((done y50000 3), ((dof (dnext y50000 3) ([14, 1, 2, 5, 15, 0, 16, 10, 20, 7])), ((dof (dnext (dofN (dnext y50000 3) ([14, 1, 2, 5, 15, 0, 16, 10, 20, 7])) 2) ([2048, 256, 1024, 3072, 129])), ((iadd .i64 1 (dval (dnext (dofN (dnext (dofN (dnext y50000 3) ([14, 1, 2, 5, 15, 0, 16, 10, 20, 7])) 2) ([2048, 256, 1024, 3072, 129])) 3) 4)), ((dof (dnext (dnext (dnext (dofN (dnext (dofN (dnext y50000 3) ([14, 1, 2, 5, 15, 0, 16, 10, 20, 7])) 2) ([2048, 256, 1024, 3072, 129])) 3) 4) 2) ([10, 30, 100, 7])), ((iadd .i64 (dof (dnext (dnext (dnext (dofN (dnext (dofN (dnext y50000 3) ([14, 1, 2, 5, 15, 0, 16, 10, 20, 7])) 2) ([2048, 256, 1024, 3072, 129])) 3) 4) 2) ([10, 30, 100, 7])) (dof (dnext (dofN (dnext (dnext (dnext (dofN (dnext (dofN (dnext y50000 3) ([14, 1, 2, 5, 15, 0, 16, 10, 20, 7])) 2) ([2048, 256, 1024, 3072, 129])) 3) 4) 2) ([10, 30, 100, 7])) 3) ([20, 1, 200]))), ()))))))])) y20301 (dofN (dnext (dofN (dnext (dnext (dnext (dofN (dnext (dofN (dnext y50000 3) ([14, 1, 2, 5, 15, 0, 16, 10, 20, 7])) 2) ([2048, 256, 1024, 3072, 129])) 3) 4) 2) ([10, 30, 100, 7])) 3) ([20, 1, 200]))))
                                  (none))
                                (none))
                              (br (cApp y20300 ([((done y50000 3), ((dof (dnext y50000 3) ([14, 1, 2, 5, 15, 0, 16, 10, 20, 7])), ((dof (dnext (dofN (dnext y50000 3) ([14, 1, 2, 5, 15, 0, 16, 10, 20, 7])) 2) ([2048, 256, 1024, 3072, 129])), ((iadd .i64 1 (dval (dnext (dofN (dnext (dofN (dnext y50000 3) ([14, 1, 2, 5, 15, 0, 16, 10, 20, 7])) 2) ([2048, 256, 1024, 3072, 129])) 3) 4)), ((dof (dnext (dnext (dnext (dofN (dnext (dofN (dnext y50000 3) ([14, 1, 2, 5, 15, 0, 16, 10, 20, 7])) 2) ([2048, 256, 1024, 3072, 129])) 3) 4) 2) ([10, 30, 100, 7])), (40001, ()))))))]) 48)
                                (some (.normal, st_make_Policy_0 (isub .i64 x4 1) y2 (y20300 ++ ([((done y50000 3), ((dof (dnext y50000 3) ([14, 1, 2, 5, 15, 0, 16, 10, 20, 7])), ((dof (dnext (dofN (dnext y50000 3) ([14, 1, 2, 5, 15, 0, 16, 10, 20, 7])) 2) ([2048, 256, 1024, 3072, 129])), ((iadd .i64 1 (dval (dnext (dofN (dnext (dofN (dnext y50000 3) ([14, 1, 2, 5, 15, 0, 16, 10, 20, 7])) 2) ([2048, 256, 1024, 3072, 129])) 3) 4)), ((dof (dnext (dnext (dnext (dofN (dnext (dofN (dnext y50000 3) ([14, 1, 2, 5, 15, 0, 16, 10, 20, 7])) 2) ([2048, 256, 1024, 3072, 129])) 3) 4) 2) ([10, 30, 100, 7])), (40001, ()))))))])) y20301 (dnext (dofN (dnext (dnext (dnext (dofN (dnext (dofN (dnext y50000 3) ([14, 1, 2, 5, 15, 0, 16, 10, 20, 7])) 2) ([2048, 256, 1024, 3072, 129])) 3) 4) 2) ([10, 30, 100, 7])) 3)))
                                (none)))
                            (none))
                          (none))
                        (br ((oneOk (dnext (dnext (dnext (dofN (dnext (dofN (dnext y50000 3) ([14, 1, 2, 5, 15, 0, 16, 10, 20, 7])) 2) ([2048, 256, 1024, 3072, 129])) 3) 4) 2) 3))
                          (br ((done (dnext (dnext (dnext (dofN (dnext (dofN (dnext y50000 3) ([14, 1, 2, 5, 15, 0, 16, 10, 20, 7])) 2) ([2048, 256, 1024, 3072, 129])) 3) 4) 2) 3))
                            (br ((ofOk (dnext (dnext (dnext (dnext (dofN (dnext (dofN (dnext y50000 3) ([14, 1, 2, 5, 15, 0, 16, 10, 20, 7])) 2) ([2048, 256, 1024, 3072, 129])) 3) 4) 2) 3) ([20, 1, 200])))
                              (br (cApp y20300 ([((done y50000 3), ((dof (dnext y50000 3) ([14, 1, 2, 5, 15, 0, 16, 10, 20, 7])), ((dof (dnext (dofN (dnext y50000 3) ([14, 1, 2, 5, 15, 0, 16, 10, 20, 7])) 2) ([2048, 256, 1024, 3072, 129])), ((iadd .i64 1 (dval (dnext (dofN (dnext (dofN (dnext y50000 3) ([14, 1, 2, 5, 15, 0, 16, 10, 20, 7])) 2) ([2048, 256, 1024, 3072, 129])) 3) 4)), (0, ((iadd .i64 0 (dof (dnext (dnext (dnext (dnext (dofN (dnext (dofN (dnext y50000 3) ([14, 1, 2, 5, 15, 0, 16, 10, 20, 7])) 2) ([2048, 256, 1024, 3072, 129])) 3) 4) 2) 3) ([20, 1, 200]))), ()))))))]) 48)
                                (some (.normal, st_make_Policy_0 (isub .i64 x4 1) y2 (y20300 ++ ([((done y50000 3), ((dof (dnext y50000 3) ([14, 1, 2, 5, 15, 0, 16, 10, 20, 7])), ((dof (dnext (dofN (dnext y50000 3) ([14, 1, 2, 5, 15, 0, 16, 10, 20, 7])) 2) ([2048, 256, 1024, 3072, 129])), ((iadd .i64 1 (dval (dnext (dofN (dnext (dofN (dnext y50000 3) ([14, 1, 2, 5, 15, 0, 16, 10, 20, 7])) 2) ([2048, 256, 1024, 3072, 129])) 3) 4)), (0, ((iadd .i64 0 (dof (dnext (dnext (dnext (dnext (dofN (dnext (dofN (dnext y50000 3) ([14, 1, 2, 5, 15, 0, 16, 10, 20, 7])) 2) ([2048, 256, 1024, 3072, 129])) 3) 4) 2) 3) ([20, 1, 200]))), ()))))))])) y20301 (dofN (dnext (dnext (dnext (dnext (dofN (dnext (dofN (dnext y50000 3) ([14, 1, 2, 5, 15, 0, 16, 10, 20, 7])) 2) ([2048, 256, 1024, 3072, 129])) 3) 4) 2) 3) ([20, 1, 200]))))
                                (none))
                              (none))
                            (br (cApp y20300 ([((done y50000 3), ((dof (dnext y50000 3) ([14, 1, 2, 5, 15, 0, 16, 10, 20, 7])), ((dof (dnext (dofN (dnext y50000 3) ([14, 1, 2, 5, 15, 0, 16, 10, 20, 7])) 2) ([2048, 256, 1024, 3072, 129])), ((iadd .i64 1 (dval (dnext (dofN (dnext (dofN (dnext y50000 3) ([14, 1, 2, 5, 15, 0, 16, 10, 20, 7])) 2) ([2048, 256, 1024, 3072, 129])) 3) 4)), (0, (40001, ()))))))]) 48)
                              (some (.normal, st_make_Policy_0 (isub .i64 x4 1) y2 (y20300 ++ ([((done y50000 3), ((dof (dnext y50000 3) ([14, 1, 2, 5, 15, 0, 16, 10, 20, 7])), ((dof (dnext (dofN (dnext y50000 3) ([14, 1, 2, 5, 15, 0, 16, 10, 20, 7])) 2) ([2048, 256, 1024, 3072, 129])), ((iadd .i64 1 (dval (dnext (dofN (dnext (dofN (dnext y50000 3) ([14, 1, 2, 5, 15, 0, 16, 10, 20, 7])) 2) ([2048, 256, 1024, 3072, 129])) 3) 4)), (0, (40001, ()))))))])) y20301 (dnext (dnext (dnext (dnext (dofN (dnext (dofN (dnext y50000 3) ([14, 1, 2, 5, 15, 0, 16, 10, 20, 7])) 2) ([2048, 256, 1024, 3072, 129])) 3) 4) 2) 3)))
                              (none)))
                          (none)))
                      (none))
                    (none))
                  (br ((oneOk (dnext (dofN (dnext (dofN (dnext y50000 3) ([14, 1, 2, 5, 15, 0, 16, 10, 20, 7])) 2) ([2048, 256, 1024, 3072, 129])) 3) 2))
                    (br ((done (dnext (dofN (dnext (dofN (dnext y50000 3) ([14, 1, 2, 5, 15, 0, 16, 10, 20, 7])) 2) ([2048, 256, 1024, 3072, 129])) 3) 2))
                      (br ((ofOk (dnext (dnext (dofN (dnext (dofN (dnext y50000 3) ([14, 1, 2, 5, 15, 0, 16, 10, 20, 7])) 2) ([2048, 256, 1024, 3072, 129])) 3) 2) ([10, 30, 100, 7])))
                        (br ((oneOk (dofN (dnext (dnext (dofN (dnext (dofN (dnext y50000 3) ([14, 1, 2, 5, 15, 0, 16, 10, 20, 7])) 2) ([2048, 256, 1024, 3072, 129])) 3) 2) ([10, 30, 100, 7])) 3))
                          (br ((done (dofN (dnext (dnext (dofN (dnext (dofN (dnext y50000 3) ([14, 1, 2, 5, 15, 0, 16, 10, 20, 7])) 2) ([2048, 256, 1024, 3072, 129])) 3) 2) ([10, 30, 100, 7])) 3))
                            (br ((ofOk (dnext (dofN (dnext (dnext (dofN (dnext (dofN (dnext y50000 3) ([14, 1, 2, 5, 15, 0, 16, 10, 20, 7])) 2) ([2048, 256, 1024, 3072, 129])) 3) 2) ([10, 30, 100, 7])) 3) ([20, 1, 200])))
                              (br (cApp y20300 ([((done y50000 3), ((dof (dnext y50000 3) ([14, 1, 2, 5, 15, 0, 16, 10, 20, 7])), ((dof (dnext (dofN (dnext y50000 3) ([14, 1, 2, 5, 15, 0, 16, 10, 20, 7])) 2) ([2048, 256, 1024, 3072, 129])), (0, ((dof (dnext (dnext (dofN (dnext (dofN (dnext y50000 3) ([14, 1, 2, 5, 15, 0, 16, 10, 20, 7])) 2) ([2048, 256, 1024, 3072, 129])) 3) 2) ([10, 30, 100, 7])), ((iadd .i64 (dof (dnext (dnext (dofN (dnext (dofN (dnext y50000 3) ([14, 1, 2, 5, 15, 0, 16, 10, 20, 7])) 2) ([2048, 256, 1024, 3072, 129])) 3) 2) ([10, 30, 100, 7])) (dof (dnext (dofN (dnext (dnext (dofN (dnext (dofN (dnext y50000 3) ([14, 1, 2, 5, 15, 0, 16, 10, 20, 7])) 2) ([2048, 256, 1024, 3072, 129])) 3) 2) ([10, 30, 100, 7])) 3) ([20, 1, 200]))), ()))))))]) 48)
                                (some (.normal, st_make_Policy_0 (isub .i64 x4 1) y2 (y20300 ++ ([((done y50000 3), ((dof (dnext y50000 3) ([14, 1, 2, 5, 15, 0, 16, 10, 20, 7])), ((dof (dnext (dofN (dnext y50000 3) ([14, 1, 2, 5, 15, 0, 16, 10, 20, 7])) 2) ([2048, 256, 1024, 3072, 129])), (0, ((dof (dnext (dnext (dofN (dnext (dofN (dnext y50000 3) ([14, 1, 2, 5, 15, 0, 16, 10, 20, 7])) 2) ([2048, 256, 1024, 3072, 129])) 3) 2) ([10, 30, 100, 7])), ((iadd .i64 (dof (dnext (dnext (dofN (dnext (dofN (dnext y50000 3) ([14, 1, 2, 5, 15, 0, 16, 10, 20, 7])) 2) ([2048, 256, 1024, 3072, 129])) 3) 2) ([10, 30, 100, 7])) (dof (dnext (dofN (dnext (dnext (dofN (dnext (dofN (dnext y50000 3) ([14, 1, 2, 5, 15, 0, 16, 10, 20, 7])) 2) ([2048, 256, 1024, 3072, 129])) 3) 2) ([10, 30, 100, 7])) 3) ([20, 1, 200]))), ()))))))])) y20301 (dofN (dnext (dofN (dnext (dnext (dofN (dnext (dofN (dnext y50000 3) ([14, 1, 2, 5, 15, 0, 16, 10, 20, 7])) 2) ([2048, 256, 1024, 3072, 129])) 3) 2) ([10, 30, 100, 7])) 3) ([20, 1, 200]))))
                                (none))
                              (none))
                            (br (cApp y20300 ([((done y50000 3), ((dof (dnext y50000 3) ([14, 1, 2, 5, 15, 0, 16, 10, 20, 7])), ((dof (dnext (dofN (dnext y50000 3) ([14, 1, 2, 5, 15, 0, 16, 10, 20, 7])) 2) ([2048, 256, 1024, 3072, 129])), (0, ((dof (dnext (dnext (dofN (dnext (dofN (dnext y50000 3) ([14, 1, 2, 5, 15, 0, 16, 10, 20, 7])) 2) ([2048, 256, 1024, 3072, 129])) 3) 2) ([10, 30, 100, 7])), (40001, ()))))))]) 48)
                              (some (.normal, st_make_Policy_0 (isub .i64 x4 1) y2 (y20300 ++ ([((done y50000 3), ((dof (dnext y50000 3) ([14, 1, 2, 5, 15, 0, 16, 10, 20, 7])), ((dof (dnext (dofN (dnext y50000 3) ([14, 1, 2, 5, 15, 0, 16, 10, 20, 7])) 2) ([2048, 256, 1024, 3072, 129])), (0, ((dof (dnext (dnext (dofN (dnext (dofN (dnext y50000 3) ([14, 1, 2, 5, 15, 0, 16, 10, 20, 7])) 2) ([2048, 256, 1024, 3072, 129])) 3) 2) ([10, 30, 100, 7])), (40001, ()))))))])) y20301 (dnext (dofN (dnext (dnext (dofN (dnext (dofN (dnext y50000 3) ([14, 1, 2, 5, 15, 0, 16, 10, 20, 7])) 2) ([2048, 256, 1024, 3072, 129])) 3) 2) ([10, 30, 100, 7])) 3)))
                              (none)))
                          (none))
                        (none))
                      (br ((oneOk (dnext (dnext (dofN (dnext (dofN (dnext y50000 3) ([14, 1, 2, 5, 15, 0, 16, 10, 20, 7])) 2) ([2048, 256, 1024, 3072, 129])) 3) 2) 3))
                        (br ((done (dnext (dnext (dofN (dnext (dofN (dnext y50000 3) ([14, 1, 2, 5, 15, 0, 16, 10, 20, 7])) 2) ([2048, 256, 1024, 3072, 129])) 3) 2) 3))
                          (br ((ofOk (dnext (dnext (dnext (dofN (dnext (dofN (dnext y50000 3) ([14, 1, 2, 5, 15, 0, 16, 10, 20, 7])) 2) ([2048, 256, 1024, 3072, 129])) 3) 2) 3) ([20, 1, 200])))
                            (br (cApp y20300 ([((done y50000 3), ((dof (dnext y50000 3) ([14, 1, 2, 5, 15, 0, 16, 10, 20, 7])), ((dof (dnext (dofN (dnext y50000 3) ([14, 1, 2, 5, 15, 0, 16, 10, 20, 7])) 2) ([2048, 256, 1024, 3072, 129])), (0, (0, ((iadd .i64 0 (dof (dnext (dnext (dnext (dofN (dnext (dofN (dnext y50000 3) ([14, 1, 2, 5, 15, 0, 16, 10, 20, 7])) 2) ([2048, 256, 1024, 3072, 129])) 3) 2) 3) ([20, 1, 200]))), ()))))))]) 48)
                              (some (.normal, st_make_Policy_0 (isub .i64 x4 1) y2 (y20300 ++ ([((done y50000 3), ((dof (dnext y50000 3) ([14, 1, 2, 5, 15, 0, 16, 10, 20, 7])), ((dof (dnext (dofN (dnext y50000 3) ([14, 1, 2, 5, 15, 0, 16, 10, 20, 7])) 2) ([2048, 256, 1024, 3072, 129])), (0, (0, ((iadd .i64 0 (dof (dnext (dnext (dnext (dofN (dnext (dofN (dnext y50000 3) ([14, 1, 2, 5, 15, 0, 16, 10, 20, 7])) 2) ([2048, 256, 1024, 3072, 129])) 3) 2) 3) ([20, 1, 200]))), ()))))))])) y20301 (dofN (dnext (dnext (dnext (dofN (dnext (dofN (dnext y50000 3) ([14, 1, 2, 5, 15, 0, 16, 10, 20, 7])) 2) ([2048, 256, 1024, 3072, 129])) 3) 2) 3) ([20, 1, 200]))))
                              (none))
                            (none))
                          (br (cApp y20300 ([((done y50000 3), ((dof (dnext y50000 3) ([14, 1, 2, 5, 15, 0, 16, 10, 20, 7])), ((dof (dnext (dofN (dnext y50000 3) ([14, 1, 2, 5, 15, 0, 16, 10, 20, 7])) 2) ([2048, 256, 1024, 3072, 129])), (0, (0, (40001, ()))))))]) 48)
                            (some (.normal, st_make_Policy_0 (isub .i64 x4 1) y2 (y20300 ++ ([((done y50000 3), ((dof (dnext y50000 3) ([14, 1, 2, 5, 15, 0, 16, 10, 20, 7])), ((dof (dnext (dofN (dnext y50000 3) ([14, 1, 2, 5, 15, 0, 16, 10, 20, 7])) 2) ([2048, 256, 1024, 3072, 129])), (0, (0, (40001, ()))))))])) y20301 (dnext (dnext (dnext (dofN (dnext (dofN (dnext y50000 3) ([14, 1, 2, 5, 15, 0, 16, 10, 20, 7])) 2) ([2048, 256, 1024, 3072, 129])) 3) 2) 3)))
                            (none)))
                        (none)))
                    (none)))
                (none))
              (none))
            (br ((oneOk (dnext (dofN (dnext y50000 3) ([14, 1, 2, 5, 15, 0, 16, 10, 20, 7])) 2) 3))
              (br ((done (dnext (dofN (dnext y50000 3) ([14, 1, 2, 5, 15, 0, 16, 10, 20, 7])) 2) 3))
                (br ((nextOk (dnext (dnext (dofN (dnext y50000 3) ([14, 1, 2, 5, 15, 0, 16, 10, 20, 7])) 2) 3) 4))
                  (br ((oneOk (dnext (dnext (dnext (dofN (dnext y50000 3) ([14, 1, 2, 5, 15, 0, 16, 10, 20, 7])) 2) 3) 4) 2))
                    (br ((done (dnext (dnext (dnext (dofN (dnext y50000 3) ([14, 1, 2, 5, 15, 0, 16, 10, 20, 7])) 2) 3) 4) 2))
                      (br ((ofOk (dnext (dnext (dnext (dnext (dofN (dnext y50000 3) ([14, 1, 2, 5, 15, 0, 16, 10, 20, 7])) 2) 3) 4) 2) ([10, 30, 100, 7])))
                        (br ((oneOk (dofN (dnext (dnext (dnext (dnext (dofN (dnext y50000 3) ([14, 1, 2, 5, 15, 0, 16, 10, 20, 7])) 2) 3) 4) 2) ([10, 30, 100, 7])) 3))
                          (br ((done (dofN (dnext (dnext (dnext (dnext (dofN (dnext y50000 3) ([14, 1, 2, 5, 15, 0, 16, 10, 20, 7])) 2) 3) 4) 2) ([10, 30, 100, 7])) 3))
                            (br ((ofOk (dnext (dofN (dnext (dnext (dnext (dnext (dofN (dnext y50000 3) ([14, 1, 2, 5, 15, 0, 16, 10, 20, 7])) 2) 3) 4) 2) ([10, 30, 100, 7])) 3) ([20, 1, 200])))
                              (br (cApp y20300 ([((done y50000 3), ((dof (dnext y50000 3) ([14, 1, 2, 5, 15, 0, 16, 10, 20, 7])), (0, ((iadd .i64 1 (dval (dnext (dnext (dofN (dnext y50000 3) ([14, 1, 2, 5, 15, 0, 16, 10, 20, 7])) 2) 3) 4)), ((dof (dnext (dnext (dnext (dnext (dofN (dnext y50000 3) ([14, 1, 2, 5, 15, 0, 16, 10, 20, 7])) 2) 3) 4) 2) ([10, 30, 100, 7])), ((iadd .i64 (dof (dnext (dnext (dnext (dnext (dofN (dnext y50000 3) ([14, 1, 2, 5, 15, 0, 16, 10, 20, 7])) 2) 3) 4) 2) ([10, 30, 100, 7])) (dof (dnext (dofN (dnext (dnext (dnext (dnext (dofN (dnext y50000 3) ([14, 1, 2, 5, 15, 0, 16, 10, 20, 7])) 2) 3) 4) 2) ([10, 30, 100, 7])) 3) ([20, 1, 200]))), ()))))))]) 48)
                                (some (.normal, st_make_Policy_0 (isub .i64 x4 1) y2 (y20300 ++ ([((done y50000 3), ((dof (dnext y50000 3) ([14, 1, 2, 5, 15, 0, 16, 10, 20, 7])), (0, ((iadd .i64 1 (dval (dnext (dnext (dofN (dnext y50000 3) ([14, 1, 2, 5, 15, 0, 16, 10, 20, 7])) 2) 3) 4)), ((dof (dnext (dnext (dnext (dnext (dofN (dnext y50000 3) ([14, 1, 2, 5, 15, 0, 16, 10, 20, 7])) 2) 3) 4) 2) ([10, 30, 100, 7])), ((iadd .i64 (dof (dnext (dnext (dnext (dnext (dofN (dnext y50000 3) ([14, 1, 2, 5, 15, 0, 16, 10, 20, 7])) 2) 3) 4) 2) ([10, 30, 100, 7])) (dof (dnext (dofN (dnext (dnext (dnext (dnext (dofN (dnext y50000 3) ([14, 1, 2, 5, 15, 0, 16, 10, 20, 7])) 2) 3) 4) 2) ([10, 30, 100, 7])) 3) ([20, 1, 200]))), ()))))))])) y20301 (dofN (dnext (dofN (dnext (dnext (dnext (dnext (dofN (dnext y50000 3) ([14, 1, 2, 5, 15, 0, 16, 10, 20, 7])) 2) 3) 4) 2) ([10, 30, 100, 7])) 3) ([20, 1, 200]))))
                                (none))
                              (none))
                            (br (cApp y20300 ([((done y50000 3), ((dof (dnext y50000 3) ([14, 1, 2, 5, 15, 0, 16, 10, 20, 7])), (0, ((iadd .i64 1 (dval (dnext (dnext (dofN (dnext y50000 3) ([14, 1, 2, 5, 15, 0, 16, 10, 20, 7])) 2) 3) 4)), ((dof (dnext (dnext (dnext (dnext (dofN (dnext y50000 3) ([14, 1, 2, 5, 15, 0, 16, 10, 20, 7])) 2) 3) 4) 2) ([10, 30, 100, 7])), (40001, ()))))))]) 48)
                              (some (.normal, st_make_Policy_0 (isub .i64 x4 1) y2 (y20300 ++ ([((done y50000 3), ((dof (dnext y50000 3) ([14, 1, 2, 5, 15, 0, 16, 10, 20, 7])), (0, ((iadd .i64 1 (dval (dnext (dnext (dofN (dnext y50000 3) ([14, 1, 2, 5, 15, 0, 16, 10, 20, 7])) 2) 3) 4)), ((dof (dnext (dnext (dnext (dnext (dofN (dnext y50000 3) ([14, 1, 2, 5, 15, 0, 16, 10, 20, 7])) 2) 3) 4) 2) ([10, 30, 100, 7])), (40001, ()))))))])) y20301 (dnext (dofN (dnext (dnext (dnext (dnext (dofN (dnext y50000 3) ([14, 1, 2, 5, 15, 0, 16, 10, 20, 7])) 2) 3) 4) 2) ([10, 30, 100, 7])) 3)))
                              (none)))
                          (none))
                        (none))
                      (br ((oneOk (dnext (dnext (dnext (dnext (dofN (dnext y50000 3) ([14, 1, 2, 5, 15, 0, 16, 10, 20, 7])) 2) 3) 4) 2) 3))
                        (br ((done (dnext (dnext (dnext (dnext (dofN (dnext y50000 3) ([14, 1, 2, 5, 15, 0, 16, 10, 20, 7])) 2) 3) 4) 2) 3))
                          (br ((ofOk (dnext (dnext (dnext (dnext (dnext (dofN (dnext y50000 3) ([14, 1, 2, 5, 15, 0, 16, 10, 20, 7])) 2) 3) 4) 2) 3) ([20, 1, 200])))
                            (br (cApp y20300 ([((done y50000 3), ((dof (dnext y50000 3) ([14, 1, 2, 5, 15, 0, 16, 10, 20, 7])), (0, ((iadd .i64 1 (dval (dnext (dnext (dofN (dnext y50000 3) ([14, 1, 2, 5, 15, 0, 16, 10, 20, 7])) 2) 3) 4)), (0, ((iadd .i64 0 (dof (dnext (dnext (dnext (dnext (dnext (dofN (dnext y50000 3) ([14, 1, 2, 5, 15, 0, 16, 10, 20, 7])) 2) 3) 4) 2) 3) ([20, 1, 200]))), ()))))))]) 48)
                              (some (.normal, st_make_Policy_0 (isub .i64 x4 1) y2 (y20300 ++ ([((done y50000 3), ((dof (dnext y50000 3) ([14, 1, 2, 5, 15, 0, 16, 10, 20, 7])), (0, ((iadd .i64 1 (dval (dnext (dnext (dofN (dnext y50000 3) ([14, 1, 2, 5, 15, 0, 16, 10, 20, 7])) 2) 3) 4)), (0, ((iadd .i64 0 (dof (dnext (dnext (dnext (dnext (dnext (dofN (dnext y50000 3) ([14, 1, 2, 5, 15, 0, 16, 10, 20, 7])) 2) 3) 4) 2) 3) ([20, 1, 200]))), ()))))))])) y20301 (dofN (dnext (dnext (dnext (dnext (dnext (dofN (dnext y50000 3) ([14, 1, 2, 5, 15, 0, 16, 10, 20, 7])) 2) 3) 4) 2) 3) ([20, 1, 200]))))
                              (none))
                            (none))
                          (br (cApp y20300 ([((done y50000 3), ((dof (dnext y50000 3) ([14, 1, 2, 5, 15, 0, 16, 10, 20, 7])), (0, ((iadd .i64 1 (dval (dnext (dnext (dofN (dnext y50000 3) ([14, 1, 2, 5, 15, 0, 16, 10, 20, 7])) 2) 3) 4)), (0, (40001, ()))))))]) 48)
                            (some (.normal, st_make_Policy_0 (isub .i64 x4 1) y2 (y20300 ++ ([((done y50000 3), ((dof (dnext y50000 3) ([14, 1, 2, 5, 15, 0, 16, 10, 20, 7])), (0, ((iadd .i64 1 (dval (dnext (dnext (dofN (dnext y50000 3) ([14, 1, 2, 5, 15, 0, 16, 10, 20, 7])) 2) 3) 4)), (0, (40001, ()))))))])) y20301 (dnext (dnext (dnext (dnext (dnext (dofN (dnext y50000 3) ([14, 1, 2, 5, 15, 0, 16, 10, 20, 7])) 2) 3) 4) 2) 3)))
                            (none)))
                        (none)))
                    (none))
                  (none))
                (br ((oneOk (dnext (dnext (dofN (dnext y50000 3) ([14, 1, 2, 5, 15, 0, 16, 10, 20, 7])) 2) 3) 2))
                  (br ((done (dnext (dnext (dofN (dnext y50000 3) ([14, 1, 2, 5, 15, 0, 16, 10, 20, 7])) 2) 3) 2))
                    (br ((ofOk (dnext (dnext (dnext (dofN (dnext y50000 3) ([14, 1, 2, 5, 15, 0, 16, 10, 20, 7])) 2) 3) 2) ([10, 30, 100, 7])))
                      (br ((oneOk (dofN (dnext (dnext (dnext (dofN (dnext y50000 3) ([14, 1, 2, 5, 15, 0, 16, 10, 20, 7])) 2) 3) 2) ([10, 30, 100, 7])) 3))
                        (br ((done (dofN (dnext (dnext (dnext (dofN (dnext y50000 3) ([14, 1, 2, 5, 15, 0, 16, 10, 20, 7])) 2) 3) 2) ([10, 30, 100, 7])) 3))
                          (br ((ofOk (dnext (dofN (dnext (dnext (dnext (dofN (dnext y50000 3) ([14, 1, 2, 5, 15, 0, 16, 10, 20, 7])) 2) 3) 2) ([10, 30, 100, 7])) 3) ([20, 1, 200])))
                            (br (cApp y20300 ([((done y50000 3), ((dof (dnext y50000 3) ([14, 1, 2, 5, 15, 0, 16, 10, 20, 7])), (0, (0, ((dof (dnext (dnext (dnext (dofN (dnext y50000 3) ([14, 1, 2, 5, 15, 0, 16, 10, 20, 7])) 2) 3) 2) ([10, 30, 100, 7])), ((iadd .i64 (dof (dnext (dnext (dnext (dofN (dnext y50000 3) ([14, 1, 2, 5, 15, 0, 16, 10, 20, 7])) 2) 3) 2) ([10, 30, 100, 7])) (dof (dnext (dofN (dnext (dnext (dnext (dofN (dnext y50000 3) ([14, 1, 2, 5, 15, 0, 16, 10, 20, 7])) 2) 3) 2) ([10, 30, 100, 7])) 3) ([20, 1, 200]))), ()))))))]) 48)
                              (some (.normal, st_make_Policy_0 (isub .i64 x4 1) y2 (y20300 ++ ([((done y50000 3), ((dof (dnext y50000 3) ([14, 1, 2, 5, 15, 0, 16, 10, 20, 7])), (0, (0, ((dof (dnext (dnext (dnext (dofN (dnext y50000 3) ([14, 1, 2, 5, 15, 0, 16, 10, 20, 7])) 2) 3) 2) ([10, 30, 100, 7])), ((iadd .i64 (dof (dnext (dnext (dnext (dofN (dnext y50000 3) ([14, 1, 2, 5, 15, 0, 16, 10, 20, 7])) 2) 3) 2) ([10, 30, 100, 7])) (dof (dnext (dofN (dnext (dnext (dnext (dofN (dnext y50000 3) ([14, 1, 2, 5, 15, 0, 16, 10, 20, 7])) 2) 3) 2) ([10, 30, 100, 7])) 3) ([20, 1, 200]))), ()))))))])) y20301 (dofN (dnext (dofN (dnext (dnext (dnext (dofN (dnext y50000 3) ([14, 1, 2, 5, 15, 0, 16, 10, 20, 7])) 2) 3) 2) ([10, 30, 100, 7])) 3) ([20, 1, 200]))))
                              (none))
                            (none))
                          (br (cApp y20300 ([((done y50000 3), ((dof (dnext y50000 3) ([14, 1, 2, 5, 15, 0, 16, 10, 20, 7])), (0, (0, ((dof (dnext (dnext (dnext (dofN (dnext y50000 3) ([14, 1, 2, 5, 15, 0, 16, 10, 20, 7])) 2) 3) 2) ([10, 30, 100, 7])), (40001, ()))))))]) 48)
                            (some (.normal, st_make_Policy_0 (isub .i64 x4 1) y2 (y20300 ++ ([((done y50000 3), ((dof (dnext y50000 3) ([14, 1, 2, 5, 15, 0, 16, 10, 20, 7])), (0, (0, ((dof (dnext (dnext (dnext (dofN (dnext y50000 3) ([14, 1, 2, 5, 15, 0, 16, 10, 20, 7])) 2) 3) 2) ([10, 30, 100, 7])), (40001, ()))))))])) y20301 (dnext (dofN (dnext (dnext (dnext (dofN (dnext y50000 3) ([14, 1, 2, 5, 15, 0, 16, 10, 20, 7])) 2) 3) 2) ([10, 30, 100, 7])) 3)))
                            (none)))
                        (none))
                      (none))
                    (br ((oneOk (dnext (dnext (dnext (dofN (dnext y50000 3) ([14, 1, 2, 5, 15, 0, 16, 10, 20, 7])) 2) 3) 2) 3))
                      (br ((done (dnext (dnext (dnext (dofN (dnext y50000 3) ([14, 1, 2, 5, 15, 0, 16, 10, 20, 7])) 2) 3) 2) 3))
                        (br ((ofOk (dnext (dnext (dnext (dnext (dofN (dnext y50000 3) ([14, 1, 2, 5, 15, 0, 16, 10, 20, 7])) 2) 3) 2) 3) ([20, 1, 200])))
                          (br (cApp y20300 ([((done y50000 3), ((dof (dnext y50000 3) ([14, 1, 2, 5, 15, 0, 16, 10, 20, 7])), (0, (0, (0, ((iadd .i64 0 (dof (dnext (dnext (dnext (dnext (dofN (dnext y50000 3) ([14, 1, 2, 5, 15, 0, 16, 10, 20, 7])) 2) 3) 2) 3) ([20, 1, 200]))), ()))))))]) 48)
                            (some (.normal, st_make_Policy_0 (isub .i64 x4 1) y2 (y20300 ++ ([((done y50000 3), ((dof (dnext y50000 3) ([14, 1, 2, 5, 15, 0, 16, 10, 20, 7])), (0, (0, (0, ((iadd .i64 0 (dof (dnext (dnext (dnext (dnext (dofN (dnext y50000 3) ([14, 1, 2, 5, 15, 0, 16, 10, 20, 7])) 2) 3) 2) 3) ([20, 1, 200]))), ()))))))])) y20301 (dofN (dnext (dnext (dnext (dnext (dofN (dnext y50000 3) ([14, 1, 2, 5, 15, 0, 16, 10, 20, 7])) 2) 3) 2) 3) ([20, 1, 200]))))
                            (none))
                          (none))
                        (br (cApp y20300 ([((done y50000 3), ((dof (dnext y50000 3) ([14, 1, 2, 5, 15, 0, 16, 10, 20, 7])), (0, (0, (0, (40001, ()))))))]) 48)
                          (some (.normal, st_make_Policy_0 (isub .i64 x4 1) y2 (y20300 ++ ([((done y50000 3), ((dof (dnext y50000 3) ([14, 1, 2, 5, 15, 0, 16, 10, 20, 7])), (0, (0, (0, (40001, ()))))))])) y20301 (dnext (dnext (dnext (dnext (dofN (dnext y50000 3) ([14, 1, 2, 5, 15, 0, 16, 10, 20, 7])) 2) 3) 2) 3)))
                          (none)))
                      (none)))
                  (none)))
              (none)))
          (none))
        (none))
      (none))
    (some (.exit 0, st_make_Policy_0_e0 y2 y20300 y20301 y50000))
noncomputable def lp_make_Policy_0 (x4 : Int) (y2 : Policy) (y20300 : (List Rule)) (y20301 : (List Keep)) (y50000 : Dice) : Option (Exit × VS) := loopF (roundF g_make_Policy fg_make_Policy_0 tb_make_Policy_0) (st_make_Policy_0 x4 y2 y20300 y20301 y50000)
noncomputable def n_make_Policy_0 (x4 : Int) (y2 : Policy) (y20300 : (List Rule)) (y20301 : (List Keep)) (y50000 : Dice) : Option (Exit × VS) :=
  br ((igt x4 0))
    (br ((oneOk y50000 3))
      (br ((ofOk (dnext y50000 3) ([14, 1, 2, 5, 15, 0, 16, 10, 20, 7])))
        (br ((oneOk (dofN (dnext y50000 3) ([14, 1, 2, 5, 15, 0, 16, 10, 20, 7])) 2))
          (br ((done (dofN (dnext y50000 3) ([14, 1, 2, 5, 15, 0, 16, 10, 20, 7])) 2))
            (br ((ofOk (dnext (dofN (dnext y50000 3) ([14, 1, 2, 5, 15, 0, 16, 10, 20, 7])) 2) ([2048, 256, 1024, 3072, 129])))
              (br ((oneOk (dofN (dnext (dofN (dnext y50000 3) ([14, 1, 2, 5, 15, 0, 16, 10, 20, 7])) 2) ([2048, 256, 1024, 3072, 129])) 3))
                (br ((done (dofN (dnext (dofN (dnext y50000 3) ([14, 1, 2, 5, 15, 0, 16, 10, 20, 7])) 2) ([2048, 256, 1024, 3072, 129])) 3))
                  (br ((nextOk (dnext (dofN (dnext (dofN (dnext y50000 3) ([14, 1, 2, 5, 15, 0, 16, 10, 20, 7])) 2) ([2048, 256, 1024, 3072, 129])) 3) 4))
                    (br ((oneOk (dnext (dnext (dofN (dnext (dofN (dnext y50000 3) ([14, 1, 2, 5, 15, 0, 16, 10, 20, 7])) 2) ([2048, 256, 1024, 3072, 129])) 3) 4) 2))
                      (br ((done (dnext (dnext (dofN (dnext (dofN (dnext y50000 3) ([14, 1, 2, 5, 15, 0, 16, 10, 20, 7])) 2) ([2048, 256, 1024, 3072, 129])) 3) 4) 2))
                        (br ((ofOk (dnext (dnext (dnext (dofN (dnext (dofN (dnext y50000 3) ([14, 1, 2, 5, 15, 0, 16, 10, 20, 7])) 2) ([2048, 256, 1024, 3072, 129])) 3) 4) 2) ([10, 30, 100, 7])))
                          (br ((oneOk (dofN (dnext (dnext (dnext (dofN (dnext (dofN (dnext y50000 3) ([14, 1, 2, 5, 15, 0, 16, 10, 20, 7])) 2) ([2048, 256, 1024, 3072, 129])) 3) 4) 2) ([10, 30, 100, 7])) 3))
                            (br ((done (dofN (dnext (dnext (dnext (dofN (dnext (dofN (dnext y50000 3) ([14, 1, 2, 5, 15, 0, 16, 10, 20, 7])) 2) ([2048, 256, 1024, 3072, 129])) 3) 4) 2) ([10, 30, 100, 7])) 3))
                              (br ((ofOk (dnext (dofN (dnext (dnext (dnext (dofN (dnext (dofN (dnext y50000 3) ([14, 1, 2, 5, 15, 0, 16, 10, 20, 7])) 2) ([2048, 256, 1024, 3072, 129])) 3) 4) 2) ([10, 30, 100, 7])) 3) ([20, 1, 200])))
                                (br (cApp y20300 ([((done y50000 3), ((dof (dnext y50000 3) ([14, 1, 2, 5, 15, 0, 16, 10, 20, 7])), ((dof (dnext (dofN (dnext y50000 3) ([14, 1, 2, 5, 15, 0, 16, 10, 20, 7])) 2) ([2048, 256, 1024, 3072, 129])), ((iadd .i64 1 (dval (dnext (dofN (dnext (dofN (dnext y50000 3) ([14, 1, 2, 5, 15, 0, 16, 10, 20, 7])) 2) ([2048, 256, 1024, 3072, 129])) 3) 4)), ((dof (dnext (dnext (dnext (dofN (dnext (dofN (dnext y50000 3) ([14, 1, 2, 5, 15, 0, 16, 10, 20, 7])) 2) ([2048, 256, 1024, 3072, 129])) 3) 4) 2) ([10, 30, 100, 7])), ((iadd .i64 (dof (dnext (dnext (dnext (dofN (dnext (dofN (dnext y50000 3) ([14, 1, 2, 5, 15, 0, 16, 10, 20, 7])) 2) ([2048, 256, 1024, 3072, 129])) 3) 4) 2) ([10, 30, 100, 7])) (dof (dnext (dofN (dnext (dnext (dnext (dofN (dnext (dofN (dnext y50000 3) ([14, 1, 2, 5, 15, 0, 16, 10, 20, 7])) 2) ([2048, 256, 1024, 3072, 129])) 3) 4) 2) ([10, 30, 100, 7])) 3) ([20, 1, 200]))), ()))))))]) 48)
                                  (lp_make_Policy_0 (isub .i64 x4 1) y2 (y20300 ++ ([((done y50000 3), ((dof (dnext y50000 3) ([14, 1, 2, 5, 15, 0, 16, 10, 20, 7])), ((dof (dnext (dofN (dnext y50000 3) ([14, 1, 2, 5, 15, 0, 16, 10, 20, 7])) 2) ([2048, 256, 1024, 3072, 129])), ((iadd .i64 1 (dval (dnext (dofN (dnext (dofN (dnext y50000 3) ([14, 1, 2, 5, 15, 0, 16, 10, 20, 7])) 2) ([2048, 256, 1024, 3072, 129])) 3) 4)), ((dof (dnext (dnext (dnext (dofN (dnext (dofN (dnext y50000 3) ([14, 1, 2, 5, 15, 0, 16, 10, 20, 7])) 2) ([2048, 256, 1024, 3072, 129])) 3) 4) 2) ([10, 30, 100, 7])), ((iadd .i64 (dof (dnext (dnext (dnext (dofN (dnext (dofN (dnext y50000 3) ([14, 1, 2, 5, 15, 0, 16, 10, 20, 7])) 2) ([2048, 256, 1024, 3072, 129])) 3) 4) 2) ([10, 30, 100, 7])) (dof (dnext (dofN (dnext (dnext (dnext (dofN (dnext (dofN (dnext y50000 3) ([14, 1, 2, 5, 15, 0, 16, 10, 20, 7])) 2) ([2048, 256, 1024, 3072, 129])) 3) 4) 2) ([10, 30, 100, 7])) 3) ([20, 1, 200]))), ()))))))])) y20301 (dofN (dnext (dofN (dnext (dnext (dnext (dofN (dnext (dofN (dnext y50000 3) ([14, 1, 2, 5, 15, 0, 16, 10, 20, 7])) 2) ([2048, 256, 1024, 3072, 129])) 3) 4) 2) ([10, 30, 100, 7])) 3) ([20, 1, 200])))
                                  (none))
                                (none))
                              (br (cApp y20300 ([((done y50000 3), ((dof (dnext y50000 3) ([14, 1, 2, 5, 15, 0, 16, 10, 20, 7])), ((dof (dnext (dofN (dnext y50000 3) ([14, 1, 2, 5, 15, 0, 16, 10, 20, 7])) 2) ([2048, 256, 1024, 3072, 129])), ((iadd .i64 1 (dval (dnext (dofN (dnext (dofN (dnext y50000 3) ([14, 1, 2, 5, 15, 0, 16, 10, 20, 7])) 2) ([2048, 256, 1024, 3072, 129])) 3) 4)), ((dof (dnext (dnext (dnext (dofN (dnext (dofN (dnext y50000 3) ([14, 1, 2, 5, 15, 0, 16, 10, 20, 7])) 2) ([2048, 256, 1024, 3072, 129])) 3) 4) 2) ([10, 30, 100, 7])), (40001, ()))))))]) 48)
                                (lp_make_Policy_0 (isub .i64 x4 1) y2 (y20300 ++ ([((done y50000 3), ((dof (dnext y50000 3) ([14, 1, 2, 5, 15, 0, 16, 10, 20, 7])), ((dof (dnext (dofN (dnext y50000 3) ([14, 1, 2, 5, 15, 0, 16, 10, 20, 7])) 2) ([2048, 256, 1024, 3072, 129])), ((iadd .i64 1 (dval (dnext (dofN (dnext (dofN (dnext y50000 3) ([14, 1, 2, 5, 15, 0, 16, 10, 20, 7])) 2) ([2048, 256, 1024, 3072, 129])) 3) 4)), ((dof (dnext (dnext (dnext (dofN (dnext (dofN (dnext y50000 3) ([14, 1, 2, 5, 15, 0, 16, 10, 20, 7])) 2) ([2048, 256, 1024, 3072, 129])) 3) 4) 2) ([10, 30, 100, 7])), (40001, ()))))))])) y20301 (dnext (dofN (dnext (dnext (dnext (dofN (dnext (dofN (dnext y50000 3) ([14, 1, 2, 5, 15, 0, 16, 10, 20, 7])) 2) ([2048, 256, 1024, 3072, 129])) 3) 4) 2) ([10, 30, 100, 7])) 3))
                                (none)))
                            (none))
                          (none))
                        (br ((oneOk (dnext (dnext (dnext (dofN (dnext (dofN (dnext y50000 3) ([14, 1, 2, 5, 15, 0, 16, 10, 20, 7])) 2) ([2048, 256, 1024, 3072, 129])) 3) 4) 2) 3))
                          (br ((done (dnext (dnext (dnext (dofN (dnext (dofN (dnext y50000 3) ([14, 1, 2, 5, 15, 0, 16, 10, 20, 7])) 2) ([2048, 256, 1024, 3072, 129])) 3) 4) 2) 3))
                            (br ((ofOk (dnext (dnext (dnext (dnext (dofN (dnext (dofN (dnext y50000 3) ([14, 1, 2, 5, 15, 0, 16, 10, 20, 7])) 2) ([2048, 256, 1024, 3072, 129])) 3) 4) 2) 3) ([20, 1, 200])))
                              (br (cApp y20300 ([((done y50000 3), ((dof (dnext y50000 3) ([14, 1, 2, 5, 15, 0, 16, 10, 20, 7])), ((dof (dnext (dofN (dnext y50000 3) ([14, 1, 2, 5, 15, 0, 16, 10, 20, 7])) 2) ([2048, 256, 1024, 3072, 129])), ((iadd .i64 1 (dval (dnext (dofN (dnext (dofN (dnext y50000 3) ([14, 1, 2, 5, 15, 0, 16, 10, 20, 7])) 2) ([2048, 256, 1024, 3072, 129])) 3) 4)), (0, ((iadd .i64 0 (dof (dnext (dnext (dnext (dnext (dofN (dnext (dofN (dnext y50000 3) ([14, 1, 2, 5, 15, 0, 16, 10, 20, 7])) 2) ([2048, 256, 1024, 3072, 129])) 3) 4) 2) 3) ([20, 1, 200]))), ()))))))]) 48)
                                (lp_make_Policy_0 (isub .i64 x4 1) y2 (y20300 ++ ([((done y50000 3), ((dof (dnext y50000 3) ([14, 1, 2, 5, 15, 0, 16, 10, 20, 7])), ((dof (dnext (dofN (dnext y50000 3) ([14, 1, 2, 5, 15, 0, 16, 10, 20, 7])) 2) ([2048, 256, 1024, 3072, 129])), ((iadd .i64 1 (dval (dnext (dofN (dnext (dofN (dnext y50000 3) ([14, 1, 2, 5, 15, 0, 16, 10, 20, 7])) 2) ([2048, 256, 1024, 3072, 129])) 3) 4)), (0, ((iadd .i64 0 (dof (dnext (dnext (dnext (dnext (dofN (dnext (dofN (dnext y50000 3) ([14, 1, 2, 5, 15, 0, 16, 10, 20, 7])) 2) ([2048, 256, 1024, 3072, 129])) 3) 4) 2) 3) ([20, 1, 200]))), ()))))))])) y20301 (dofN (dnext (dnext (dnext (dnext (dofN (dnext (dofN (dnext y50000 3) ([14, 1, 2, 5, 15, 0, 16, 10, 20, 7])) 2) ([2048, 256, 1024, 3072, 129])) 3) 4) 2) 3) ([20, 1, 200])))
                                (none))
                              (none))
                            (br (cApp y20300 ([((done y50000 3), ((dof (dnext y50000 3) ([14, 1, 2, 5, 15, 0, 16, 10, 20, 7])), ((dof (dnext (dofN (dnext y50000 3) ([14, 1, 2, 5, 15, 0, 16, 10, 20, 7])) 2) ([2048, 256, 1024, 3072, 129])), ((iadd .i64 1 (dval (dnext (dofN (dnext (dofN (dnext y50000 3) ([14, 1, 2, 5, 15, 0, 16, 10, 20, 7])) 2) ([2048, 256, 1024, 3072, 129])) 3) 4)), (0, (40001, ()))))))]) 48)
                              (lp_make_Policy_0 (isub .i64 x4 1) y2 (y20300 ++ ([((done y50000 3), ((dof (dnext y50000 3) ([14, 1, 2, 5, 15, 0, 16, 10, 20, 7])), ((dof (dnext (dofN (dnext y50000 3) ([14, 1, 2, 5, 15, 0, 16, 10, 20, 7])) 2) ([2048, 256, 1024, 3072, 129])), ((iadd .i64 1 (dval (dnext (dofN (dnext (dofN (dnext y50000 3) ([14, 1, 2, 5, 15, 0, 16, 10, 20, 7])) 2) ([2048, 256, 1024, 3072, 129])) 3) 4)), (0, (40001, ()))))))])) y20301 (dnext (dnext (dnext (dnext (dofN (dnext (dofN (dnext y50000 3) ([14, 1, 2, 5, 15, 0, 16, 10, 20, 7])) 2) ([2048, 256, 1024, 3072, 129])) 3) 4) 2) 3))
                              (none)))
                          (none)))
                      (none))
                    (none))
                  (br ((oneOk (dnext (dofN (dnext (dofN (dnext y50000 3) ([14, 1, 2, 5, 15, 0, 16, 10, 20, 7])) 2) ([2048, 256, 1024, 3072, 129])) 3) 2))
                    (br ((done (dnext (dofN (dnext (dofN (dnext y50000 3) ([14, 1, 2, 5, 15, 0, 16, 10, 20, 7])) 2) ([2048, 256, 1024, 3072, 129])) 3) 2))
                      (br ((ofOk (dnext (dnext (dofN (dnext (dofN (dnext y50000 3) ([14, 1, 2, 5, 15, 0, 16, 10, 20, 7])) 2) ([2048, 256, 1024, 3072, 129])) 3) 2) ([10, 30, 100, 7])))
                        (br ((oneOk (dofN (dnext (dnext (dofN (dnext (dofN (dnext y50000 3) ([14, 1, 2, 5, 15, 0, 16, 10, 20, 7])) 2) ([2048, 256, 1024, 3072, 129])) 3) 2) ([10, 30, 100, 7])) 3))
                          (br ((done (dofN (dnext (dnext (dofN (dnext (dofN (dnext y50000 3) ([14, 1, 2, 5, 15, 0, 16, 10, 20, 7])) 2) ([2048, 256, 1024, 3072, 129])) 3) 2) ([10, 30, 100, 7])) 3))
                            (br ((ofOk (dnext (dofN (dnext (dnext (dofN (dnext (dofN (dnext y50000 3) ([14, 1, 2, 5, 15, 0, 16, 10, 20, 7])) 2) ([2048, 256, 1024, 3072, 129])) 3) 2) ([10, 30, 100, 7])) 3) ([20, 1, 200])))
                              (br (cApp y20300 ([((done y50000 3), ((dof (dnext y50000 3) ([14, 1, 2, 5, 15, 0, 16, 10, 20, 7])), ((dof (dnext (dofN (dnext y50000 3) ([14, 1, 2, 5, 15, 0, 16, 10, 20, 7])) 2) ([2048, 256, 1024, 3072, 129])), (0, ((dof (dnext (dnext (dofN (dnext (dofN (dnext y50000 3) ([14, 1, 2, 5, 15, 0, 16, 10, 20, 7])) 2) ([2048, 256, 1024, 3072, 129])) 3) 2) ([10, 30, 100, 7])), ((iadd .i64 (dof (dnext (dnext (dofN (dnext (dofN (dnext y50000 3) ([14, 1, 2, 5, 15, 0, 16, 10, 20, 7])) 2) ([2048, 256, 1024, 3072, 129])) 3) 2) ([10, 30, 100, 7])) (dof (dnext (dofN (dnext (dnext (dofN (dnext (dofN (dnext y50000 3) ([14, 1, 2, 5, 15, 0, 16, 10, 20, 7])) 2) ([2048, 256, 1024, 3072, 129])) 3) 2) ([10, 30, 100, 7])) 3) ([20, 1, 200]))), ()))))))]) 48)
                                (lp_make_Policy_0 (isub .i64 x4 1) y2 (y20300 ++ ([((done y50000 3), ((dof (dnext y50000 3) ([14, 1, 2, 5, 15, 0, 16, 10, 20, 7])), ((dof (dnext (dofN (dnext y50000 3) ([14, 1, 2, 5, 15, 0, 16, 10, 20, 7])) 2) ([2048, 256, 1024, 3072, 129])), (0, ((dof (dnext (dnext (dofN (dnext (dofN (dnext y50000 3) ([14, 1, 2, 5, 15, 0, 16, 10, 20, 7])) 2) ([2048, 256, 1024, 3072, 129])) 3) 2) ([10, 30, 100, 7])), ((iadd .i64 (dof (dnext (dnext (dofN (dnext (dofN (dnext y50000 3) ([14, 1, 2, 5, 15, 0, 16, 10, 20, 7])) 2) ([2048, 256, 1024, 3072, 129])) 3) 2) ([10, 30, 100, 7])) (dof (dnext (dofN (dnext (dnext (dofN (dnext (dofN (dnext y50000 3) ([14, 1, 2, 5, 15, 0, 16, 10, 20, 7])) 2) ([2048, 256, 1024, 3072, 129])) 3) 2) ([10, 30, 100, 7])) 3) ([20, 1, 200]))), ()))))))])) y20301 (dofN (dnext (dofN (dnext (dnext (dofN (dnext (dofN (dnext y50000 3) ([14, 1, 2, 5, 15, 0, 16, 10, 20, 7])) 2) ([2048, 256, 1024, 3072, 129])) 3) 2) ([10, 30, 100, 7])) 3) ([20, 1, 200])))
                                (none))
                              (none))
                            (br (cApp y20300 ([((done y50000 3), ((dof (dnext y50000 3) ([14, 1, 2, 5, 15, 0, 16, 10, 20, 7])), ((dof (dnext (dofN (dnext y50000 3) ([14, 1, 2, 5, 15, 0, 16, 10, 20, 7])) 2) ([2048, 256, 1024, 3072, 129])), (0, ((dof (dnext (dnext (dofN (dnext (dofN (dnext y50000 3) ([14, 1, 2, 5, 15, 0, 16, 10, 20, 7])) 2) ([2048, 256, 1024, 3072, 129])) 3) 2) ([10, 30, 100, 7])), (40001, ()))))))]) 48)
                              (lp_make_Policy_0 (isub .i64 x4 1) y2 (y20300 ++ ([((done y50000 3), ((dof (dnext y50000 3) ([14, 1, 2, 5, 15, 0, 16, 10, 20, 7])), ((dof (dnext (dofN (dnext y50000 3) ([14, 1, 2, 5, 15, 0, 16, 10, 20, 7])) 2) ([2048, 256, 1024, 3072, 129])), (0, ((dof (dnext (dnext (dofN (dnext (dofN (dnext y50000 3) ([14, 1, 2, 5, 15, 0, 16, 10, 20, 7])) 2) ([2048, 256, 1024, 3072, 129])) 3) 2) ([10, 30, 100, 7])), (40001, ()))))))])) y20301 (dnext (dofN (dnext (dnext (dofN (dnext (dofN (dnext y50000 3) ([14, 1, 2, 5, 15, 0, 16, 10, 20, 7])) 2) ([2048, 256, 1024, 3072, 129])) 3) 2) ([10, 30, 100, 7])) 3))
                              (none)))
                          (none))
                        (none))
                      (br ((oneOk (dnext (dnext (dofN (dnext (dofN (dnext y50000 3) ([14, 1, 2, 5, 15, 0, 16, 10, 20, 7])) 2) ([2048, 256, 1024, 3072, 129])) 3) 2) 3))
                        (br ((done (dnext (dnext (dofN (dnext (dofN (dnext y50000 3) ([14, 1, 2, 5, 15, 0, 16, 10, 20, 7])) 2) ([2048, 256, 1024, 3072, 129])) 3) 2) 3))
                          (br ((ofOk (dnext (dnext (dnext (dofN (dnext (dofN (dnext y50000 3) ([14, 1, 2, 5, 15, 0, 16, 10, 20, 7])) 2) ([2048, 256, 1024, 3072, 129])) 3) 2) 3) ([20, 1, 200])))
                            (br (cApp y20300 ([((done y50000 3), ((dof (dnext y50000 3) ([14, 1, 2, 5, 15, 0, 16, 10, 20, 7])), ((dof (dnext (dofN (dnext y50000 3) ([14, 1, 2, 5, 15, 0, 16, 10, 20, 7])) 2) ([2048, 256, 1024, 3072, 129])), (0, (0, ((iadd .i64 0 (dof (dnext (dnext (dnext (dofN (dnext (dofN (dnext y50000 3) ([14, 1, 2, 5, 15, 0, 16, 10, 20, 7])) 2) ([2048, 256, 1024, 3072, 129])) 3) 2) 3) ([20, 1, 200]))), ()))))))]) 48)
                              (lp_make_Policy_0 (isub .i64 x4 1) y2 (y20300 ++ ([((done y50000 3), ((dof (dnext y50000 3) ([14, 1, 2, 5, 15, 0, 16, 10, 20, 7])), ((dof (dnext (dofN (dnext y50000 3) ([14, 1, 2, 5, 15, 0, 16, 10, 20, 7])) 2) ([2048, 256, 1024, 3072, 129])), (0, (0, ((iadd .i64 0 (dof (dnext (dnext (dnext (dofN (dnext (dofN (dnext y50000 3) ([14, 1, 2, 5, 15, 0, 16, 10, 20, 7])) 2) ([2048, 256, 1024, 3072, 129])) 3) 2) 3) ([20, 1, 200]))), ()))))))])) y20301 (dofN (dnext (dnext (dnext (dofN (dnext (dofN (dnext y50000 3) ([14, 1, 2, 5, 15, 0, 16, 10, 20, 7])) 2) ([2048, 256, 1024, 3072, 129])) 3) 2) 3) ([20, 1, 200])))
                              (none))
                            (none))
                          (br (cApp y20300 ([((done y50000 3), ((dof (dnext y50000 3) ([14, 1, 2, 5, 15, 0, 16, 10, 20, 7])), ((dof (dnext (dofN (dnext y50000 3) ([14, 1, 2, 5, 15, 0, 16, 10, 20, 7])) 2) ([2048, 256, 1024, 3072, 129])), (0, (0, (40001, ()))))))]) 48)
                            (lp_make_Policy_0 (isub .i64 x4 1) y2 (y20300 ++ ([((done y50000 3), ((dof (dnext y50000 3) ([14, 1, 2, 5, 15, 0, 16, 10, 20, 7])), ((dof (dnext (dofN (dnext y50000 3) ([14, 1, 2, 5, 15, 0, 16, 10, 20, 7])) 2) ([2048, 256, 1024, 3072, 129])), (0, (0, (40001, ()))))))])) y20301 (dnext (dnext (dnext (dofN (dnext (dofN (dnext y50000 3) ([14, 1, 2, 5, 15, 0, 16, 10, 20, 7])) 2) ([2048, 256, 1024, 3072, 129])) 3) 2) 3))
                            (none)))
                        (none)))
                    (none)))
                (none))
              (none))
            (br ((oneOk (dnext (dofN (dnext y50000 3) ([14, 1, 2, 5, 15, 0, 16, 10, 20, 7])) 2) 3))
              (br ((done (dnext (dofN (dnext y50000 3) ([14, 1, 2, 5, 15, 0, 16, 10, 20, 7])) 2) 3))
                (br ((nextOk (dnext (dnext (dofN (dnext y50000 3) ([14, 1, 2, 5, 15, 0, 16, 10, 20, 7])) 2) 3) 4))
                  (br ((oneOk (dnext (dnext (dnext (dofN (dnext y50000 3) ([14, 1, 2, 5, 15, 0, 16, 10, 20, 7])) 2) 3) 4) 2))
                    (br ((done (dnext (dnext (dnext (dofN (dnext y50000 3) ([14, 1, 2, 5, 15, 0, 16, 10, 20, 7])) 2) 3) 4) 2))
                      (br ((ofOk (dnext (dnext (dnext (dnext (dofN (dnext y50000 3) ([14, 1, 2, 5, 15, 0, 16, 10, 20, 7])) 2) 3) 4) 2) ([10, 30, 100, 7])))
                        (br ((oneOk (dofN (dnext (dnext (dnext (dnext (dofN (dnext y50000 3) ([14, 1, 2, 5, 15, 0, 16, 10, 20, 7])) 2) 3) 4) 2) ([10, 30, 100, 7])) 3))
                          (br ((done (dofN (dnext (dnext (dnext (dnext (dofN (dnext y50000 3) ([14, 1, 2, 5, 15, 0, 16, 10, 20, 7])) 2) 3) 4) 2) ([10, 30, 100, 7])) 3))
                            (br ((ofOk (dnext (dofN (dnext (dnext (dnext (dnext (dofN (dnext y50000 3) ([14, 1, 2, 5, 15, 0, 16, 10, 20, 7])) 2) 3) 4) 2) ([10, 30, 100, 7])) 3) ([20, 1, 200])))
                              (br (cApp y20300 ([((done y50000 3), ((dof (dnext y50000 3) ([14, 1, 2, 5, 15, 0, 16, 10, 20, 7])), (0, ((iadd .i64 1 (dval (dnext (dnext (dofN (dnext y50000 3) ([14, 1, 2, 5, 15, 0, 16, 10, 20, 7])) 2) 3) 4)), ((dof (dnext (dnext (dnext (dnext (dofN (dnext y50000 3) ([14, 1, 2, 5, 15, 0, 16, 10, 20, 7])) 2) 3) 4) 2) ([10, 30, 100, 7])), ((iadd .i64 (dof (dnext (dnext (dnext (dnext (dofN (dnext y50000 3) ([14, 1, 2, 5, 15, 0, 16, 10, 20, 7])) 2) 3) 4) 2) ([10, 30, 100, 7])) (dof (dnext (dofN (dnext (dnext (dnext (dnext (dofN (dnext y50000 3) ([14, 1, 2, 5, 15, 0, 16, 10, 20, 7])) 2) 3) 4) 2) ([10, 30, 100, 7])) 3) ([20, 1, 200]))), ()))))))]) 48)
                                (lp_make_Policy_0 (isub .i64 x4 1) y2 (y20300 ++ ([((done y50000 3), ((dof (dnext y50000 3) ([14, 1, 2, 5, 15, 0, 16, 10, 20, 7])), (0, ((iadd .i64 1 (dval (dnext (dnext (dofN (dnext y50000 3) ([14, 1, 2, 5, 15, 0, 16, 10, 20, 7])) 2) 3) 4)), ((dof (dnext (dnext (dnext (dnext (dofN (dnext y50000 3) ([14, 1, 2, 5, 15, 0, 16, 10, 20, 7])) 2) 3) 4) 2) ([10, 30, 100, 7])), ((iadd .i64 (dof (dnext (dnext (dnext (dnext (dofN (dnext y50000 3) ([14, 1, 2, 5, 15, 0, 16, 10, 20, 7])) 2) 3) 4) 2) ([10, 30, 100, 7])) (dof (dnext (dofN (dnext (dnext (dnext (dnext (dofN (dnext y50000 3) ([14, 1, 2, 5, 15, 0, 16, 10, 20, 7])) 2) 3) 4) 2) ([10, 30, 100, 7])) 3) ([20, 1, 200]))), ()))))))])) y20301 (dofN (dnext (dofN (dnext (dnext (dnext (dnext (dofN (dnext y50000 3) ([14, 1, 2, 5, 15, 0, 16, 10, 20, 7])) 2) 3) 4) 2) ([10, 30, 100, 7])) 3) ([20, 1, 200])))
                                (none))
                              (none))
                            (br (cApp y20300 ([((done y50000 3), ((dof (dnext y50000 3) ([14, 1, 2, 5, 15, 0, 16, 10, 20, 7])), (0, ((iadd .i64 1 (dval (dnext (dnext (dofN (dnext y50000 3) ([14, 1, 2, 5, 15, 0, 16, 10, 20, 7])) 2) 3) 4)), ((dof (dnext (dnext (dnext (dnext (dofN (dnext y50000 3) ([14, 1, 2, 5, 15, 0, 16, 10, 20, 7])) 2) 3) 4) 2) ([10, 30, 100, 7])), (40001, ()))))))]) 48)
                              (lp_make_Policy_0 (isub .i64 x4 1) y2 (y20300 ++ ([((done y50000 3), ((dof (dnext y50000 3) ([14, 1, 2, 5, 15, 0, 16, 10, 20, 7])), (0, ((iadd .i64 1 (dval (dnext (dnext (dofN (dnext y50000 3) ([14, 1, 2, 5, 15, 0, 16, 10, 20, 7])) 2) 3) 4)), ((dof (dnext (dnext (dnext (dnext (dofN (dnext y50000 3) ([14, 1, 2, 5, 15, 0, 16, 10, 20, 7])) 2) 3) 4) 2) ([10, 30, 100, 7])), (40001, ()))))))])) y20301 (dnext (dofN (dnext (dnext (dnext (dnext (dofN (dnext y50000 3) ([14, 1, 2, 5, 15, 0, 16, 10, 20, 7])) 2) 3) 4) 2) ([10, 30, 100, 7])) 3))
                              (none)))
                          (none))
                        (none))
                      (br ((oneOk (dnext (dnext (dnext (dnext (dofN (dnext y50000 3) ([14, 1, 2, 5, 15, 0, 16, 10, 20, 7])) 2) 3) 4) 2) 3))
                        (br ((done (dnext (dnext (dnext (dnext (dofN (dnext y50000 3) ([14, 1, 2, 5, 15, 0, 16, 10, 20, 7])) 2) 3) 4) 2) 3))
                          (br ((ofOk (dnext (dnext (dnext (dnext (dnext (dofN (dnext y50000 3) ([14, 1, 2, 5, 15, 0, 16, 10, 20, 7])) 2) 3) 4) 2) 3) ([20, 1, 200])))
                            (br (cApp y20300 ([((done y50000 3), ((dof (dnext y50000 3) ([14, 1, 2, 5, 15, 0, 16, 10, 20, 7])), (0, ((iadd .i64 1 (dval (dnext (dnext (dofN (dnext y50000 3) ([14, 1, 2, 5, 15, 0, 16, 10, 20, 7])) 2) 3) 4)), (0, ((iadd .i64 0 (dof (dnext (dnext (dnext (dnext (dnext (dofN (dnext y50000 3) ([14, 1, 2, 5, 15, 0, 16, 10, 20, 7])) 2) 3) 4) 2) 3) ([20, 1, 200]))), ()))))))]) 48)
                              (lp_make_Policy_0 (isub .i64 x4 1) y2 (y20300 ++ ([((done y50000 3), ((dof (dnext y50000 3) ([14, 1, 2, 5, 15, 0, 16, 10, 20, 7])), (0, ((iadd .i64 1 (dval (dnext (dnext (dofN (dnext y50000 3) ([14, 1, 2, 5, 15, 0, 16, 10, 20, 7])) 2) 3) 4)), (0, ((iadd .i64 0 (dof (dnext (dnext (dnext (dnext (dnext (dofN (dnext y50000 3) ([14, 1, 2, 5, 15, 0, 16, 10, 20, 7])) 2) 3) 4) 2) 3) ([20, 1, 200]))), ()))))))])) y20301 (dofN (dnext (dnext (dnext (dnext (dnext (dofN (dnext y50000 3) ([14, 1, 2, 5, 15, 0, 16, 10, 20, 7])) 2) 3) 4) 2) 3) ([20, 1, 200])))
                              (none))
                            (none))
                          (br (cApp y20300 ([((done y50000 3), ((dof (dnext y50000 3) ([14, 1, 2, 5, 15, 0, 16, 10, 20, 7])), (0, ((iadd .i64 1 (dval (dnext (dnext (dofN (dnext y50000 3) ([14, 1, 2, 5, 15, 0, 16, 10, 20, 7])) 2) 3) 4)), (0, (40001, ()))))))]) 48)
                            (lp_make_Policy_0 (isub .i64 x4 1) y2 (y20300 ++ ([((done y50000 3), ((dof (dnext y50000 3) ([14, 1, 2, 5, 15, 0, 16, 10, 20, 7])), (0, ((iadd .i64 1 (dval (dnext (dnext (dofN (dnext y50000 3) ([14, 1, 2, 5, 15, 0, 16, 10, 20, 7])) 2) 3) 4)), (0, (40001, ()))))))])) y20301 (dnext (dnext (dnext (dnext (dnext (dofN (dnext y50000 3) ([14, 1, 2, 5, 15, 0, 16, 10, 20, 7])) 2) 3) 4) 2) 3))
                            (none)))
                        (none)))
                    (none))
                  (none))
                (br ((oneOk (dnext (dnext (dofN (dnext y50000 3) ([14, 1, 2, 5, 15, 0, 16, 10, 20, 7])) 2) 3) 2))
                  (br ((done (dnext (dnext (dofN (dnext y50000 3) ([14, 1, 2, 5, 15, 0, 16, 10, 20, 7])) 2) 3) 2))
                    (br ((ofOk (dnext (dnext (dnext (dofN (dnext y50000 3) ([14, 1, 2, 5, 15, 0, 16, 10, 20, 7])) 2) 3) 2) ([10, 30, 100, 7])))
                      (br ((oneOk (dofN (dnext (dnext (dnext (dofN (dnext y50000 3) ([14, 1, 2, 5, 15, 0, 16, 10, 20, 7])) 2) 3) 2) ([10, 30, 100, 7])) 3))
                        (br ((done (dofN (dnext (dnext (dnext (dofN (dnext y50000 3) ([14, 1, 2, 5, 15, 0, 16, 10, 20, 7])) 2) 3) 2) ([10, 30, 100, 7])) 3))
                          (br ((ofOk (dnext (dofN (dnext (dnext (dnext (dofN (dnext y50000 3) ([14, 1, 2, 5, 15, 0, 16, 10, 20, 7])) 2) 3) 2) ([10, 30, 100, 7])) 3) ([20, 1, 200])))
                            (br (cApp y20300 ([((done y50000 3), ((dof (dnext y50000 3) ([14, 1, 2, 5, 15, 0, 16, 10, 20, 7])), (0, (0, ((dof (dnext (dnext (dnext (dofN (dnext y50000 3) ([14, 1, 2, 5, 15, 0, 16, 10, 20, 7])) 2) 3) 2) ([10, 30, 100, 7])), ((iadd .i64 (dof (dnext (dnext (dnext (dofN (dnext y50000 3) ([14, 1, 2, 5, 15, 0, 16, 10, 20, 7])) 2) 3) 2) ([10, 30, 100, 7])) (dof (dnext (dofN (dnext (dnext (dnext (dofN (dnext y50000 3) ([14, 1, 2, 5, 15, 0, 16, 10, 20, 7])) 2) 3) 2) ([10, 30, 100, 7])) 3) ([20, 1, 200]))), ()))))))]) 48)
                              (lp_make_Policy_0 (isub .i64 x4 1) y2 (y20300 ++ ([((done y50000 3), ((dof (dnext y50000 3) ([14, 1, 2, 5, 15, 0, 16, 10, 20, 7])), (0, (0, ((dof (dnext (dnext (dnext (dofN (dnext y50000 3) ([14, 1, 2, 5, 15, 0, 16, 10, 20, 7])) 2) 3) 2) ([10, 30, 100, 7])), ((iadd .i64 (dof (dnext (dnext (dnext (dofN (dnext y50000 3) ([14, 1, 2, 5, 15, 0, 16, 10, 20, 7])) 2) 3) 2) ([10, 30, 100, 7])) (dof (dnext (dofN (dnext (dnext (dnext (dofN (dnext y50000 3) ([14, 1, 2, 5, 15, 0, 16, 10, 20, 7])) 2) 3) 2) ([10, 30, 100, 7])) 3) ([20, 1, 200]))), ()))))))])) y20301 (dofN (dnext (dofN (dnext (dnext (dnext (dofN (dnext y50000 3) ([14, 1, 2, 5, 15, 0, 16, 10, 20, 7])) 2) 3) 2) ([10, 30, 100, 7])) 3) ([20, 1, 200])))
                              (none))
                            (none))
                          (br (cApp y20300 ([((done y50000 3), ((dof (dnext y50000 3) ([14, 1, 2, 5, 15, 0, 16, 10, 20, 7])), (0, (0, ((dof (dnext (dnext (dnext (dofN (dnext y50000 3) ([14, 1, 2, 5, 15, 0, 16, 10, 20, 7])) 2) 3) 2) ([10, 30, 100, 7])), (40001, ()))))))]) 48)
                            (lp_make_Policy_0 (isub .i64 x4 1) y2 (y20300 ++ ([((done y50000 3), ((dof (dnext y50000 3) ([14, 1, 2, 5, 15, 0, 16, 10, 20, 7])), (0, (0, ((dof (dnext (dnext (dnext (dofN (dnext y50000 3) ([14, 1, 2, 5, 15, 0, 16, 10, 20, 7])) 2) 3) 2) ([10, 30, 100, 7])), (40001, ()))))))])) y20301 (dnext (dofN (dnext (dnext (dnext (dofN (dnext y50000 3) ([14, 1, 2, 5, 15, 0, 16, 10, 20, 7])) 2) 3) 2) ([10, 30, 100, 7])) 3))
                            (none)))
                        (none))
                      (none))
                    (br ((oneOk (dnext (dnext (dnext (dofN (dnext y50000 3) ([14, 1, 2, 5, 15, 0, 16, 10, 20, 7])) 2) 3) 2) 3))
                      (br ((done (dnext (dnext (dnext (dofN (dnext y50000 3) ([14, 1, 2, 5, 15, 0, 16, 10, 20, 7])) 2) 3) 2) 3))
                        (br ((ofOk (dnext (dnext (dnext (dnext (dofN (dnext y50000 3) ([14, 1, 2, 5, 15, 0, 16, 10, 20, 7])) 2) 3) 2) 3) ([20, 1, 200])))
                          (br (cApp y20300 ([((done y50000 3), ((dof (dnext y50000 3) ([14, 1, 2, 5, 15, 0, 16, 10, 20, 7])), (0, (0, (0, ((iadd .i64 0 (dof (dnext (dnext (dnext (dnext (dofN (dnext y50000 3) ([14, 1, 2, 5, 15, 0, 16, 10, 20, 7])) 2) 3) 2) 3) ([20, 1, 200]))), ()))))))]) 48)
                            (lp_make_Policy_0 (isub .i64 x4 1) y2 (y20300 ++ ([((done y50000 3), ((dof (dnext y50000 3) ([14, 1, 2, 5, 15, 0, 16, 10, 20, 7])), (0, (0, (0, ((iadd .i64 0 (dof (dnext (dnext (dnext (dnext (dofN (dnext y50000 3) ([14, 1, 2, 5, 15, 0, 16, 10, 20, 7])) 2) 3) 2) 3) ([20, 1, 200]))), ()))))))])) y20301 (dofN (dnext (dnext (dnext (dnext (dofN (dnext y50000 3) ([14, 1, 2, 5, 15, 0, 16, 10, 20, 7])) 2) 3) 2) 3) ([20, 1, 200])))
                            (none))
                          (none))
                        (br (cApp y20300 ([((done y50000 3), ((dof (dnext y50000 3) ([14, 1, 2, 5, 15, 0, 16, 10, 20, 7])), (0, (0, (0, (40001, ()))))))]) 48)
                          (lp_make_Policy_0 (isub .i64 x4 1) y2 (y20300 ++ ([((done y50000 3), ((dof (dnext y50000 3) ([14, 1, 2, 5, 15, 0, 16, 10, 20, 7])), (0, (0, (0, (40001, ()))))))])) y20301 (dnext (dnext (dnext (dnext (dofN (dnext y50000 3) ([14, 1, 2, 5, 15, 0, 16, 10, 20, 7])) 2) 3) 2) 3))
                          (none)))
                      (none)))
                  (none)))
              (none)))
          (none))
        (none))
      (none))
    (some (.exit 0, st_make_Policy_0_e0 y2 y20300 y20301 y50000))
def la_make_Policy_0 (x4 : Int) (y2 : Policy) (y20300 : (List Rule)) (y20301 : (List Keep)) (y50000 : Dice) : Option (Exit × VS) := some (.exit 0, st_make_Policy_0_e0 (y2) (y20300 ++ (rulesZ x4.toNat y50000).1) (y20301) ((rulesZ x4.toNat y50000).2))
theorem be_make_Policy_0 (x4 : Int) (y2 : Policy) (y20300 : (List Rule)) (y20301 : (List Keep)) (y50000 : Dice) : roundF g_make_Policy fg_make_Policy_0 tb_make_Policy_0 (st_make_Policy_0 x4 y2 y20300 y20301 y50000) = b_make_Policy_0 x4 y2 y20300 y20301 y50000 := by kernel_rfl
theorem ln_make_Policy_0 (x4 : Int) (y2 : Policy) (y20300 : (List Rule)) (y20301 : (List Keep)) (y50000 : Dice) : lp_make_Policy_0 x4 y2 y20300 y20301 y50000 = n_make_Policy_0 x4 y2 y20300 y20301 y50000 := (loopF_nxt _ _).trans (by
  rw [be_make_Policy_0]
  simp only [b_make_Policy_0, n_make_Policy_0, nxt_br, nxt_n, nxt_r, nxt_e, nxt_0]
  rfl)
def b_make_Policy_1 (x6 : Int) (y2 : Policy) (y20300 : (List Rule)) (y20301 : (List Keep)) (y50000 : Dice) : Option (Exit × VS) :=
  br ((igt x6 0))
    (br ((nextOk y50000 4))
      (br ((ofOk (dnext y50000 4) ([10, 100, 3000])))
        (br (cApp y20301 ([((iadd .i64 1 (dval y50000 4)), ((dof (dnext y50000 4) ([10, 100, 3000])), ()))]) 16)
          (some (.normal, st_make_Policy_1 (isub .i64 x6 1) y2 y20300 (y20301 ++ ([((iadd .i64 1 (dval y50000 4)), ((dof (dnext y50000 4) ([10, 100, 3000])), ()))])) (dofN (dnext y50000 4) ([10, 100, 3000]))))
          (none))
        (none))
      (none))
    (some (.exit 2, st_make_Policy_1_e2 y2 y20300 y20301 y50000))
noncomputable def lp_make_Policy_1 (x6 : Int) (y2 : Policy) (y20300 : (List Rule)) (y20301 : (List Keep)) (y50000 : Dice) : Option (Exit × VS) := loopF (roundF g_make_Policy fg_make_Policy_1 tb_make_Policy_1) (st_make_Policy_1 x6 y2 y20300 y20301 y50000)
noncomputable def n_make_Policy_1 (x6 : Int) (y2 : Policy) (y20300 : (List Rule)) (y20301 : (List Keep)) (y50000 : Dice) : Option (Exit × VS) :=
  br ((igt x6 0))
    (br ((nextOk y50000 4))
      (br ((ofOk (dnext y50000 4) ([10, 100, 3000])))
        (br (cApp y20301 ([((iadd .i64 1 (dval y50000 4)), ((dof (dnext y50000 4) ([10, 100, 3000])), ()))]) 16)
          (lp_make_Policy_1 (isub .i64 x6 1) y2 y20300 (y20301 ++ ([((iadd .i64 1 (dval y50000 4)), ((dof (dnext y50000 4) ([10, 100, 3000])), ()))])) (dofN (dnext y50000 4) ([10, 100, 3000])))
          (none))
        (none))
      (none))
    (some (.exit 2, st_make_Policy_1_e2 y2 y20300 y20301 y50000))
def la_make_Policy_1 (x6 : Int) (y2 : Policy) (y20300 : (List Rule)) (y20301 : (List Keep)) (y50000 : Dice) : Option (Exit × VS) := some (.exit 2, st_make_Policy_1_e2 (y2) (y20300) (y20301 ++ (keepsZ x6.toNat y50000).1) ((keepsZ x6.toNat y50000).2))
theorem be_make_Policy_1 (x6 : Int) (y2 : Policy) (y20300 : (List Rule)) (y20301 : (List Keep)) (y50000 : Dice) : roundF g_make_Policy fg_make_Policy_1 tb_make_Policy_1 (st_make_Policy_1 x6 y2 y20300 y20301 y50000) = b_make_Policy_1 x6 y2 y20300 y20301 y50000 := by kernel_rfl
theorem ln_make_Policy_1 (x6 : Int) (y2 : Policy) (y20300 : (List Rule)) (y20301 : (List Keep)) (y50000 : Dice) : lp_make_Policy_1 x6 y2 y20300 y20301 y50000 = n_make_Policy_1 x6 y2 y20300 y20301 y50000 := (loopF_nxt _ _).trans (by
  rw [be_make_Policy_1]
  simp only [b_make_Policy_1, n_make_Policy_1, nxt_br, nxt_n, nxt_r, nxt_e, nxt_0]
  rfl)
def r_make_Policy (d0 : Dice) : Option (V × List VO) :=
  br ((nextOk d0 7))
    (br ((dOk (dnext d0 7) && decide (0 ≤ (dval d0 7) ∧ (dval d0 7) ≤ 100 ∧ ([] : List Rule).length + (dval d0 7).toNat ≤ 1000)))
      (br ((nextOk ((rulesZ (dval d0 7).toNat (dnext d0 7)).2) 3))
        (br ((dOk (dnext ((rulesZ (dval d0 7).toNat (dnext d0 7)).2) 3) && decide (0 ≤ (dval ((rulesZ (dval d0 7).toNat (dnext d0 7)).2) 3) ∧ (dval ((rulesZ (dval d0 7).toNat (dnext d0 7)).2) 3) ≤ 100 ∧ (([] : List Keep)).length + (dval ((rulesZ (dval d0 7).toNat (dnext d0 7)).2) 3).toNat ≤ 1000)))
          (some (.ag [(.ms 50001), (.ms 50002)], [.box (.t tyDice ((keepsZ (dval ((rulesZ (dval d0 7).toNat (dnext d0 7)).2) 3).toNat (dnext ((rulesZ (dval d0 7).toNat (dnext d0 7)).2) 3)).2)), .arr 51 tyRule ((([] : List Rule) ++ (rulesZ (dval d0 7).toNat (dnext d0 7)).1)), .arr 62 tyKeep ((([] : List Keep)) ++ (keepsZ (dval ((rulesZ (dval d0 7).toNat (dnext d0 7)).2) 3).toNat (dnext ((rulesZ (dval d0 7).toNat (dnext d0 7)).2) 3)).1)]))
          (none))
        (none))
      (none))
    (none)
theorem e_make_Policy (d0 : Dice) : runF g_make_Policy tc_make_Policy rv_make_Policy true [.ptr 50000 0] [.box (.t tyDice d0)] = r_make_Policy d0 := by kernel_rfl
theorem ok_make_Policy : Option.map (trC Try.prog) Try.f10.body = some tc_make_Policy.er := by kernel_rfl
theorem rok_make_Policy : trVs Try.prog Try.f10.results.toList = some (rv_make_Policy.map Prod.fst) := by kernel_rfl
theorem en_make_Policy : Entered Try.prog 10 := .inr ⟨by decide, _, Try.func10, by kernel_rfl, by kernel_rfl⟩
theorem gk_make_Policy : GOk Try.prog g_make_Policy := gok_of _ (by
  intro p hp
  simp only [List.mem_cons, List.not_mem_nil, or_false] at hp
  rcases hp with rfl | rfl | rfl
  · exact ⟨en_make_Dice_Next, ms_make_Dice_Next⟩
  · exact ⟨en_make_Dice_One, ms_make_Dice_One⟩
  · exact ⟨en_make_Dice_Of, ms_make_Dice_Of⟩)
theorem l_make_Policy_0 (x4 : Int) (y2 : Policy) (y20300 : (List Rule)) (y20301 : (List Keep)) (y50000 : Dice) (h : (dOk y50000 && decide (0 ≤ x4 ∧ x4 ≤ 100 ∧ y20300.length + x4.toNat ≤ 1000)) = true) : lp_make_Policy_0 x4 y2 y20300 y20301 y50000 = la_make_Policy_0 x4 y2 y20300 y20301 y50000 := by
  simp only [Bool.and_eq_true, decide_eq_true_eq] at h
  obtain ⟨hd, h1, h2q, h3⟩ := h
  obtain ⟨k, rfl⟩ := Int.eq_ofNat_of_zero_le h1
  rw [Int.toNat_natCast] at h3
  have h2 : k ≤ 100 := by omega
  clear h1 h2q
  induction k generalizing y20300 y50000 with
  | zero =>
    rw [ln_make_Policy_0]
    have e1 : igt ((0 : Nat) : Int) 0 = false := rfl
    simp only [n_make_Policy_0, e1, br_false, la_make_Policy_0, Int.toNat_natCast, rulesZ, List.append_nil]
  | succ k ih =>
    rw [ln_make_Policy_0]
    have e1 : igt ((k + 1 : Nat) : Int) 0 = true := by simp only [igt, decide_eq_true_eq]; omega
    have e2 : isub .i64 ((k + 1 : Nat) : Int) 1 = (k : Int) := by rw [isub_in (by omega)]; omega
    simp only [n_make_Policy_0, e1, e2, br_true]
    have hla : la_make_Policy_0 ((k + 1 : Nat) : Int) y2 y20300 y20301 y50000 = la_make_Policy_0 (k : Int) y2 (y20300 ++ [(rDraw y50000).1]) y20301 (rDraw y50000).2 := by
      simp only [la_make_Policy_0, Int.toNat_natCast, rulesZ, List.append_assoc]
      rfl
    rw [hla, ← ih _ _ (dOk_rDraw hd) (by simp; omega) (by omega)]
    clear ih hla
    have hi : ∀ x : Rule, cApp y20300 [x] 48 = true := fun x => cApp_ok (by simp; omega) (by omega)
    have o2 : ∀ d, dOk d = true → oneOk d 2 = true := fun d h => by simp [oneOk, nextOk, h]
    have o3 : ∀ d, dOk d = true → oneOk d 3 = true := fun d h => by simp [oneOk, nextOk, h]
    have n4 : ∀ d, dOk d = true → nextOk d 4 = true := fun d h => by simp [nextOk, h]
    have f1 : ∀ d, dOk d = true → ofOk d [14, 1, 2, 5, 15, 0, 16, 10, 20, 7] = true := fun d h => by simp [ofOk, h]
    have f2 : ∀ d, dOk d = true → ofOk d [2048, 256, 1024, 3072, 129] = true := fun d h => by simp [ofOk, h]
    have f3 : ∀ d, dOk d = true → ofOk d [10, 30, 100, 7] = true := fun d h => by simp [ofOk, h]
    have f4 : ∀ d, dOk d = true → ofOk d [20, 1, 200] = true := fun d h => by simp [ofOk, h]
    simp (maxDischargeDepth := 30) only [o2, o3, n4, f1, f2, f3, f4, dOk_nextI, dOk_of, hd, hi, br_true]
    repeat' (refine br_intro ?_ ?_ <;> intro _)
    all_goals simp only [rDraw, *, if_true, if_false, Bool.false_eq_true]
theorem l_make_Policy_1 (x6 : Int) (y2 : Policy) (y20300 : (List Rule)) (y20301 : (List Keep)) (y50000 : Dice) (h : (dOk y50000 && decide (0 ≤ x6 ∧ x6 ≤ 100 ∧ y20301.length + x6.toNat ≤ 1000)) = true) : lp_make_Policy_1 x6 y2 y20300 y20301 y50000 = la_make_Policy_1 x6 y2 y20300 y20301 y50000 := by
  simp only [Bool.and_eq_true, decide_eq_true_eq] at h
  obtain ⟨hd, h1, h2q, h3⟩ := h
  obtain ⟨k, rfl⟩ := Int.eq_ofNat_of_zero_le h1
  rw [Int.toNat_natCast] at h3
  have h2 : k ≤ 100 := by omega
  clear h1 h2q
  induction k generalizing y20301 y50000 with
  | zero =>
    rw [ln_make_Policy_1]
    have e1 : igt ((0 : Nat) : Int) 0 = false := rfl
    simp only [n_make_Policy_1, e1, br_false, la_make_Policy_1, Int.toNat_natCast, keepsZ, List.append_nil]
  | succ k ih =>
    rw [ln_make_Policy_1]
    have e1 : igt ((k + 1 : Nat) : Int) 0 = true := by simp only [igt, decide_eq_true_eq]; omega
    have e2 : isub .i64 ((k + 1 : Nat) : Int) 1 = (k : Int) := by rw [isub_in (by omega)]; omega
    simp only [n_make_Policy_1, e1, e2, br_true]
    have hla : la_make_Policy_1 ((k + 1 : Nat) : Int) y2 y20300 y20301 y50000 = la_make_Policy_1 (k : Int) y2 y20300 (y20301 ++ [(kDraw y50000).1]) (kDraw y50000).2 := by
      simp only [la_make_Policy_1, Int.toNat_natCast, keepsZ, List.append_assoc]
      rfl
    rw [hla, ← ih _ _ (dOk_kDraw hd) (by simp; omega) (by omega)]
    clear ih hla
    have hi : ∀ x : Keep, cApp y20301 [x] 16 = true := fun x => cApp_ok (by simp; omega) (by omega)
    have n4 : ∀ d, dOk d = true → nextOk d 4 = true := fun d h => by simp [nextOk, h]
    have f1 : ∀ d, dOk d = true → ofOk d [10, 100, 3000] = true := fun d h => by simp [ofOk, h]
    simp (maxDischargeDepth := 30) only [n4, f1, dOk_nextI, dOk_of, hd, hi, br_true]
    rfl
theorem lo_make_Policy_0 : ∀ S l p, g_make_Policy.L 0 (fgt fg_make_Policy_0 S) = some (true, l) → pickA l = some p → loopF (roundF g_make_Policy fg_make_Policy_0 tb_make_Policy_0) S = some p :=
  lok_of (s := sh_make_Policy_0) ⟨by decide, by decide⟩ (by kernel_rfl) fun x y hok p hp => by
  simp only [pickA_br, pickA_one] at hp
  exact (l_make_Policy_0 x.2.2.2.1 y.1 y.2.2.2.2.1 y.2.2.2.2.2.1 y.2.2.2.2.2.2.1 (by simpa using hok)).trans hp
theorem lo_make_Policy_1 : ∀ S l p, g_make_Policy.L 1 (fgt fg_make_Policy_1 S) = some (true, l) → pickA l = some p → loopF (roundF g_make_Policy fg_make_Policy_1 tb_make_Policy_1) S = some p :=
  lok_of (s := sh_make_Policy_1) ⟨by decide, by decide⟩ (by kernel_rfl) fun x y hok p hp => by
  simp only [pickA_br, pickA_one] at hp
  exact (l_make_Policy_1 x.2.2.2.1 y.1 y.2.2.2.2.1 y.2.2.2.2.2.1 y.2.2.2.2.2.2.1 (by simpa using hok)).trans hp
theorem lk_make_Policy : tc_make_Policy.lok g_make_Policy := by
  repeat (first | exact trivial | exact lo_make_Policy_0 | exact lo_make_Policy_1 | refine ⟨?_, ?_⟩)
theorem s_make_Policy (d : Dice) (h : dOk d = true) : r_make_Policy d = some (.ag [.ms 50001, .ms 50002], [.box (.t tyDice (polN d)), .arr 51 tyRule (polV d).1, .arr 62 tyKeep (polV d).2.1]) := by
  have n7 : ∀ d, dOk d = true → nextOk d 7 = true := fun d h => by simp [nextOk, h]
  have n3 : ∀ d, dOk d = true → nextOk d 3 = true := fun d h => by simp [nextOk, h]
  have b7 := dval_lt (d := d) (n := 7) (by omega)
  have h2 : dOk (rulesZ (dval d 7).toNat (dnext d 7)).2 = true := dOk_rules (dOk_next h)
  have b3 := dval_lt (d := (rulesZ (dval d 7).toNat (dnext d 7)).2) (n := 3) (by omega)
  simp only [r_make_Policy, n7 d h, br_true, List.nil_append]
  rw [dOk_next h, Bool.true_and, dec_true ⟨b7.1, by omega, by rw [List.length_nil]; omega⟩, br_true, n3 _ h2, br_true, dOk_next h2, Bool.true_and, dec_true ⟨b3.1, by omega, by rw [List.length_nil]; omega⟩, br_true]
  rfl
def sp_make_Policy : Ent := specS [.ptr 50000 0] [.box tyDice] (fun x y => (dOk y.1)) (fun x y => (.ag [(.ms 50001), (.ms 50002)])) (fun x y => [.box (.t tyDice (polN y.1)), .arr 51 tyRule ((polV y.1).1), .arr 62 tyKeep (((polV y.1).2).1)])
theorem ms_make_Policy : Meets Try.prog 10 (strip sp_make_Policy) := by
  obtain ⟨c, hc, hi⟩ := Option.map_eq_some_iff.1 ok_make_Policy
  exact meets_specS (R := runF g_make_Policy tc_make_Policy rv_make_Policy true) (meets_of (by decide) Try.func10 hc hi Try.ntmps10 rok_make_Policy gk_make_Policy lk_make_Policy mixed) fun x y hok => (e_make_Policy y.1).trans (s_make_Policy y.1 hok)
end Go.Proofs.Ytfehjdaielifiaa.K
