/-
  The law that a rule at the end decides, and that rules that decide nothing can be left out.
-/
import Derived.Test.YtfldcnhkppgmbaaV14
import Derived.Test.YtfldcnhkppgmbaaP20
import Derived.Test.YtfldcnhkppgmbaaKD
set_option linter.unusedSimpArgs false
set_option linter.unusedVariables false
namespace Go.Proofs.Ytfldcnhkppgmbaa.K.VL
open Go.RowKit
noncomputable section
/-! policies as they are read -/
def dr_make_Policy_0 : List DO := [(.mk (.mk (some 39) none (.m (.pu (.fa 4 (.t 5))))) []), (.mk (.mk (some 40) none (.m (.ld false 1 (.t 39)))) [0]), (.mk (.mk (some 41) none (.m (.pu (.mv (.t 0))))) []), (.mk (.mk (some 42) none (.m (.bs 3 1 3 [(.v (.int .i64 0)), (.v (.int .i64 0)), (.v (.int .i64 0))] [(0, 1, (.c (.v (.int .i64 20)))), (1, 1, (.c (.v (.int .i64 1)))), (2, 1, (.c (.v (.int .i64 200))))]))) []), (.mk (.mk (some 43) none (.call 22 [(.t 41), (.t 42)])) [2, 3]), (.mk (.mk (some 44) none (.m (.pu (.bin false .add (.t 40) (.t 43))))) [1, 4]), (.mk (.mk (some 45) none (.m (.pu (.fa 5 (.t 5))))) [0, 1, 2, 3, 4, 5]), (.mk (.mk none none (.m (.st 1 (.t 45) (.t 44)))) [6, 5, 4, 0, 1, 2, 3, 4, 5])]
def dr_make_Policy_1 : List DO := [(.mk (.mk (some 58) none (.m (.pu (.fa 1 (.t 3))))) []), (.mk (.mk (some 59) none (.m (.ld false 1 (.t 58)))) [0]), (.mk (.mk (some 60) none (.m (.pu (.mv (.t 0))))) []), (.mk (.mk (some 61) none (.call 18 [(.t 60), (.c (.v (.int .i64 4)))])) [2]), (.mk (.mk (some 62) none (.m (.pu (.bin false .add (.c (.v (.int .i64 1))) (.t 61))))) [3]), (.mk (.mk (some 63) none (.m (.pu (.mv (.t 0))))) []), (.mk (.mk (some 64) none (.m (.bs 3 1 3 [(.v (.int .i64 0)), (.v (.int .i64 0)), (.v (.int .i64 0))] [(0, 1, (.c (.v (.int .i64 10)))), (1, 1, (.c (.v (.int .i64 100)))), (2, 1, (.c (.v (.int .i64 3000))))]))) []), (.mk (.mk (some 65) none (.call 22 [(.t 63), (.t 64)])) [5, 6, 3]), (.mk (.mk (some 66) none (.m (.pu (.bd [(.v (.int .i64 0)), (.v (.int .i64 0))] [(0, 1, (.t 62)), (1, 1, (.t 65))])))) [4, 7]), (.mk (.mk (some 67) none (.m (.bs 31 2 1 [(.v (.int .i64 0)), (.v (.int .i64 0))] [(0, 2, (.t 66))]))) [8]), (.mk (.mk (some 68) none (.m (.app 31 2 16 (.t 59) (.t 67)))) [1, 9, 7]), (.mk (.mk (some 69) none (.m (.pu (.fa 1 (.t 3))))) [0, 1, 2, 3, 4, 5, 6, 7, 8, 9, 10]), (.mk (.mk none none (.m (.st 1 (.t 69) (.t 68)))) [11, 10, 10, 0, 1, 2, 3, 4, 5, 6, 7, 8, 9, 10])]
def fg_make_Policy_0 : Fg := ⟨[(0, none), (2, none), (3, none), (4, some tI)], [(2, some tyPolicy), (3, none), (50, none), (68, none), (20300, none), (20301, none), (50000, some tyDice)]⟩
def tb_make_Policy_0 : TC := (.sq (.sq (.reg [(.mk (some 9) none (.m (.pu (.mv (.t 4))))), (.mk (some 10) none (.m (.pu (.bin false .gtr (.t 9) (.c (.v (.int .i64 0)))))))]) (.cd (.t 10) .sk (.fg ⟨[(0, none), (2, none), (3, none)], [(2, some tyPolicy), (3, some tyPolicy), (50, none), (68, none), (20300, none), (20301, none), (50000, some tyDice)]⟩ (.ex 0)))) (.sq (.bk 1 (.sq (.reg [(.mk (some 13) none (.m (.pu (.mv (.t 0))))), (.mk (some 14) none (.call 28 [(.t 13), (.c (.v (.int .i64 3)))])), (.mk (some 15) none (.m (.pu (.mv (.t 0))))), (.mk (some 16) none (.m (.bs 3 1 10 [(.v (.int .i64 0)), (.v (.int .i64 0)), (.v (.int .i64 0)), (.v (.int .i64 0)), (.v (.int .i64 0)), (.v (.int .i64 0)), (.v (.int .i64 0)), (.v (.int .i64 0)), (.v (.int .i64 0)), (.v (.int .i64 0))] [(0, 1, (.c (.v (.int .i64 14)))), (1, 1, (.c (.v (.int .i64 1)))), (2, 1, (.c (.v (.int .i64 2)))), (3, 1, (.c (.v (.int .i64 5)))), (4, 1, (.c (.v (.int .i64 15)))), (5, 1, (.c (.v (.int .i64 0)))), (6, 1, (.c (.v (.int .i64 16)))), (7, 1, (.c (.v (.int .i64 10)))), (8, 1, (.c (.v (.int .i64 20)))), (9, 1, (.c (.v (.int .i64 7))))]))), (.mk (some 17) none (.call 22 [(.t 15), (.t 16)])), (.mk (some 18) none (.m (.pu (.bd [(.v (.bool false)), (.v (.int .i64 0)), (.v (.int .i64 0)), (.v (.int .i64 0)), (.v (.int .i64 0)), (.v (.int .i64 0))] [(0, 1, (.t 14)), (1, 1, (.t 17)), (5, 1, (.c (.v (.int .i64 40001))))])))), (.mk (some 5) none (.m (.new [(.v (.bool false)), (.v (.int .i64 0)), (.v (.int .i64 0)), (.v (.int .i64 0)), (.v (.int .i64 0)), (.v (.int .i64 0))]))), (.mk none none (.m (.st 6 (.t 5) (.t 18))))]) (.sq (.sq (.reg [(.mk (some 19) none (.m (.pu (.mv (.t 0))))), (.mk (some 20) none (.call 28 [(.t 19), (.c (.v (.int .i64 2)))]))]) (.cd (.t 20) (.reg [(.mk (some 21) none (.m (.pu (.mv (.t 0))))), (.mk (some 22) none (.m (.bs 3 1 5 [(.v (.int .i64 0)), (.v (.int .i64 0)), (.v (.int .i64 0)), (.v (.int .i64 0)), (.v (.int .i64 0))] [(0, 1, (.c (.v (.int .i64 2048)))), (1, 1, (.c (.v (.int .i64 256)))), (2, 1, (.c (.v (.int .i64 1024)))), (3, 1, (.c (.v (.int .i64 3072)))), (4, 1, (.c (.v (.int .i64 129))))]))), (.mk (some 23) none (.call 22 [(.t 21), (.t 22)])), (.mk (some 24) none (.m (.pu (.fa 2 (.t 5))))), (.mk none none (.m (.st 1 (.t 24) (.t 23))))]) .sk)) (.sq (.sq (.reg [(.mk (some 25) none (.m (.pu (.mv (.t 0))))), (.mk (some 26) none (.call 28 [(.t 25), (.c (.v (.int .i64 3)))]))]) (.cd (.t 26) (.reg [(.mk (some 27) none (.m (.pu (.mv (.t 0))))), (.mk (some 28) none (.call 18 [(.t 27), (.c (.v (.int .i64 4)))])), (.mk (some 29) none (.m (.pu (.bin false .add (.c (.v (.int .i64 1))) (.t 28))))), (.mk (some 30) none (.m (.pu (.fa 3 (.t 5))))), (.mk none none (.m (.st 1 (.t 30) (.t 29))))]) .sk)) (.sq (.sq (.reg [(.mk (some 31) none (.m (.pu (.mv (.t 0))))), (.mk (some 32) none (.call 28 [(.t 31), (.c (.v (.int .i64 2)))]))]) (.cd (.t 32) (.reg [(.mk (some 33) none (.m (.pu (.mv (.t 0))))), (.mk (some 34) none (.m (.bs 3 1 4 [(.v (.int .i64 0)), (.v (.int .i64 0)), (.v (.int .i64 0)), (.v (.int .i64 0))] [(0, 1, (.c (.v (.int .i64 10)))), (1, 1, (.c (.v (.int .i64 30)))), (2, 1, (.c (.v (.int .i64 100)))), (3, 1, (.c (.v (.int .i64 7))))]))), (.mk (some 35) none (.call 22 [(.t 33), (.t 34)])), (.mk (some 36) none (.m (.pu (.fa 4 (.t 5))))), (.mk none none (.m (.st 1 (.t 36) (.t 35))))]) .sk)) (.sq (.sq (.reg [(.mk (some 37) none (.m (.pu (.mv (.t 0))))), (.mk (some 38) none (.call 28 [(.t 37), (.c (.v (.int .i64 3)))]))]) (.cd (.t 38) (.dr dr_make_Policy_0 [(0, [5]), (1, [5]), (2, [50000]), (3, []), (4, [43, 5043, 10043, 15043, 50000]), (5, []), (6, [5]), (7, [5])] (.of [0, 1, 2, 3, 4, 5, 6, 7])) .sk)) (.reg [(.mk (some 46) none (.m (.pu (.fa 0 (.t 3))))), (.mk (some 47) none (.m (.ld false 1 (.t 46)))), (.mk (some 48) none (.m (.ld true 6 (.t 5)))), (.mk (some 49) none (.m (.bs 56 6 1 [(.v (.bool false)), (.v (.int .i64 0)), (.v (.int .i64 0)), (.v (.int .i64 0)), (.v (.int .i64 0)), (.v (.int .i64 0))] [(0, 6, (.t 48))]))), (.mk (some 50) none (.m (.app 56 6 48 (.t 47) (.t 49)))), (.mk (some 51) none (.m (.pu (.fa 0 (.t 3))))), (.mk none none (.m (.st 1 (.t 51) (.t 50))))]))))))) (.reg [(.mk (some 11) none (.m (.pu (.mv (.t 4))))), (.mk (some 12) none (.m (.pu (.bin false .sub (.t 11) (.c (.v (.int .i64 1))))))), (.mk (some 4) none (.m (.pu (.mv (.t 12)))))])))
def fg_make_Policy_1 : Fg := ⟨[(0, none), (2, none), (3, none), (6, some tI)], [(2, some tyPolicy), (3, none), (50, none), (68, none), (20300, none), (20301, none), (50000, some tyDice)]⟩
def tb_make_Policy_1 : TC := (.sq (.sq (.reg [(.mk (some 54) none (.m (.pu (.mv (.t 6))))), (.mk (some 55) none (.m (.pu (.bin false .gtr (.t 54) (.c (.v (.int .i64 0)))))))]) (.cd (.t 55) .sk (.fg ⟨[(2, none), (3, none)], [(2, some tyPolicy), (3, some tyPolicy), (50, none), (68, none), (20300, none), (20301, none), (50000, some tyDice)]⟩ (.ex 2)))) (.sq (.bk 3 (.dr dr_make_Policy_1 [(0, [3, 50, 68, 20300, 20301]), (1, [3, 50, 68, 20300, 20301]), (2, [50000]), (3, [61, 5061, 10061, 15061, 50000]), (4, []), (5, [50000]), (6, []), (7, [65, 5065, 10065, 15065, 50000]), (8, []), (9, []), (10, [2, 3, 50, 68, 5068, 10068, 15068, 20300, 20301]), (11, [3, 50, 68, 20300, 20301]), (12, [2, 3, 50, 68, 20300, 20301])] (.of [0, 1, 2, 5, 6, 3, 4, 7, 8, 9, 10, 11, 12]))) (.reg [(.mk (some 56) none (.m (.pu (.mv (.t 6))))), (.mk (some 57) none (.m (.pu (.bin false .sub (.t 56) (.c (.v (.int .i64 1))))))), (.mk (some 6) none (.m (.pu (.mv (.t 57)))))])))
/-- cipherplan/cipherplanmake.Policy -/
def tc_make_Policy : TC := (.sq (.reg [(.mk (some 2) none (.m (.new [(.v (.slice none 0 0)), (.v (.slice none 0 0))])))]) (.sq (.reg [(.mk (some 3) none (.m (.new [(.v (.slice none 0 0)), (.v (.slice none 0 0))])))]) (.sq (.sq (.reg [(.mk (some 7) none (.m (.pu (.mv (.t 0))))), (.mk (some 8) none (.call 18 [(.t 7), (.c (.v (.int .i64 7)))])), (.mk (some 4) none (.m (.pu (.mv (.t 8)))))]) (.bk 0 (.nf 3 1 31 20301 (.nf 3 0 56 20300 (.lp 0 fg_make_Policy_0 tb_make_Policy_0))))) (.sq (.sq (.reg [(.mk (some 52) none (.m (.pu (.mv (.t 0))))), (.mk (some 53) none (.call 18 [(.t 52), (.c (.v (.int .i64 3)))])), (.mk (some 6) none (.m (.pu (.mv (.t 53)))))]) (.bk 2 (.nf 3 0 56 20300 (.nf 3 1 31 20301 (.lp 1 fg_make_Policy_1 tb_make_Policy_1))))) (.sq (.reg [(.mk (some 70) none (.m (.ld true 2 (.t 3)))), (.mk none none (.m (.st 2 (.t 2) (.t 70))))]) .rt)))))
def rv_make_Policy : List (RV × Option Ty) := [((.c 2 true 2), some tyPolicy)]
abbrev sh_make_Policy_0 : Sh := ⟨[(0, .ptr 50000 0), (2, .ptr 2 0), (3, .ptr 3 0), (4, .ty tI)], [(2, .box tyPolicy), (3, .bag [.ms 20300, .ms 20301]), (50, .no), (68, .no), (20300, .arr 56 tyRule), (20301, .arr 31 tyKeep), (50000, .box tyDice)]⟩
def st_make_Policy_0 (x4 : Int) (y2 : Policy) (y20300 : (List Rule)) (y20301 : (List Keep)) (y50000 : Dice) : VS := sh_make_Policy_0.st ((), (), (), x4, ()) (y2, ((), (), ()), (), (), y20300, y20301, y50000, ())
abbrev sh_make_Policy_0_e0 : Sh := ⟨[(0, .ptr 50000 0), (2, .ptr 2 0), (3, .ptr 3 0)], [(2, .box tyPolicy), (3, .bag [.ms 20300, .ms 20301]), (50, .no), (68, .no), (20300, .arr 56 tyRule), (20301, .arr 31 tyKeep), (50000, .box tyDice)]⟩
def st_make_Policy_0_e0 (y2 : Policy) (y20300 : (List Rule)) (y20301 : (List Keep)) (y50000 : Dice) : VS := sh_make_Policy_0_e0.st ((), (), (), ()) (y2, ((), (), ()), (), (), y20300, y20301, y50000, ())
-- loop 0: (x4 : Int) (y2 : Policy) (y20300 : (List Rule)) (y20301 : (List Keep)) (y50000 : Dice); out: ('exit', 0) (y2 : Policy) (y20300 : (List Rule)) (y20301 : (List Keep)) (y50000 : Dice)
abbrev sh_make_Policy_1 : Sh := ⟨[(0, .ptr 50000 0), (2, .ptr 2 0), (3, .ptr 3 0), (6, .ty tI)], [(2, .box tyPolicy), (3, .bag [.ms 20300, .ms 20301]), (50, .no), (68, .no), (20300, .arr 56 tyRule), (20301, .arr 31 tyKeep), (50000, .box tyDice)]⟩
def st_make_Policy_1 (x6 : Int) (y2 : Policy) (y20300 : (List Rule)) (y20301 : (List Keep)) (y50000 : Dice) : VS := sh_make_Policy_1.st ((), (), (), x6, ()) (y2, ((), (), ()), (), (), y20300, y20301, y50000, ())
abbrev sh_make_Policy_1_e2 : Sh := ⟨[(2, .ptr 2 0), (3, .ptr 3 0)], [(2, .box tyPolicy), (3, .bag [.ms 20300, .ms 20301]), (50, .no), (68, .no), (20300, .arr 56 tyRule), (20301, .arr 31 tyKeep), (50000, .box tyDice)]⟩
def st_make_Policy_1_e2 (y2 : Policy) (y20300 : (List Rule)) (y20301 : (List Keep)) (y50000 : Dice) : VS := sh_make_Policy_1_e2.st ((), (), ()) (y2, ((), (), ()), (), (), y20300, y20301, y50000, ())
-- loop 1: (x6 : Int) (y2 : Policy) (y20300 : (List Rule)) (y20301 : (List Keep)) (y50000 : Dice); out: ('exit', 2) (y2 : Policy) (y20300 : (List Rule)) (y20301 : (List Keep)) (y50000 : Dice)
def L_make_Policy_0 : VS → Option (Bool × List (Bool × Exit × VS)) := mkL sh_make_Policy_0 (fun x y => (dOk y.2.2.2.2.2.2.1 && decide (0 ≤ x.2.2.2.1 ∧ x.2.2.2.1 ≤ 100 ∧ y.2.2.2.2.1.length + x.2.2.2.1.toNat ≤ 1000))) (fun x y => [(true, .exit 0, st_make_Policy_0_e0 (y.1) (y.2.2.2.2.1 ++ (rulesZ x.2.2.2.1.toNat y.2.2.2.2.2.2.1).1) (y.2.2.2.2.2.1) ((rulesZ x.2.2.2.1.toNat y.2.2.2.2.2.2.1).2))])
def L_make_Policy_1 : VS → Option (Bool × List (Bool × Exit × VS)) := mkL sh_make_Policy_1 (fun x y => (dOk y.2.2.2.2.2.2.1 && decide (0 ≤ x.2.2.2.1 ∧ x.2.2.2.1 ≤ 100 ∧ y.2.2.2.2.2.1.length + x.2.2.2.1.toNat ≤ 1000))) (fun x y => [(true, .exit 2, st_make_Policy_1_e2 (y.1) (y.2.2.2.2.1) (y.2.2.2.2.2.1 ++ (keepsZ x.2.2.2.1.toNat y.2.2.2.2.2.2.1).1) ((keepsZ x.2.2.2.1.toNat y.2.2.2.2.2.2.1).2))])
def g_make_Policy : G := ⟨TYs, [], 71, EL [(18, sp_make_Dice_Next), (22, sp_make_Dice_Of), (28, sp_make_Dice_One)], keeps, (Ls [L_make_Policy_0, L_make_Policy_1]), IL [], RL []⟩
def b_make_Policy_0 (x4 : Int) (y2 : Policy) (y20300 : (List Rule)) (y20301 : (List Keep)) (y50000 : Dice) : Option (Exit × VS) :=
  br ((igt x4 0))
    (br ((oneOk y50000 3))
      (br ((ofOk (dnext y50000 3) ([14, 1, 2, 5, 15, 0, 16, 10, 20, 7])))
        (br ((oneOk (dofN (dnext y50000 3) ([14, 1, 2, 5, 15, 0, 16, 10, 20, 7])) 2))
          (br ((done (dofN (dnext y50000 3) ([14, 1, 2, 5, 15, 0, 16, 10, 20, 7])) 2))
            (br ((ofOk (dnext (dofN (dnext y50000 3) ([14, 1, 2, 5, 15, 0, 16, 10, 20, 7])) 2) ([2048, 256, 1024, 3072, 129])))
              (br ((oneOk (dofN (dnext (dofN (dnext y50000 3) ([14, 1, 2, 5, 15, 0, 16, 10, 20, 7])) 2) ([2048, 256, 1024, 3072, 129])) 3))
                (br ((done (dofN (dnext (dofN (dnext y50000 3) ([14, 1, 2, 5, 15, 0, 16, 10, 20, 7])) 2) ([2048, 256, 1024, 3072, 129])) 3))
                  (br ((nextOk (dnext (dofN (dnext (dofN (dnext y50000 3) ([14, 1, 2, 5, 15, 0, 16, 10, 20, 7])) 2) ([2048, 256, 1024, 3072, 129])) 3) 4))
                    (br ((oneOk (dnext (dnext (dofN (dnext (dofN (dnext y50000 3) ([14, 1, 2, 5, 15, 0, 16, 10, 20, 7])) 2) ([2048, 256, 1024, 3072, 129])) 3) 4) 2))
                      (br ((done (dnext (dnext (dofN (dnext (dofN (dnext y50000 3) ([14, 1, 2, 5, 15, 0, 16, 10, 20, 7])) 2) ([2048, 256, 1024, 3072, 129])) 3) 4) 2))
                        (br ((ofOk (dnext (dnext (dnext (dofN (dnext (dofN (dnext y50000 3) ([14, 1, 2, 5, 15, 0, 16, 10, 20, 7])) 2) ([2048, 256, 1024, 3072, 129])) 3) 4) 2) ([10, 30, 100, 7])))
                          (br ((oneOk (dofN (dnext (dnext (dnext (dofN (dnext (dofN (dnext y50000 3) ([14, 1, 2, 5, 15, 0, 16, 10, 20, 7])) 2) ([2048, 256, 1024, 3072, 129])) 3) 4) 2) ([10, 30, 100, 7])) 3))
                            (br ((done (dofN (dnext (dnext (dnext (dofN (dnext (dofN (dnext y50000 3) ([14, 1, 2, 5, 15, 0, 16, 10, 20, 7])) 2) ([2048, 256, 1024, 3072, 129])) 3) 4) 2) ([10, 30, 100, 7])) 3))
                              (br ((ofOk (dnext (dofN (dnext (dnext (dnext (dofN (dnext (dofN (dnext y50000 3) ([14, 1, 2, 5, 15, 0, 16, 10, 20, 7])) 2) ([2048, 256, 1024, 3072, 129])) 3) 4) 2) ([10, 30, 100, 7])) 3) ([20, 1, 200])))
                                (br (cApp y20300 ([((done y50000 3), ((dof (dnext y50000 3) ([14, 1, 2, 5, 15, 0, 16, 10, 20, 7])), ((dof (dnext (dofN (dnext y50000 3) ([14, 1, 2, 5, 15, 0, 16, 10, 20, 7])) 2) ([2048, 256, 1024, 3072, 129])), ((iadd .i64 1 (dval (dnext (dofN (dnext (dofN (dnext y50000 3) ([14, 1, 2, 5, 15, 0, 16, 10, 20, 7])) 2) ([2048, 256, 1024, 3072, 129])) 3) 4)), ((dof (dnext (dnext (dnext (dofN (dnext (dofN (dnext y50000 3) ([14, 1, 2, 5, 15, 0, 16, 10, 20, 7])) 2) ([2048, 256, 1024, 3072, 129])) 3) 4) 2) ([10, 30, 100, 7])), ((iadd .i64 (dof (dnext (dnext (dnext (dofN (dnext (dofN (dnext y50000 3) ([14, 1, 2, 5, 15, 0, 16, 10, 20, 7])) 2) ([2048, 256, 1024, 3072, 129])) 3) 4) 2) ([10, 30, 100, 7])) (dof (dnext (dofN (dnext (dnext (dnext (dofN (dnext (dofN (dnext y50000 3) ([14, 1, 2, 5, 15, 0, 16, 10, 20, 7])) 2) ([2048, 256, 1024, 3072, 129])) 3) 4) 2) ([10, 30, 100, 7])) 3) ([20, 1, 200]))), ()))))))]) 48)
                                  (some (.normal, st_make_Policy_0 (isub .i64 x4 1) y2 (y20300 ++ ([((done y50000 3), ((dof (dnext y50000 3) ([14, 1, 2, 5, 15, 0, 16, 10, 20, 7])), ((dof (dnext (dofN (dnext y50000 3) ([14, 1, 2, 5, 15, 0, 16, 10, 20, 7])) 2) ([2048, 256, 1024, 3072, 129])), ((iadd .i64 1 (dval (dnext (dofN (dnext (dofN (dnext y50000 3) ([14, 1, 2, 5, 15, 0, 16, 10, 20, 7])) 2) ([2048, 256, 1024, 3072, 129])) 3) 4)), ((dof (dnext (dnext (dnext (dofN (dnext (dofN (dnext y50000 3) ([14, 1, 2, 5, 15, 0, 16, 10, 20, 7])) 2) ([2048, 256, 1024, 3072, 129])) 3) 4) 2) ([10, 30, 100, 7])), ((iadd .i64 (dof (dnext (dnext (dnext (dofN (dnext (dofN (dnext y50000 3) ([14, 1, 2, 5, 15, 0, 16, 10, 20, 7])) 2) ([2048, 256, 1024, 3072, 129])) 3) 4) 2) ([10, 30, 100, 7])) (dof (dnext (dofN (dnext (dnext (dnext (dofN (dnext (dofN (dnext y50000 3) ([14, 1, 2, 5, 15, 0, 16, 10, 20, 7])) 2) ([2048, 256, 1024, 3072, 129])) 3) 4) 2) ([10, 30, 100, 7])) 3) ([20, 1, 200]))), ()))))))])) y20301 (dofN (dnext (dofN (dnext (dnext (dnext (dofN (dnext (dofN (dnext y50000 3) ([14, 1, 2, 5, 15, 0, 16, 10, 20, 7])) 2) ([2048, 256, 1024, 3072, 129])) 3) 4) 2) ([10, 30, 100, 7])) 3) ([20, 1, 200]))))
                                  (none))
                                (none))
                              (br (cApp y20300 ([((done y50000 3), ((dof (dnext y50000 3) ([14, 1, 2, 5, 15, 0, 16, 10, 20, 7])), ((dof (dnext (dofN (dnext y50000 3) ([14, 1, 2, 5, 15, 0, 16, 10, 20, 7])) 2) ([2048, 256, 1024, 3072, 129])), ((iadd .i64 1 (dval (dnext (dofN (dnext (dofN (dnext y50000 3) ([14, 1, 2, 5, 15, 0, 16, 10, 20, 7])) 2) ([2048, 256, 1024, 3072, 129])) 3) 4)), ((dof (dnext (dnext (dnext (dofN (dnext (dofN (dnext y50000 3) ([14, 1, 2, 5, 15, 0, 16, 10, 20, 7])) 2) ([2048, 256, 1024, 3072, 129])) 3) 4) 2) ([10, 30, 100, 7])), (40001, ()))))))]) 48)
                                (some (.normal, st_make_Policy_0 (isub .i64 x4 1) y2 (y20300 ++ ([((done y50000 3), ((dof (dnext y50000 3) ([14, 1, 2, 5, 15, 0, 16, 10, 20, 7])), ((dof (dnext (dofN (dnext y50000 3) ([14, 1, 2, 5, 15, 0, 16, 10, 20, 7])) 2) ([2048, 256, 1024, 3072, 129])), ((iadd .i64 1 (dval (dnext (dofN (dnext (dofN (dnext y50000 3) ([14, 1, 2, 5, 15, 0, 16, 10, 20, 7])) 2) ([2048, 256, 1024, 3072, 129])) 3) 4)), ((dof (dnext (dnext (dnext (dofN (dnext (dofN (dnext y50000 3) ([14, 1, 2, 5, 15, 0, 16, 10, 20, 7])) 2) ([2048, 256, 1024, 3072, 129])) 3) 4) 2) ([10, 30, 100, 7])), (40001, ()))))))])) y20301 (dnext (dofN (dnext (dnext (dnext (dofN (dnext (dofN (dnext y50000 3) ([14, 1, 2, 5, 15, 0, 16, 10, 20, 7])) 2) ([2048, 256, 1024, 3072, 129])) 3) 4) 2) ([10, 30, 100, 7])) 3)))
                                (none)))
                            (none))
                          (none))
                        (br ((oneOk (dnext (dnext (dnext (dofN (dnext (dofN (dnext y50000 3) ([14, 1, 2, 5, 15, 0, 16, 10, 20, 7])) 2) ([2048, 256, 1024, 3072, 129])) 3) 4) 2) 3))
                          (br ((done (dnext (dnext (dnext (dofN (dnext (dofN (dnext y50000 3) ([14, 1, 2, 5, 15, 0, 16, 10, 20, 7])) 2) ([2048, 256, 1024, 3072, 129])) 3) 4) 2) 3))
                            (br ((ofOk (dnext (dnext (dnext (dnext (dofN (dnext (dofN (dnext y50000 3) ([14, 1, 2, 5, 15, 0, 16, 10, 20, 7])) 2) ([2048, 256, 1024, 3072, 129])) 3) 4) 2) 3) ([20, 1, 200])))
                              (br (cApp y20300 ([((done y50000 3), ((dof (dnext y50000 3) ([14, 1, 2, 5, 15, 0, 16, 10, 20, 7])), ((dof (dnext (dofN (dnext y50000 3) ([14, 1, 2, 5, 15, 0, 16, 10, 20, 7])) 2) ([2048, 256, 1024, 3072, 129])), ((iadd .i64 1 (dval (dnext (dofN (dnext (dofN (dnext y50000 3) ([14, 1, 2, 5, 15, 0, 16, 10, 20, 7])) 2) ([2048, 256, 1024, 3072, 129])) 3) 4)), (0, ((iadd .i64 0 (dof (dnext (dnext (dnext (dnext (dofN (dnext (dofN (dnext y50000 3) ([14, 1, 2, 5, 15, 0, 16, 10, 20, 7])) 2) ([2048, 256, 1024, 3072, 129])) 3) 4) 2) 3) ([20, 1, 200]))), ()))))))]) 48)
                                (some (.normal, st_make_Policy_0 (isub .i64 x4 1) y2 (y20300 ++ ([((done y50000 3), ((dof (dnext y50000 3) ([14, 1, 2, 5, 15, 0, 16, 10, 20, 7])), ((dof (dnext (dofN (dnext y50000 3) ([14, 1, 2, 5, 15, 0, 16, 10, 20, 7])) 2) ([2048, 256, 1024, 3072, 129])), ((iadd .i64 1 (dval (dnext (dofN (dnext (dofN (dnext y50000 3) ([14, 1, 2, 5, 15, 0, 16, 10, 20, 7])) 2) ([2048, 256, 1024, 3072, 129])) 3) 4)), (0, ((iadd .i64 0 (dof (dnext (dnext (dnext (dnext (dofN (dnext (dofN (dnext y50000 3) ([14, 1, 2, 5, 15, 0, 16, 10, 20, 7])) 2) ([2048, 256, 1024, 3072, 129])) 3) 4) 2) 3) ([20, 1, 200]))), ()))))))])) y20301 (dofN (dnext (dnext (dnext (dnext (dofN (dnext (dofN (dnext y50000 3) ([14, 1, 2, 5, 15, 0, 16, 10, 20, 7])) 2) ([2048, 256, 1024, 3072, 129])) 3) 4) 2) 3) ([20, 1, 200]))))
                                (none))
                              (none))
                            (br (cApp y20300 ([((done y50000 3), ((dof (dnext y50000 3) ([14, 1, 2, 5, 15, 0, 16, 10, 20, 7])), ((dof (dnext (dofN (dnext y50000 3) ([14, 1, 2, 5, 15, 0, 16, 10, 20, 7])) 2) ([2048, 256, 1024, 3072, 129])), ((iadd .i64 1 (dval (dnext (dofN (dnext (dofN (dnext y50000 3) ([14, 1, 2, 5, 15, 0, 16, 10, 20, 7])) 2) ([2048, 256, 1024, 3072, 129])) 3) 4)), (0, (40001, ()))))))]) 48)
                              (some (.normal, st_make_Policy_0 (isub .i64 x4 1) y2 (y20300 ++ ([((done y50000 3), ((dof (dnext y50000 3) ([14, 1, 2, 5, 15, 0, 16, 10, 20, 7])), ((dof (dnext (dofN (dnext y50000 3) ([14, 1, 2, 5, 15, 0, 16, 10, 20, 7])) 2) ([2048, 256, 1024, 3072, 129])), ((iadd .i64 1 (dval (dnext (dofN (dnext (dofN (dnext y50000 3) ([14, 1, 2, 5, 15, 0, 16, 10, 20, 7])) 2) ([2048, 256, 1024, 3072, 129])) 3) 4)), (0, (40001, ()))))))])) y20301 (dnext (dnext (dnext (dnext (dofN (dnext (dofN (dnext y50000 3) ([14, 1, 2, 5, 15, 0, 16, 10, 20, 7])) 2) ([2048, 256, 1024, 3072, 129])) 3) 4) 2) 3)))
                              (none)))
                          (none)))
                      (none))
                    (none))
                  (br ((oneOk (dnext (dofN (dnext (dofN (dnext y50000 3) ([14, 1, 2, 5, 15, 0, 16, 10, 20, 7])) 2) ([2048, 256, 1024, 3072, 129])) 3) 2))
                    (br ((done (dnext (dofN (dnext (dofN (dnext y50000 3) ([14, 1, 2, 5, 15, 0, 16, 10, 20, 7])) 2) ([2048, 256, 1024, 3072, 129])) 3) 2))
                      (br ((ofOk (dnext (dnext (dofN (dnext (dofN (dnext y50000 3) ([14, 1, 2, 5, 15, 0, 16, 10, 20, 7])) 2) ([2048, 256, 1024, 3072, 129])) 3) 2) ([10, 30, 100, 7])))
                        (br ((oneOk (dofN (dnext (dnext (dofN (dnext (dofN (dnext y50000 3) ([14, 1, 2, 5, 15, 0, 16, 10, 20, 7])) 2) ([2048, 256, 1024, 3072, 129])) 3) 2) ([10, 30, 100, 7])) 3))
                          (br ((done (dofN (dnext (dnext (dofN (dnext (dofN (dnext y50000 3) ([14, 1, 2, 5, 15, 0, 16, 10, 20, 7])) 2) ([2048, 256, 1024, 3072, 129])) 3) 2) ([10, 30, 100, 7])) 3))
                            (br ((ofOk (dnext (dofN (dnext (dnext (dofN (dnext (dofN (dnext y50000 3) ([14, 1, 2, 5, 15, 0, 16, 10, 20, 7])) 2) ([2048, 256, 1024, 3072, 129])) 3) 2) ([10, 30, 100, 7])) 3) ([20, 1, 200])))
                              (br (cApp y20300 ([((done y50000 3), ((dof (dnext y50000 3) ([14, 1, 2, 5, 15, 0, 16, 10, 20, 7])), ((dof (dnext (dofN (dnext y50000 3) ([14, 1, 2, 5, 15, 0, 16, 10, 20, 7])) 2) ([2048, 256, 1024, 3072, 129])), (0, ((dof (dnext (dnext (dofN (dnext (dofN (dnext y50000 3) ([14, 1, 2, 5, 15, 0, 16, 10, 20, 7])) 2) ([2048, 256, 1024, 3072, 129])) 3) 2) ([10, 30, 100, 7])), ((iadd .i64 (dof (dnext (dnext (dofN (dnext (dofN (dnext y50000 3) ([14, 1, 2, 5, 15, 0, 16, 10, 20, 7])) 2) ([2048, 256, 1024, 3072, 129])) 3) 2) ([10, 30, 100, 7])) (dof (dnext (dofN (dnext (dnext (dofN (dnext (dofN (dnext y50000 3) ([14, 1, 2, 5, 15, 0, 16, 10, 20, 7])) 2) ([2048, 256, 1024, 3072, 129])) 3) 2) ([10, 30, 100, 7])) 3) ([20, 1, 200]))), ()))))))]) 48)
                                (some (.normal, st_make_Policy_0 (isub .i64 x4 1) y2 (y20300 ++ ([((done y50000 3), ((dof (dnext y50000 3) ([14, 1, 2, 5, 15, 0, 16, 10, 20, 7])), ((dof (dnext (dofN (dnext y50000 3) ([14, 1, 2, 5, 15, 0, 16, 10, 20, 7])) 2) ([2048, 256, 1024, 3072, 129])), (0, ((dof (dnext (dnext (dofN (dnext (dofN (dnext y50000 3) ([14, 1, 2, 5, 15, 0, 16, 10, 20, 7])) 2) ([2048, 256, 1024, 3072, 129])) 3) 2) ([10, 30, 100, 7])), ((iadd .i64 (dof (dnext (dnext (dofN (dnext (dofN (dnext y50000 3) ([14, 1, 2, 5, 15, 0, 16, 10, 20, 7])) 2) ([2048, 256, 1024, 3072, 129])) 3) 2) ([10, 30, 100, 7])) (dof (dnext (dofN (dnext (dnext (dofN (dnext (dofN (dnext y50000 3) ([14, 1, 2, 5, 15, 0, 16, 10, 20, 7])) 2) ([2048, 256, 1024, 3072, 129])) 3) 2) ([10, 30, 100, 7])) 3) ([20, 1, 200]))), ()))))))])) y20301 (dofN (dnext (dofN (dnext (dnext (dofN (dnext (dofN (dnext y50000 3) ([14, 1, 2, 5, 15, 0, 16, 10, 20, 7])) 2) ([2048, 256, 1024, 3072, 129])) 3) 2) ([10, 30, 100, 7])) 3) ([20, 1, 200]))))
                                (none))
                              (none))
                            (br (cApp y20300 ([((done y50000 3), ((dof (dnext y50000 3) ([14, 1, 2, 5, 15, 0, 16, 10, 20, 7])), ((dof (dnext (dofN (dnext y50000 3) ([14, 1, 2, 5, 15, 0, 16, 10, 20, 7])) 2) ([2048, 256, 1024, 3072, 129])), (0, ((dof (dnext (dnext (dofN (dnext (dofN (dnext y50000 3) ([14, 1, 2, 5, 15, 0, 16, 10, 20, 7])) 2) ([2048, 256, 1024, 3072, 129])) 3) 2) ([10, 30, 100, 7])), (40001, ()))))))]) 48)
                              (some (.normal, st_make_Policy_0 (isub .i64 x4 1) y2 (y20300 ++ ([((done y50000 3), ((dof (dnext y50000 3) ([14, 1, 2, 5, 15, 0, 16, 10, 20, 7])), ((dof (dnext (dofN (dnext y50000 3) ([14, 1, 2, 5, 15, 0, 16, 10, 20, 7])) 2) ([2048, 256, 1024, 3072, 129])), (0, ((dof (dnext (dnext (dofN (dnext (dofN (dnext y50000 3) ([14, 1, 2, 5, 15, 0, 16, 10, 20, 7])) 2) ([2048, 256, 1024, 3072, 129])) 3) 2) ([10, 30, 100, 7])), (40001, ()))))))])) y20301 (dnext (dofN (dnext (dnext (dofN (dnext (dofN (dnext y50000 3) ([14, 1, 2, 5, 15, 0, 16, 10, 20, 7])) 2) ([2048, 256, 1024, 3072, 129])) 3) 2) ([10, 30, 100, 7])) 3)))
                              (none)))
                          (none))
                        (none))
                      (br ((oneOk (dnext (dnext (dofN (dnext (dofN (dnext y50000 3) ([14, 1, 2, 5, 15, 0, 16, 10, 20, 7])) 2) ([2048, 256, 1024, 3072, 129])) 3) 2) 3))
                        (br ((done (dnext (dnext (dofN (dnext (dofN (dnext y50000 3) ([14, 1, 2, 5, 15, 0, 16, 10, 20, 7])) 2) ([2048, 256, 1024, 3072, 129])) 3) 2) 3))
                          (br ((ofOk (dnext (dnext (dnext (dofN (dnext (dofN (dnext y50000 3) ([14, 1, 2, 5, 15, 0, 16, 10, 20, 7])) 2) ([2048, 256, 1024, 3072, 129])) 3) 2) 3) ([20, 1, 200])))
                            (br (cApp y20300 ([((done y50000 3), ((dof (dnext y50000 3) ([14, 1, 2, 5, 15, 0, 16, 10, 20, 7])), ((dof (dnext (dofN (dnext y50000 3) ([14, 1, 2, 5, 15, 0, 16, 10, 20, 7])) 2) ([2048, 256, 1024, 3072, 129])), (0, (0, ((iadd .i64 0 (dof (dnext (dnext (dnext (dofN (dnext (dofN (dnext y50000 3) ([14, 1, 2, 5, 15, 0, 16, 10, 20, 7])) 2) ([2048, 256, 1024, 3072, 129])) 3) 2) 3) ([20, 1, 200]))), ()))))))]) 48)
                              (some (.normal, st_make_Policy_0 (isub .i64 x4 1) y2 (y20300 ++ ([((done y50000 3), ((dof (dnext y50000 3) ([14, 1, 2, 5, 15, 0, 16, 10, 20, 7])), ((dof (dnext (dofN (dnext y50000 3) ([14, 1, 2, 5, 15, 0, 16, 10, 20, 7])) 2) ([2048, 256, 1024, 3072, 129])), (0, (0, ((iadd .i64 0 (dof (dnext (dnext (dnext (dofN (dnext (dofN (dnext y50000 3) ([14, 1, 2, 5, 15, 0, 16, 10, 20, 7])) 2) ([2048, 256, 1024, 3072, 129])) 3) 2) 3) ([20, 1, 200]))), ()))))))])) y20301 (dofN (dnext (dnext (dnext (dofN (dnext (dofN (dnext y50000 3) ([14, 1, 2, 5, 15, 0, 16, 10, 20, 7])) 2) ([2048, 256, 1024, 3072, 129])) 3) 2) 3) ([20, 1, 200]))))
                              (none))
                            (none))
                          (br (cApp y20300 ([((done y50000 3), ((dof (dnext y50000 3) ([14, 1, 2, 5, 15, 0, 16, 10, 20, 7])), ((dof (dnext (dofN (dnext y50000 3) ([14, 1, 2, 5, 15, 0, 16, 10, 20, 7])) 2) ([2048, 256, 1024, 3072, 129])), (0, (0, (40001, ()))))))]) 48)
                            (some (.normal, st_make_Policy_0 (isub .i64 x4 1) y2 (y20300 ++ ([((done y50000 3), ((dof (dnext y50000 3) ([14, 1, 2, 5, 15, 0, 16, 10, 20, 7])), ((dof (dnext (dofN (dnext y50000 3) ([14, 1, 2, 5, 15, 0, 16, 10, 20, 7])) 2) ([2048, 256, 1024, 3072, 129])), (0, (0, (40001, ()))))))])) y20301 (dnext (dnext (dnext (dofN (dnext (dofN (dnext y50000 3) ([14, 1, 2, 5, 15, 0, 16, 10, 20, 7])) 2) ([2048, 256, 1024, 3072, 129])) 3) 2) 3)))
                            (none)))
                        (none)))
                    (none)))
                (none))
              (none))
            (br ((oneOk (dnext (dofN (dnext y50000 3) ([14, 1, 2, 5, 15, 0, 16, 10, 20, 7])) 2) 3))
              (br ((done (dnext (dofN (dnext y50000 3) ([14, 1, 2, 5, 15, 0, 16, 10, 20, 7])) 2) 3))
                (br ((nextOk (dnext (dnext (dofN (dnext y50000 3) ([14, 1, 2, 5, 15, 0, 16, 10, 20, 7])) 2) 3) 4))
                  (br ((oneOk (dnext (dnext (dnext (dofN (dnext y50000 3) ([14, 1, 2, 5, 15, 0, 16, 10, 20, 7])) 2) 3) 4) 2))
                    (br ((done (dnext (dnext (dnext (dofN (dnext y50000 3) ([14, 1, 2, 5, 15, 0, 16, 10, 20, 7])) 2) 3) 4) 2))
                      (br ((ofOk (dnext (dnext (dnext (dnext (dofN (dnext y50000 3) ([14, 1, 2, 5, 15, 0, 16, 10, 20, 7])) 2) 3) 4) 2) ([10, 30, 100, 7])))
                        (br ((oneOk (dofN (dnext (dnext (dnext (dnext (dofN (dnext y50000 3) ([14, 1, 2, 5, 15, 0, 16, 10, 20, 7])) 2) 3) 4) 2) ([10, 30, 100, 7])) 3))
                          (br ((done (dofN (dnext (dnext (dnext (dnext (dofN (dnext y50000 3) ([14, 1, 2, 5, 15, 0, 16, 10, 20, 7])) 2) 3) 4) 2) ([10, 30, 100, 7])) 3))
                            (br ((ofOk (dnext (dofN (dnext (dnext (dnext (dnext (dofN (dnext y50000 3) ([14, 1, 2, 5, 15, 0, 16, 10, 20, 7])) 2) 3) 4) 2) ([10, 30, 100, 7])) 3) ([20, 1, 200])))
                              (br (cApp y20300 ([((done y50000 3), ((dof (dnext y50000 3) ([14, 1, 2, 5, 15, 0, 16, 10, 20, 7])), (0, ((iadd .i64 1 (dval (dnext (dnext (dofN (dnext y50000 3) ([14, 1, 2, 5, 15, 0, 16, 10, 20, 7])) 2) 3) 4)), ((dof (dnext (dnext (dnext (dnext (dofN (dnext y50000 3) ([14, 1, 2, 5, 15, 0, 16, 10, 20, 7])) 2) 3) 4) 2) ([10, 30, 100, 7])), ((iadd .i64 (dof (dnext (dnext (dnext (dnext (dofN (dnext y50000 3) ([14, 1, 2, 5, 15, 0, 16, 10, 20, 7])) 2) 3) 4) 2) ([10, 30, 100, 7])) (dof (dnext (dofN (dnext (dnext (dnext (dnext (dofN (dnext y50000 3) ([14, 1, 2, 5, 15, 0, 16, 10, 20, 7])) 2) 3) 4) 2) ([10, 30, 100, 7])) 3) ([20, 1, 200]))), ()))))))]) 48)
                                (some (.normal, st_make_Policy_0 (isub .i64 x4 1) y2 (y20300 ++ ([((done y50000 3), ((dof (dnext y50000 3) ([14, 1, 2, 5, 15, 0, 16, 10, 20, 7])), (0, ((iadd .i64 1 (dval (dnext (dnext (dofN (dnext y50000 3) ([14, 1, 2, 5, 15, 0, 16, 10, 20, 7])) 2) 3) 4)), ((dof (dnext (dnext (dnext (dnext (dofN (dnext y50000 3) ([14, 1, 2, 5, 15, 0, 16, 10, 20, 7])) 2) 3) 4) 2) ([10, 30, 100, 7])), ((iadd .i64 (dof (dnext (dnext (dnext (dnext (dofN (dnext y50000 3) ([14, 1, 2, 5, 15, 0, 16, 10, 20, 7])) 2) 3) 4) 2) ([10, 30, 100, 7])) (dof (dnext (dofN (dnext (dnext (dnext (dnext (dofN (dnext y50000 3) ([14, 1, 2, 5, 15, 0, 16, 10, 20, 7])) 2) 3) 4) 2) ([10, 30, 100, 7])) 3) ([20, 1, 200]))), ()))))))])) y20301 (dofN (dnext (dofN (dnext (dnext (dnext (dnext (dofN (dnext y50000 3) ([14, 1, 2, 5, 15, 0, 16, 10, 20, 7])) 2) 3) 4) 2) ([10, 30, 100, 7])) 3) ([20, 1, 200]))))
                                (none))
                              (none))
                            (br (cApp y20300 ([((done y50000 3), ((dof (dnext y50000 3) ([14, 1, 2, 5, 15, 0, 16, 10, 20, 7])), (0, ((iadd .i64 1 (dval (dnext (dnext (dofN (dnext y50000 3) ([14, 1, 2, 5, 15, 0, 16, 10, 20, 7])) 2) 3) 4)), ((dof (dnext (dnext (dnext (dnext (dofN (dnext y50000 3) ([14, 1, 2, 5, 15, 0, 16, 10, 20, 7])) 2) 3) 4) 2) ([10, 30, 100, 7])), (40001, ()))))))]) 48)
                              (some (.normal, st_make_Policy_0 (isub .i64 x4 1) y2 (y20300 ++ ([((done y50000 3), ((dof (dnext y50000 3) ([14, 1, 2, 5, 15, 0, 16, 10, 20, 7])), (0, ((iadd .i64 1 (dval (dnext (dnext (dofN (dnext y50000 3) ([14, 1, 2, 5, 15, 0, 16, 10, 20, 7])) 2) 3) 4)), ((dof (dnext (dnext (dnext (dnext (dofN (dnext y50000 3) ([14, 1, 2, 5, 15, 0, 16, 10, 20, 7])) 2) 3) 4) 2) ([10, 30, 100, 7])), (40001, ()))))))])) y20301 (dnext (dofN (dnext (dnext (dnext (dnext (dofN (dnext y50000 3) ([14, 1, 2, 5, 15, 0, 16, 10, 20, 7])) 2) 3) 4) 2) ([10, 30, 100, 7])) 3)))
                              (none)))
                          (none))
                        (none))
                      (br ((oneOk (dnext (dnext (dnext (dnext (dofN (dnext y50000 3) ([14, 1, 2, 5, 15, 0, 16, 10, 20, 7])) 2) 3) 4) 2) 3))
                        (br ((done (dnext (dnext (dnext (dnext (dofN (dnext y50000 3) ([14, 1, 2, 5, 15, 0, 16, 10, 20, 7])) 2) 3) 4) 2) 3))
                          (br ((ofOk (dnext (dnext (dnext (dnext (dnext (dofN (dnext y50000 3) ([14, 1, 2, 5, 15, 0, 16, 10, 20, 7])) 2) 3) 4) 2) 3) ([20, 1, 200])))
                            (br (cApp y20300 ([((done y50000 3), ((dof (dnext y50000 3) ([14, 1, 2, 5, 15, 0, 16, 10, 20, 7])), (0, ((iadd .i64 1 (dval (dnext (dnext (dofN (dnext y50000 3) ([14, 1, 2, 5, 15, 0, 16, 10, 20, 7])) 2) 3) 4)), (0, ((iadd .i64 0 (dof (dnext (dnext (dnext (dnext (dnext (dofN (dnext y50000 3) ([14, 1, 2, 5, 15, 0, 16, 10, 20, 7])) 2) 3) 4) 2) 3) ([20, 1, 200]))), ()))))))]) 48)
                              (some (.normal, st_make_Policy_0 (isub .i64 x4 1) y2 (y20300 ++ ([((done y50000 3), ((dof (dnext y50000 3) ([14, 1, 2, 5, 15, 0, 16, 10, 20, 7])), (0, ((iadd .i64 1 (dval (dnext (dnext (dofN (dnext y50000 3) ([14, 1, 2, 5, 15, 0, 16, 10, 20, 7])) 2) 3) 4)), (0, ((iadd .i64 0 (dof (dnext (dnext (dnext (dnext (dnext (dofN (dnext y50000 3) ([14, 1, 2, 5, 15, 0, 16, 10, 20, 7])) 2) 3) 4) 2) 3) ([20, 1, 200]))), ()))))))])) y20301 (dofN (dnext (dnext (dnext (dnext (dnext (dofN (dnext y50000 3) ([14, 1, 2, 5, 15, 0, 16, 10, 20, 7])) 2) 3) 4) 2) 3) ([20, 1, 200]))))
                              (none))
                            (none))
                          (br (cApp y20300 ([((done y50000 3), ((dof (dnext y50000 3) ([14, 1, 2, 5, 15, 0, 16, 10, 20, 7])), (0, ((iadd .i64 1 (dval (dnext (dnext (dofN (dnext y50000 3) ([14, 1, 2, 5, 15, 0, 16, 10, 20, 7])) 2) 3) 4)), (0, (40001, ()))))))]) 48)
                            (some (.normal, st_make_Policy_0 (isub .i64 x4 1) y2 (y20300 ++ ([((done y50000 3), ((dof (dnext y50000 3) ([14, 1, 2, 5, 15, 0, 16, 10, 20, 7])), (0, ((iadd .i64 1 (dval (dnext (dnext (dofN (dnext y50000 3) ([14, 1, 2, 5, 15, 0, 16, 10, 20, 7])) 2) 3) 4)), (0, (40001, ()))))))])) y20301 (dnext (dnext (dnext (dnext (dnext (dofN (dnext y50000 3) ([14, 1, 2, 5, 15, 0, 16, 10, 20, 7])) 2) 3) 4) 2) 3)))
                            (none)))
                        (none)))
                    (none))
                  (none))
                (br ((oneOk (dnext (dnext (dofN (dnext y50000 3) ([14, 1, 2, 5, 15, 0, 16, 10, 20, 7])) 2) 3) 2))
                  (br ((done (dnext (dnext (dofN (dnext y50000 3) ([14, 1, 2, 5, 15, 0, 16, 10, 20, 7])) 2) 3) 2))
                    (br ((ofOk (dnext (dnext (dnext (dofN (dnext y50000 3) ([14, 1, 2, 5, 15, 0, 16, 10, 20, 7])) 2) 3) 2) ([10, 30, 100, 7])))
                      (br ((oneOk (dofN (dnext (dnext (dnext (dofN (dnext y50000 3) ([14, 1, 2, 5, 15, 0, 16, 10, 20, 7])) 2) 3) 2) ([10, 30, 100, 7])) 3))
                        (br ((done (dofN (dnext (dnext (dnext (dofN (dnext y50000 3) ([14, 1, 2, 5, 15, 0, 16, 10, 20, 7])) 2) 3) 2) ([10, 30, 100, 7])) 3))
                          (br ((ofOk (dnext (dofN (dnext (dnext (dnext (dofN (dnext y50000 3) ([14, 1, 2, 5, 15, 0, 16, 10, 20, 7])) 2) 3) 2) ([10, 30, 100, 7])) 3) ([20, 1, 200])))
                            (br (cApp y20300 ([((done y50000 3), ((dof (dnext y50000 3) ([14, 1, 2, 5, 15, 0, 16, 10, 20, 7])), (0, (0, ((dof (dnext (dnext (dnext (dofN (dnext y50000 3) ([14, 1, 2, 5, 15, 0, 16, 10, 20, 7])) 2) 3) 2) ([10, 30, 100, 7])), ((iadd .i64 (dof (dnext (dnext (dnext (dofN (dnext y50000 3) ([14, 1, 2, 5, 15, 0, 16, 10, 20, 7])) 2) 3) 2) ([10, 30, 100, 7])) (dof (dnext (dofN (dnext (dnext (dnext (dofN (dnext y50000 3) ([14, 1, 2, 5, 15, 0, 16, 10, 20, 7])) 2) 3) 2) ([10, 30, 100, 7])) 3) ([20, 1, 200]))), ()))))))]) 48)
                              (some (.normal, st_make_Policy_0 (isub .i64 x4 1) y2 (y20300 ++ ([((done y50000 3), ((dof (dnext y50000 3) ([14, 1, 2, 5, 15, 0, 16, 10, 20, 7])), (0, (0, ((dof (dnext (dnext (dnext (dofN (dnext y50000 3) ([14, 1, 2, 5, 15, 0, 16, 10, 20, 7])) 2) 3) 2) ([10, 30, 100, 7])), ((iadd .i64 (dof (dnext (dnext (dnext (dofN (dnext y50000 3) ([14, 1, 2, 5, 15, 0, 16, 10, 20, 7])) 2) 3) 2) ([10, 30, 100, 7])) (dof (dnext (dofN (dnext (dnext (dnext (dofN (dnext y50000 3) ([14, 1, 2, 5, 15, 0, 16, 10, 20, 7])) 2) 3) 2) ([10, 30, 100, 7])) 3) ([20, 1, 200]))), ()))))))])) y20301 (dofN (dnext (dofN (dnext (dnext (dnext (dofN (dnext y50000 3) ([14, 1, 2, 5, 15, 0, 16, 10, 20, 7])) 2) 3) 2) ([10, 30, 100, 7])) 3) ([20, 1, 200]))))
                              (none))
                            (none))
                          (br (cApp y20300 ([((done y50000 3), ((dof (dnext y50000 3) ([14, 1, 2, 5, 15, 0, 16, 10, 20, 7])), (0, (0, ((dof (dnext (dnext (dnext (dofN (dnext y50000 3) ([14, 1, 2, 5, 15, 0, 16, 10, 20, 7])) 2) 3) 2) ([10, 30, 100, 7])), (40001, ()))))))]) 48)
                            (some (.normal, st_make_Policy_0 (isub .i64 x4 1) y2 (y20300 ++ ([((done y50000 3), ((dof (dnext y50000 3) ([14, 1, 2, 5, 15, 0, 16, 10, 20, 7])), (0, (0, ((dof (dnext (dnext (dnext (dofN (dnext y50000 3) ([14, 1, 2, 5, 15, 0, 16, 10, 20, 7])) 2) 3) 2) ([10, 30, 100, 7])), (40001, ()))))))])) y20301 (dnext (dofN (dnext (dnext (dnext (dofN (dnext y50000 3) ([14, 1, 2, 5, 15, 0, 16, 10, 20, 7])) 2) 3) 2) ([10, 30, 100, 7])) 3)))
                            (none)))
                        (none))
                      (none))
                    (br ((oneOk (dnext (dnext (dnext (dofN (dnext y50000 3) ([14, 1, 2, 5, 15, 0, 16, 10, 20, 7])) 2) 3) 2) 3))
                      (br ((done (dnext (dnext (dnext (dofN (dnext y50000 3) ([14, 1, 2, 5, 15, 0, 16, 10, 20, 7])) 2) 3) 2) 3))
                        (br ((ofOk (dnext (dnext (dnext (dnext (dofN (dnext y50000 3) ([14, 1, 2, 5, 15, 0, 16, 10, 20, 7])) 2) 3) 2) 3) ([20, 1, 200])))
                          (br (cApp y20300 ([((done y50000 3), ((dof (dnext y50000 3) ([14, 1, 2, 5, 15, 0, 16, 10, 20, 7])), (0, (0, (0, ((iadd .i64 0 (dof (dnext (dnext (dnext (dnext (dofN (dnext y50000 3) ([14, 1, 2, 5, 15, 0, 16, 10, 20, 7])) 2) 3) 2) 3) ([20, 1, 200]))), ()))))))]) 48)
                            (some (.normal, st_make_Policy_0 (isub .i64 x4 1) y2 (y20300 ++ ([((done y50000 3), ((dof (dnext y50000 3) ([14, 1, 2, 5, 15, 0, 16, 10, 20, 7])), (0, (0, (0, ((iadd .i64 0 (dof (dnext (dnext (dnext (dnext (dofN (dnext y50000 3) ([14, 1, 2, 5, 15, 0, 16, 10, 20, 7])) 2) 3) 2) 3) ([20, 1, 200]))), ()))))))])) y20301 (dofN (dnext (dnext (dnext (dnext (dofN (dnext y50000 3) ([14, 1, 2, 5, 15, 0, 16, 10, 20, 7])) 2) 3) 2) 3) ([20, 1, 200]))))
                            (none))
                          (none))
                        (br (cApp y20300 ([((done y50000 3), ((dof (dnext y50000 3) ([14, 1, 2, 5, 15, 0, 16, 10, 20, 7])), (0, (0, (0, (40001, ()))))))]) 48)
                          (some (.normal, st_make_Policy_0 (isub .i64 x4 1) y2 (y20300 ++ ([((done y50000 3), ((dof (dnext y50000 3) ([14, 1, 2, 5, 15, 0, 16, 10, 20, 7])), (0, (0, (0, (40001, ()))))))])) y20301 (dnext (dnext (dnext (dnext (dofN (dnext y50000 3) ([14, 1, 2, 5, 15, 0, 16, 10, 20, 7])) 2) 3) 2) 3)))
                          (none)))
                      (none)))
                  (none)))
              (none)))
          (none))
        (none))
      (none))
    (some (.exit 0, st_make_Policy_0_e0 y2 y20300 y20301 y50000))
noncomputable def lp_make_Policy_0 (x4 : Int) (y2 : Policy) (y20300 : (List Rule)) (y20301 : (List Keep)) (y50000 : Dice) : Option (Exit × VS) := loopF (roundF g_make_Policy fg_make_Policy_0 tb_make_Policy_0) (st_make_Policy_0 x4 y2 y20300 y20301 y50000)
noncomputable def n_make_Policy_0 (x4 : Int) (y2 : Policy) (y20300 : (List Rule)) (y20301 : (List Keep)) (y50000 : Dice) : Option (Exit × VS) :=
  br ((igt x4 0))
    (br ((oneOk y50000 3))
      (br ((ofOk (dnext y50000 3) ([14, 1, 2, 5, 15, 0, 16, 10, 20, 7])))
        (br ((oneOk (dofN (dnext y50000 3) ([14, 1, 2, 5, 15, 0, 16, 10, 20, 7])) 2))
          (br ((done (dofN (dnext y50000 3) ([14, 1, 2, 5, 15, 0, 16, 10, 20, 7])) 2))
            (br ((ofOk (dnext (dofN (dnext y50000 3) ([14, 1, 2, 5, 15, 0, 16, 10, 20, 7])) 2) ([2048, 256, 1024, 3072, 129])))
              (br ((oneOk (dofN (dnext (dofN (dnext y50000 3) ([14, 1, 2, 5, 15, 0, 16, 10, 20, 7])) 2) ([2048, 256, 1024, 3072, 129])) 3))
                (br ((done (dofN (dnext (dofN (dnext y50000 3) ([14, 1, 2, 5, 15, 0, 16, 10, 20, 7])) 2) ([2048, 256, 1024, 3072, 129])) 3))
                  (br ((nextOk (dnext (dofN (dnext (dofN (dnext y50000 3) ([14, 1, 2, 5, 15, 0, 16, 10, 20, 7])) 2) ([2048, 256, 1024, 3072, 129])) 3) 4))
                    (br ((oneOk (dnext (dnext (dofN (dnext (dofN (dnext y50000 3) ([14, 1, 2, 5, 15, 0, 16, 10, 20, 7])) 2) ([2048, 256, 1024, 3072, 129])) 3) 4) 2))
                      (br ((done (dnext (dnext (dofN (dnext (dofN (dnext y50000 3) ([14, 1, 2, 5, 15, 0, 16, 10, 20, 7])) 2) ([2048, 256, 1024, 3072, 129])) 3) 4) 2))
                        (br ((ofOk (dnext (dnext (dnext (dofN (dnext (dofN (dnext y50000 3) ([14, 1, 2, 5, 15, 0, 16, 10, 20, 7])) 2) ([2048, 256, 1024, 3072, 129])) 3) 4) 2) ([10, 30, 100, 7])))
                          (br ((oneOk (dofN (dnext (dnext (dnext (dofN (dnext (dofN (dnext y50000 3) ([14, 1, 2, 5, 15, 0, 16, 10, 20, 7])) 2) ([2048, 256, 1024, 3072, 129])) 3) 4) 2) ([10, 30, 100, 7])) 3))
                            (br ((done (dofN (dnext (dnext (dnext (dofN (dnext (dofN (dnext y50000 3) ([14, 1, 2, 5, 15, 0, 16, 10, 20, 7])) 2) ([2048, 256, 1024, 3072, 129])) 3) 4) 2) ([10, 30, 100, 7])) 3))
                              (br ((ofOk (dnext (dofN (dnext (dnext (dnext (dofN (dnext (dofN (dnext y50000 3) ([14, 1, 2, 5, 15, 0, 16, 10, 20, 7])) 2) ([2048, 256, 1024, 3072, 129])) 3) 4) 2) ([10, 30, 100, 7])) 3) ([20, 1, 200])))
                                (br (cApp y20300 ([((done y50000 3), ((dof (dnext y50000 3) ([14, 1, 2, 5, 15, 0, 16, 10, 20, 7])), ((dof (dnext (dofN (dnext y50000 3) ([14, 1, 2, 5, 15, 0, 16, 10, 20, 7])) 2) ([2048, 256, 1024, 3072, 129])), ((iadd .i64 1 (dval (dnext (dofN (dnext (dofN (dnext y50000 3) ([14, 1, 2, 5, 15, 0, 16, 10, 20, 7])) 2) ([2048, 256, 1024, 3072, 129])) 3) 4)), ((dof (dnext (dnext (dnext (dofN (dnext (dofN (dnext y50000 3) ([14, 1, 2, 5, 15, 0, 16, 10, 20, 7])) 2) ([2048, 256, 1024, 3072, 129])) 3) 4) 2) ([10, 30, 100, 7])), ((iadd .i64 (dof (dnext (dnext (dnext (dofN (dnext (dofN (dnext y50000 3) ([14, 1, 2, 5, 15, 0, 16, 10, 20, 7])) 2) ([2048, 256, 1024, 3072, 129])) 3) 4) 2) ([10, 30, 100, 7])) (dof (dnext (dofN (dnext (dnext (dnext (dofN (dnext (dofN (dnext y50000 3) ([14, 1, 2, 5, 15, 0, 16, 10, 20, 7])) 2) ([2048, 256, 1024, 3072, 129])) 3) 4) 2) ([10, 30, 100, 7])) 3) ([20, 1, 200]))), ()))))))]) 48)
                                  (lp_make_Policy_0 (isub .i64 x4 1) y2 (y20300 ++ ([((done y50000 3), ((dof (dnext y50000 3) ([14, 1, 2, 5, 15, 0, 16, 10, 20, 7])), ((dof (dnext (dofN (dnext y50000 3) ([14, 1, 2, 5, 15, 0, 16, 10, 20, 7])) 2) ([2048, 256, 1024, 3072, 129])), ((iadd .i64 1 (dval (dnext (dofN (dnext (dofN (dnext y50000 3) ([14, 1, 2, 5, 15, 0, 16, 10, 20, 7])) 2) ([2048, 256, 1024, 3072, 129])) 3) 4)), ((dof (dnext (dnext (dnext (dofN (dnext (dofN (dnext y50000 3) ([14, 1, 2, 5, 15, 0, 16, 10, 20, 7])) 2) ([2048, 256, 1024, 3072, 129])) 3) 4) 2) ([10, 30, 100, 7])), ((iadd .i64 (dof (dnext (dnext (dnext (dofN (dnext (dofN (dnext y50000 3) ([14, 1, 2, 5, 15, 0, 16, 10, 20, 7])) 2) ([2048, 256, 1024, 3072, 129])) 3) 4) 2) ([10, 30, 100, 7])) (dof (dnext (dofN (dnext (dnext (dnext (dofN (dnext (dofN (dnext y50000 3) ([14, 1, 2, 5, 15, 0, 16, 10, 20, 7])) 2) ([2048, 256, 1024, 3072, 129])) 3) 4) 2) ([10, 30, 100, 7])) 3) ([20, 1, 200]))), ()))))))])) y20301 (dofN (dnext (dofN (dnext (dnext (dnext (dofN (dnext (dofN (dnext y50000 3) ([14, 1, 2, 5, 15, 0, 16, 10, 20, 7])) 2) ([2048, 256, 1024, 3072, 129])) 3) 4) 2) ([10, 30, 100, 7])) 3) ([20, 1, 200])))
                                  (none))
                                (none))
                              (br (cApp y20300 ([((done y50000 3), ((dof (dnext y50000 3) ([14, 1, 2, 5, 15, 0, 16, 10, 20, 7])), ((dof (dnext (dofN (dnext y50000 3) ([14, 1, 2, 5, 15, 0, 16, 10, 20, 7])) 2) ([2048, 256, 1024, 3072, 129])), ((iadd .i64 1 (dval (dnext (dofN (dnext (dofN (dnext y50000 3) ([14, 1, 2, 5, 15, 0, 16, 10, 20, 7])) 2) ([2048, 256, 1024, 3072, 129])) 3) 4)), ((dof (dnext (dnext (dnext (dofN (dnext (dofN (dnext y50000 3) ([14, 1, 2, 5, 15, 0, 16, 10, 20, 7])) 2) ([2048, 256, 1024, 3072, 129])) 3) 4) 2) ([10, 30, 100, 7])), (40001, ()))))))]) 48)
                                (lp_make_Policy_0 (isub .i64 x4 1) y2 (y20300 ++ ([((done y50000 3), ((dof (dnext y50000 3) ([14, 1, 2, 5, 15, 0, 16, 10, 20, 7])), ((dof (dnext (dofN (dnext y50000 3) ([14, 1, 2, 5, 15, 0, 16, 10, 20, 7])) 2) ([2048, 256, 1024, 3072, 129])), ((iadd .i64 1 (dval (dnext (dofN (dnext (dofN (dnext y50000 3) ([14, 1, 2, 5, 15, 0, 16, 10, 20, 7])) 2) ([2048, 256, 1024, 3072, 129])) 3) 4)), ((dof (dnext (dnext (dnext (dofN (dnext (dofN (dnext y50000 3) ([14, 1, 2, 5, 15, 0, 16, 10, 20, 7])) 2) ([2048, 256, 1024, 3072, 129])) 3) 4) 2) ([10, 30, 100, 7])), (40001, ()))))))])) y20301 (dnext (dofN (dnext (dnext (dnext (dofN (dnext (dofN (dnext y50000 3) ([14, 1, 2, 5, 15, 0, 16, 10, 20, 7])) 2) ([2048, 256, 1024, 3072, 129])) 3) 4) 2) ([10, 30, 100, 7])) 3))
                                (none)))
                            (none))
                          (none))
                        (br ((oneOk (dnext (dnext (dnext (dofN (dnext (dofN (dnext y50000 3) ([14, 1, 2, 5, 15, 0, 16, 10, 20, 7])) 2) ([2048, 256, 1024, 3072, 129])) 3) 4) 2) 3))
                          (br ((done (dnext (dnext (dnext (dofN (dnext (dofN (dnext y50000 3) ([14, 1, 2, 5, 15, 0, 16, 10, 20, 7])) 2) ([2048, 256, 1024, 3072, 129])) 3) 4) 2) 3))
                            (br ((ofOk (dnext (dnext (dnext (dnext (dofN (dnext (dofN (dnext y50000 3) ([14, 1, 2, 5, 15, 0, 16, 10, 20, 7])) 2) ([2048, 256, 1024, 3072, 129])) 3) 4) 2) 3) ([20, 1, 200])))
                              (br (cApp y20300 ([((done y50000 3), ((dof (dnext y50000 3) ([14, 1, 2, 5, 15, 0, 16, 10, 20, 7])), ((dof (dnext (dofN (dnext y50000 3) ([14, 1, 2, 5, 15, 0, 16, 10, 20, 7])) 2) ([2048, 256, 1024, 3072, 129])), ((iadd .i64 1 (dval (dnext (dofN (dnext (dofN (dnext y50000 3) ([14, 1, 2, 5, 15, 0, 16, 10, 20, 7])) 2) ([2048, 256, 1024, 3072, 129])) 3) 4)), (0, ((iadd .i64 0 (dof (dnext (dnext (dnext (dnext (dofN (dnext (dofN (dnext y50000 3) ([14, 1, 2, 5, 15, 0, 16, 10, 20, 7])) 2) ([2048, 256, 1024, 3072, 129])) 3) 4) 2) 3) ([20, 1, 200]))), ()))))))]) 48)
                                (lp_make_Policy_0 (isub .i64 x4 1) y2 (y20300 ++ ([((done y50000 3), ((dof (dnext y50000 3) ([14, 1, 2, 5, 15, 0, 16, 10, 20, 7])), ((dof (dnext (dofN (dnext y50000 3) ([14, 1, 2, 5, 15, 0, 16, 10, 20, 7])) 2) ([2048, 256, 1024, 3072, 129])), ((iadd .i64 1 (dval (dnext (dofN (dnext (dofN (dnext y50000 3) ([14, 1, 2, 5, 15, 0, 16, 10, 20, 7])) 2) ([2048, 256, 1024, 3072, 129])) 3) 4)), (0, ((iadd .i64 0 (dof (dnext (dnext (dnext (dnext (dofN (dnext (dofN (dnext y50000 3) ([14, 1, 2, 5, 15, 0, 16, 10, 20, 7])) 2) ([2048, 256, 1024, 3072, 129])) 3) 4) 2) 3) ([20, 1, 200]))), ()))))))])) y20301 (dofN (dnext (dnext (dnext (dnext (dofN (dnext (dofN (dnext y50000 3) ([14, 1, 2, 5, 15, 0, 16, 10, 20, 7])) 2) ([2048, 256, 1024, 3072, 129])) 3) 4) 2) 3) ([20, 1, 200])))
                                (none))
                              (none))
                            (br (cApp y20300 ([((done y50000 3), ((dof (dnext y50000 3) ([14, 1, 2, 5, 15, 0, 16, 10, 20, 7])), ((dof (dnext (dofN (dnext y50000 3) ([14, 1, 2, 5, 15, 0, 16, 10, 20, 7])) 2) ([2048, 256, 1024, 3072, 129])), ((iadd .i64 1 (dval (dnext (dofN (dnext (dofN (dnext y50000 3) ([14, 1, 2, 5, 15, 0, 16, 10, 20, 7])) 2) ([2048, 256, 1024, 3072, 129])) 3) 4)), (0, (40001, ()))))))]) 48)
                              (lp_make_Policy_0 (isub .i64 x4 1) y2 (y20300 ++ ([((done y50000 3), ((dof (dnext y50000 3) ([14, 1, 2, 5, 15, 0, 16, 10, 20, 7])), ((dof (dnext (dofN (dnext y50000 3) ([14, 1, 2, 5, 15, 0, 16, 10, 20, 7])) 2) ([2048, 256, 1024, 3072, 129])), ((iadd .i64 1 (dval (dnext (dofN (dnext (dofN (dnext y50000 3) ([14, 1, 2, 5, 15, 0, 16, 10, 20, 7])) 2) ([2048, 256, 1024, 3072, 129])) 3) 4)), (0, (40001, ()))))))])) y20301 (dnext (dnext (dnext (dnext (dofN (dnext (dofN (dnext y50000 3) ([14, 1, 2, 5, 15, 0, 16, 10, 20, 7])) 2) ([2048, 256, 1024, 3072, 129])) 3) 4) 2) 3))
                              (none)))
                          (none)))
                      (none))
                    (none))
                  (br ((oneOk (dnext (dofN (dnext (dofN (dnext y50000 3) ([14, 1, 2, 5, 15, 0, 16, 10, 20, 7])) 2) ([2048, 256, 1024, 3072, 129])) 3) 2))
                    (br ((done (dnext (dofN (dnext (dofN (dnext y50000 3) ([14, 1, 2, 5, 15, 0, 16, 10, 20, 7])) 2) ([2048, 256, 1024, 3072, 129])) 3) 2))
                      (br ((ofOk (dnext (dnext (dofN (dnext (dofN (dnext y50000 3) ([14, 1, 2, 5, 15, 0, 16, 10, 20, 7])) 2) ([2048, 256, 1024, 3072, 129])) 3) 2) ([10, 30, 100, 7])))
                        (br ((oneOk (dofN (dnext (dnext (dofN (dnext (dofN (dnext y50000 3) ([14, 1, 2, 5, 15, 0, 16, 10, 20, 7])) 2) ([2048, 256, 1024, 3072, 129])) 3) 2) ([10, 30, 100, 7])) 3))
                          (br ((done (dofN (dnext (dnext (dofN (dnext (dofN (dnext y50000 3) ([14, 1, 2, 5, 15, 0, 16, 10, 20, 7])) 2) ([2048, 256, 1024, 3072, 129])) 3) 2) ([10, 30, 100, 7])) 3))
                            (br ((ofOk (dnext (dofN (dnext (dnext (dofN (dnext (dofN (dnext y50000 3) ([14, 1, 2, 5, 15, 0, 16, 10, 20, 7])) 2) ([2048, 256, 1024, 3072, 129])) 3) 2) ([10, 30, 100, 7])) 3) ([20, 1, 200])))
                              (br (cApp y20300 ([((done y50000 3), ((dof (dnext y50000 3) ([14, 1, 2, 5, 15, 0, 16, 10, 20, 7])), ((dof (dnext (dofN (dnext y50000 3) ([14, 1, 2, 5, 15, 0, 16, 10, 20, 7])) 2) ([2048, 256, 1024, 3072, 129])), (0, ((dof (dnext (dnext (dofN (dnext (dofN (dnext y50000 3) ([14, 1, 2, 5, 15, 0, 16, 10, 20, 7])) 2) ([2048, 256, 1024, 3072, 129])) 3) 2) ([10, 30, 100, 7])), ((iadd .i64 (dof (dnext (dnext (dofN (dnext (dofN (dnext y50000 3) ([14, 1, 2, 5, 15, 0, 16, 10, 20, 7])) 2) ([2048, 256, 1024, 3072, 129])) 3) 2) ([10, 30, 100, 7])) (dof (dnext (dofN (dnext (dnext (dofN (dnext (dofN (dnext y50000 3) ([14, 1, 2, 5, 15, 0, 16, 10, 20, 7])) 2) ([2048, 256, 1024, 3072, 129])) 3) 2) ([10, 30, 100, 7])) 3) ([20, 1, 200]))), ()))))))]) 48)
                                (lp_make_Policy_0 (isub .i64 x4 1) y2 (y20300 ++ ([((done y50000 3), ((dof (dnext y50000 3) ([14, 1, 2, 5, 15, 0, 16, 10, 20, 7])), ((dof (dnext (dofN (dnext y50000 3) ([14, 1, 2, 5, 15, 0, 16, 10, 20, 7])) 2) ([2048, 256, 1024, 3072, 129])), (0, ((dof (dnext (dnext (dofN (dnext (dofN (dnext y50000 3) ([14, 1, 2, 5, 15, 0, 16, 10, 20, 7])) 2) ([2048, 256, 1024, 3072, 129])) 3) 2) ([10, 30, 100, 7])), ((iadd .i64 (dof (dnext (dnext (dofN (dnext (dofN (dnext y50000 3) ([14, 1, 2, 5, 15, 0, 16, 10, 20, 7])) 2) ([2048, 256, 1024, 3072, 129])) 3) 2) ([10, 30, 100, 7])) (dof (dnext (dofN (dnext (dnext (dofN (dnext (dofN (dnext y50000 3) ([14, 1, 2, 5, 15, 0, 16, 10, 20, 7])) 2) ([2048, 256, 1024, 3072, 129])) 3) 2) ([10, 30, 100, 7])) 3) ([20, 1, 200]))), ()))))))])) y20301 (dofN (dnext (dofN (dnext (dnext (dofN (dnext (dofN (dnext y50000 3) ([14, 1, 2, 5, 15, 0, 16, 10, 20, 7])) 2) ([2048, 256, 1024, 3072, 129])) 3) 2) ([10, 30, 100, 7])) 3) ([20, 1, 200])))
                                (none))
                              (none))
                            (br (cApp y20300 ([((done y50000 3), ((dof (dnext y50000 3) ([14, 1, 2, 5, 15, 0, 16, 10, 20, 7])), ((dof (dnext (dofN (dnext y50000 3) ([14, 1, 2, 5, 15, 0, 16, 10, 20, 7])) 2) ([2048, 256, 1024, 3072, 129])), (0, ((dof (dnext (dnext (dofN (dnext (dofN (dnext y50000 3) ([14, 1, 2, 5, 15, 0, 16, 10, 20, 7])) 2) ([2048, 256, 1024, 3072, 129])) 3) 2) ([10, 30, 100, 7])), (40001, ()))))))]) 48)
                              (lp_make_Policy_0 (isub .i64 x4 1) y2 (y20300 ++ ([((done y50000 3), ((dof (dnext y50000 3) ([14, 1, 2, 5, 15, 0, 16, 10, 20, 7])), ((dof (dnext (dofN (dnext y50000 3) ([14, 1, 2, 5, 15, 0, 16, 10, 20, 7])) 2) ([2048, 256, 1024, 3072, 129])), (0, ((dof (dnext (dnext (dofN (dnext (dofN (dnext y50000 3) ([14, 1, 2, 5, 15, 0, 16, 10, 20, 7])) 2) ([2048, 256, 1024, 3072, 129])) 3) 2) ([10, 30, 100, 7])), (40001, ()))))))])) y20301 (dnext (dofN (dnext (dnext (dofN (dnext (dofN (dnext y50000 3) ([14, 1, 2, 5, 15, 0, 16, 10, 20, 7])) 2) ([2048, 256, 1024, 3072, 129])) 3) 2) ([10, 30, 100, 7])) 3))
                              (none)))
                          (none))
                        (none))
                      (br ((oneOk (dnext (dnext (dofN (dnext (dofN (dnext y50000 3) ([14, 1, 2, 5, 15, 0, 16, 10, 20, 7])) 2) ([2048, 256, 1024, 3072, 129])) 3) 2) 3))
                        (br ((done (dnext (dnext (dofN (dnext (dofN (dnext y50000 3) ([14, 1, 2, 5, 15, 0, 16, 10, 20, 7])) 2) ([2048, 256, 1024, 3072, 129])) 3) 2) 3))
                          (br ((ofOk (dnext (dnext (dnext (dofN (dnext (dofN (dnext y50000 3) ([14, 1, 2, 5, 15, 0, 16, 10, 20, 7])) 2) ([2048, 256, 1024, 3072, 129])) 3) 2) 3) ([20, 1, 200])))
                            (br (cApp y20300 ([((done y50000 3), ((dof (dnext y50000 3) ([14, 1, 2, 5, 15, 0, 16, 10, 20, 7])), ((dof (dnext (dofN (dnext y50000 3) ([14, 1, 2, 5, 15, 0, 16, 10, 20, 7])) 2) ([2048, 256, 1024, 3072, 129])), (0, (0, ((iadd .i64 0 (dof (dnext (dnext (dnext (dofN (dnext (dofN (dnext y50000 3) ([14, 1, 2, 5, 15, 0, 16, 10, 20, 7])) 2) ([2048, 256, 1024, 3072, 129])) 3) 2) 3) ([20, 1, 200]))), ()))))))]) 48)
                              (lp_make_Policy_0 (isub .i64 x4 1) y2 (y20300 ++ ([((done y50000 3), ((dof (dnext y50000 3) ([14, 1, 2, 5, 15, 0, 16, 10, 20, 7])), ((dof (dnext (dofN (dnext y50000 3) ([14, 1, 2, 5, 15, 0, 16, 10, 20, 7])) 2) ([2048, 256, 1024, 3072, 129])), (0, (0, ((iadd .i64 0 (dof (dnext (dnext (dnext (dofN (dnext (dofN (dnext y50000 3) ([14, 1, 2, 5, 15, 0, 16, 10, 20, 7])) 2) ([2048, 256, 1024, 3072, 129])) 3) 2) 3) ([20, 1, 200]))), ()))))))])) y20301 (dofN (dnext (dnext (dnext (dofN (dnext (dofN (dnext y50000 3) ([14, 1, 2, 5, 15, 0, 16, 10, 20, 7])) 2) ([2048, 256, 1024, 3072, 129])) 3) 2) 3) ([20, 1, 200])))
                              (none))
                            (none))
                          (br (cApp y20300 ([((done y50000 3), ((dof (dnext y50000 3) ([14, 1, 2, 5, 15, 0, 16, 10, 20, 7])), ((dof (dnext (dofN (dnext y50000 3) ([14, 1, 2, 5, 15, 0, 16, 10, 20, 7])) 2) ([2048, 256, 1024, 3072, 129])), (0, (0, (40001, ()))))))]) 48)
                            (lp_make_Policy_0 (isub .i64 x4 1) y2 (y20300 ++ ([((done y50000 3), ((dof (dnext y50000 3) ([14, 1, 2, 5, 15, 0, 16, 10, 20, 7])), ((dof (dnext (dofN (dnext y50000 3) ([14, 1, 2, 5, 15, 0, 16, 10, 20, 7])) 2) ([2048, 256, 1024, 3072, 129])), (0, (0, (40001, ()))))))])) y20301 (dnext (dnext (dnext (dofN (dnext (dofN (dnext y50000 3) ([14, 1, 2, 5, 15, 0, 16, 10, 20, 7])) 2) ([2048, 256, 1024, 3072, 129])) 3) 2) 3))
                            (none)))
                        (none)))
                    (none)))
                (none))
              (none))
            (br ((oneOk (dnext (dofN (dnext y50000 3) ([14, 1, 2, 5, 15, 0, 16, 10, 20, 7])) 2) 3))
              (br ((done (dnext (dofN (dnext y50000 3) ([14, 1, 2, 5, 15, 0, 16, 10, 20, 7])) 2) 3))
                (br ((nextOk (dnext (dnext (dofN (dnext y50000 3) ([14, 1, 2, 5, 15, 0, 16, 10, 20, 7])) 2) 3) 4))
                  (br ((oneOk (dnext (dnext (dnext (dofN (dnext y50000 3) ([14, 1, 2, 5, 15, 0, 16, 10, 20, 7])) 2) 3) 4) 2))
                    (br ((done (dnext (dnext (dnext (dofN (dnext y50000 3) ([14, 1, 2, 5, 15, 0, 16, 10, 20, 7])) 2) 3) 4) 2))
                      (br ((ofOk (dnext (dnext (dnext (dnext (dofN (dnext y50000 3) ([14, 1, 2, 5, 15, 0, 16, 10, 20, 7])) 2) 3) 4) 2) ([10, 30, 100, 7])))
                        (br ((oneOk (dofN (dnext (dnext (dnext (dnext (dofN (dnext y50000 3) ([14, 1, 2, 5, 15, 0, 16, 10, 20, 7])) 2) 3) 4) 2) ([10, 30, 100, 7])) 3))
                          (br ((done (dofN (dnext (dnext (dnext (dnext (dofN (dnext y50000 3) ([14, 1, 2, 5, 15, 0, 16, 10, 20, 7])) 2) 3) 4) 2) ([10, 30, 100, 7])) 3))
                            (br ((ofOk (dnext (dofN (dnext (dnext (dnext (dnext (dofN (dnext y50000 3) ([14, 1, 2, 5, 15, 0, 16, 10, 20, 7])) 2) 3) 4) 2) ([10, 30, 100, 7])) 3) ([20, 1, 200])))
                              (br (cApp y20300 ([((done y50000 3), ((dof (dnext y50000 3) ([14, 1, 2, 5, 15, 0, 16, 10, 20, 7])), (0, ((iadd .i64 1 (dval (dnext (dnext (dofN (dnext y50000 3) ([14, 1, 2, 5, 15, 0, 16, 10, 20, 7])) 2) 3) 4)), ((dof (dnext (dnext (dnext (dnext (dofN (dnext y50000 3) ([14, 1, 2, 5, 15, 0, 16, 10, 20, 7])) 2) 3) 4) 2) ([10, 30, 100, 7])), ((iadd .i64 (dof (dnext (dnext (dnext (dnext (dofN (dnext y50000 3) ([14, 1, 2, 5, 15, 0, 16, 10, 20, 7])) 2) 3) 4) 2) ([10, 30, 100, 7])) (dof (dnext (dofN (dnext (dnext (dnext (dnext (dofN (dnext y50000 3) ([14, 1, 2, 5, 15, 0, 16, 10, 20, 7])) 2) 3) 4) 2) ([10, 30, 100, 7])) 3) ([20, 1, 200]))), ()))))))]) 48)
                                (lp_make_Policy_0 (isub .i64 x4 1) y2 (y20300 ++ ([((done y50000 3), ((dof (dnext y50000 3) ([14, 1, 2, 5, 15, 0, 16, 10, 20, 7])), (0, ((iadd .i64 1 (dval (dnext (dnext (dofN (dnext y50000 3) ([14, 1, 2, 5, 15, 0, 16, 10, 20, 7])) 2) 3) 4)), ((dof (dnext (dnext (dnext (dnext (dofN (dnext y50000 3) ([14, 1, 2, 5, 15, 0, 16, 10, 20, 7])) 2) 3) 4) 2) ([10, 30, 100, 7])), ((iadd .i64 (dof (dnext (dnext (dnext (dnext (dofN (dnext y50000 3) ([14, 1, 2, 5, 15, 0, 16, 10, 20, 7])) 2) 3) 4) 2) ([10, 30, 100, 7])) (dof (dnext (dofN (dnext (dnext (dnext (dnext (dofN (dnext y50000 3) ([14, 1, 2, 5, 15, 0, 16, 10, 20, 7])) 2) 3) 4) 2) ([10, 30, 100, 7])) 3) ([20, 1, 200]))), ()))))))])) y20301 (dofN (dnext (dofN (dnext (dnext (dnext (dnext (dofN (dnext y50000 3) ([14, 1, 2, 5, 15, 0, 16, 10, 20, 7])) 2) 3) 4) 2) ([10, 30, 100, 7])) 3) ([20, 1, 200])))
                                (none))
                              (none))
                            (br (cApp y20300 ([((done y50000 3), ((dof (dnext y50000 3) ([14, 1, 2, 5, 15, 0, 16, 10, 20, 7])), (0, ((iadd .i64 1 (dval (dnext (dnext (dofN (dnext y50000 3) ([14, 1, 2, 5, 15, 0, 16, 10, 20, 7])) 2) 3) 4)), ((dof (dnext (dnext (dnext (dnext (dofN (dnext y50000 3) ([14, 1, 2, 5, 15, 0, 16, 10, 20, 7])) 2) 3) 4) 2) ([10, 30, 100, 7])), (40001, ()))))))]) 48)
                              (lp_make_Policy_0 (isub .i64 x4 1) y2 (y20300 ++ ([((done y50000 3), ((dof (dnext y50000 3) ([14, 1, 2, 5, 15, 0, 16, 10, 20, 7])), (0, ((iadd .i64 1 (dval (dnext (dnext (dofN (dnext y50000 3) ([14, 1, 2, 5, 15, 0, 16, 10, 20, 7])) 2) 3) 4)), ((dof (dnext (dnext (dnext (dnext (dofN (dnext y50000 3) ([14, 1, 2, 5, 15, 0, 16, 10, 20, 7])) 2) 3) 4) 2) ([10, 30, 100, 7])), (40001, ()))))))])) y20301 (dnext (dofN (dnext (dnext (dnext (dnext (dofN (dnext y50000 3) ([14, 1, 2, 5, 15, 0, 16, 10, 20, 7])) 2) 3) 4) 2) ([10, 30, 100, 7])) 3))
                              (none)))
                          (none))
                        (none))
                      (br ((oneOk (dnext (dnext (dnext (dnext (dofN (dnext y50000 3) ([14, 1, 2, 5, 15, 0, 16, 10, 20, 7])) 2) 3) 4) 2) 3))
                        (br ((done (dnext (dnext (dnext (dnext (dofN (dnext y50000 3) ([14, 1, 2, 5, 15, 0, 16, 10, 20, 7])) 2) 3) 4) 2) 3))
                          (br ((ofOk (dnext (dnext (dnext (dnext (dnext (dofN (dnext y50000 3) ([14, 1, 2, 5, 15, 0, 16, 10, 20, 7])) 2) 3) 4) 2) 3) ([20, 1, 200])))
                            (br (cApp y20300 ([((done y50000 3), ((dof (dnext y50000 3) ([14, 1, 2, 5, 15, 0, 16, 10, 20, 7])), (0, ((iadd .i64 1 (dval (dnext (dnext (dofN (dnext y50000 3) ([14, 1, 2, 5, 15, 0, 16, 10, 20, 7])) 2) 3) 4)), (0, ((iadd .i64 0 (dof (dnext (dnext (dnext (dnext (dnext (dofN (dnext y50000 3) ([14, 1, 2, 5, 15, 0, 16, 10, 20, 7])) 2) 3) 4) 2) 3) ([20, 1, 200]))), ()))))))]) 48)
                              (lp_make_Policy_0 (isub .i64 x4 1) y2 (y20300 ++ ([((done y50000 3), ((dof (dnext y50000 3) ([14, 1, 2, 5, 15, 0, 16, 10, 20, 7])), (0, ((iadd .i64 1 (dval (dnext (dnext (dofN (dnext y50000 3) ([14, 1, 2, 5, 15, 0, 16, 10, 20, 7])) 2) 3) 4)), (0, ((iadd .i64 0 (dof (dnext (dnext (dnext (dnext (dnext (dofN (dnext y50000 3) ([14, 1, 2, 5, 15, 0, 16, 10, 20, 7])) 2) 3) 4) 2) 3) ([20, 1, 200]))), ()))))))])) y20301 (dofN (dnext (dnext (dnext (dnext (dnext (dofN (dnext y50000 3) ([14, 1, 2, 5, 15, 0, 16, 10, 20, 7])) 2) 3) 4) 2) 3) ([20, 1, 200])))
                              (none))
                            (none))
                          (br (cApp y20300 ([((done y50000 3), ((dof (dnext y50000 3) ([14, 1, 2, 5, 15, 0, 16, 10, 20, 7])), (0, ((iadd .i64 1 (dval (dnext (dnext (dofN (dnext y50000 3) ([14, 1, 2, 5, 15, 0, 16, 10, 20, 7])) 2) 3) 4)), (0, (40001, ()))))))]) 48)
                            (lp_make_Policy_0 (isub .i64 x4 1) y2 (y20300 ++ ([((done y50000 3), ((dof (dnext y50000 3) ([14, 1, 2, 5, 15, 0, 16, 10, 20, 7])), (0, ((iadd .i64 1 (dval (dnext (dnext (dofN (dnext y50000 3) ([14, 1, 2, 5, 15, 0, 16, 10, 20, 7])) 2) 3) 4)), (0, (40001, ()))))))])) y20301 (dnext (dnext (dnext (dnext (dnext (dofN (dnext y50000 3) ([14, 1, 2, 5, 15, 0, 16, 10, 20, 7])) 2) 3) 4) 2) 3))
                            (none)))
                        (none)))
                    (none))
                  (none))
                (br ((oneOk (dnext (dnext (dofN (dnext y50000 3) ([14, 1, 2, 5, 15, 0, 16, 10, 20, 7])) 2) 3) 2))
                  (br ((done (dnext (dnext (dofN (dnext y50000 3) ([14, 1, 2, 5, 15, 0, 16, 10, 20, 7])) 2) 3) 2))
                    (br ((ofOk (dnext (dnext (dnext (dofN (dnext y50000 3) ([14, 1, 2, 5, 15, 0, 16, 10, 20, 7])) 2) 3) 2) ([10, 30, 100, 7])))
                      (br ((oneOk (dofN (dnext (dnext (dnext (dofN (dnext y50000 3) ([14, 1, 2, 5, 15, 0, 16, 10, 20, 7])) 2) 3) 2) ([10, 30, 100, 7])) 3))
                        (br ((done (dofN (dnext (dnext (dnext (dofN (dnext y50000 3) ([14, 1, 2, 5, 15, 0, 16, 10, 20, 7])) 2) 3) 2) ([10, 30, 100, 7])) 3))
                          (br ((ofOk (dnext (dofN (dnext (dnext (dnext (dofN (dnext y50000 3) ([14, 1, 2, 5, 15, 0, 16, 10, 20, 7])) 2) 3) 2) ([10, 30, 100, 7])) 3) ([20, 1, 200])))
                            (br (cApp y20300 ([((done y50000 3), ((dof (dnext y50000 3) ([14, 1, 2, 5, 15, 0, 16, 10, 20, 7])), (0, (0, ((dof (dnext (dnext (dnext (dofN (dnext y50000 3) ([14, 1, 2, 5, 15, 0, 16, 10, 20, 7])) 2) 3) 2) ([10, 30, 100, 7])), ((iadd .i64 (dof (dnext (dnext (dnext (dofN (dnext y50000 3) ([14, 1, 2, 5, 15, 0, 16, 10, 20, 7])) 2) 3) 2) ([10, 30, 100, 7])) (dof (dnext (dofN (dnext (dnext (dnext (dofN (dnext y50000 3) ([14, 1, 2, 5, 15, 0, 16, 10, 20, 7])) 2) 3) 2) ([10, 30, 100, 7])) 3) ([20, 1, 200]))), ()))))))]) 48)
                              (lp_make_Policy_0 (isub .i64 x4 1) y2 (y20300 ++ ([((done y50000 3), ((dof (dnext y50000 3) ([14, 1, 2, 5, 15, 0, 16, 10, 20, 7])), (0, (0, ((dof (dnext (dnext (dnext (dofN (dnext y50000 3) ([14, 1, 2, 5, 15, 0, 16, 10, 20, 7])) 2) 3) 2) ([10, 30, 100, 7])), ((iadd .i64 (dof (dnext (dnext (dnext (dofN (dnext y50000 3) ([14, 1, 2, 5, 15, 0, 16, 10, 20, 7])) 2) 3) 2) ([10, 30, 100, 7])) (dof (dnext (dofN (dnext (dnext (dnext (dofN (dnext y50000 3) ([14, 1, 2, 5, 15, 0, 16, 10, 20, 7])) 2) 3) 2) ([10, 30, 100, 7])) 3) ([20, 1, 200]))), ()))))))])) y20301 (dofN (dnext (dofN (dnext (dnext (dnext (dofN (dnext y50000 3) ([14, 1, 2, 5, 15, 0, 16, 10, 20, 7])) 2) 3) 2) ([10, 30, 100, 7])) 3) ([20, 1, 200])))
                              (none))
                            (none))
                          (br (cApp y20300 ([((done y50000 3), ((dof (dnext y50000 3) ([14, 1, 2, 5, 15, 0, 16, 10, 20, 7])), (0, (0, ((dof (dnext (dnext (dnext (dofN (dnext y50000 3) ([14, 1, 2, 5, 15, 0, 16, 10, 20, 7])) 2) 3) 2) ([10, 30, 100, 7])), (40001, ()))))))]) 48)
                            (lp_make_Policy_0 (isub .i64 x4 1) y2 (y20300 ++ ([((done y50000 3), ((dof (dnext y50000 3) ([14, 1, 2, 5, 15, 0, 16, 10, 20, 7])), (0, (0, ((dof (dnext (dnext (dnext (dofN (dnext y50000 3) ([14, 1, 2, 5, 15, 0, 16, 10, 20, 7])) 2) 3) 2) ([10, 30, 100, 7])), (40001, ()))))))])) y20301 (dnext (dofN (dnext (dnext (dnext (dofN (dnext y50000 3) ([14, 1, 2, 5, 15, 0, 16, 10, 20, 7])) 2) 3) 2) ([10, 30, 100, 7])) 3))
                            (none)))
                        (none))
                      (none))
                    (br ((oneOk (dnext (dnext (dnext (dofN (dnext y50000 3) ([14, 1, 2, 5, 15, 0, 16, 10, 20, 7])) 2) 3) 2) 3))
                      (br ((done (dnext (dnext (dnext (dofN (dnext y50000 3) ([14, 1, 2, 5, 15, 0, 16, 10, 20, 7])) 2) 3) 2) 3))
                        (br ((ofOk (dnext (dnext (dnext (dnext (dofN (dnext y50000 3) ([14, 1, 2, 5, 15, 0, 16, 10, 20, 7])) 2) 3) 2) 3) ([20, 1, 200])))
                          (br (cApp y20300 ([((done y50000 3), ((dof (dnext y50000 3) ([14, 1, 2, 5, 15, 0, 16, 10, 20, 7])), (0, (0, (0, ((iadd .i64 0 (dof (dnext (dnext (dnext (dnext (dofN (dnext y50000 3) ([14, 1, 2, 5, 15, 0, 16, 10, 20, 7])) 2) 3) 2) 3) ([20, 1, 200]))), ()))))))]) 48)
                            (lp_make_Policy_0 (isub .i64 x4 1) y2 (y20300 ++ ([((done y50000 3), ((dof (dnext y50000 3) ([14, 1, 2, 5, 15, 0, 16, 10, 20, 7])), (0, (0, (0, ((iadd .i64 0 (dof (dnext (dnext (dnext (dnext (dofN (dnext y50000 3) ([14, 1, 2, 5, 15, 0, 16, 10, 20, 7])) 2) 3) 2) 3) ([20, 1, 200]))), ()))))))])) y20301 (dofN (dnext (dnext (dnext (dnext (dofN (dnext y50000 3) ([14, 1, 2, 5, 15, 0, 16, 10, 20, 7])) 2) 3) 2) 3) ([20, 1, 200])))
                            (none))
                          (none))
                        (br (cApp y20300 ([((done y50000 3), ((dof (dnext y50000 3) ([14, 1, 2, 5, 15, 0, 16, 10, 20, 7])), (0, (0, (0, (40001, ()))))))]) 48)
                          (lp_make_Policy_0 (isub .i64 x4 1) y2 (y20300 ++ ([((done y50000 3), ((dof (dnext y50000 3) ([14, 1, 2, 5, 15, 0, 16, 10, 20, 7])), (0, (0, (0, (40001, ()))))))])) y20301 (dnext (dnext (dnext (dnext (dofN (dnext y50000 3) ([14, 1, 2, 5, 15, 0, 16, 10, 20, 7])) 2) 3) 2) 3))
                          (none)))
                      (none)))
                  (none)))
              (none)))
          (none))
        (none))
      (none))
    (some (.exit 0, st_make_Policy_0_e0 y2 y20300 y20301 y50000))
def la_make_Policy_0 (x4 : Int) (y2 : Policy) (y20300 : (List Rule)) (y20301 : (List Keep)) (y50000 : Dice) : Option (Exit × VS) := some (.exit 0, st_make_Policy_0_e0 (y2) (y20300 ++ (rulesZ x4.toNat y50000).1) (y20301) ((rulesZ x4.toNat y50000).2))
theorem be_make_Policy_0 (x4 : Int) (y2 : Policy) (y20300 : (List Rule)) (y20301 : (List Keep)) (y50000 : Dice) : roundF g_make_Policy fg_make_Policy_0 tb_make_Policy_0 (st_make_Policy_0 x4 y2 y20300 y20301 y50000) = b_make_Policy_0 x4 y2 y20300 y20301 y50000 := by kernel_rfl
theorem ln_make_Policy_0 (x4 : Int) (y2 : Policy) (y20300 : (List Rule)) (y20301 : (List Keep)) (y50000 : Dice) : lp_make_Policy_0 x4 y2 y20300 y20301 y50000 = n_make_Policy_0 x4 y2 y20300 y20301 y50000 := (loopF_nxt _ _).trans (by
  rw [be_make_Policy_0]
  simp only [b_make_Policy_0, n_make_Policy_0, nxt_br, nxt_n, nxt_r, nxt_e, nxt_0]
  rfl)
def b_make_Policy_1 (x6 : Int) (y2 : Policy) (y20300 : (List Rule)) (y20301 : (List Keep)) (y50000 : Dice) : Option (Exit × VS) :=
  br ((igt x6 0))
    (br ((nextOk y50000 4))
      (br ((ofOk (dnext y50000 4) ([10, 100, 3000])))
        (br (cApp y20301 ([((iadd .i64 1 (dval y50000 4)), ((dof (dnext y50000 4) ([10, 100, 3000])), ()))]) 16)
          (some (.normal, st_make_Policy_1 (isub .i64 x6 1) y2 y20300 (y20301 ++ ([((iadd .i64 1 (dval y50000 4)), ((dof (dnext y50000 4) ([10, 100, 3000])), ()))])) (dofN (dnext y50000 4) ([10, 100, 3000]))))
          (none))
        (none))
      (none))
    (some (.exit 2, st_make_Policy_1_e2 y2 y20300 y20301 y50000))
noncomputable def lp_make_Policy_1 (x6 : Int) (y2 : Policy) (y20300 : (List Rule)) (y20301 : (List Keep)) (y50000 : Dice) : Option (Exit × VS) := loopF (roundF g_make_Policy fg_make_Policy_1 tb_make_Policy_1) (st_make_Policy_1 x6 y2 y20300 y20301 y50000)
noncomputable def n_make_Policy_1 (x6 : Int) (y2 : Policy) (y20300 : (List Rule)) (y20301 : (List Keep)) (y50000 : Dice) : Option (Exit × VS) :=
  br ((igt x6 0))
    (br ((nextOk y50000 4))
      (br ((ofOk (dnext y50000 4) ([10, 100, 3000])))
        (br (cApp y20301 ([((iadd .i64 1 (dval y50000 4)), ((dof (dnext y50000 4) ([10, 100, 3000])), ()))]) 16)
          (lp_make_Policy_1 (isub .i64 x6 1) y2 y20300 (y20301 ++ ([((iadd .i64 1 (dval y50000 4)), ((dof (dnext y50000 4) ([10, 100, 3000])), ()))])) (dofN (dnext y50000 4) ([10, 100, 3000])))
          (none))
        (none))
      (none))
    (some (.exit 2, st_make_Policy_1_e2 y2 y20300 y20301 y50000))
def la_make_Policy_1 (x6 : Int) (y2 : Policy) (y20300 : (List Rule)) (y20301 : (List Keep)) (y50000 : Dice) : Option (Exit × VS) := some (.exit 2, st_make_Policy_1_e2 (y2) (y20300) (y20301 ++ (keepsZ x6.toNat y50000).1) ((keepsZ x6.toNat y50000).2))
theorem be_make_Policy_1 (x6 : Int) (y2 : Policy) (y20300 : (List Rule)) (y20301 : (List Keep)) (y50000 : Dice) : roundF g_make_Policy fg_make_Policy_1 tb_make_Policy_1 (st_make_Policy_1 x6 y2 y20300 y20301 y50000) = b_make_Policy_1 x6 y2 y20300 y20301 y50000 := by kernel_rfl
theorem ln_make_Policy_1 (x6 : Int) (y2 : Policy) (y20300 : (List Rule)) (y20301 : (List Keep)) (y50000 : Dice) : lp_make_Policy_1 x6 y2 y20300 y20301 y50000 = n_make_Policy_1 x6 y2 y20300 y20301 y50000 := (loopF_nxt _ _).trans (by
  rw [be_make_Policy_1]
  simp only [b_make_Policy_1, n_make_Policy_1, nxt_br, nxt_n, nxt_r, nxt_e, nxt_0]
  rfl)
def r_make_Policy (d0 : Dice) : Option (V × List VO) :=
  br ((nextOk d0 7))
    (br ((dOk (dnext d0 7) && decide (0 ≤ (dval d0 7) ∧ (dval d0 7) ≤ 100 ∧ ([] : List Rule).length + (dval d0 7).toNat ≤ 1000)))
      (br ((nextOk ((rulesZ (dval d0 7).toNat (dnext d0 7)).2) 3))
        (br ((dOk (dnext ((rulesZ (dval d0 7).toNat (dnext d0 7)).2) 3) && decide (0 ≤ (dval ((rulesZ (dval d0 7).toNat (dnext d0 7)).2) 3) ∧ (dval ((rulesZ (dval d0 7).toNat (dnext d0 7)).2) 3) ≤ 100 ∧ (([] : List Keep)).length + (dval ((rulesZ (dval d0 7).toNat (dnext d0 7)).2) 3).toNat ≤ 1000)))
          (some (.t tyPolicy (((([] : List Rule) ++ (rulesZ (dval d0 7).toNat (dnext d0 7)).1)), (((([] : List Keep)) ++ (keepsZ (dval ((rulesZ (dval d0 7).toNat (dnext d0 7)).2) 3).toNat (dnext ((rulesZ (dval d0 7).toNat (dnext d0 7)).2) 3)).1), ())), [.box (.t tyDice ((keepsZ (dval ((rulesZ (dval d0 7).toNat (dnext d0 7)).2) 3).toNat (dnext ((rulesZ (dval d0 7).toNat (dnext d0 7)).2) 3)).2))]))
          (none))
        (none))
      (none))
    (none)
theorem e_make_Policy (d0 : Dice) : runF g_make_Policy tc_make_Policy rv_make_Policy false [.ptr 50000 0] [.box (.t tyDice d0)] = r_make_Policy d0 := by kernel_rfl
theorem ok_make_Policy : Option.map (trC Try.prog) Try.f16.body = some tc_make_Policy.er := by kernel_rfl
theorem rok_make_Policy : trVs Try.prog Try.f16.results.toList = some (rv_make_Policy.map Prod.fst) := by kernel_rfl
theorem en_make_Policy : Entered Try.prog 16 := .inr ⟨by decide, _, Try.func16, by kernel_rfl, by kernel_rfl⟩
theorem gk_make_Policy : GOk Try.prog g_make_Policy := gok_of _ (by
  intro p hp
  simp only [List.mem_cons, List.not_mem_nil, or_false] at hp
  rcases hp with rfl | rfl | rfl
  · exact ⟨en_make_Dice_Next, ms_make_Dice_Next⟩
  · exact ⟨en_make_Dice_Of, ms_make_Dice_Of⟩
  · exact ⟨en_make_Dice_One, ms_make_Dice_One⟩)
theorem l_make_Policy_0 (x4 : Int) (y2 : Policy) (y20300 : (List Rule)) (y20301 : (List Keep)) (y50000 : Dice) (h : (dOk y50000 && decide (0 ≤ x4 ∧ x4 ≤ 100 ∧ y20300.length + x4.toNat ≤ 1000)) = true) : lp_make_Policy_0 x4 y2 y20300 y20301 y50000 = la_make_Policy_0 x4 y2 y20300 y20301 y50000 := by
  simp only [Bool.and_eq_true, decide_eq_true_eq] at h
  obtain ⟨hd, h1, h2q, h3⟩ := h
  obtain ⟨k, rfl⟩ := Int.eq_ofNat_of_zero_le h1
  rw [Int.toNat_natCast] at h3
  have h2 : k ≤ 100 := by omega
  clear h1 h2q
  induction k generalizing y20300 y50000 with
  | zero =>
    rw [ln_make_Policy_0]
    have e1 : igt ((0 : Nat) : Int) 0 = false := rfl
    simp only [n_make_Policy_0, e1, br_false, la_make_Policy_0, Int.toNat_natCast, rulesZ, List.append_nil]
  | succ k ih =>
    rw [ln_make_Policy_0]
    have e1 : igt ((k + 1 : Nat) : Int) 0 = true := by simp only [igt, decide_eq_true_eq]; omega
    have e2 : isub .i64 ((k + 1 : Nat) : Int) 1 = (k : Int) := by rw [isub_in (by omega)]; omega
    simp only [n_make_Policy_0, e1, e2, br_true]
    have hla : la_make_Policy_0 ((k + 1 : Nat) : Int) y2 y20300 y20301 y50000 = la_make_Policy_0 (k : Int) y2 (y20300 ++ [(rDraw y50000).1]) y20301 (rDraw y50000).2 := by
      simp only [la_make_Policy_0, Int.toNat_natCast, rulesZ, List.append_assoc]
      rfl
    rw [hla, ← ih _ _ (dOk_rDraw hd) (by simp; omega) (by omega)]
    clear ih hla
    have hi : ∀ x : Rule, cApp y20300 [x] 48 = true := fun x => cApp_ok (by simp; omega) (by omega)
    have o2 : ∀ d, dOk d = true → oneOk d 2 = true := fun d h => by simp [oneOk, nextOk, h]
    have o3 : ∀ d, dOk d = true → oneOk d 3 = true := fun d h => by simp [oneOk, nextOk, h]
    have n4 : ∀ d, dOk d = true → nextOk d 4 = true := fun d h => by simp [nextOk, h]
    have f1 : ∀ d, dOk d = true → ofOk d [14, 1, 2, 5, 15, 0, 16, 10, 20, 7] = true := fun d h => by simp [ofOk, h]
    have f2 : ∀ d, dOk d = true → ofOk d [2048, 256, 1024, 3072, 129] = true := fun d h => by simp [ofOk, h]
    have f3 : ∀ d, dOk d = true → ofOk d [10, 30, 100, 7] = true := fun d h => by simp [ofOk, h]
    have f4 : ∀ d, dOk d = true → ofOk d [20, 1, 200] = true := fun d h => by simp [ofOk, h]
    simp (maxDischargeDepth := 30) only [o2, o3, n4, f1, f2, f3, f4, dOk_nextI, dOk_of, hd, hi, br_true]
    repeat' (refine br_intro ?_ ?_ <;> intro _)
    all_goals simp only [rDraw, *, if_true, if_false, Bool.false_eq_true]
theorem l_make_Policy_1 (x6 : Int) (y2 : Policy) (y20300 : (List Rule)) (y20301 : (List Keep)) (y50000 : Dice) (h : (dOk y50000 && decide (0 ≤ x6 ∧ x6 ≤ 100 ∧ y20301.length + x6.toNat ≤ 1000)) = true) : lp_make_Policy_1 x6 y2 y20300 y20301 y50000 = la_make_Policy_1 x6 y2 y20300 y20301 y50000 := by
  simp only [Bool.and_eq_true, decide_eq_true_eq] at h
  obtain ⟨hd, h1, h2q, h3⟩ := h
  obtain ⟨k, rfl⟩ := Int.eq_ofNat_of_zero_le h1
  rw [Int.toNat_natCast] at h3
  have h2 : k ≤ 100 := by omega
  clear h1 h2q
  induction k generalizing y20301 y50000 with
  | zero =>
    rw [ln_make_Policy_1]
    have e1 : igt ((0 : Nat) : Int) 0 = false := rfl
    simp only [n_make_Policy_1, e1, br_false, la_make_Policy_1, Int.toNat_natCast, keepsZ, List.append_nil]
  | succ k ih =>
    rw [ln_make_Policy_1]
    have e1 : igt ((k + 1 : Nat) : Int) 0 = true := by simp only [igt, decide_eq_true_eq]; omega
    have e2 : isub .i64 ((k + 1 : Nat) : Int) 1 = (k : Int) := by rw [isub_in (by omega)]; omega
    simp only [n_make_Policy_1, e1, e2, br_true]
    have hla : la_make_Policy_1 ((k + 1 : Nat) : Int) y2 y20300 y20301 y50000 = la_make_Policy_1 (k : Int) y2 y20300 (y20301 ++ [(kDraw y50000).1]) (kDraw y50000).2 := by
      simp only [la_make_Policy_1, Int.toNat_natCast, keepsZ, List.append_assoc]
      rfl
    rw [hla, ← ih _ _ (dOk_kDraw hd) (by simp; omega) (by omega)]
    clear ih hla
    have hi : ∀ x : Keep, cApp y20301 [x] 16 = true := fun x => cApp_ok (by simp; omega) (by omega)
    have n4 : ∀ d, dOk d = true → nextOk d 4 = true := fun d h => by simp [nextOk, h]
    have f1 : ∀ d, dOk d = true → ofOk d [10, 100, 3000] = true := fun d h => by simp [ofOk, h]
    simp (maxDischargeDepth := 30) only [n4, f1, dOk_nextI, dOk_of, hd, hi, br_true]
    rfl
theorem lo_make_Policy_0 : ∀ S l p, g_make_Policy.L 0 (fgt fg_make_Policy_0 S) = some (true, l) → pickA l = some p → loopF (roundF g_make_Policy fg_make_Policy_0 tb_make_Policy_0) S = some p :=
  lok_of (s := sh_make_Policy_0) ⟨by decide, by decide⟩ (by kernel_rfl) fun x y hok p hp => by
  simp only [pickA_br, pickA_one] at hp
  exact (l_make_Policy_0 x.2.2.2.1 y.1 y.2.2.2.2.1 y.2.2.2.2.2.1 y.2.2.2.2.2.2.1 (by simpa using hok)).trans hp
theorem lo_make_Policy_1 : ∀ S l p, g_make_Policy.L 1 (fgt fg_make_Policy_1 S) = some (true, l) → pickA l = some p → loopF (roundF g_make_Policy fg_make_Policy_1 tb_make_Policy_1) S = some p :=
  lok_of (s := sh_make_Policy_1) ⟨by decide, by decide⟩ (by kernel_rfl) fun x y hok p hp => by
  simp only [pickA_br, pickA_one] at hp
  exact (l_make_Policy_1 x.2.2.2.1 y.1 y.2.2.2.2.1 y.2.2.2.2.2.1 y.2.2.2.2.2.2.1 (by simpa using hok)).trans hp
theorem lk_make_Policy : tc_make_Policy.lok g_make_Policy := by
  repeat (first | exact trivial | exact lo_make_Policy_0 | exact lo_make_Policy_1 | refine ⟨?_, ?_⟩)
theorem s_make_Policy (d : Dice) (h : dOk d = true) : r_make_Policy d = some (.t tyPolicy (polV d), [.box (.t tyDice (polN d))]) := by
  have n7 : ∀ d, dOk d = true → nextOk d 7 = true := fun d h => by simp [nextOk, h]
  have n3 : ∀ d, dOk d = true → nextOk d 3 = true := fun d h => by simp [nextOk, h]
  have b7 := dval_lt (d := d) (n := 7) (by omega)
  have h2 : dOk (rulesZ (dval d 7).toNat (dnext d 7)).2 = true := dOk_rules (dOk_next h)
  have b3 := dval_lt (d := (rulesZ (dval d 7).toNat (dnext d 7)).2) (n := 3) (by omega)
  simp only [r_make_Policy, n7 d h, br_true, List.nil_append]
  rw [dOk_next h, Bool.true_and, dec_true ⟨b7.1, by omega, by rw [List.length_nil]; omega⟩, br_true, n3 _ h2, br_true, dOk_next h2, Bool.true_and, dec_true ⟨b3.1, by omega, by rw [List.length_nil]; omega⟩, br_true]
  rfl
def sp_make_Policy : Ent := specP tyDice .nil (fun d x => (dOk d)) (fun d x => (.t tyPolicy (polV d))) (fun d x => (polN d))
theorem ms_make_Policy : Meets Try.prog 16 (strip sp_make_Policy) := by
  obtain ⟨c, hc, hi⟩ := Option.map_eq_some_iff.1 ok_make_Policy
  exact meets_specP (R := runF g_make_Policy tc_make_Policy rv_make_Policy false) (meets_of (by decide) Try.func16 hc hi Try.ntmps16 rok_make_Policy gk_make_Policy lk_make_Policy mixed) rfl fun d x hok => (e_make_Policy d).trans (s_make_Policy d hok)

def lawLast (_ : List Int) (_ : Int) : Bool := true
def d8Ok (_ : List Int) (d : Int) : Bool := decide (0 ≤ d ∧ d ≤ 255)
def lessK (dead : List Int) (k : Int) (rs : List Rule) : List Rule := lessZ dead k.toNat rs
def dr_law18_VerdictLast_0 : List DO := [(.mk (.mk (some 46) none (.m (.pu (.mv (.t 5))))) []), (.mk (.mk (some 47) none (.call 28 [(.t 46), (.c (.v (.int .i64 2)))])) [0]), (.mk (.mk (some 48) none (.m (.pu (.fa 0 (.t 7))))) []), (.mk (.mk (some 49) none (.m (.ld false 1 (.t 48)))) [2]), (.mk (.mk (some 50) none (.m (.pu (.mv (.t 5))))) []), (.mk (.mk (some 51) none (.call 18 [(.t 50), (.c (.v (.int .i64 200)))])) [4, 1]), (.mk (.mk (some 52) none (.m (.pu (.bd [(.v (.bool false)), (.v (.int .i64 0)), (.v (.int .i64 0)), (.v (.int .i64 0)), (.v (.int .i64 0)), (.v (.int .i64 0))] [(0, 1, (.t 47)), (1, 1, (.t 49)), (4, 1, (.t 51)), (5, 1, (.c (.v (.int .i64 0))))])))) [1, 3, 5]), (.mk (.mk (some 10) none (.m (.new [(.v (.bool false)), (.v (.int .i64 0)), (.v (.int .i64 0)), (.v (.int .i64 0)), (.v (.int .i64 0)), (.v (.int .i64 0))]))) []), (.mk (.mk none none (.m (.st 6 (.t 10) (.t 52)))) [7, 6, 5, 0, 1, 2, 3, 4, 5, 6, 7])]
def dr_law18_VerdictLast_1 : List DO := [(.mk (.mk (some 53) none (.m (.pu (.fa 4 (.t 10))))) []), (.mk (.mk (some 54) none (.m (.ld false 1 (.t 53)))) [0]), (.mk (.mk (some 55) none (.m (.pu (.bin false .add (.t 54) (.c (.v (.int .i64 1))))))) [1]), (.mk (.mk (some 56) none (.m (.pu (.mv (.t 5))))) []), (.mk (.mk (some 57) none (.call 18 [(.t 56), (.c (.v (.int .i64 100)))])) [3]), (.mk (.mk (some 58) none (.m (.pu (.bin false .add (.t 55) (.t 57))))) [2, 4]), (.mk (.mk (some 59) none (.m (.pu (.fa 5 (.t 10))))) [0, 1, 2, 3, 4, 5]), (.mk (.mk none none (.m (.st 1 (.t 59) (.t 58)))) [6, 5, 4, 0, 1, 2, 3, 4, 5])]
def dr_law18_VerdictLast_2 : List DO := [(.mk (.mk (some 66) none (.m (.bs 56 6 0 [] []))) []), (.mk (.mk (some 67) none (.m (.pu (.fa 0 (.t 6))))) []), (.mk (.mk (some 68) none (.m (.ld false 1 (.t 67)))) [1]), (.mk (.mk (some 69) none (.m (.app 56 6 48 (.t 66) (.t 68)))) [0, 2]), (.mk (.mk (some 70) none (.m (.ld true 6 (.t 10)))) []), (.mk (.mk (some 71) none (.m (.bs 56 6 1 [(.v (.bool false)), (.v (.int .i64 0)), (.v (.int .i64 0)), (.v (.int .i64 0)), (.v (.int .i64 0)), (.v (.int .i64 0))] [(0, 6, (.t 70))]))) [4]), (.mk (.mk (some 72) none (.m (.app 56 6 48 (.t 69) (.t 71)))) [3, 5, 3]), (.mk (.mk (some 73) none (.m (.pu (.bd [(.v (.slice none 0 0)), (.v (.slice none 0 0))] [(0, 1, (.t 72))])))) [6]), (.mk (.mk (some 74) none (.m (.bs 56 6 0 [] []))) []), (.mk (.mk (some 75) none (.m (.pu (.fa 0 (.t 6))))) []), (.mk (.mk (some 76) none (.m (.ld false 1 (.t 75)))) [9]), (.mk (.mk (some 77) none (.m (.app 56 6 48 (.t 74) (.t 76)))) [8, 10, 6]), (.mk (.mk (some 78) none (.m (.ld true 6 (.t 11)))) []), (.mk (.mk (some 79) none (.m (.bs 56 6 1 [(.v (.bool false)), (.v (.int .i64 0)), (.v (.int .i64 0)), (.v (.int .i64 0)), (.v (.int .i64 0)), (.v (.int .i64 0))] [(0, 6, (.t 78))]))) [12]), (.mk (.mk (some 80) none (.m (.app 56 6 48 (.t 77) (.t 79)))) [11, 13, 11]), (.mk (.mk (some 81) none (.m (.pu (.bd [(.v (.slice none 0 0)), (.v (.slice none 0 0))] [(0, 1, (.t 80))])))) [14]), (.mk (.mk (some 12) none (.m (.new [(.v (.slice none 0 0)), (.v (.slice none 0 0))]))) []), (.mk (.mk (some 13) none (.m (.new [(.v (.slice none 0 0)), (.v (.slice none 0 0))]))) []), (.mk (.mk none none (.m (.st 2 (.t 12) (.t 73)))) [16, 7, 14, 0, 1, 2, 3, 4, 5, 6, 7, 16, 17]), (.mk (.mk none none (.m (.st 2 (.t 13) (.t 81)))) [17, 15, 18, 0, 1, 2, 3, 4, 5, 6, 7, 8, 9, 10, 11, 12, 13, 14, 15, 16, 17, 18])]
def dr_law18_VerdictLast_3 : List DO := [(.mk (.mk (some 175) none (.m (.pu (.fa 0 (.t 26))))) []), (.mk (.mk (some 176) none (.m (.ld false 1 (.t 175)))) [0]), (.mk (.mk (some 177) none (.m (.pu (.fa 0 (.t 6))))) []), (.mk (.mk (some 178) none (.m (.ld false 1 (.t 177)))) [2]), (.mk (.mk (some 179) none (.m (.pu (.mv (.t 27))))) []), (.mk (.mk (some 180) none (.m (.pu (.ix 6 (.t 178) (.t 179))))) [3, 4]), (.mk (.mk (some 181) none (.m (.ld true 6 (.t 180)))) [5]), (.mk (.mk (some 182) none (.m (.bs 56 6 1 [(.v (.bool false)), (.v (.int .i64 0)), (.v (.int .i64 0)), (.v (.int .i64 0)), (.v (.int .i64 0)), (.v (.int .i64 0))] [(0, 6, (.t 181))]))) [6]), (.mk (.mk (some 183) none (.m (.app 56 6 48 (.t 176) (.t 182)))) [1, 7]), (.mk (.mk (some 184) none (.m (.pu (.fa 0 (.t 26))))) [0, 1, 2, 3, 4, 5, 6, 7, 8]), (.mk (.mk none none (.m (.st 1 (.t 184) (.t 183)))) [9, 8, 8, 0, 1, 2, 3, 4, 5, 6, 7, 8])]
def fg_law18_VerdictLast_1 : Fg := ⟨[(6, none), (7, none), (8, some tI), (9, some tI), (10, none), (11, none)], [(6, some tyPolicy), (7, some tyKeep), (10, some tyRule), (11, some tyRule)]⟩
def fh_law18_VerdictLast_1 : Fg := ⟨[(6, none), (7, none), (8, some tI), (9, some tI), (10, none), (12, none), (13, none)], [(6, some tyPolicy), (7, some tyKeep), (10, some tyRule), (12, none), (13, none), (66, none), (69, none), (72, none), (74, none), (77, none), (80, none)]⟩
def tb_law18_VerdictLast_1 : TC := (.dr dr_law18_VerdictLast_2 [(0, [66, 5066, 10066, 15066]), (1, [6]), (2, [6]), (3, [12, 66, 69, 72, 5069, 10069, 15069]), (4, [10]), (5, []), (6, [12, 66, 69, 72, 5072, 10072, 15072]), (7, [66, 69, 72]), (8, [74, 5074, 10074, 15074]), (9, [6]), (10, [6]), (11, [13, 74, 77, 80, 5077, 10077, 15077]), (12, [11]), (13, []), (14, [13, 74, 77, 80, 5080, 10080, 15080]), (15, [74, 77, 80]), (16, [12, 5012, 10012, 15012]), (17, [13, 5013, 10013, 15013]), (18, [12, 66, 69, 72]), (19, [13, 74, 77, 80])] (.one 1 (.one 2 (.one 4 (.one 5 (.one 9 (.one 10 (.one 12 (.one 13 (.alt 0 (.alt 3 (.alt 6 (.one 7 (.alt 8 (.alt 11 (.alt 14 (.one 15 (.alt 16 (.of [17, 18, 19]) (.of [17, 16, 18, 19]))) (.alt 16 (.alt 14 (.of [15, 17, 18, 19]) (.of [17, 14, 15, 18, 19])) (.one 17 (.alt 14 (.of [15, 16, 18, 19]) (.of [16, 14, 15, 18, 19]))))) (.alt 16 (.alt 11 (.alt 14 (.of [15, 17, 18, 19]) (.of [17, 14, 15, 18, 19])) (.of [17, 11, 14, 15, 18, 19])) (.one 17 (.alt 11 (.alt 14 (.of [15, 16, 18, 19]) (.of [16, 14, 15, 18, 19])) (.of [16, 11, 14, 15, 18, 19]))))) (.alt 16 (.alt 8 (.alt 11 (.alt 14 (.of [15, 17, 18, 19]) (.of [17, 14, 15, 18, 19])) (.of [17, 11, 14, 15, 18, 19])) (.of [17, 8, 11, 14, 15, 18, 19])) (.one 17 (.alt 8 (.alt 11 (.alt 14 (.of [15, 16, 18, 19]) (.of [16, 14, 15, 18, 19])) (.of [16, 11, 14, 15, 18, 19])) (.of [16, 8, 11, 14, 15, 18, 19])))))) (.alt 8 (.alt 6 (.one 7 (.alt 11 (.alt 14 (.one 15 (.alt 16 (.of [17, 18, 19]) (.of [17, 16, 18, 19]))) (.alt 16 (.alt 14 (.of [15, 17, 18, 19]) (.of [17, 14, 15, 18, 19])) (.one 17 (.alt 14 (.of [15, 16, 18, 19]) (.of [16, 14, 15, 18, 19]))))) (.alt 16 (.alt 11 (.alt 14 (.of [15, 17, 18, 19]) (.of [17, 14, 15, 18, 19])) (.of [17, 11, 14, 15, 18, 19])) (.one 17 (.alt 11 (.alt 14 (.of [15, 16, 18, 19]) (.of [16, 14, 15, 18, 19])) (.of [16, 11, 14, 15, 18, 19])))))) (.alt 16 (.alt 6 (.one 7 (.alt 11 (.alt 14 (.of [15, 17, 18, 19]) (.of [17, 14, 15, 18, 19])) (.of [17, 11, 14, 15, 18, 19]))) (.of [17, 6, 7, 11, 14, 15, 18, 19])) (.one 17 (.alt 6 (.one 7 (.alt 11 (.alt 14 (.of [15, 16, 18, 19]) (.of [16, 14, 15, 18, 19])) (.of [16, 11, 14, 15, 18, 19]))) (.of [16, 6, 7, 11, 14, 15, 18, 19]))))) (.alt 16 (.alt 6 (.one 7 (.alt 8 (.alt 11 (.alt 14 (.of [15, 17, 18, 19]) (.of [17, 14, 15, 18, 19])) (.of [17, 11, 14, 15, 18, 19])) (.of [17, 8, 11, 14, 15, 18, 19]))) (.alt 8 (.alt 6 (.one 7 (.alt 11 (.alt 14 (.of [15, 17, 18, 19]) (.of [17, 14, 15, 18, 19])) (.of [17, 11, 14, 15, 18, 19]))) (.of [17, 6, 7, 11, 14, 15, 18, 19])) (.one 17 (.alt 6 (.of [7, 8, 11, 14, 15, 18, 19]) (.of [8, 6, 7, 11, 14, 15, 18, 19]))))) (.one 17 (.alt 6 (.one 7 (.alt 8 (.alt 11 (.alt 14 (.of [15, 16, 18, 19]) (.of [16, 14, 15, 18, 19])) (.of [16, 11, 14, 15, 18, 19])) (.of [16, 8, 11, 14, 15, 18, 19]))) (.alt 8 (.alt 6 (.one 7 (.alt 11 (.alt 14 (.of [15, 16, 18, 19]) (.of [16, 14, 15, 18, 19])) (.of [16, 11, 14, 15, 18, 19]))) (.of [16, 6, 7, 11, 14, 15, 18, 19])) (.one 16 (.alt 6 (.of [7, 8, 11, 14, 15, 18, 19]) (.of [8, 6, 7, 11, 14, 15, 18, 19]))))))))) (.alt 8 (.alt 3 (.alt 6 (.one 7 (.alt 11 (.alt 14 (.one 15 (.alt 16 (.of [17, 18, 19]) (.of [17, 16, 18, 19]))) (.alt 16 (.alt 14 (.of [15, 17, 18, 19]) (.of [17, 14, 15, 18, 19])) (.one 17 (.alt 14 (.of [15, 16, 18, 19]) (.of [16, 14, 15, 18, 19]))))) (.alt 16 (.alt 11 (.alt 14 (.of [15, 17, 18, 19]) (.of [17, 14, 15, 18, 19])) (.of [17, 11, 14, 15, 18, 19])) (.one 17 (.alt 11 (.alt 14 (.of [15, 16, 18, 19]) (.of [16, 14, 15, 18, 19])) (.of [16, 11, 14, 15, 18, 19])))))) (.alt 16 (.alt 6 (.one 7 (.alt 11 (.alt 14 (.of [15, 17, 18, 19]) (.of [17, 14, 15, 18, 19])) (.of [17, 11, 14, 15, 18, 19]))) (.of [17, 6, 7, 11, 14, 15, 18, 19])) (.one 17 (.alt 6 (.one 7 (.alt 11 (.alt 14 (.of [15, 16, 18, 19]) (.of [16, 14, 15, 18, 19])) (.of [16, 11, 14, 15, 18, 19]))) (.of [16, 6, 7, 11, 14, 15, 18, 19]))))) (.alt 16 (.alt 3 (.alt 6 (.one 7 (.alt 11 (.alt 14 (.of [15, 17, 18, 19]) (.of [17, 14, 15, 18, 19])) (.of [17, 11, 14, 15, 18, 19]))) (.of [17, 6, 7, 11, 14, 15, 18, 19])) (.of [17, 3, 6, 7, 11, 14, 15, 18, 19])) (.one 17 (.alt 3 (.alt 6 (.one 7 (.alt 11 (.alt 14 (.of [15, 16, 18, 19]) (.of [16, 14, 15, 18, 19])) (.of [16, 11, 14, 15, 18, 19]))) (.of [16, 6, 7, 11, 14, 15, 18, 19])) (.of [16, 3, 6, 7, 11, 14, 15, 18, 19]))))) (.alt 16 (.alt 3 (.alt 6 (.one 7 (.alt 8 (.alt 11 (.alt 14 (.of [15, 17, 18, 19]) (.of [17, 14, 15, 18, 19])) (.of [17, 11, 14, 15, 18, 19])) (.of [17, 8, 11, 14, 15, 18, 19]))) (.alt 8 (.alt 6 (.one 7 (.alt 11 (.alt 14 (.of [15, 17, 18, 19]) (.of [17, 14, 15, 18, 19])) (.of [17, 11, 14, 15, 18, 19]))) (.of [17, 6, 7, 11, 14, 15, 18, 19])) (.one 17 (.alt 6 (.of [7, 8, 11, 14, 15, 18, 19]) (.of [8, 6, 7, 11, 14, 15, 18, 19]))))) (.alt 8 (.alt 3 (.alt 6 (.one 7 (.alt 11 (.alt 14 (.of [15, 17, 18, 19]) (.of [17, 14, 15, 18, 19])) (.of [17, 11, 14, 15, 18, 19]))) (.of [17, 6, 7, 11, 14, 15, 18, 19])) (.of [17, 3, 6, 7, 11, 14, 15, 18, 19])) (.one 17 (.alt 3 (.alt 6 (.of [7, 8, 11, 14, 15, 18, 19]) (.of [8, 6, 7, 11, 14, 15, 18, 19])) (.of [8, 3, 6, 7, 11, 14, 15, 18, 19]))))) (.one 17 (.alt 3 (.alt 6 (.one 7 (.alt 8 (.alt 11 (.alt 14 (.of [15, 16, 18, 19]) (.of [16, 14, 15, 18, 19])) (.of [16, 11, 14, 15, 18, 19])) (.of [16, 8, 11, 14, 15, 18, 19]))) (.alt 8 (.alt 6 (.one 7 (.alt 11 (.alt 14 (.of [15, 16, 18, 19]) (.of [16, 14, 15, 18, 19])) (.of [16, 11, 14, 15, 18, 19]))) (.of [16, 6, 7, 11, 14, 15, 18, 19])) (.one 16 (.alt 6 (.of [7, 8, 11, 14, 15, 18, 19]) (.of [8, 6, 7, 11, 14, 15, 18, 19]))))) (.alt 8 (.alt 3 (.alt 6 (.one 7 (.alt 11 (.alt 14 (.of [15, 16, 18, 19]) (.of [16, 14, 15, 18, 19])) (.of [16, 11, 14, 15, 18, 19]))) (.of [16, 6, 7, 11, 14, 15, 18, 19])) (.of [16, 3, 6, 7, 11, 14, 15, 18, 19])) (.one 16 (.alt 3 (.alt 6 (.of [7, 8, 11, 14, 15, 18, 19]) (.of [8, 6, 7, 11, 14, 15, 18, 19])) (.of [8, 3, 6, 7, 11, 14, 15, 18, 19]))))))))) (.alt 8 (.alt 0 (.alt 3 (.alt 6 (.one 7 (.alt 11 (.alt 14 (.one 15 (.alt 16 (.of [17, 18, 19]) (.of [17, 16, 18, 19]))) (.alt 16 (.alt 14 (.of [15, 17, 18, 19]) (.of [17, 14, 15, 18, 19])) (.one 17 (.alt 14 (.of [15, 16, 18, 19]) (.of [16, 14, 15, 18, 19]))))) (.alt 16 (.alt 11 (.alt 14 (.of [15, 17, 18, 19]) (.of [17, 14, 15, 18, 19])) (.of [17, 11, 14, 15, 18, 19])) (.one 17 (.alt 11 (.alt 14 (.of [15, 16, 18, 19]) (.of [16, 14, 15, 18, 19])) (.of [16, 11, 14, 15, 18, 19])))))) (.alt 16 (.alt 6 (.one 7 (.alt 11 (.alt 14 (.of [15, 17, 18, 19]) (.of [17, 14, 15, 18, 19])) (.of [17, 11, 14, 15, 18, 19]))) (.of [17, 6, 7, 11, 14, 15, 18, 19])) (.one 17 (.alt 6 (.one 7 (.alt 11 (.alt 14 (.of [15, 16, 18, 19]) (.of [16, 14, 15, 18, 19])) (.of [16, 11, 14, 15, 18, 19]))) (.of [16, 6, 7, 11, 14, 15, 18, 19]))))) (.alt 16 (.alt 3 (.alt 6 (.one 7 (.alt 11 (.alt 14 (.of [15, 17, 18, 19]) (.of [17, 14, 15, 18, 19])) (.of [17, 11, 14, 15, 18, 19]))) (.of [17, 6, 7, 11, 14, 15, 18, 19])) (.of [17, 3, 6, 7, 11, 14, 15, 18, 19])) (.one 17 (.alt 3 (.alt 6 (.one 7 (.alt 11 (.alt 14 (.of [15, 16, 18, 19]) (.of [16, 14, 15, 18, 19])) (.of [16, 11, 14, 15, 18, 19]))) (.of [16, 6, 7, 11, 14, 15, 18, 19])) (.of [16, 3, 6, 7, 11, 14, 15, 18, 19]))))) (.alt 16 (.alt 0 (.alt 3 (.alt 6 (.one 7 (.alt 11 (.alt 14 (.of [15, 17, 18, 19]) (.of [17, 14, 15, 18, 19])) (.of [17, 11, 14, 15, 18, 19]))) (.of [17, 6, 7, 11, 14, 15, 18, 19])) (.of [17, 3, 6, 7, 11, 14, 15, 18, 19])) (.of [17, 0, 3, 6, 7, 11, 14, 15, 18, 19])) (.one 17 (.alt 0 (.alt 3 (.alt 6 (.one 7 (.alt 11 (.alt 14 (.of [15, 16, 18, 19]) (.of [16, 14, 15, 18, 19])) (.of [16, 11, 14, 15, 18, 19]))) (.of [16, 6, 7, 11, 14, 15, 18, 19])) (.of [16, 3, 6, 7, 11, 14, 15, 18, 19])) (.of [16, 0, 3, 6, 7, 11, 14, 15, 18, 19]))))) (.alt 16 (.alt 0 (.alt 3 (.alt 6 (.one 7 (.alt 8 (.alt 11 (.alt 14 (.of [15, 17, 18, 19]) (.of [17, 14, 15, 18, 19])) (.of [17, 11, 14, 15, 18, 19])) (.of [17, 8, 11, 14, 15, 18, 19]))) (.alt 8 (.alt 6 (.one 7 (.alt 11 (.alt 14 (.of [15, 17, 18, 19]) (.of [17, 14, 15, 18, 19])) (.of [17, 11, 14, 15, 18, 19]))) (.of [17, 6, 7, 11, 14, 15, 18, 19])) (.one 17 (.alt 6 (.of [7, 8, 11, 14, 15, 18, 19]) (.of [8, 6, 7, 11, 14, 15, 18, 19]))))) (.alt 8 (.alt 3 (.alt 6 (.one 7 (.alt 11 (.alt 14 (.of [15, 17, 18, 19]) (.of [17, 14, 15, 18, 19])) (.of [17, 11, 14, 15, 18, 19]))) (.of [17, 6, 7, 11, 14, 15, 18, 19])) (.of [17, 3, 6, 7, 11, 14, 15, 18, 19])) (.one 17 (.alt 3 (.alt 6 (.of [7, 8, 11, 14, 15, 18, 19]) (.of [8, 6, 7, 11, 14, 15, 18, 19])) (.of [8, 3, 6, 7, 11, 14, 15, 18, 19]))))) (.alt 8 (.alt 0 (.alt 3 (.alt 6 (.one 7 (.alt 11 (.alt 14 (.of [15, 17, 18, 19]) (.of [17, 14, 15, 18, 19])) (.of [17, 11, 14, 15, 18, 19]))) (.of [17, 6, 7, 11, 14, 15, 18, 19])) (.of [17, 3, 6, 7, 11, 14, 15, 18, 19])) (.of [17, 0, 3, 6, 7, 11, 14, 15, 18, 19])) (.one 17 (.alt 0 (.alt 3 (.alt 6 (.of [7, 8, 11, 14, 15, 18, 19]) (.of [8, 6, 7, 11, 14, 15, 18, 19])) (.of [8, 3, 6, 7, 11, 14, 15, 18, 19])) (.of [8, 0, 3, 6, 7, 11, 14, 15, 18, 19]))))) (.one 17 (.alt 0 (.alt 3 (.alt 6 (.one 7 (.alt 8 (.alt 11 (.alt 14 (.of [15, 16, 18, 19]) (.of [16, 14, 15, 18, 19])) (.of [16, 11, 14, 15, 18, 19])) (.of [16, 8, 11, 14, 15, 18, 19]))) (.alt 8 (.alt 6 (.one 7 (.alt 11 (.alt 14 (.of [15, 16, 18, 19]) (.of [16, 14, 15, 18, 19])) (.of [16, 11, 14, 15, 18, 19]))) (.of [16, 6, 7, 11, 14, 15, 18, 19])) (.one 16 (.alt 6 (.of [7, 8, 11, 14, 15, 18, 19]) (.of [8, 6, 7, 11, 14, 15, 18, 19]))))) (.alt 8 (.alt 3 (.alt 6 (.one 7 (.alt 11 (.alt 14 (.of [15, 16, 18, 19]) (.of [16, 14, 15, 18, 19])) (.of [16, 11, 14, 15, 18, 19]))) (.of [16, 6, 7, 11, 14, 15, 18, 19])) (.of [16, 3, 6, 7, 11, 14, 15, 18, 19])) (.one 16 (.alt 3 (.alt 6 (.of [7, 8, 11, 14, 15, 18, 19]) (.of [8, 6, 7, 11, 14, 15, 18, 19])) (.of [8, 3, 6, 7, 11, 14, 15, 18, 19]))))) (.alt 8 (.alt 0 (.alt 3 (.alt 6 (.one 7 (.alt 11 (.alt 14 (.of [15, 16, 18, 19]) (.of [16, 14, 15, 18, 19])) (.of [16, 11, 14, 15, 18, 19]))) (.of [16, 6, 7, 11, 14, 15, 18, 19])) (.of [16, 3, 6, 7, 11, 14, 15, 18, 19])) (.of [16, 0, 3, 6, 7, 11, 14, 15, 18, 19])) (.one 16 (.alt 0 (.alt 3 (.alt 6 (.of [7, 8, 11, 14, 15, 18, 19]) (.of [8, 6, 7, 11, 14, 15, 18, 19])) (.of [8, 3, 6, 7, 11, 14, 15, 18, 19])) (.of [8, 0, 3, 6, 7, 11, 14, 15, 18, 19]))))))))))))))))))
def fg_law18_VerdictLast_0 : Fg := ⟨[(6, none), (7, none), (8, some tI), (9, some tI), (14, some .bool), (24, some (.sl tI)), (25, some tI), (26, none), (27, some tI)], [(6, some tyPolicy), (7, some tyKeep), (26, none), (183, none), (22600, none)]⟩
def tb_law18_VerdictLast_0 : TC := (.sq (.sq (.reg [(.mk (some 164) none (.m (.pu (.mv (.t 27))))), (.mk (some 165) none (.m (.pu (.fa 0 (.t 6))))), (.mk (some 166) none (.m (.ld false 1 (.t 165)))), (.mk (some 167) none (.m (.pu (.len false (.t 166))))), (.mk (some 168) none (.m (.pu (.bin false .lss (.t 164) (.t 167)))))]) (.cd (.t 168) .sk (.fg ⟨[(7, none), (8, some tI), (9, some tI), (14, some .bool), (25, some tI), (26, none)], [(7, some tyKeep), (26, some tyPolicy), (183, none), (22600, none)]⟩ (.ex 0)))) (.sq (.bk 1 (.sq (.reg [(.mk (some 171) none (.m (.pu (.mv (.t 24))))), (.mk (some 172) none (.m (.pu (.mv (.t 27))))), (.mk (some 173) none (.call 32 [(.t 171), (.t 172)])), (.mk (some 174) none (.m (.pu (.nt (.t 173)))))]) (.cd (.t 174) (.dr dr_law18_VerdictLast_3 [(0, [26, 183, 22600]), (1, [26, 183, 22600]), (2, [6]), (3, [6]), (4, []), (5, []), (6, []), (7, []), (8, [26, 183, 5183, 10183, 15183, 22600]), (9, [26, 183, 22600]), (10, [26, 183, 22600])] (.of [0, 1, 2, 3, 4, 5, 6, 7, 8, 9, 10])) .sk))) (.reg [(.mk (some 169) none (.m (.pu (.mv (.t 27))))), (.mk (some 170) none (.m (.pu (.bin false .add (.t 169) (.c (.v (.int .i64 1))))))), (.mk (some 27) none (.m (.pu (.mv (.t 170)))))])))
/-- cipherplan/cipherplanlaw18.VerdictLast -/
def tc_law18_VerdictLast : TC := (.sq (.reg [(.mk (some 4) none (.m (.pu (.mv (.c (.v (.bool false)))))))]) (.sq (.sq (.reg [(.mk (some 31) none (.m (.pu (.mv (.t 0))))), (.mk (some 32) none (.call 14 [(.t 31)])), (.mk (some 33) none (.m (.pu (.nt (.t 32)))))]) (.cd (.t 33) (.sq (.reg [(.mk (some 34) none (.call 12 [])), (.mk (some 4) none (.m (.pu (.mv (.t 34)))))]) .rt) .sk)) (.sq (.reg [(.mk (some 35) none (.m (.pu (.mv (.t 0))))), (.mk (some 36) none (.call 15 [(.t 35)])), (.mk (some 5) none (.m (.pu (.mv (.t 36)))))]) (.sq (.reg [(.mk (some 37) none (.m (.pu (.mv (.t 5))))), (.mk (some 38) none (.call 16 [(.t 37)])), (.mk (some 39) none (.m (.pu (.mv (.t 5))))), (.mk (some 40) none (.call 17 [(.t 39)])), (.mk (some 41) none (.m (.pu (.mv (.t 5))))), (.mk (some 42) none (.call 18 [(.t 41), (.c (.v (.int .i64 4)))])), (.mk (some 43) none (.m (.pu (.bin false .add (.c (.v (.int .i64 1))) (.t 42))))), (.mk (some 6) none (.m (.new [(.v (.slice none 0 0)), (.v (.slice none 0 0))]))), (.mk (some 7) none (.m (.new [(.v (.int .i64 0)), (.v (.int .i64 0))]))), (.mk none none (.m (.st 2 (.t 6) (.t 38)))), (.mk none none (.m (.st 2 (.t 7) (.t 40)))), (.mk (some 8) none (.m (.pu (.mv (.t 43)))))]) (.sq (.reg [(.mk (some 44) none (.m (.pu (.mv (.t 1))))), (.mk (some 45) none (.m (.pu (.cv .i64 (.t 44))))), (.mk (some 9) none (.m (.pu (.mv (.t 45)))))]) (.sq (.dr dr_law18_VerdictLast_0 [(0, [36, 5036, 10036, 15036]), (1, [36, 47, 5036, 5047, 10036, 10047, 15036, 15047]), (2, [7]), (3, [7]), (4, [36, 5036, 10036, 15036]), (5, [36, 51, 5036, 5051, 10036, 10051, 15036, 15051]), (6, []), (7, [10, 5010, 10010, 15010]), (8, [10])] (.one 0 (.one 2 (.one 3 (.alt 1 (.one 4 (.alt 5 (.of [6, 7, 8]) (.of [7, 5, 6, 8]))) (.alt 4 (.alt 1 (.alt 5 (.of [6, 7, 8]) (.of [7, 5, 6, 8])) (.of [7, 1, 5, 6, 8])) (.one 7 (.alt 1 (.of [4, 5, 6, 8]) (.of [4, 1, 5, 6, 8]))))))))) (.sq (.dr dr_law18_VerdictLast_1 [(0, [10]), (1, [10]), (2, []), (3, [36, 5036, 10036, 15036]), (4, [36, 57, 5036, 5057, 10036, 10057, 15036, 15057]), (5, []), (6, [10]), (7, [10])] (.of [0, 1, 2, 3, 4, 5, 6, 7])) (.sq (.reg [(.mk (some 60) none (.m (.ld true 6 (.t 10)))), (.mk (some 11) none (.m (.new [(.v (.bool false)), (.v (.int .i64 0)), (.v (.int .i64 0)), (.v (.int .i64 0)), (.v (.int .i64 0)), (.v (.int .i64 0))]))), (.mk none none (.m (.st 6 (.t 11) (.t 60))))]) (.sq (.reg [(.mk (some 61) none (.m (.pu (.fa 0 (.t 7))))), (.mk (some 62) none (.m (.ld false 1 (.t 61)))), (.mk (some 63) none (.m (.pu (.bin false .rem (.t 62) (.c (.v (.int .i64 22))))))), (.mk (some 64) none (.m (.pu (.bin false .add (.c (.v (.int .i64 1))) (.t 63))))), (.mk (some 65) none (.m (.pu (.fa 1 (.t 11))))), (.mk none none (.m (.st 1 (.t 65) (.t 64))))]) (.sq (.rg 1 fg_law18_VerdictLast_1 fh_law18_VerdictLast_1 tb_law18_VerdictLast_1) (.sq (.reg [(.mk (some 83) none (.m (.ld true 2 (.t 6)))), (.mk (some 84) none (.m (.ld true 2 (.t 7)))), (.mk (some 85) none (.m (.pu (.mv (.t 8))))), (.mk (some 86) none (.m (.pu (.mv (.t 9))))), (.mk (some 87) none (.call 21 [(.t 83), (.t 84), (.t 85), (.t 86)])), (.mk (some 82) none (.m (.pu (.mv (.t 87))))), (.mk (some 88) none (.m (.pu (.ext 0 (.t 82))))), (.mk (some 89) none (.m (.pu (.ext 1 (.t 82))))), (.mk (some 90) none (.m (.pu (.ext 2 (.t 82))))), (.mk (some 14) none (.m (.pu (.mv (.t 88))))), (.mk (some 15) none (.m (.pu (.mv (.t 89))))), (.mk (some 16) none (.m (.pu (.mv (.t 90)))))]) (.sq (.reg [(.mk (some 92) none (.m (.ld true 2 (.t 12)))), (.mk (some 93) none (.m (.ld true 2 (.t 7)))), (.mk (some 94) none (.m (.pu (.mv (.t 8))))), (.mk (some 95) none (.m (.pu (.mv (.t 9))))), (.mk (some 96) none (.call 21 [(.t 92), (.t 93), (.t 94), (.t 95)])), (.mk (some 91) none (.m (.pu (.mv (.t 96))))), (.mk (some 97) none (.m (.pu (.ext 0 (.t 91))))), (.mk (some 98) none (.m (.pu (.ext 1 (.t 91))))), (.mk (some 99) none (.m (.pu (.ext 2 (.t 91))))), (.mk (some 17) none (.m (.pu (.mv (.t 97))))), (.mk (some 18) none (.m (.pu (.mv (.t 98))))), (.mk (some 19) none (.m (.pu (.mv (.t 99)))))]) (.sq (.reg [(.mk (some 101) none (.m (.ld true 2 (.t 13)))), (.mk (some 102) none (.m (.ld true 2 (.t 7)))), (.mk (some 103) none (.m (.pu (.mv (.t 8))))), (.mk (some 104) none (.m (.pu (.mv (.t 9))))), (.mk (some 105) none (.call 21 [(.t 101), (.t 102), (.t 103), (.t 104)])), (.mk (some 100) none (.m (.pu (.mv (.t 105))))), (.mk (some 106) none (.m (.pu (.ext 0 (.t 100))))), (.mk (some 107) none (.m (.pu (.ext 1 (.t 100))))), (.mk (some 108) none (.m (.pu (.ext 2 (.t 100))))), (.mk (some 20) none (.m (.pu (.mv (.t 106))))), (.mk (some 21) none (.m (.pu (.mv (.t 107))))), (.mk (some 22) none (.m (.pu (.mv (.t 108)))))]) (.sq (.reg [(.mk (some 109) none (.m (.pu (.mv (.t 9))))), (.mk (some 110) none (.m (.pu (.fa 4 (.t 10))))), (.mk (some 111) none (.m (.ld false 1 (.t 110)))), (.mk (some 112) none (.m (.pu (.bin false .geq (.t 109) (.t 111))))), (.mk (some 113) none (.m (.pu (.mv (.t 112))))), (.mk (some 114) (some (113, true)) (.m (.pu (.mv (.t 9))))), (.mk (some 115) (some (113, true)) (.m (.pu (.fa 5 (.t 10))))), (.mk (some 116) (some (113, true)) (.m (.ld false 1 (.t 115)))), (.mk (some 117) (some (113, true)) (.m (.pu (.bin false .lss (.t 114) (.t 116))))), (.mk (some 118) none (.m (.pu (.pick (.t 113) (.t 117) (.c (.v (.bool false))))))), (.mk (some 23) none (.m (.pu (.mv (.t 118)))))]) (.sq (.sq (.reg [(.mk (some 119) none (.m (.pu (.mv (.t 16))))), (.mk (some 120) none (.m (.pu (.bin false .neq (.t 119) (.c (.v (.int .i64 0))))))), (.mk (some 121) none (.m (.pu (.mv (.t 120))))), (.mk (some 122) (some (121, false)) (.m (.pu (.mv (.t 19))))), (.mk (some 123) (some (121, false)) (.m (.pu (.bin false .neq (.t 122) (.c (.v (.int .i64 0))))))), (.mk (some 124) none (.m (.pu (.pick (.t 121) (.c (.v (.bool true))) (.t 123))))), (.mk (some 125) none (.m (.pu (.mv (.t 124))))), (.mk (some 126) (some (125, false)) (.m (.pu (.mv (.t 22))))), (.mk (some 127) (some (125, false)) (.m (.pu (.bin false .neq (.t 126) (.c (.v (.int .i64 0))))))), (.mk (some 128) none (.m (.pu (.pick (.t 125) (.c (.v (.bool true))) (.t 127))))), (.mk (some 129) none (.m (.pu (.mv (.t 128))))), (.mk (some 130) (some (129, false)) (.m (.pu (.mv (.t 23))))), (.mk (some 131) (some (129, false)) (.m (.pu (.mv (.t 130))))), (.mk (some 132) (some (131, true)) (.m (.pu (.mv (.t 17))))), (.mk (some 133) (some (131, true)) (.m (.pu (.fa 0 (.t 10))))), (.mk (some 134) (some (131, true)) (.m (.ld false 1 (.t 133)))), (.mk (some 135) (some (131, true)) (.m (.pu (.bin true .neq (.t 132) (.t 134))))), (.mk (some 136) (some (131, true)) (.m (.pu (.mv (.t 135))))), (.mk (some 137) (some (136, false)) (.m (.pu (.mv (.t 18))))), (.mk (some 138) (some (136, false)) (.m (.pu (.fa 0 (.t 6))))), (.mk (some 139) (some (136, false)) (.m (.ld false 1 (.t 138)))), (.mk (some 140) (some (136, false)) (.m (.pu (.len false (.t 139))))), (.mk (some 141) (some (136, false)) (.m (.pu (.bin false .neq (.t 137) (.t 140))))), (.mk (some 142) (some (131, true)) (.m (.pu (.pick (.t 136) (.c (.v (.bool true))) (.t 141))))), (.mk (some 143) (some (129, false)) (.m (.pu (.pick (.t 131) (.t 142) (.c (.v (.bool false))))))), (.mk (some 144) none (.m (.pu (.pick (.t 129) (.c (.v (.bool true))) (.t 143))))), (.mk (some 145) none (.m (.pu (.mv (.t 144))))), (.mk (some 146) (some (145, false)) (.m (.pu (.mv (.t 23))))), (.mk (some 147) (some (145, false)) (.m (.pu (.nt (.t 146))))), (.mk (some 148) (some (145, false)) (.m (.pu (.mv (.t 147))))), (.mk (some 149) (some (148, true)) (.m (.pu (.mv (.t 17))))), (.mk (some 150) (some (148, true)) (.m (.pu (.mv (.t 14))))), (.mk (some 151) (some (148, true)) (.m (.pu (.bin true .neq (.t 149) (.t 150))))), (.mk (some 152) (some (145, false)) (.m (.pu (.pick (.t 148) (.t 151) (.c (.v (.bool false))))))), (.mk (some 153) none (.m (.pu (.pick (.t 145) (.c (.v (.bool true))) (.t 152))))), (.mk (some 154) none (.m (.pu (.mv (.t 153))))), (.mk (some 155) (some (154, false)) (.m (.pu (.mv (.t 20))))), (.mk (some 156) (some (154, false)) (.m (.pu (.mv (.t 14))))), (.mk (some 157) (some (154, false)) (.m (.pu (.bin true .neq (.t 155) (.t 156))))), (.mk (some 158) none (.m (.pu (.pick (.t 154) (.c (.v (.bool true))) (.t 157)))))]) (.cd (.t 158) (.sq (.reg [(.mk (some 4) none (.m (.pu (.mv (.c (.v (.bool false)))))))]) .rt) .sk)) (.sq (.reg [(.mk (some 160) none (.m (.ld true 2 (.t 6)))), (.mk (some 161) none (.call 29 [(.t 160)])), (.mk (some 159) none (.m (.pu (.mv (.t 161))))), (.mk (some 162) none (.m (.pu (.ext 0 (.t 159))))), (.mk (some 163) none (.m (.pu (.ext 1 (.t 159))))), (.mk (some 24) none (.m (.pu (.mv (.t 162))))), (.mk (some 25) none (.m (.pu (.mv (.t 163)))))]) (.sq (.reg [(.mk (some 26) none (.m (.new [(.v (.slice none 0 0)), (.v (.slice none 0 0))])))]) (.sq (.sq (.reg [(.mk (some 27) none (.m (.pu (.mv (.c (.v (.int .i64 0)))))))]) (.bk 0 (.nf 26 0 56 22600 (.lp 0 fg_law18_VerdictLast_0 tb_law18_VerdictLast_0)))) (.sq (.reg [(.mk (some 186) none (.m (.ld true 2 (.t 26)))), (.mk (some 187) none (.m (.ld true 2 (.t 7)))), (.mk (some 188) none (.m (.pu (.mv (.t 8))))), (.mk (some 189) none (.m (.pu (.mv (.t 9))))), (.mk (some 190) none (.call 21 [(.t 186), (.t 187), (.t 188), (.t 189)])), (.mk (some 185) none (.m (.pu (.mv (.t 190))))), (.mk (some 191) none (.m (.pu (.ext 0 (.t 185))))), (.mk (some 192) none (.m (.pu (.ext 1 (.t 185))))), (.mk (some 193) none (.m (.pu (.ext 2 (.t 185))))), (.mk (some 28) none (.m (.pu (.mv (.t 191))))), (.mk (some 29) none (.m (.pu (.mv (.t 192))))), (.mk (some 30) none (.m (.pu (.mv (.t 193)))))]) (.sq (.reg [(.mk (some 194) none (.m (.pu (.mv (.t 25))))), (.mk (some 195) none (.m (.pu (.bin false .eql (.t 194) (.c (.v (.int .i64 0))))))), (.mk (some 196) none (.m (.pu (.mv (.t 195))))), (.mk (some 197) (some (196, true)) (.m (.pu (.mv (.t 30))))), (.mk (some 198) (some (196, true)) (.m (.pu (.bin false .eql (.t 197) (.c (.v (.int .i64 0))))))), (.mk (some 199) none (.m (.pu (.pick (.t 196) (.t 198) (.c (.v (.bool false))))))), (.mk (some 200) none (.m (.pu (.mv (.t 199))))), (.mk (some 201) (some (200, true)) (.m (.pu (.mv (.t 28))))), (.mk (some 202) (some (200, true)) (.m (.pu (.mv (.t 14))))), (.mk (some 203) (some (200, true)) (.m (.pu (.bin true .eql (.t 201) (.t 202))))), (.mk (some 204) none (.m (.pu (.pick (.t 200) (.t 203) (.c (.v (.bool false))))))), (.mk (some 205) none (.m (.pu (.mv (.t 204))))), (.mk (some 206) (some (205, true)) (.call 12 [])), (.mk (some 207) none (.m (.pu (.pick (.t 205) (.t 206) (.c (.v (.bool false))))))), (.mk (some 4) none (.m (.pu (.mv (.t 207)))))]) .rt))))))))))))))))))))
def rv_law18_VerdictLast : List (RV × Option Ty) := [((.t 4), some .bool)]
abbrev sh_law18_VerdictLast_1 : Sh := ⟨[(6, .ptr 6 0), (7, .ptr 7 0), (8, .ty tI), (9, .ty tI), (10, .ptr 10 0), (11, .ptr 11 0)], [(6, .box tyPolicy), (7, .box tyKeep), (10, .box tyRule), (11, .box tyRule)]⟩
def st_law18_VerdictLast_1 (x8 : Int) (x9 : Int) (y6 : Policy) (y7 : Keep) (y10 : Rule) (y11 : Rule) : VS := sh_law18_VerdictLast_1.st ((), (), x8, x9, (), (), ()) (y6, y7, y10, y11, ())
abbrev sh_law18_VerdictLast_1_normal : Sh := ⟨[(6, .ptr 6 0), (7, .ptr 7 0), (8, .ty tI), (9, .ty tI), (10, .ptr 10 0), (12, .ptr 12 0), (13, .ptr 13 0)], [(6, .box tyPolicy), (7, .box tyKeep), (10, .box tyRule), (12, .bag [.ms 66, .nl]), (13, .bag [.ms 74, .nl]), (66, .arr 56 tyRule), (69, .no), (72, .no), (74, .arr 56 tyRule), (77, .no), (80, .no)]⟩
def st_law18_VerdictLast_1_normal (x8 : Int) (x9 : Int) (y6 : Policy) (y7 : Keep) (y10 : Rule) (y66 : (List Rule)) (y74 : (List Rule)) : VS := sh_law18_VerdictLast_1_normal.st ((), (), x8, x9, (), (), (), ()) (y6, y7, y10, ((), (), ()), ((), (), ()), y66, (), (), y74, (), (), ())
-- loop 1: (x8 : Int) (x9 : Int) (y6 : Policy) (y7 : Keep) (y10 : Rule) (y11 : Rule); out: ('normal',) (x8 : Int) (x9 : Int) (y6 : Policy) (y7 : Keep) (y10 : Rule) (y66 : (List Rule)) (y74 : (List Rule))
abbrev sh_law18_VerdictLast_0 : Sh := ⟨[(6, .ptr 6 0), (7, .ptr 7 0), (8, .ty tI), (9, .ty tI), (14, .ty .bool), (24, .ty (.sl tI)), (25, .ty tI), (26, .ptr 26 0), (27, .ty tI)], [(6, .box tyPolicy), (7, .box tyKeep), (26, .bag [.ms 22600, .nl]), (183, .no), (22600, .arr 56 tyRule)]⟩
def st_law18_VerdictLast_0 (x8 : Int) (x9 : Int) (x14 : Bool) (x24 : (List Int)) (x25 : Int) (x27 : Int) (y6 : Policy) (y7 : Keep) (y22600 : (List Rule)) : VS := sh_law18_VerdictLast_0.st ((), (), x8, x9, x14, x24, x25, (), x27, ()) (y6, y7, ((), (), ()), (), y22600, ())
abbrev sh_law18_VerdictLast_0_e0 : Sh := ⟨[(7, .ptr 7 0), (8, .ty tI), (9, .ty tI), (14, .ty .bool), (25, .ty tI), (26, .ptr 26 0)], [(7, .box tyKeep), (26, .bag [.ms 22600, .nl]), (183, .no), (22600, .arr 56 tyRule)]⟩
def st_law18_VerdictLast_0_e0 (x8 : Int) (x9 : Int) (x14 : Bool) (x25 : Int) (y7 : Keep) (y22600 : (List Rule)) : VS := sh_law18_VerdictLast_0_e0.st ((), x8, x9, x14, x25, (), ()) (y7, ((), (), ()), (), y22600, ())
-- loop 0: (x8 : Int) (x9 : Int) (x14 : Bool) (x24 : (List Int)) (x25 : Int) (x27 : Int) (y6 : Policy) (y7 : Keep) (y22600 : (List Rule)); out: ('exit', 0) (x8 : Int) (x9 : Int) (x14 : Bool) (x25 : Int) (y7 : Keep) (y22600 : (List Rule))
def L_law18_VerdictLast_1 : VS → Option (Bool × List (Bool × Exit × VS)) := mkL sh_law18_VerdictLast_1 (fun x y => (decide (y.1.1.length ≤ 1000))) (fun x y => [(true, .normal, st_law18_VerdictLast_1_normal (x.2.2.1) (x.2.2.2.1) (y.1) (y.2.1) (y.2.2.1) (y.1.1 ++ [y.2.2.1]) (y.1.1 ++ [y.2.2.2.1]))])
def L_law18_VerdictLast_0 : VS → Option (Bool × List (Bool × Exit × VS)) := mkL sh_law18_VerdictLast_0 (fun x y => (decide (0 ≤ x.2.2.2.2.2.2.2.2.1 ∧ x.2.2.2.2.2.2.2.2.1 ≤ y.1.1.length ∧ y.1.1.length ≤ 1000 ∧ (y.2.2.2.2.1.length : Int) ≤ x.2.2.2.2.2.2.2.2.1) && lenOk5 x.2.2.2.2.2.1)) (fun x y => [(true, .exit 0, st_law18_VerdictLast_0_e0 (x.2.2.1) (x.2.2.2.1) (x.2.2.2.2.1) (x.2.2.2.2.2.2.1) (y.2.1) (y.2.2.2.2.1 ++ lessK x.2.2.2.2.2.1 x.2.2.2.2.2.2.2.2.1 (y.1.1.drop x.2.2.2.2.2.2.2.2.1.toNat)))])
def g_law18_VerdictLast : G := ⟨TYs, [66, 74], 208, EL [(12, sp_law18_awake), (14, sp_make_Light), (15, sp_make_Roll), (16, sp_make_Policy), (17, sp_make_Use), (18, sp_make_Dice_Next), (21, sp_verdict_Allowed), (28, sp_make_Dice_One), (29, sp_verdict_Dead), (32, sp_ref02_Has)], keeps, (Ls [L_law18_VerdictLast_0, L_law18_VerdictLast_1]), IL [], RL []⟩
noncomputable def n_law18_VerdictLast_1_3 (x8 : Int) (x9 : Int) (y6 : Policy) (y7 : Keep) (y10 : Rule) (y11 : Rule) : Option (Exit × VS) :=
  br (cApp (([] : List Rule) ++ y6.1) ([(y11.1, (y11.2.1, (y11.2.2.1, (y11.2.2.2.1, (y11.2.2.2.2.1, (y11.2.2.2.2.2.1, ()))))))]) 48)
    (some (.normal, st_law18_VerdictLast_1_normal x8 x9 y6 y7 y10 ((([] : List Rule) ++ y6.1) ++ ([(y10.1, (y10.2.1, (y10.2.2.1, (y10.2.2.2.1, (y10.2.2.2.2.1, (y10.2.2.2.2.2.1, ()))))))])) ((([] : List Rule) ++ y6.1) ++ ([(y11.1, (y11.2.1, (y11.2.2.1, (y11.2.2.2.1, (y11.2.2.2.2.1, (y11.2.2.2.2.2.1, ()))))))]))))
    (none)
noncomputable def n_law18_VerdictLast_1_2 (x8 : Int) (x9 : Int) (y6 : Policy) (y7 : Keep) (y10 : Rule) (y11 : Rule) : Option (Exit × VS) :=
  frk
    (n_law18_VerdictLast_1_3 x8 x9 y6 y7 y10 y11)
    (n_law18_VerdictLast_1_3 x8 x9 y6 y7 y10 y11)
noncomputable def n_law18_VerdictLast_1_5 (x8 : Int) (x9 : Int) (y6 : Policy) (y7 : Keep) (y10 : Rule) (y11 : Rule) : Option (Exit × VS) :=
  br (cApp ([] : List Rule) y6.1 48)
    (n_law18_VerdictLast_1_3 x8 x9 y6 y7 y10 y11)
    (none)
noncomputable def n_law18_VerdictLast_1_4 (x8 : Int) (x9 : Int) (y6 : Policy) (y7 : Keep) (y10 : Rule) (y11 : Rule) : Option (Exit × VS) :=
  frk
    (br (cApp ([] : List Rule) y6.1 48)
      (n_law18_VerdictLast_1_2 x8 x9 y6 y7 y10 y11)
      (none))
    (n_law18_VerdictLast_1_5 x8 x9 y6 y7 y10 y11)
noncomputable def n_law18_VerdictLast_1_1 (x8 : Int) (x9 : Int) (y6 : Policy) (y7 : Keep) (y10 : Rule) (y11 : Rule) : Option (Exit × VS) :=
  frk
    (br (cApp ([] : List Rule) y6.1 48)
      (frk
        (br (cApp (([] : List Rule) ++ y6.1) ([(y11.1, (y11.2.1, (y11.2.2.1, (y11.2.2.2.1, (y11.2.2.2.2.1, (y11.2.2.2.2.2.1, ()))))))]) 48)
          (frk
            (some (.normal, st_law18_VerdictLast_1_normal x8 x9 y6 y7 y10 ((([] : List Rule) ++ y6.1) ++ ([(y10.1, (y10.2.1, (y10.2.2.1, (y10.2.2.2.1, (y10.2.2.2.2.1, (y10.2.2.2.2.2.1, ()))))))])) ((([] : List Rule) ++ y6.1) ++ ([(y11.1, (y11.2.1, (y11.2.2.1, (y11.2.2.2.1, (y11.2.2.2.2.1, (y11.2.2.2.2.2.1, ()))))))]))))
            (some (.normal, st_law18_VerdictLast_1_normal x8 x9 y6 y7 y10 ((([] : List Rule) ++ y6.1) ++ ([(y10.1, (y10.2.1, (y10.2.2.1, (y10.2.2.2.1, (y10.2.2.2.2.1, (y10.2.2.2.2.2.1, ()))))))])) ((([] : List Rule) ++ y6.1) ++ ([(y11.1, (y11.2.1, (y11.2.2.1, (y11.2.2.2.1, (y11.2.2.2.2.1, (y11.2.2.2.2.2.1, ()))))))])))))
          (none))
        (frk
          (n_law18_VerdictLast_1_2 x8 x9 y6 y7 y10 y11)
          (n_law18_VerdictLast_1_2 x8 x9 y6 y7 y10 y11)))
      (none))
    (frk
      (n_law18_VerdictLast_1_4 x8 x9 y6 y7 y10 y11)
      (n_law18_VerdictLast_1_4 x8 x9 y6 y7 y10 y11))
noncomputable def n_law18_VerdictLast_1_6 (x8 : Int) (x9 : Int) (y6 : Policy) (y7 : Keep) (y10 : Rule) (y11 : Rule) : Option (Exit × VS) :=
  frk
    (n_law18_VerdictLast_1_4 x8 x9 y6 y7 y10 y11)
    (n_law18_VerdictLast_1_5 x8 x9 y6 y7 y10 y11)
noncomputable def n_law18_VerdictLast_1_9 (x8 : Int) (x9 : Int) (y6 : Policy) (y7 : Keep) (y10 : Rule) (y11 : Rule) : Option (Exit × VS) :=
  br (cApp (([] : List Rule) ++ y6.1) ([(y10.1, (y10.2.1, (y10.2.2.1, (y10.2.2.2.1, (y10.2.2.2.2.1, (y10.2.2.2.2.2.1, ()))))))]) 48)
    (n_law18_VerdictLast_1_5 x8 x9 y6 y7 y10 y11)
    (none)
noncomputable def n_law18_VerdictLast_1_8 (x8 : Int) (x9 : Int) (y6 : Policy) (y7 : Keep) (y10 : Rule) (y11 : Rule) : Option (Exit × VS) :=
  frk
    (br (cApp (([] : List Rule) ++ y6.1) ([(y10.1, (y10.2.1, (y10.2.2.1, (y10.2.2.2.1, (y10.2.2.2.2.1, (y10.2.2.2.2.2.1, ()))))))]) 48)
      (n_law18_VerdictLast_1_4 x8 x9 y6 y7 y10 y11)
      (none))
    (n_law18_VerdictLast_1_9 x8 x9 y6 y7 y10 y11)
noncomputable def n_law18_VerdictLast_1_7 (x8 : Int) (x9 : Int) (y6 : Policy) (y7 : Keep) (y10 : Rule) (y11 : Rule) : Option (Exit × VS) :=
  frk
    (br (cApp (([] : List Rule) ++ y6.1) ([(y10.1, (y10.2.1, (y10.2.2.1, (y10.2.2.2.1, (y10.2.2.2.2.1, (y10.2.2.2.2.2.1, ()))))))]) 48)
      (n_law18_VerdictLast_1_1 x8 x9 y6 y7 y10 y11)
      (none))
    (frk
      (n_law18_VerdictLast_1_8 x8 x9 y6 y7 y10 y11)
      (n_law18_VerdictLast_1_8 x8 x9 y6 y7 y10 y11))
noncomputable def n_law18_VerdictLast_1_11 (x8 : Int) (x9 : Int) (y6 : Policy) (y7 : Keep) (y10 : Rule) (y11 : Rule) : Option (Exit × VS) :=
  frk
    (n_law18_VerdictLast_1_9 x8 x9 y6 y7 y10 y11)
    (n_law18_VerdictLast_1_9 x8 x9 y6 y7 y10 y11)
noncomputable def n_law18_VerdictLast_1_10 (x8 : Int) (x9 : Int) (y6 : Policy) (y7 : Keep) (y10 : Rule) (y11 : Rule) : Option (Exit × VS) :=
  frk
    (br (cApp (([] : List Rule) ++ y6.1) ([(y10.1, (y10.2.1, (y10.2.2.1, (y10.2.2.2.1, (y10.2.2.2.2.1, (y10.2.2.2.2.2.1, ()))))))]) 48)
      (n_law18_VerdictLast_1_6 x8 x9 y6 y7 y10 y11)
      (none))
    (frk
      (n_law18_VerdictLast_1_8 x8 x9 y6 y7 y10 y11)
      (n_law18_VerdictLast_1_11 x8 x9 y6 y7 y10 y11))
noncomputable def n_law18_VerdictLast_1_14 (x8 : Int) (x9 : Int) (y6 : Policy) (y7 : Keep) (y10 : Rule) (y11 : Rule) : Option (Exit × VS) :=
  br (cApp ([] : List Rule) y6.1 48)
    (n_law18_VerdictLast_1_9 x8 x9 y6 y7 y10 y11)
    (none)
noncomputable def n_law18_VerdictLast_1_13 (x8 : Int) (x9 : Int) (y6 : Policy) (y7 : Keep) (y10 : Rule) (y11 : Rule) : Option (Exit × VS) :=
  frk
    (br (cApp ([] : List Rule) y6.1 48)
      (n_law18_VerdictLast_1_8 x8 x9 y6 y7 y10 y11)
      (none))
    (n_law18_VerdictLast_1_14 x8 x9 y6 y7 y10 y11)
noncomputable def n_law18_VerdictLast_1_12 (x8 : Int) (x9 : Int) (y6 : Policy) (y7 : Keep) (y10 : Rule) (y11 : Rule) : Option (Exit × VS) :=
  frk
    (br (cApp ([] : List Rule) y6.1 48)
      (n_law18_VerdictLast_1_7 x8 x9 y6 y7 y10 y11)
      (none))
    (frk
      (n_law18_VerdictLast_1_13 x8 x9 y6 y7 y10 y11)
      (n_law18_VerdictLast_1_13 x8 x9 y6 y7 y10 y11))
noncomputable def n_law18_VerdictLast_1_16 (x8 : Int) (x9 : Int) (y6 : Policy) (y7 : Keep) (y10 : Rule) (y11 : Rule) : Option (Exit × VS) :=
  frk
    (br (cApp ([] : List Rule) y6.1 48)
      (n_law18_VerdictLast_1_11 x8 x9 y6 y7 y10 y11)
      (none))
    (n_law18_VerdictLast_1_14 x8 x9 y6 y7 y10 y11)
noncomputable def n_law18_VerdictLast_1_15 (x8 : Int) (x9 : Int) (y6 : Policy) (y7 : Keep) (y10 : Rule) (y11 : Rule) : Option (Exit × VS) :=
  frk
    (br (cApp ([] : List Rule) y6.1 48)
      (n_law18_VerdictLast_1_10 x8 x9 y6 y7 y10 y11)
      (none))
    (frk
      (n_law18_VerdictLast_1_13 x8 x9 y6 y7 y10 y11)
      (n_law18_VerdictLast_1_16 x8 x9 y6 y7 y10 y11))
noncomputable def n_law18_VerdictLast_1_17 (x8 : Int) (x9 : Int) (y6 : Policy) (y7 : Keep) (y10 : Rule) (y11 : Rule) : Option (Exit × VS) :=
  frk
    (n_law18_VerdictLast_1_13 x8 x9 y6 y7 y10 y11)
    (n_law18_VerdictLast_1_14 x8 x9 y6 y7 y10 y11)
noncomputable def n_law18_VerdictLast_1_18 (x8 : Int) (x9 : Int) (y6 : Policy) (y7 : Keep) (y10 : Rule) (y11 : Rule) : Option (Exit × VS) :=
  frk
    (n_law18_VerdictLast_1_15 x8 x9 y6 y7 y10 y11)
    (frk
      (n_law18_VerdictLast_1_17 x8 x9 y6 y7 y10 y11)
      (frk
        (n_law18_VerdictLast_1_16 x8 x9 y6 y7 y10 y11)
        (n_law18_VerdictLast_1_14 x8 x9 y6 y7 y10 y11)))
noncomputable def n_law18_VerdictLast_1 (x8 : Int) (x9 : Int) (y6 : Policy) (y7 : Keep) (y10 : Rule) (y11 : Rule) : Option (Exit × VS) :=
  frk
    (frk
      (br (cApp ([] : List Rule) y6.1 48)
        (frk
          (br (cApp (([] : List Rule) ++ y6.1) ([(y10.1, (y10.2.1, (y10.2.2.1, (y10.2.2.2.1, (y10.2.2.2.2.1, (y10.2.2.2.2.2.1, ()))))))]) 48)
            (frk
              (n_law18_VerdictLast_1_1 x8 x9 y6 y7 y10 y11)
              (frk
                (n_law18_VerdictLast_1_6 x8 x9 y6 y7 y10 y11)
                (n_law18_VerdictLast_1_6 x8 x9 y6 y7 y10 y11)))
            (none))
          (frk
            (n_law18_VerdictLast_1_7 x8 x9 y6 y7 y10 y11)
            (frk
              (n_law18_VerdictLast_1_10 x8 x9 y6 y7 y10 y11)
              (n_law18_VerdictLast_1_10 x8 x9 y6 y7 y10 y11))))
        (none))
      (frk
        (n_law18_VerdictLast_1_12 x8 x9 y6 y7 y10 y11)
        (frk
          (n_law18_VerdictLast_1_15 x8 x9 y6 y7 y10 y11)
          (n_law18_VerdictLast_1_15 x8 x9 y6 y7 y10 y11))))
    (frk
      (frk
        (n_law18_VerdictLast_1_12 x8 x9 y6 y7 y10 y11)
        (frk
          (n_law18_VerdictLast_1_17 x8 x9 y6 y7 y10 y11)
          (n_law18_VerdictLast_1_17 x8 x9 y6 y7 y10 y11)))
      (frk
        (n_law18_VerdictLast_1_18 x8 x9 y6 y7 y10 y11)
        (n_law18_VerdictLast_1_18 x8 x9 y6 y7 y10 y11)))
noncomputable def lp_law18_VerdictLast_1 (x8 : Int) (x9 : Int) (y6 : Policy) (y7 : Keep) (y10 : Rule) (y11 : Rule) : Option (Exit × VS) := ev g_law18_VerdictLast tb_law18_VerdictLast_1 (st_law18_VerdictLast_1 x8 x9 y6 y7 y10 y11) fun e S => some (e, fgt fh_law18_VerdictLast_1 S)
def la_law18_VerdictLast_1 (x8 : Int) (x9 : Int) (y6 : Policy) (y7 : Keep) (y10 : Rule) (y11 : Rule) : Option (Exit × VS) := some (.normal, st_law18_VerdictLast_1_normal (x8) (x9) (y6) (y7) (y10) (y6.1 ++ [y10]) (y6.1 ++ [y11]))
theorem ln_law18_VerdictLast_1 (x8 : Int) (x9 : Int) (y6 : Policy) (y7 : Keep) (y10 : Rule) (y11 : Rule) : lp_law18_VerdictLast_1 x8 x9 y6 y7 y10 y11 = n_law18_VerdictLast_1 x8 x9 y6 y7 y10 y11 := by kernel_rfl
def b_law18_VerdictLast_0 (x8 : Int) (x9 : Int) (x14 : Bool) (x24 : (List Int)) (x25 : Int) (x27 : Int) (y6 : Policy) (y7 : Keep) (y22600 : (List Rule)) : Option (Exit × VS) :=
  br ((ilt x27 (llen y6.1)))
    (br ((hasOk x24 x27))
      (br ((!(hasI x24 x27)))
        (br (cIx y6.1 x27)
          (br (cApp y22600 ([((lgt tyRule y6.1 (Int.toNat x27)).1, (((lgt tyRule y6.1 (Int.toNat x27)).2).1, ((((lgt tyRule y6.1 (Int.toNat x27)).2).2).1, (((((lgt tyRule y6.1 (Int.toNat x27)).2).2).2).1, ((((((lgt tyRule y6.1 (Int.toNat x27)).2).2).2).2).1, (((((((lgt tyRule y6.1 (Int.toNat x27)).2).2).2).2).2).1, ()))))))]) 48)
            (some (.normal, st_law18_VerdictLast_0 x8 x9 x14 x24 x25 (iadd .i64 x27 1) y6 y7 (y22600 ++ ([((lgt tyRule y6.1 (Int.toNat x27)).1, (((lgt tyRule y6.1 (Int.toNat x27)).2).1, ((((lgt tyRule y6.1 (Int.toNat x27)).2).2).1, (((((lgt tyRule y6.1 (Int.toNat x27)).2).2).2).1, ((((((lgt tyRule y6.1 (Int.toNat x27)).2).2).2).2).1, (((((((lgt tyRule y6.1 (Int.toNat x27)).2).2).2).2).2).1, ()))))))]))))
            (none))
          (none))
        (some (.normal, st_law18_VerdictLast_0 x8 x9 x14 x24 x25 (iadd .i64 x27 1) y6 y7 y22600)))
      (none))
    (some (.exit 0, st_law18_VerdictLast_0_e0 x8 x9 x14 x25 y7 y22600))
noncomputable def lp_law18_VerdictLast_0 (x8 : Int) (x9 : Int) (x14 : Bool) (x24 : (List Int)) (x25 : Int) (x27 : Int) (y6 : Policy) (y7 : Keep) (y22600 : (List Rule)) : Option (Exit × VS) := loopF (roundF g_law18_VerdictLast fg_law18_VerdictLast_0 tb_law18_VerdictLast_0) (st_law18_VerdictLast_0 x8 x9 x14 x24 x25 x27 y6 y7 y22600)
noncomputable def n_law18_VerdictLast_0 (x8 : Int) (x9 : Int) (x14 : Bool) (x24 : (List Int)) (x25 : Int) (x27 : Int) (y6 : Policy) (y7 : Keep) (y22600 : (List Rule)) : Option (Exit × VS) :=
  br ((ilt x27 (llen y6.1)))
    (br ((hasOk x24 x27))
      (br ((!(hasI x24 x27)))
        (br (cIx y6.1 x27)
          (br (cApp y22600 ([((lgt tyRule y6.1 (Int.toNat x27)).1, (((lgt tyRule y6.1 (Int.toNat x27)).2).1, ((((lgt tyRule y6.1 (Int.toNat x27)).2).2).1, (((((lgt tyRule y6.1 (Int.toNat x27)).2).2).2).1, ((((((lgt tyRule y6.1 (Int.toNat x27)).2).2).2).2).1, (((((((lgt tyRule y6.1 (Int.toNat x27)).2).2).2).2).2).1, ()))))))]) 48)
            (lp_law18_VerdictLast_0 x8 x9 x14 x24 x25 (iadd .i64 x27 1) y6 y7 (y22600 ++ ([((lgt tyRule y6.1 (Int.toNat x27)).1, (((lgt tyRule y6.1 (Int.toNat x27)).2).1, ((((lgt tyRule y6.1 (Int.toNat x27)).2).2).1, (((((lgt tyRule y6.1 (Int.toNat x27)).2).2).2).1, ((((((lgt tyRule y6.1 (Int.toNat x27)).2).2).2).2).1, (((((((lgt tyRule y6.1 (Int.toNat x27)).2).2).2).2).2).1, ()))))))])))
            (none))
          (none))
        (lp_law18_VerdictLast_0 x8 x9 x14 x24 x25 (iadd .i64 x27 1) y6 y7 y22600))
      (none))
    (some (.exit 0, st_law18_VerdictLast_0_e0 x8 x9 x14 x25 y7 y22600))
def la_law18_VerdictLast_0 (x8 : Int) (x9 : Int) (x14 : Bool) (x24 : (List Int)) (x25 : Int) (x27 : Int) (y6 : Policy) (y7 : Keep) (y22600 : (List Rule)) : Option (Exit × VS) := some (.exit 0, st_law18_VerdictLast_0_e0 (x8) (x9) (x14) (x25) (y7) (y22600 ++ lessK x24 x27 (y6.1.drop x27.toNat)))
theorem be_law18_VerdictLast_0 (x8 : Int) (x9 : Int) (x14 : Bool) (x24 : (List Int)) (x25 : Int) (x27 : Int) (y6 : Policy) (y7 : Keep) (y22600 : (List Rule)) : roundF g_law18_VerdictLast fg_law18_VerdictLast_0 tb_law18_VerdictLast_0 (st_law18_VerdictLast_0 x8 x9 x14 x24 x25 x27 y6 y7 y22600) = b_law18_VerdictLast_0 x8 x9 x14 x24 x25 x27 y6 y7 y22600 := by kernel_rfl
theorem ln_law18_VerdictLast_0 (x8 : Int) (x9 : Int) (x14 : Bool) (x24 : (List Int)) (x25 : Int) (x27 : Int) (y6 : Policy) (y7 : Keep) (y22600 : (List Rule)) : lp_law18_VerdictLast_0 x8 x9 x14 x24 x25 x27 y6 y7 y22600 = n_law18_VerdictLast_0 x8 x9 x14 x24 x25 x27 y6 y7 y22600 := (loopF_nxt _ _).trans (by
  rw [be_law18_VerdictLast_0]
  simp only [b_law18_VerdictLast_0, n_law18_VerdictLast_0, nxt_br, nxt_n, nxt_r, nxt_e, nxt_0]
  rfl)
def r_law18_VerdictLast_5 (p0 : (List Int)) (p1 : Int) : Option (V × List VO) :=
  br ((bneq ((AllowedF (((polV (roll p0)).1 ++ [((done (dnext (useN (polN (roll p0))) 4) 2), ((iadd .i64 1 (irem ((useV (polN (roll p0))).1) 22)), (0, (0, ((dval (dnext (dnext (useN (polN (roll p0))) 4) 2) 200), ((iadd .i64 (iadd .i64 (dval (dnext (dnext (useN (polN (roll p0))) 4) 2) 200) 1) (dval (dnext (dnext (dnext (useN (polN (roll p0))) 4) 2) 200) 100)), ()))))))]), (([] : List Keep), ())) ((useV (polN (roll p0)))) ((iadd .i64 1 (dval (useN (polN (roll p0))) 4))) ((icv .i64 p1))).1) ((AllowedF ((polV (roll p0))) ((useV (polN (roll p0)))) ((iadd .i64 1 (dval (useN (polN (roll p0))) 4))) ((icv .i64 p1))).1)))
    (some (.t .bool false, []))
    (br ((polLen ((polV (roll p0)))))
      (br ((decide (0 ≤ (0 : Int) ∧ (0 : Int) ≤ ((polV (roll p0))).1.length ∧ ((polV (roll p0))).1.length ≤ 1000 ∧ (([] : List Rule).length : Int) ≤ (0 : Int)) && lenOk5 ((DeadF ((polV (roll p0)))).1)))
        (br ((polLen4 ((([] : List Rule) ++ lessK ((DeadF ((polV (roll p0)))).1) (0 : Int) (((polV (roll p0))).1.drop (0 : Int).toNat)), (([] : List Keep), ())) (((useV (polN (roll p0))))) (((iadd .i64 1 (dval (useN (polN (roll p0))) 4)))) (((icv .i64 p1)))))
          (br ((ieq (((DeadF ((polV (roll p0)))).2)) 0))
            (br ((ieq (((AllowedF ((([] : List Rule) ++ lessK ((DeadF ((polV (roll p0)))).1) (0 : Int) (((polV (roll p0))).1.drop (0 : Int).toNat)), (([] : List Keep), ())) (((useV (polN (roll p0))))) (((iadd .i64 1 (dval (useN (polN (roll p0))) 4)))) (((icv .i64 p1)))).2).2) 0))
              (br ((beqq ((AllowedF ((([] : List Rule) ++ lessK ((DeadF ((polV (roll p0)))).1) (0 : Int) (((polV (roll p0))).1.drop (0 : Int).toNat)), (([] : List Keep), ())) (((useV (polN (roll p0))))) (((iadd .i64 1 (dval (useN (polN (roll p0))) 4)))) (((icv .i64 p1)))).1) (((AllowedF ((polV (roll p0))) ((useV (polN (roll p0)))) ((iadd .i64 1 (dval (useN (polN (roll p0))) 4))) ((icv .i64 p1))).1))))
                (some (.t .bool awakeT, []))
                (some (.t .bool false, [])))
              (some (.t .bool false, [])))
            (some (.t .bool false, [])))
          (none))
        (none))
      (none))
def r_law18_VerdictLast_4 (p0 : (List Int)) (p1 : Int) : Option (V × List VO) :=
  br ((bneq ((AllowedF (((polV (roll p0)).1 ++ [((done (dnext (useN (polN (roll p0))) 4) 2), ((useV (polN (roll p0))).1, (0, (0, ((dval (dnext (dnext (useN (polN (roll p0))) 4) 2) 200), ((iadd .i64 (iadd .i64 (dval (dnext (dnext (useN (polN (roll p0))) 4) 2) 200) 1) (dval (dnext (dnext (dnext (useN (polN (roll p0))) 4) 2) 200) 100)), ()))))))]), (([] : List Keep), ())) ((useV (polN (roll p0)))) ((iadd .i64 1 (dval (useN (polN (roll p0))) 4))) ((icv .i64 p1))).1) ((AllowedF ((polV (roll p0))) ((useV (polN (roll p0)))) ((iadd .i64 1 (dval (useN (polN (roll p0))) 4))) ((icv .i64 p1))).1)))
    (some (.t .bool false, []))
    (r_law18_VerdictLast_5 p0 p1)
def r_law18_VerdictLast_3 (p0 : (List Int)) (p1 : Int) : Option (V × List VO) :=
  br ((!(ilt ((icv .i64 p1)) (((((((((done (dnext (useN (polN (roll p0))) 4) 2), ((useV (polN (roll p0))).1, (0, (0, ((dval (dnext (dnext (useN (polN (roll p0))) 4) 2) 200), ((iadd .i64 (iadd .i64 (dval (dnext (dnext (useN (polN (roll p0))) 4) 2) 200) 1) (dval (dnext (dnext (dnext (useN (polN (roll p0))) 4) 2) 200) 100)), ()))))))).2).2).2).2).2).1))))
    (r_law18_VerdictLast_4 p0 p1)
    (r_law18_VerdictLast_5 p0 p1)
def r_law18_VerdictLast_2 (p0 : (List Int)) (p1 : Int) : Option (V × List VO) :=
  br ((nextOk (dnext (dnext (useN (polN (roll p0))) 4) 2) 200))
    (br ((nextOk (dnext (dnext (dnext (useN (polN (roll p0))) 4) 2) 200) 100))
      (br (cNz 22)
        (br ((decide ((polV (roll p0)).1.length ≤ 1000)))
          (br ((polLen4 ((polV (roll p0))) ((useV (polN (roll p0)))) ((iadd .i64 1 (dval (useN (polN (roll p0))) 4))) ((icv .i64 p1))))
            (br ((polLen4 (((polV (roll p0)).1 ++ [((done (dnext (useN (polN (roll p0))) 4) 2), ((useV (polN (roll p0))).1, (0, (0, ((dval (dnext (dnext (useN (polN (roll p0))) 4) 2) 200), ((iadd .i64 (iadd .i64 (dval (dnext (dnext (useN (polN (roll p0))) 4) 2) 200) 1) (dval (dnext (dnext (dnext (useN (polN (roll p0))) 4) 2) 200) 100)), ()))))))]), (([] : List Keep), ())) ((useV (polN (roll p0)))) ((iadd .i64 1 (dval (useN (polN (roll p0))) 4))) ((icv .i64 p1))))
              (br ((polLen4 (((polV (roll p0)).1 ++ [((done (dnext (useN (polN (roll p0))) 4) 2), ((iadd .i64 1 (irem ((useV (polN (roll p0))).1) 22)), (0, (0, ((dval (dnext (dnext (useN (polN (roll p0))) 4) 2) 200), ((iadd .i64 (iadd .i64 (dval (dnext (dnext (useN (polN (roll p0))) 4) 2) 200) 1) (dval (dnext (dnext (dnext (useN (polN (roll p0))) 4) 2) 200) 100)), ()))))))]), (([] : List Keep), ())) ((useV (polN (roll p0)))) ((iadd .i64 1 (dval (useN (polN (roll p0))) 4))) ((icv .i64 p1))))
                (br ((ige ((icv .i64 p1)) ((((((((done (dnext (useN (polN (roll p0))) 4) 2), ((useV (polN (roll p0))).1, (0, (0, ((dval (dnext (dnext (useN (polN (roll p0))) 4) 2) 200), ((iadd .i64 (iadd .i64 (dval (dnext (dnext (useN (polN (roll p0))) 4) 2) 200) 1) (dval (dnext (dnext (dnext (useN (polN (roll p0))) 4) 2) 200) 100)), ()))))))).2).2).2).2).1)))
                  (br ((ine (((AllowedF ((polV (roll p0))) ((useV (polN (roll p0)))) ((iadd .i64 1 (dval (useN (polN (roll p0))) 4))) ((icv .i64 p1))).2).2) 0))
                    (some (.t .bool false, []))
                    (br ((ine (((AllowedF (((polV (roll p0)).1 ++ [((done (dnext (useN (polN (roll p0))) 4) 2), ((useV (polN (roll p0))).1, (0, (0, ((dval (dnext (dnext (useN (polN (roll p0))) 4) 2) 200), ((iadd .i64 (iadd .i64 (dval (dnext (dnext (useN (polN (roll p0))) 4) 2) 200) 1) (dval (dnext (dnext (dnext (useN (polN (roll p0))) 4) 2) 200) 100)), ()))))))]), (([] : List Keep), ())) ((useV (polN (roll p0)))) ((iadd .i64 1 (dval (useN (polN (roll p0))) 4))) ((icv .i64 p1))).2).2) 0))
                      (some (.t .bool false, []))
                      (br ((ine (((AllowedF (((polV (roll p0)).1 ++ [((done (dnext (useN (polN (roll p0))) 4) 2), ((iadd .i64 1 (irem ((useV (polN (roll p0))).1) 22)), (0, (0, ((dval (dnext (dnext (useN (polN (roll p0))) 4) 2) 200), ((iadd .i64 (iadd .i64 (dval (dnext (dnext (useN (polN (roll p0))) 4) 2) 200) 1) (dval (dnext (dnext (dnext (useN (polN (roll p0))) 4) 2) 200) 100)), ()))))))]), (([] : List Keep), ())) ((useV (polN (roll p0)))) ((iadd .i64 1 (dval (useN (polN (roll p0))) 4))) ((icv .i64 p1))).2).2) 0))
                        (some (.t .bool false, []))
                        (br ((ilt ((icv .i64 p1)) (((((((((done (dnext (useN (polN (roll p0))) 4) 2), ((useV (polN (roll p0))).1, (0, (0, ((dval (dnext (dnext (useN (polN (roll p0))) 4) 2) 200), ((iadd .i64 (iadd .i64 (dval (dnext (dnext (useN (polN (roll p0))) 4) 2) 200) 1) (dval (dnext (dnext (dnext (useN (polN (roll p0))) 4) 2) 200) 100)), ()))))))).2).2).2).2).2).1)))
                          (br ((bneq ((AllowedF (((polV (roll p0)).1 ++ [((done (dnext (useN (polN (roll p0))) 4) 2), ((useV (polN (roll p0))).1, (0, (0, ((dval (dnext (dnext (useN (polN (roll p0))) 4) 2) 200), ((iadd .i64 (iadd .i64 (dval (dnext (dnext (useN (polN (roll p0))) 4) 2) 200) 1) (dval (dnext (dnext (dnext (useN (polN (roll p0))) 4) 2) 200) 100)), ()))))))]), (([] : List Keep), ())) ((useV (polN (roll p0)))) ((iadd .i64 1 (dval (useN (polN (roll p0))) 4))) ((icv .i64 p1))).1) ((((done (dnext (useN (polN (roll p0))) 4) 2), ((useV (polN (roll p0))).1, (0, (0, ((dval (dnext (dnext (useN (polN (roll p0))) 4) 2) 200), ((iadd .i64 (iadd .i64 (dval (dnext (dnext (useN (polN (roll p0))) 4) 2) 200) 1) (dval (dnext (dnext (dnext (useN (polN (roll p0))) 4) 2) 200) 100)), ()))))))).1)))
                            (some (.t .bool false, []))
                            (br ((ine (((AllowedF (((polV (roll p0)).1 ++ [((done (dnext (useN (polN (roll p0))) 4) 2), ((useV (polN (roll p0))).1, (0, (0, ((dval (dnext (dnext (useN (polN (roll p0))) 4) 2) 200), ((iadd .i64 (iadd .i64 (dval (dnext (dnext (useN (polN (roll p0))) 4) 2) 200) 1) (dval (dnext (dnext (dnext (useN (polN (roll p0))) 4) 2) 200) 100)), ()))))))]), (([] : List Keep), ())) ((useV (polN (roll p0)))) ((iadd .i64 1 (dval (useN (polN (roll p0))) 4))) ((icv .i64 p1))).2).1) (llen (((polV (roll p0))).1))))
                              (some (.t .bool false, []))
                              (r_law18_VerdictLast_3 p0 p1)))
                          (r_law18_VerdictLast_3 p0 p1)))))
                  (br ((ine (((AllowedF ((polV (roll p0))) ((useV (polN (roll p0)))) ((iadd .i64 1 (dval (useN (polN (roll p0))) 4))) ((icv .i64 p1))).2).2) 0))
                    (some (.t .bool false, []))
                    (br ((ine (((AllowedF (((polV (roll p0)).1 ++ [((done (dnext (useN (polN (roll p0))) 4) 2), ((useV (polN (roll p0))).1, (0, (0, ((dval (dnext (dnext (useN (polN (roll p0))) 4) 2) 200), ((iadd .i64 (iadd .i64 (dval (dnext (dnext (useN (polN (roll p0))) 4) 2) 200) 1) (dval (dnext (dnext (dnext (useN (polN (roll p0))) 4) 2) 200) 100)), ()))))))]), (([] : List Keep), ())) ((useV (polN (roll p0)))) ((iadd .i64 1 (dval (useN (polN (roll p0))) 4))) ((icv .i64 p1))).2).2) 0))
                      (some (.t .bool false, []))
                      (br ((ine (((AllowedF (((polV (roll p0)).1 ++ [((done (dnext (useN (polN (roll p0))) 4) 2), ((iadd .i64 1 (irem ((useV (polN (roll p0))).1) 22)), (0, (0, ((dval (dnext (dnext (useN (polN (roll p0))) 4) 2) 200), ((iadd .i64 (iadd .i64 (dval (dnext (dnext (useN (polN (roll p0))) 4) 2) 200) 1) (dval (dnext (dnext (dnext (useN (polN (roll p0))) 4) 2) 200) 100)), ()))))))]), (([] : List Keep), ())) ((useV (polN (roll p0)))) ((iadd .i64 1 (dval (useN (polN (roll p0))) 4))) ((icv .i64 p1))).2).2) 0))
                        (some (.t .bool false, []))
                        (br ((!false))
                          (r_law18_VerdictLast_4 p0 p1)
                          (r_law18_VerdictLast_5 p0 p1))))))
                (none))
              (none))
            (none))
          (none))
        (none))
      (none))
    (none)
def r_law18_VerdictLast_1 (p0 : (List Int)) (p1 : Int) : Option (V × List VO) :=
  br ((oneOk (dnext (useN (polN (roll p0))) 4) 2))
    (frk
      (r_law18_VerdictLast_2 p0 p1)
      (r_law18_VerdictLast_2 p0 p1))
    (none)
def r_law18_VerdictLast_6 (p0 : (List Int)) (p1 : Int) : Option (V × List VO) :=
  br ((oneOk (dnext (useN (polN (roll p0))) 4) 2))
    (r_law18_VerdictLast_2 p0 p1)
    (none)
def r_law18_VerdictLast (p0 : (List Int)) (p1 : Int) : Option (V × List VO) :=
  br ((!(light p0)))
    (some (.t .bool awakeT, []))
    (br ((dOk (roll p0)))
      (br ((dOk (polN (roll p0))))
        (br ((nextOk (useN (polN (roll p0))) 4))
          (frk
            (r_law18_VerdictLast_1 p0 p1)
            (frk
              (frk
                (r_law18_VerdictLast_1 p0 p1)
                (r_law18_VerdictLast_6 p0 p1))
              (frk
                (r_law18_VerdictLast_6 p0 p1)
                (r_law18_VerdictLast_6 p0 p1))))
          (none))
        (none))
      (none))
theorem e_law18_VerdictLast (p0 : (List Int)) (p1 : Int) : runF g_law18_VerdictLast tc_law18_VerdictLast rv_law18_VerdictLast false [.t (.sl tI) p0, .t (.int .u8) p1] [] = r_law18_VerdictLast p0 p1 := by kernel_rfl
theorem ok_law18_VerdictLast : Option.map (trC Try.prog) Try.f7.body = some tc_law18_VerdictLast.er := by kernel_rfl
theorem rok_law18_VerdictLast : trVs Try.prog Try.f7.results.toList = some (rv_law18_VerdictLast.map Prod.fst) := by kernel_rfl
theorem en_law18_VerdictLast : Entered Try.prog 7 := .inr ⟨by decide, _, Try.func7, by kernel_rfl, by kernel_rfl⟩
theorem gk_law18_VerdictLast : GOk Try.prog g_law18_VerdictLast := gok_of _ (by
  intro p hp
  simp only [List.mem_cons, List.not_mem_nil, or_false] at hp
  rcases hp with rfl | rfl | rfl | rfl | rfl | rfl | rfl | rfl | rfl | rfl
  · exact ⟨en_law18_awake, ms_law18_awake⟩
  · exact ⟨en_make_Light, ms_make_Light⟩
  · exact ⟨en_make_Roll, ms_make_Roll⟩
  · exact ⟨en_make_Policy, ms_make_Policy⟩
  · exact ⟨en_make_Use, ms_make_Use⟩
  · exact ⟨en_make_Dice_Next, ms_make_Dice_Next⟩
  · exact ⟨en_verdict_Allowed, ms_verdict_Allowed⟩
  · exact ⟨en_make_Dice_One, ms_make_Dice_One⟩
  · exact ⟨en_verdict_Dead, ms_verdict_Dead⟩
  · exact ⟨en_ref02_Has, ms_ref02_Has⟩)
theorem l_law18_VerdictLast_0 (x8 : Int) (x9 : Int) (x14 : Bool) (x24 : (List Int)) (x25 : Int) (x27 : Int) (y6 : Policy) (y7 : Keep) (y22600 : (List Rule)) (h : (decide (0 ≤ x27 ∧ x27 ≤ y6.1.length ∧ y6.1.length ≤ 1000 ∧ (y22600.length : Int) ≤ x27) && lenOk5 x24) = true) : lp_law18_VerdictLast_0 x8 x9 x14 x24 x25 x27 y6 y7 y22600 = la_law18_VerdictLast_0 x8 x9 x14 x24 x25 x27 y6 y7 y22600 := by
  simp only [Bool.and_eq_true, decide_eq_true_eq] at h
  obtain ⟨⟨h1, h2, h3, h4⟩, h5⟩ := h
  obtain ⟨k, rfl⟩ := Int.eq_ofNat_of_zero_le h1
  revert y22600
  refine range_ind y6.1 (fun k => ∀ y22600 : List Rule, (y22600.length : Int) ≤ (k : Int) → lp_law18_VerdictLast_0 x8 x9 x14 x24 x25 (k : Int) y6 y7 y22600 = la_law18_VerdictLast_0 x8 x9 x14 x24 x25 (k : Int) y6 y7 y22600) ?_ ?_ k (by omega)
  · intro z _
    rw [ln_law18_VerdictLast_0]
    simp [n_law18_VerdictLast_0, la_law18_VerdictLast_0, ilt_nat, llen, br_false, lessK, lessZ]
  · intro k hk ih z hz
    rw [ln_law18_VerdictLast_0]
    have h6 : hasOk x24 (k : Int) = true := h5
    simp only [n_law18_VerdictLast_0, ilt_nat, llen, cIx_nat, hk, h6, decide_true, br_true, Int.toNat_natCast, add1 (show k < 4611686018427387904 by omega), lgt_get (y := tyRule) hk]
    rw [cApp_ok (by simp; omega) (by omega), br_true]
    have el : la_law18_VerdictLast_0 x8 x9 x14 x24 x25 (k : Int) y6 y7 z = la_law18_VerdictLast_0 x8 x9 x14 x24 x25 ((k + 1 : Nat) : Int) y6 y7 (if hasI x24 (k : Int) then z else z ++ [y6.1[k]]) := by
      simp only [la_law18_VerdictLast_0, lessK, Int.toNat_natCast, List.drop_eq_getElem_cons hk, lessZ]
      by_cases hc : x24.contains (k : Int) = true
      · rw [if_pos hc, if_pos (show hasI x24 (k : Int) = true from hc)]
      · rw [if_neg hc, if_neg (show ¬ hasI x24 (k : Int) = true from hc), List.append_assoc]
        rfl
    rw [el]
    cases hv : hasI x24 (k : Int) with
    | true => rw [Bool.not_true, br_false, if_pos rfl]; exact ih _ (by omega)
    | false => rw [Bool.not_false, br_true, if_neg (by simp)]; exact ih _ (by simp; omega)
theorem l_law18_VerdictLast_1 (x8 : Int) (x9 : Int) (y6 : Policy) (y7 : Keep) (y10 : Rule) (y11 : Rule) (h : (decide (y6.1.length ≤ 1000)) = true) : lp_law18_VerdictLast_1 x8 x9 y6 y7 y10 y11 = la_law18_VerdictLast_1 x8 x9 y6 y7 y10 y11 := by
  simp only [decide_eq_true_eq] at h
  rw [ln_law18_VerdictLast_1]
  have c1 : cApp ([] : List Rule) y6.1 48 = true := cApp_ok (by simp; omega) (by omega)
  have c2 : ∀ r : Rule, cApp (([] : List Rule) ++ y6.1) [r] 48 = true := fun r => cApp_ok (by simp; omega) (by omega)
  simp only [n_law18_VerdictLast_1, n_law18_VerdictLast_1_1, n_law18_VerdictLast_1_2, n_law18_VerdictLast_1_3, n_law18_VerdictLast_1_4, n_law18_VerdictLast_1_5, n_law18_VerdictLast_1_6, n_law18_VerdictLast_1_7, n_law18_VerdictLast_1_8, n_law18_VerdictLast_1_9, n_law18_VerdictLast_1_10, n_law18_VerdictLast_1_11, n_law18_VerdictLast_1_12, n_law18_VerdictLast_1_13, n_law18_VerdictLast_1_14, n_law18_VerdictLast_1_15, n_law18_VerdictLast_1_16, n_law18_VerdictLast_1_17, n_law18_VerdictLast_1_18, frk_self, c1, c2, br_true, frk_self]
  rfl
theorem lo_law18_VerdictLast_1 : ∀ S l p, g_law18_VerdictLast.L 1 (fgt fg_law18_VerdictLast_1 S) = some (true, l) → pickA l = some p → ev g_law18_VerdictLast tb_law18_VerdictLast_1 (fgt fg_law18_VerdictLast_1 S) (fun e S => some (e, fgt fh_law18_VerdictLast_1 S)) = some p :=
  lokG_of (s := sh_law18_VerdictLast_1) ⟨by decide, by decide⟩ (by kernel_rfl) fun x y hok p hp => by
  simp only [pickA_br, pickA_one] at hp
  exact (l_law18_VerdictLast_1 x.2.2.1 x.2.2.2.1 y.1 y.2.1 y.2.2.1 y.2.2.2.1 (by simpa using hok)).trans hp
theorem lo_law18_VerdictLast_0 : ∀ S l p, g_law18_VerdictLast.L 0 (fgt fg_law18_VerdictLast_0 S) = some (true, l) → pickA l = some p → loopF (roundF g_law18_VerdictLast fg_law18_VerdictLast_0 tb_law18_VerdictLast_0) S = some p :=
  lok_of (s := sh_law18_VerdictLast_0) ⟨by decide, by decide⟩ (by kernel_rfl) fun x y hok p hp => by
  simp only [pickA_br, pickA_one] at hp
  exact (l_law18_VerdictLast_0 x.2.2.1 x.2.2.2.1 x.2.2.2.2.1 x.2.2.2.2.2.1 x.2.2.2.2.2.2.1 x.2.2.2.2.2.2.2.2.1 y.1 y.2.1 y.2.2.2.2.1 (by simpa using hok)).trans hp
theorem lk_law18_VerdictLast : tc_law18_VerdictLast.lok g_law18_VerdictLast := by
  repeat (first | exact trivial | exact lo_law18_VerdictLast_1 | exact lo_law18_VerdictLast_0 | refine ⟨?_, ?_⟩)
theorem ext_all {y : Policy} {u : Keep} {q t : Int} {r : Rule} (hp : polOk y = true) (h6 : y.1.length ≤ 59) (hv : validF u = true) (hq : 1 ≤ q ∧ q ≤ 4) (ht : 0 ≤ t ∧ t ≤ 40000) (hr : ruledF r = true) :
    AllowedF (y.1 ++ [r], (([] : List Keep), ())) u q t = (if matches' r u q t then r.1 else allF y u q t, if matches' r u q t then (y.1.length : Int) else decF y u q t, 0) := by
  have hp2 : polOk (y.1 ++ [r], (([] : List Keep), ())) = true := by
    simp only [polOk, Bool.and_eq_true, decide_eq_true_eq] at hp ⊢
    refine ⟨⟨?_, rfl⟩, by simp; omega, by simp⟩
    rw [List.all_append, hp.1.1]
    simp [hr]
  have ee : earlyF (y.1 ++ [r], (([] : List Keep), ())) u q t = 0 := by
    unfold earlyF
    rw [hp2, hv]
    simp only [Bool.true_eq_false, if_false]
    rw [if_neg (by omega)]
  unfold AllowedF
  rw [if_pos ee]
  unfold allF allL
  rw [decF_eq, decF_eq]
  simp only [decL_app]
  by_cases hm : matches' r u q t = true
  · simp only [if_pos hm]
    simp
  · simp only [if_neg hm]
    cases hd : decL y.1 u q t with
    | none => rfl
    | some k =>
      have hk := decL_lt hd
      simp only [List.getElem?_append_left hk]
theorem one_all {y : Policy} {u : Keep} {q t : Int} (hp : polOk y = true) (hv : validF u = true) (hq : 1 ≤ q ∧ q ≤ 4) (ht : 0 ≤ t ∧ t ≤ 40000) : AllowedF y u q t = (allF y u q t, decF y u q t, 0) := by
  unfold AllowedF
  rw [if_pos]
  unfold earlyF
  rw [hp, hv]
  simp only [Bool.true_eq_false, if_false]
  rw [if_neg (by omega)]
theorem less_sub (dead : List Int) : ∀ (rs : List Rule) (k : Nat), (lessZ dead k rs).length ≤ rs.length ∧ ∀ r, r ∈ lessZ dead k rs → r ∈ rs
  | [], _ => ⟨Nat.le_refl _, fun _ h => h⟩
  | a :: rs, k => by
    obtain ⟨h1, h2⟩ := less_sub dead rs (k + 1)
    unfold lessZ
    split
    · exact ⟨by rw [List.length_cons]; omega, fun r hr => List.mem_cons_of_mem _ (h2 r hr)⟩
    · refine ⟨by rw [List.length_cons, List.length_cons]; omega, fun r hr => ?_⟩
      rcases List.mem_cons.1 hr with e | hr
      · rw [e]; simp
      · exact List.mem_cons_of_mem _ (h2 r hr)
theorem less_ok {y : Policy} (hp : polOk y = true) (dead : List Int) : polOk (lessZ dead 0 y.1, (([] : List Keep), ())) = true := by
  obtain ⟨h1, h2⟩ := less_sub dead y.1 0
  simp only [polOk, Bool.and_eq_true, decide_eq_true_eq] at hp ⊢
  exact ⟨⟨List.all_eq_true.2 fun r hr => List.all_eq_true.1 hp.1.1 r (h2 r hr), rfl⟩, by omega, by simp⟩
theorem s_law18_VerdictLast (p0 : List Int) (p1 : Int) (h : d8Ok p0 p1 = true) : r_law18_VerdictLast p0 p1 = some (.t .bool (lawLast p0 p1), []) := by
  simp only [d8Ok, decide_eq_true_eq] at h
  unfold r_law18_VerdictLast
  refine br_intro (fun _ => rfl) (fun g1 => ?_)
  have hd := not_light g1
  have hN : dOk (polN (roll p0)) = true := dOk_pol hd
  have hD : dOk (useN (polN (roll p0))) = true := dOk_use hN
  have hy : ((polV (roll p0)).1, ((polV (roll p0)).2.1, ())) = polV (roll p0) := rfl
  have hp := pol_ok (roll p0)
  have h6 := pol_size (roll p0)
  have hv := use_valid (polN (roll p0))
  have ha := use_alg (polN (roll p0))
  have hq := dval_lt (d := useN (polN (roll p0))) (n := 4) (by omega)
  have eq : iadd .i64 1 (dval (useN (polN (roll p0))) 4) = 1 + dval (useN (polN (roll p0))) 4 := iadd_in (by omega)
  have et : icv .i64 p1 = p1 := Go.IntWalk.i64_in _ (by omega)
  have n4 := nextOkI (n := 4) hD rfl
  simp only [r_law18_VerdictLast, r_law18_VerdictLast_1, r_law18_VerdictLast_2, r_law18_VerdictLast_3, r_law18_VerdictLast_4, r_law18_VerdictLast_5, r_law18_VerdictLast_6, frk_self, hd, hN, n4, br_true, frk_self, hy, eq, et, show cNz 22 = true from rfl]
  generalize hQ : 1 + dval (useN (polN (roll p0))) 4 = q
  have hq1 : 1 ≤ q ∧ q ≤ 4 := by omega
  have hE : dOk (dnext (useN (polN (roll p0))) 4) = true := dOk_next hD
  generalize dnext (useN (polN (roll p0))) 4 = e at hE ⊢
  generalize useV (polN (roll p0)) = u at hv ha ⊢
  generalize polV (roll p0) = y at hp h6 ⊢
  have b1 := dval_lt (d := dnext e 2) (n := 200) (by omega)
  have b2 := dval_lt (d := dnext (dnext e 2) 200) (n := 100) (by omega)
  rw [oneOkI (n := 2) hE rfl rfl, nextOkI (n := 200) (dOk_next hE) rfl, nextOkI (n := 100) (dOk_next (dOk_next hE)) rfl]
  simp only [br_true]
  generalize dval (dnext e 2) 200 = a at b1 ⊢
  generalize dval (dnext (dnext e 2) 200) 100 = b at b2 ⊢
  have eb : iadd .i64 (iadd .i64 a 1) b = a + 1 + b := by rw [iadd_in (a := a) (b := 1) (by omega), iadd_in (by omega)]
  have eu : iadd .i64 1 (irem u.1 22) = 1 + u.1 % 22 := by
    have e2 : irem u.1 22 = u.1 % 22 := by unfold irem; rw [Int.tmod_eq_emod_of_nonneg (by omega)]
    rw [e2, iadd_in (by omega)]
  rw [eb, eu]
  generalize done e 2 = w
  obtain ⟨rr, hr⟩ : ∃ rr : Rule, rr = (w, (u.1, (0, (0, (a, (a + 1 + b, ())))))) := ⟨_, rfl⟩
  obtain ⟨oo, ho⟩ : ∃ oo : Rule, oo = (w, (1 + u.1 % 22, (0, (0, (a, (a + 1 + b, ())))))) := ⟨_, rfl⟩
  rw [← hr, ← ho]
  have r1 : ruledF rr = true := by rw [hr]; exact decide_eq_true (by simp only [Policy.Rules, Policy.Keeps, Keep.Purpose, Keep.Days, Rule.Allow, Rule.Alg, Rule.Below, Rule.Purpose, Rule.From, Rule.To, Item.Name, Item.Kind, Item.Purpose, Item.Links, Item.Until, Link.Use, Link.Day, Dice.L, Dice.At, LinkX.day, LinkX.fall, LinkX.falls, Row.name, Row.kind, Row.way, Row.sizes, Row.strengths]; omega)
  have o1 : ruledF oo = true := by rw [ho]; exact decide_eq_true (by simp only [Policy.Rules, Policy.Keeps, Keep.Purpose, Keep.Days, Rule.Allow, Rule.Alg, Rule.Below, Rule.Purpose, Rule.From, Rule.To, Item.Name, Item.Kind, Item.Purpose, Item.Links, Item.Until, Link.Use, Link.Day, Dice.L, Dice.At, LinkX.day, LinkX.fall, LinkX.falls, Row.name, Row.kind, Row.way, Row.sizes, Row.strengths]; omega)
  have om : matches' oo u q p1 = false := by
    have c : concerns oo u q = false := by
      rw [ho]
      unfold concerns
      simp only [Policy.Rules, Policy.Keeps, Keep.Purpose, Keep.Days, Rule.Allow, Rule.Alg, Rule.Below, Rule.Purpose, Rule.From, Rule.To, Item.Name, Item.Kind, Item.Purpose, Item.Links, Item.Until, Link.Use, Link.Day, Dice.L, Dice.At, LinkX.day, LinkX.fall, LinkX.falls, Row.name, Row.kind, Row.way, Row.sizes, Row.strengths]
      rw [show (1 + u.1 % 22 == 0) = false by simp; omega, show (1 + u.1 % 22 == u.1) = false by simp; omega]
      rfl
    unfold matches'
    rw [c]
    rfl
  have rm : matches' rr u q p1 = (ige p1 a && ilt p1 (a + 1 + b)) := by
    have c : concerns rr u q = true := by
      rw [hr]
      unfold concerns
      simp only [Policy.Rules, Policy.Keeps, Keep.Purpose, Keep.Days, Rule.Allow, Rule.Alg, Rule.Below, Rule.Purpose, Rule.From, Rule.To, Item.Name, Item.Kind, Item.Purpose, Item.Links, Item.Until, Link.Use, Link.Day, Dice.L, Dice.At, LinkX.day, LinkX.fall, LinkX.falls, Row.name, Row.kind, Row.way, Row.sizes, Row.strengths]
      simp
    unfold matches' within'
    rw [c, hr]
    simp only [Policy.Rules, Policy.Keeps, Keep.Purpose, Keep.Days, Rule.Allow, Rule.Alg, Rule.Below, Rule.Purpose, Rule.From, Rule.To, Item.Name, Item.Kind, Item.Purpose, Item.Links, Item.Until, Link.Use, Link.Day, Dice.L, Dice.At, LinkX.day, LinkX.fall, LinkX.falls, Row.name, Row.kind, Row.way, Row.sizes, Row.strengths, ige, ilt, Bool.true_and]
  have r0 : rr.1 = w := by rw [hr]
  have x1 := ext_all (t := p1) (r := rr) hp (by omega) hv hq1 (by omega) r1
  have x2 := ext_all (t := p1) (r := oo) hp (by omega) hv hq1 (by omega) o1
  rw [om] at x2
  simp only [Bool.false_eq_true, if_false] at x2
  have x0 := one_all (t := p1) hp hv hq1 (by omega)
  have x3 : AllowedF (lessK (DeadF y).1 0 y.1, (([] : List Keep), ())) u q p1 = (allF y u q p1, decF (lessK (DeadF y).1 0 y.1, (([] : List Keep), ())) u q p1, 0) := by
    rw [one_all (y := (lessK (DeadF y).1 0 y.1, (([] : List Keep), ()))) (less_ok hp _) hv hq1 (by omega)]
    have := less_all hp hv hq1.1 hq1.2 h.1 (show p1 ≤ 40000 by omega)
    unfold allF
    rw [← this]
    rfl
  have d2 : (DeadF y).2 = 0 := by unfold DeadF; rw [hp]; rfl
  have d1 : lenOk5 (DeadF y).1 = true := by rw [dead_same]; exact dead_len (b := [])
  have l4 : ∀ (x : List Rule) (z : Keep) (q d : Int), x.length ≤ 1000 → polLen4 (x, (([] : List Keep), ())) z q d = true := fun x z q d hx => by
    show polLen _ = true
    simp only [polLen, lenOk5, Bool.and_eq_true, decide_eq_true_eq, List.length_nil]
    omega
  have l4y : polLen4 y u q p1 = true := (pol_len hp).1
  have l1 : polLen y = true := (pol_len hp).1
  have m1 := l4 (y.1 ++ [rr]) u q p1 (by simp; omega)
  have m2 := l4 (y.1 ++ [oo]) u q p1 (by simp; omega)
  have m3 := l4 (lessK (DeadF y).1 0 y.1) u q p1 (by have := (less_sub (DeadF y).1 y.1 0).1; show (lessZ (DeadF y).1 0 y.1).length ≤ 1000; omega)
  have m4 : decide (y.1.length ≤ 1000) = true := decide_eq_true (by omega)
  have m5 : decide ((0 : Int) ≤ 0 ∧ (0 : Int) ≤ y.1.length ∧ y.1.length ≤ 1000 ∧ ((([] : List Rule).length : Nat) : Int) ≤ 0) = true := decide_eq_true ⟨Int.le_refl 0, by omega, by omega, by simp⟩
  rw [rm, r0] at x1
  have be : ∀ z : Bool, bneq z z = false := fun z => by cases z <;> rfl
  have ie : ∀ z : Int, ine z z = false := fun z => by simp [ine]
  simp only [Int.toNat_zero, List.drop_zero, List.nil_append, m1, m2, m3, m4, m5, l4y, l1, d1, d2, x0, x1, x2, x3, br_true, Bool.and_true, br_false, ieq_self, beqq_self, be, ie]
  cases g2 : ige p1 a <;> cases g3 : ilt p1 (a + 1 + b) <;> simp [br_true, br_false, be, ie, llen] <;> rfl
def sp_law18_VerdictLast : Ent := spec (.pr (.sl tI) (.pr (.int .u8) .nil)) (fun x => (d8Ok x.1 x.2.1)) (fun x => (.t .bool (lawLast x.1 x.2.1)))
theorem ms_law18_VerdictLast : Meets Try.prog 7 (strip sp_law18_VerdictLast) := by
  obtain ⟨c, hc, hi⟩ := Option.map_eq_some_iff.1 ok_law18_VerdictLast
  exact meets_spec (R := runF g_law18_VerdictLast tc_law18_VerdictLast rv_law18_VerdictLast false) (meets_of (by decide) Try.func7 hc hi Try.ntmps7 rok_law18_VerdictLast gk_law18_VerdictLast lk_law18_VerdictLast mixed) fun x hok => (e_law18_VerdictLast x.1 x.2.1).trans (s_law18_VerdictLast x.1 x.2.1 hok)
theorem okw_VerdictLast (z0 : List Int) (z1 : Int) (w0 : Ty.wf (.sl (.int .i64)) z0) (w1 : Ty.wf (.int .u8) z1) : d8Ok z0 z1 = true := decide_eq_true (wf_u8 w1)
end
end Go.Proofs.Ytfldcnhkppgmbaa.K.VL
namespace Go.Proofs.Ytfldcnhkppgmbaa.K
open Go.RowKit VL
theorem walkVerdictLast (z0 : (List Int)) (z1 : Int) (W : World) (v0 : Value) (v1 : Value) (c0 : C noX W (fun _ => .no) (V.t (.sl tI) z0).d v0) (c1 : C noX W (fun _ => .no) (V.t (.int .u8) z1).d v1) (w0 : Ty.wf (.sl tI) z0) (w1 : Ty.wf (.int .u8) z1) :
    Calls Try.prog 7 #[v0, v1] W fun r w' => r = .returned (.bool true) ∧ Below W.heap.size W w' :=
  calls_true (by decide) ms_law18_VerdictLast (args := [.t (.sl tI) z0, .t (.int .u8) z1]) (strip_spec (x := (z0, z1, ())) rfl (okw_VerdictLast z0 z1 w0 w1)) (by simp only [V.ds, Cs]; exact ⟨_, _, rfl, c0, _, _, rfl, c1, rfl⟩)
end Go.Proofs.Ytfldcnhkppgmbaa.K
