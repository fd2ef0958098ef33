/-
  The law that a rule more that forbids makes nothing fail later.
-/
import Derived.Test.YtfehjdaielifiaaV23
import Derived.Test.YtfehjdaielifiaaP23
set_option linter.unusedSimpArgs false
set_option linter.unusedVariables false
namespace Go.Proofs.Ytfehjdaielifiaa.K
open Go.RowKit
def newR (x : Int) (i : Item) (d : Dice) : Rule := (false, ((lgt tyLink i.2.2.2.1 (dval d (llen i.2.2.2.1)).toNat).1.1, (0, (0, (irem (icv .i64 x) 30000, (40001, ()))))))
def newOk (i : Item) (d : Dice) (l : List Rule) : Bool := dOk d && decide (1 ≤ i.2.2.2.1.length ∧ i.2.2.2.1.length ≤ 100 ∧ l.length ≤ 100)
def d16S (_ : List Int) (d : Int) : Bool := decide (0 ≤ d ∧ d ≤ 65535)
def lawStrict (_ : List Int) (_ : Int) : Bool := true
def dr_law22_LifetimeStricter_0 : List DO := [(.mk (.mk (some 29) none (.m (.bs 51 6 0 [] []))) []), (.mk (.mk (some 30) none (.m (.pu (.fa 0 (.t 6))))) []), (.mk (.mk (some 31) none (.m (.ld false 1 (.t 30)))) [1]), (.mk (.mk (some 32) none (.m (.app 51 6 48 (.t 29) (.t 31)))) [0, 2]), (.mk (.mk (some 33) none (.m (.pu (.fa 3 (.t 7))))) []), (.mk (.mk (some 34) none (.m (.ld false 1 (.t 33)))) [4]), (.mk (.mk (some 35) none (.m (.pu (.mv (.t 5))))) []), (.mk (.mk (some 36) none (.m (.pu (.fa 3 (.t 7))))) []), (.mk (.mk (some 37) none (.m (.ld false 1 (.t 36)))) [7]), (.mk (.mk (some 38) none (.m (.pu (.len false (.t 37))))) [8]), (.mk (.mk (some 39) none (.call 16 [(.t 35), (.t 38)])) [6, 9, 3]), (.mk (.mk (some 40) none (.m (.pu (.ix 3 (.t 34) (.t 39))))) [5, 10]), (.mk (.mk (some 41) none (.m (.pu (.fa 0 (.t 40))))) [11]), (.mk (.mk (some 42) none (.m (.pu (.fa 0 (.t 41))))) [12]), (.mk (.mk (some 43) none (.m (.ld false 1 (.t 42)))) [13]), (.mk (.mk (some 44) none (.m (.pu (.mv (.t 1))))) []), (.mk (.mk (some 45) none (.m (.pu (.cv .i64 (.t 44))))) [15]), (.mk (.mk (some 46) none (.m (.pu (.bin false .rem (.t 45) (.c (.v (.int .i64 30000))))))) [16]), (.mk (.mk (some 47) none (.m (.pu (.bd [(.v (.bool false)), (.v (.int .i64 0)), (.v (.int .i64 0)), (.v (.int .i64 0)), (.v (.int .i64 0)), (.v (.int .i64 0))] [(1, 1, (.t 43)), (4, 1, (.t 46)), (5, 1, (.c (.v (.int .i64 40001))))])))) [14, 17]), (.mk (.mk (some 48) none (.m (.bs 51 6 1 [(.v (.bool false)), (.v (.int .i64 0)), (.v (.int .i64 0)), (.v (.int .i64 0)), (.v (.int .i64 0)), (.v (.int .i64 0))] [(0, 6, (.t 47))]))) [18]), (.mk (.mk (some 49) none (.m (.app 51 6 48 (.t 32) (.t 48)))) [3, 19, 10]), (.mk (.mk (some 50) none (.m (.pu (.fa 1 (.t 6))))) []), (.mk (.mk (some 51) none (.m (.ld false 1 (.t 50)))) [21]), (.mk (.mk (some 52) none (.m (.pu (.bd [(.v (.slice none 0 0)), (.v (.slice none 0 0))] [(0, 1, (.t 49)), (1, 1, (.t 51))])))) [20, 22]), (.mk (.mk (some 8) none (.m (.new [(.v (.slice none 0 0)), (.v (.slice none 0 0))]))) []), (.mk (.mk none none (.m (.st 2 (.t 8) (.t 52)))) [24, 23, 20, 0, 1, 2, 3, 4, 5, 6, 7, 8, 9, 10, 11, 12, 13, 14, 15, 16, 17, 18, 19, 20, 21, 22, 23, 24])]
def fg_law22_LifetimeStricter_0 : Fg := ⟨[(1, some (.int .u16)), (5, none), (6, none), (7, none)], [(6, none), (7, some tyItem), (24, some tyDice), (26, none), (5024, none), (5026, none), (10024, none), (10026, none), (15024, none), (15026, none)]⟩
def fh_law22_LifetimeStricter_0 : Fg := ⟨[(6, none), (7, none), (8, none)], [(6, none), (7, some tyItem), (8, none), (26, none), (29, none), (32, none), (49, none), (5026, none), (10026, none), (15026, none)]⟩
def tb_law22_LifetimeStricter_0 : TC := (.dr dr_law22_LifetimeStricter_0 [(0, [29, 5029, 10029, 15029]), (1, [6, 26, 5026, 10026, 15026]), (2, [6, 26, 5026, 10026, 15026]), (3, [6, 8, 26, 29, 32, 49, 5026, 5032, 10026, 10032, 15026, 15032]), (4, [7]), (5, [7]), (6, [24, 5024, 10024, 15024]), (7, [7]), (8, [7]), (9, []), (10, [24, 39, 5024, 5039, 10024, 10039, 15024, 15039]), (11, []), (12, []), (13, []), (14, []), (15, []), (16, []), (17, []), (18, []), (19, []), (20, [6, 8, 26, 29, 32, 49, 5026, 5049, 10026, 10049, 15026, 15049]), (21, [6, 26, 5026, 10026, 15026]), (22, [6, 26, 5026, 10026, 15026]), (23, [26, 29, 32, 49, 5026, 10026, 15026]), (24, [8, 5008, 10008, 15008]), (25, [6, 8, 26, 29, 32, 49, 5026, 10026, 15026])] (.one 1 (.one 2 (.one 4 (.one 5 (.one 6 (.one 7 (.one 8 (.one 9 (.one 15 (.one 16 (.one 17 (.alt 0 (.alt 3 (.alt 10 (.one 11 (.one 12 (.one 13 (.one 14 (.one 18 (.one 19 (.alt 20 (.of [21, 22, 23, 24, 25]) (.alt 21 (.alt 20 (.of [22, 23, 24, 25]) (.alt 22 (.alt 20 (.of [23, 24, 25]) (.of [24, 20, 23, 25])) (.one 24 (.alt 20 (.of [22, 23, 25]) (.of [22, 20, 23, 25]))))) (.one 24 (.alt 20 (.of [21, 22, 23, 25]) (.one 21 (.alt 20 (.of [22, 23, 25]) (.of [22, 20, 23, 25]))))))))))))) (.alt 21 (.alt 10 (.one 11 (.one 12 (.one 13 (.one 14 (.one 18 (.one 19 (.alt 20 (.of [22, 23, 24, 25]) (.alt 22 (.alt 20 (.of [23, 24, 25]) (.of [24, 20, 23, 25])) (.one 24 (.alt 20 (.of [22, 23, 25]) (.of [22, 20, 23, 25]))))))))))) (.alt 22 (.alt 10 (.one 11 (.one 12 (.one 13 (.one 14 (.one 18 (.one 19 (.alt 20 (.of [23, 24, 25]) (.of [24, 20, 23, 25])))))))) (.of [24, 10, 11, 12, 13, 14, 18, 19, 20, 23, 25])) (.one 24 (.alt 10 (.one 11 (.one 12 (.one 13 (.one 14 (.one 18 (.one 19 (.alt 20 (.of [22, 23, 25]) (.of [22, 20, 23, 25])))))))) (.of [22, 10, 11, 12, 13, 14, 18, 19, 20, 23, 25]))))) (.one 24 (.alt 10 (.one 11 (.one 12 (.one 13 (.one 14 (.one 18 (.one 19 (.alt 20 (.of [21, 22, 23, 25]) (.one 21 (.alt 20 (.of [22, 23, 25]) (.of [22, 20, 23, 25])))))))))) (.one 21 (.alt 10 (.one 11 (.one 12 (.one 13 (.one 14 (.one 18 (.one 19 (.alt 20 (.of [22, 23, 25]) (.of [22, 20, 23, 25])))))))) (.of [22, 10, 11, 12, 13, 14, 18, 19, 20, 23, 25]))))))) (.alt 21 (.alt 3 (.alt 10 (.one 11 (.one 12 (.one 13 (.one 14 (.one 18 (.one 19 (.alt 20 (.of [22, 23, 24, 25]) (.alt 22 (.alt 20 (.of [23, 24, 25]) (.of [24, 20, 23, 25])) (.one 24 (.alt 20 (.of [22, 23, 25]) (.of [22, 20, 23, 25]))))))))))) (.alt 22 (.alt 10 (.one 11 (.one 12 (.one 13 (.one 14 (.one 18 (.one 19 (.alt 20 (.of [23, 24, 25]) (.of [24, 20, 23, 25])))))))) (.of [24, 10, 11, 12, 13, 14, 18, 19, 20, 23, 25])) (.one 24 (.alt 10 (.one 11 (.one 12 (.one 13 (.one 14 (.one 18 (.one 19 (.alt 20 (.of [22, 23, 25]) (.of [22, 20, 23, 25])))))))) (.of [22, 10, 11, 12, 13, 14, 18, 19, 20, 23, 25]))))) (.alt 22 (.alt 3 (.alt 10 (.one 11 (.one 12 (.one 13 (.one 14 (.one 18 (.one 19 (.alt 20 (.of [23, 24, 25]) (.of [24, 20, 23, 25])))))))) (.of [24, 10, 11, 12, 13, 14, 18, 19, 20, 23, 25])) (.of [24, 3, 10, 11, 12, 13, 14, 18, 19, 20, 23, 25])) (.one 24 (.alt 3 (.alt 10 (.one 11 (.one 12 (.one 13 (.one 14 (.one 18 (.one 19 (.alt 20 (.of [22, 23, 25]) (.of [22, 20, 23, 25])))))))) (.of [22, 10, 11, 12, 13, 14, 18, 19, 20, 23, 25])) (.of [22, 3, 10, 11, 12, 13, 14, 18, 19, 20, 23, 25]))))) (.one 24 (.alt 3 (.alt 10 (.one 11 (.one 12 (.one 13 (.one 14 (.one 18 (.one 19 (.alt 20 (.of [21, 22, 23, 25]) (.one 21 (.alt 20 (.of [22, 23, 25]) (.of [22, 20, 23, 25])))))))))) (.one 21 (.alt 10 (.one 11 (.one 12 (.one 13 (.one 14 (.one 18 (.one 19 (.alt 20 (.of [22, 23, 25]) (.of [22, 20, 23, 25])))))))) (.of [22, 10, 11, 12, 13, 14, 18, 19, 20, 23, 25])))) (.one 21 (.alt 3 (.alt 10 (.one 11 (.one 12 (.one 13 (.one 14 (.one 18 (.one 19 (.alt 20 (.of [22, 23, 25]) (.of [22, 20, 23, 25])))))))) (.of [22, 10, 11, 12, 13, 14, 18, 19, 20, 23, 25])) (.of [22, 3, 10, 11, 12, 13, 14, 18, 19, 20, 23, 25]))))))) (.alt 21 (.alt 0 (.alt 3 (.alt 10 (.one 11 (.one 12 (.one 13 (.one 14 (.one 18 (.one 19 (.alt 20 (.of [22, 23, 24, 25]) (.alt 22 (.alt 20 (.of [23, 24, 25]) (.of [24, 20, 23, 25])) (.one 24 (.alt 20 (.of [22, 23, 25]) (.of [22, 20, 23, 25]))))))))))) (.alt 22 (.alt 10 (.one 11 (.one 12 (.one 13 (.one 14 (.one 18 (.one 19 (.alt 20 (.of [23, 24, 25]) (.of [24, 20, 23, 25])))))))) (.of [24, 10, 11, 12, 13, 14, 18, 19, 20, 23, 25])) (.one 24 (.alt 10 (.one 11 (.one 12 (.one 13 (.one 14 (.one 18 (.one 19 (.alt 20 (.of [22, 23, 25]) (.of [22, 20, 23, 25])))))))) (.of [22, 10, 11, 12, 13, 14, 18, 19, 20, 23, 25]))))) (.alt 22 (.alt 3 (.alt 10 (.one 11 (.one 12 (.one 13 (.one 14 (.one 18 (.one 19 (.alt 20 (.of [23, 24, 25]) (.of [24, 20, 23, 25])))))))) (.of [24, 10, 11, 12, 13, 14, 18, 19, 20, 23, 25])) (.of [24, 3, 10, 11, 12, 13, 14, 18, 19, 20, 23, 25])) (.one 24 (.alt 3 (.alt 10 (.one 11 (.one 12 (.one 13 (.one 14 (.one 18 (.one 19 (.alt 20 (.of [22, 23, 25]) (.of [22, 20, 23, 25])))))))) (.of [22, 10, 11, 12, 13, 14, 18, 19, 20, 23, 25])) (.of [22, 3, 10, 11, 12, 13, 14, 18, 19, 20, 23, 25]))))) (.alt 22 (.alt 0 (.alt 3 (.alt 10 (.one 11 (.one 12 (.one 13 (.one 14 (.one 18 (.one 19 (.alt 20 (.of [23, 24, 25]) (.of [24, 20, 23, 25])))))))) (.of [24, 10, 11, 12, 13, 14, 18, 19, 20, 23, 25])) (.of [24, 3, 10, 11, 12, 13, 14, 18, 19, 20, 23, 25])) (.of [24, 0, 3, 10, 11, 12, 13, 14, 18, 19, 20, 23, 25])) (.one 24 (.alt 0 (.alt 3 (.alt 10 (.one 11 (.one 12 (.one 13 (.one 14 (.one 18 (.one 19 (.alt 20 (.of [22, 23, 25]) (.of [22, 20, 23, 25])))))))) (.of [22, 10, 11, 12, 13, 14, 18, 19, 20, 23, 25])) (.of [22, 3, 10, 11, 12, 13, 14, 18, 19, 20, 23, 25])) (.of [22, 0, 3, 10, 11, 12, 13, 14, 18, 19, 20, 23, 25]))))) (.one 24 (.alt 0 (.alt 3 (.alt 10 (.one 11 (.one 12 (.one 13 (.one 14 (.one 18 (.one 19 (.alt 20 (.of [21, 22, 23, 25]) (.one 21 (.alt 20 (.of [22, 23, 25]) (.of [22, 20, 23, 25])))))))))) (.one 21 (.alt 10 (.one 11 (.one 12 (.one 13 (.one 14 (.one 18 (.one 19 (.alt 20 (.of [22, 23, 25]) (.of [22, 20, 23, 25])))))))) (.of [22, 10, 11, 12, 13, 14, 18, 19, 20, 23, 25])))) (.one 21 (.alt 3 (.alt 10 (.one 11 (.one 12 (.one 13 (.one 14 (.one 18 (.one 19 (.alt 20 (.of [22, 23, 25]) (.of [22, 20, 23, 25])))))))) (.of [22, 10, 11, 12, 13, 14, 18, 19, 20, 23, 25])) (.of [22, 3, 10, 11, 12, 13, 14, 18, 19, 20, 23, 25])))) (.one 21 (.alt 0 (.alt 3 (.alt 10 (.one 11 (.one 12 (.one 13 (.one 14 (.one 18 (.one 19 (.alt 20 (.of [22, 23, 25]) (.of [22, 20, 23, 25])))))))) (.of [22, 10, 11, 12, 13, 14, 18, 19, 20, 23, 25])) (.of [22, 3, 10, 11, 12, 13, 14, 18, 19, 20, 23, 25])) (.of [22, 0, 3, 10, 11, 12, 13, 14, 18, 19, 20, 23, 25])))))))))))))))))))
/-- cipherplan/cipherplanlaw22.LifetimeStricter -/
def tc_law22_LifetimeStricter : TC := (.sq (.reg [(.mk (some 4) none (.m (.pu (.mv (.c (.v (.bool false)))))))]) (.sq (.sq (.reg [(.mk (some 19) none (.m (.pu (.mv (.t 0))))), (.mk (some 20) none (.call 7 [(.t 19)])), (.mk (some 21) none (.m (.pu (.nt (.t 20)))))]) (.cd (.t 21) (.sq (.reg [(.mk (some 22) none (.call 8 [])), (.mk (some 4) none (.m (.pu (.mv (.t 22)))))]) .rt) .sk)) (.sq (.reg [(.mk (some 23) none (.m (.pu (.mv (.t 0))))), (.mk (some 24) none (.call 9 [(.t 23)])), (.mk (some 5) none (.m (.pu (.mv (.t 24)))))]) (.sq (.reg [(.mk (some 25) none (.m (.pu (.mv (.t 5))))), (.mk (some 26) none (.call 10 [(.t 25)])), (.mk (some 27) none (.m (.pu (.mv (.t 5))))), (.mk (some 28) none (.call 11 [(.t 27), (.c (.v (.string (ByteArray.mk #[100, 101, 101, 100]))))])), (.mk (some 6) none (.m (.new [(.v (.slice none 0 0)), (.v (.slice none 0 0))]))), (.mk (some 7) none (.m (.new [(.v (.string (ByteArray.mk #[]))), (.v (.int .i64 0)), (.v (.int .i64 0)), (.v (.slice none 0 0)), (.v (.int .i64 0))]))), (.mk none none (.m (.st 2 (.t 6) (.t 26)))), (.mk none none (.m (.st 5 (.t 7) (.t 28))))]) (.sq (.rg 0 fg_law22_LifetimeStricter_0 fh_law22_LifetimeStricter_0 tb_law22_LifetimeStricter_0) (.sq (.reg [(.mk (some 54) none (.m (.ld true 2 (.t 6)))), (.mk (some 55) none (.m (.ld true 5 (.t 7)))), (.mk (some 56) none (.call 14 [(.t 54), (.t 55)])), (.mk (some 53) none (.m (.pu (.mv (.t 56))))), (.mk (some 57) none (.m (.pu (.ext 0 (.t 53))))), (.mk (some 58) none (.m (.pu (.ext 1 (.t 53))))), (.mk (some 9) none (.m (.pu (.mv (.t 57))))), (.mk (some 10) none (.m (.pu (.mv (.t 58)))))]) (.sq (.reg [(.mk (some 60) none (.m (.ld true 2 (.t 8)))), (.mk (some 61) none (.m (.ld true 5 (.t 7)))), (.mk (some 62) none (.call 14 [(.t 60), (.t 61)])), (.mk (some 59) none (.m (.pu (.mv (.t 62))))), (.mk (some 63) none (.m (.pu (.ext 0 (.t 59))))), (.mk (some 64) none (.m (.pu (.ext 1 (.t 59))))), (.mk (some 11) none (.m (.pu (.mv (.t 63))))), (.mk (some 12) none (.m (.pu (.mv (.t 64)))))]) (.sq (.reg [(.mk (some 66) none (.m (.ld true 2 (.t 6)))), (.mk (some 67) none (.m (.ld true 5 (.t 7)))), (.mk (some 68) none (.call 17 [(.t 66), (.t 67)])), (.mk (some 65) none (.m (.pu (.mv (.t 68))))), (.mk (some 69) none (.m (.pu (.ext 0 (.t 65))))), (.mk (some 70) none (.m (.pu (.ext 1 (.t 65))))), (.mk (some 71) none (.m (.pu (.ext 2 (.t 65))))), (.mk (some 13) none (.m (.pu (.mv (.t 69))))), (.mk (some 14) none (.m (.pu (.mv (.t 70))))), (.mk (some 15) none (.m (.pu (.mv (.t 71)))))]) (.sq (.reg [(.mk (some 73) none (.m (.ld true 2 (.t 8)))), (.mk (some 74) none (.m (.ld true 5 (.t 7)))), (.mk (some 75) none (.call 17 [(.t 73), (.t 74)])), (.mk (some 72) none (.m (.pu (.mv (.t 75))))), (.mk (some 76) none (.m (.pu (.ext 0 (.t 72))))), (.mk (some 77) none (.m (.pu (.ext 1 (.t 72))))), (.mk (some 78) none (.m (.pu (.ext 2 (.t 72))))), (.mk (some 16) none (.m (.pu (.mv (.t 76))))), (.mk (some 17) none (.m (.pu (.mv (.t 77))))), (.mk (some 18) none (.m (.pu (.mv (.t 78)))))]) (.sq (.reg [(.mk (some 79) none (.m (.pu (.mv (.t 10))))), (.mk (some 80) none (.m (.pu (.nt (.t 79))))), (.mk (some 81) none (.m (.pu (.mv (.t 80))))), (.mk (some 82) (some (81, false)) (.m (.pu (.mv (.t 12))))), (.mk (some 83) (some (81, false)) (.m (.pu (.mv (.t 82))))), (.mk (some 84) (some (83, true)) (.m (.pu (.mv (.t 11))))), (.mk (some 85) (some (83, true)) (.m (.pu (.mv (.t 9))))), (.mk (some 86) (some (83, true)) (.m (.pu (.bin false .leq (.t 84) (.t 85))))), (.mk (some 87) (some (81, false)) (.m (.pu (.pick (.t 83) (.t 86) (.c (.v (.bool false))))))), (.mk (some 88) none (.m (.pu (.pick (.t 81) (.c (.v (.bool true))) (.t 87))))), (.mk (some 89) none (.m (.pu (.mv (.t 88))))), (.mk (some 90) (some (89, true)) (.m (.pu (.mv (.t 15))))), (.mk (some 91) (some (89, true)) (.m (.pu (.bin false .eql (.t 90) (.c (.v (.int .i64 0))))))), (.mk (some 92) none (.m (.pu (.pick (.t 89) (.t 91) (.c (.v (.bool false))))))), (.mk (some 93) none (.m (.pu (.mv (.t 92))))), (.mk (some 94) (some (93, true)) (.m (.pu (.mv (.t 18))))), (.mk (some 95) (some (93, true)) (.m (.pu (.bin false .eql (.t 94) (.c (.v (.int .i64 0))))))), (.mk (some 96) none (.m (.pu (.pick (.t 93) (.t 95) (.c (.v (.bool false))))))), (.mk (some 97) none (.m (.pu (.mv (.t 96))))), (.mk (some 98) (some (97, true)) (.m (.pu (.mv (.t 13))))), (.mk (some 99) (some (97, true)) (.m (.pu (.mv (.t 16))))), (.mk (some 100) (some (97, true)) (.m (.pu (.bin false .eql (.t 98) (.t 99))))), (.mk (some 101) none (.m (.pu (.pick (.t 97) (.t 100) (.c (.v (.bool false))))))), (.mk (some 102) none (.m (.pu (.mv (.t 101))))), (.mk (some 103) (some (102, true)) (.m (.pu (.mv (.t 14))))), (.mk (some 104) (some (102, true)) (.m (.pu (.mv (.t 17))))), (.mk (some 105) (some (102, true)) (.m (.pu (.bin true .eql (.t 103) (.t 104))))), (.mk (some 106) none (.m (.pu (.pick (.t 102) (.t 105) (.c (.v (.bool false))))))), (.mk (some 107) none (.m (.pu (.mv (.t 106))))), (.mk (some 108) (some (107, true)) (.call 8 [])), (.mk (some 109) none (.m (.pu (.pick (.t 107) (.t 108) (.c (.v (.bool false))))))), (.mk (some 4) none (.m (.pu (.mv (.t 109)))))]) .rt))))))))))
def rv_law22_LifetimeStricter : List (RV × Option Ty) := [((.t 4), some .bool)]
abbrev sh_law22_LifetimeStricter_0 : Sh := ⟨[(1, .ty (.int .u16)), (5, .ptr 24 0), (6, .ptr 6 0), (7, .ptr 7 0)], [(6, .bag [.ms 26, .ms 5026]), (7, .box tyItem), (24, .box tyDice), (26, .arr 51 tyRule), (5024, .no), (5026, .arr 62 tyKeep), (10024, .no), (10026, .no), (15024, .no), (15026, .no)]⟩
def st_law22_LifetimeStricter_0 (x1 : Int) (y7 : Item) (y24 : Dice) (y26 : (List Rule)) (y5026 : (List Keep)) : VS := sh_law22_LifetimeStricter_0.st (x1, (), (), (), ()) (((), (), ()), y7, y24, y26, (), y5026, (), (), (), (), ())
abbrev sh_law22_LifetimeStricter_0_normal : Sh := ⟨[(6, .ptr 6 0), (7, .ptr 7 0), (8, .ptr 8 0)], [(6, .bag [.ms 26, .ms 5026]), (7, .box tyItem), (8, .bag [.ms 29, .ms 5026]), (26, .arr 51 tyRule), (29, .arr 51 tyRule), (32, .no), (49, .no), (5026, .arr 62 tyKeep), (10026, .no), (15026, .no)]⟩
def st_law22_LifetimeStricter_0_normal (y7 : Item) (y26 : (List Rule)) (y29 : (List Rule)) (y5026 : (List Keep)) : VS := sh_law22_LifetimeStricter_0_normal.st ((), (), (), ()) (((), (), ()), y7, ((), (), ()), y26, y29, (), (), y5026, (), (), ())
-- loop 0: (x1 : Int) (y7 : Item) (y24 : Dice) (y26 : (List Rule)) (y5026 : (List Keep)); out: ('normal',) (y7 : Item) (y26 : (List Rule)) (y29 : (List Rule)) (y5026 : (List Keep))
def L_law22_LifetimeStricter_0 : VS → Option (Bool × List (Bool × Exit × VS)) := mkL sh_law22_LifetimeStricter_0 (fun x y => (newOk y.2.1 y.2.2.1 y.2.2.2.1)) (fun x y => [(true, .normal, st_law22_LifetimeStricter_0_normal (y.2.1) (y.2.2.2.1) (y.2.2.2.1 ++ [newR x.1 y.2.1 y.2.2.1]) (y.2.2.2.2.2.1))])
def g_law22_LifetimeStricter : G := ⟨TYs, [29], 110, EL [(7, sp_make_Light), (8, sp_law22_awake), (9, sp_make_Roll), (10, sp_make_Policy), (11, sp_make_Item), (14, sp_law22_fails), (16, sp_make_Dice_Next), (17, sp_lifetime_Wanted)], keeps, (Ls [L_law22_LifetimeStricter_0]), IL [], RL []⟩
noncomputable def n_law22_LifetimeStricter_0_1 (x1 : Int) (y7 : Item) (y24 : Dice) (y26 : (List Rule)) (y5026 : (List Keep)) : Option (Exit × VS) :=
  br (cApp (([] : List Rule) ++ y26) ([(false, (((lgt tyLink y7.2.2.2.1 (Int.toNat (dval y24 (llen y7.2.2.2.1)))).1).1, (0, (0, ((irem (icv .i64 x1) 30000), (40001, ()))))))]) 48)
    (some (.normal, st_law22_LifetimeStricter_0_normal y7 y26 ((([] : List Rule) ++ y26) ++ ([(false, (((lgt tyLink y7.2.2.2.1 (Int.toNat (dval y24 (llen y7.2.2.2.1)))).1).1, (0, (0, ((irem (icv .i64 x1) 30000), (40001, ()))))))])) y5026))
    (none)
noncomputable def n_law22_LifetimeStricter_0_3 (x1 : Int) (y7 : Item) (y24 : Dice) (y26 : (List Rule)) (y5026 : (List Keep)) : Option (Exit × VS) :=
  frk
    (n_law22_LifetimeStricter_0_1 x1 y7 y24 y26 y5026)
    (n_law22_LifetimeStricter_0_1 x1 y7 y24 y26 y5026)
noncomputable def n_law22_LifetimeStricter_0_2 (x1 : Int) (y7 : Item) (y24 : Dice) (y26 : (List Rule)) (y5026 : (List Keep)) : Option (Exit × VS) :=
  frk
    (n_law22_LifetimeStricter_0_1 x1 y7 y24 y26 y5026)
    (frk
      (n_law22_LifetimeStricter_0_3 x1 y7 y24 y26 y5026)
      (n_law22_LifetimeStricter_0_3 x1 y7 y24 y26 y5026))
noncomputable def n_law22_LifetimeStricter_0_4 (x1 : Int) (y7 : Item) (y24 : Dice) (y26 : (List Rule)) (y5026 : (List Keep)) : Option (Exit × VS) :=
  frk
    (n_law22_LifetimeStricter_0_1 x1 y7 y24 y26 y5026)
    (n_law22_LifetimeStricter_0_3 x1 y7 y24 y26 y5026)
noncomputable def n_law22_LifetimeStricter_0_7 (x1 : Int) (y7 : Item) (y24 : Dice) (y26 : (List Rule)) (y5026 : (List Keep)) : Option (Exit × VS) :=
  br ((nextOk y24 (llen y7.2.2.2.1)))
    (br (cIx y7.2.2.2.1 (dval y24 (llen y7.2.2.2.1)))
      (n_law22_LifetimeStricter_0_1 x1 y7 y24 y26 y5026)
      (none))
    (none)
noncomputable def n_law22_LifetimeStricter_0_6 (x1 : Int) (y7 : Item) (y24 : Dice) (y26 : (List Rule)) (y5026 : (List Keep)) : Option (Exit × VS) :=
  frk
    (br ((nextOk y24 (llen y7.2.2.2.1)))
      (br (cIx y7.2.2.2.1 (dval y24 (llen y7.2.2.2.1)))
        (n_law22_LifetimeStricter_0_3 x1 y7 y24 y26 y5026)
        (none))
      (none))
    (n_law22_LifetimeStricter_0_7 x1 y7 y24 y26 y5026)
noncomputable def n_law22_LifetimeStricter_0_5 (x1 : Int) (y7 : Item) (y24 : Dice) (y26 : (List Rule)) (y5026 : (List Keep)) : Option (Exit × VS) :=
  frk
    (br ((nextOk y24 (llen y7.2.2.2.1)))
      (br (cIx y7.2.2.2.1 (dval y24 (llen y7.2.2.2.1)))
        (n_law22_LifetimeStricter_0_2 x1 y7 y24 y26 y5026)
        (none))
      (none))
    (frk
      (n_law22_LifetimeStricter_0_6 x1 y7 y24 y26 y5026)
      (n_law22_LifetimeStricter_0_6 x1 y7 y24 y26 y5026))
noncomputable def n_law22_LifetimeStricter_0_8 (x1 : Int) (y7 : Item) (y24 : Dice) (y26 : (List Rule)) (y5026 : (List Keep)) : Option (Exit × VS) :=
  frk
    (br ((nextOk y24 (llen y7.2.2.2.1)))
      (br (cIx y7.2.2.2.1 (dval y24 (llen y7.2.2.2.1)))
        (n_law22_LifetimeStricter_0_4 x1 y7 y24 y26 y5026)
        (none))
      (none))
    (n_law22_LifetimeStricter_0_6 x1 y7 y24 y26 y5026)
noncomputable def n_law22_LifetimeStricter_0_11 (x1 : Int) (y7 : Item) (y24 : Dice) (y26 : (List Rule)) (y5026 : (List Keep)) : Option (Exit × VS) :=
  br (cApp ([] : List Rule) y26 48)
    (n_law22_LifetimeStricter_0_7 x1 y7 y24 y26 y5026)
    (none)
noncomputable def n_law22_LifetimeStricter_0_10 (x1 : Int) (y7 : Item) (y24 : Dice) (y26 : (List Rule)) (y5026 : (List Keep)) : Option (Exit × VS) :=
  frk
    (br (cApp ([] : List Rule) y26 48)
      (n_law22_LifetimeStricter_0_6 x1 y7 y24 y26 y5026)
      (none))
    (n_law22_LifetimeStricter_0_11 x1 y7 y24 y26 y5026)
noncomputable def n_law22_LifetimeStricter_0_9 (x1 : Int) (y7 : Item) (y24 : Dice) (y26 : (List Rule)) (y5026 : (List Keep)) : Option (Exit × VS) :=
  frk
    (br (cApp ([] : List Rule) y26 48)
      (n_law22_LifetimeStricter_0_5 x1 y7 y24 y26 y5026)
      (none))
    (frk
      (n_law22_LifetimeStricter_0_10 x1 y7 y24 y26 y5026)
      (n_law22_LifetimeStricter_0_10 x1 y7 y24 y26 y5026))
noncomputable def n_law22_LifetimeStricter_0_12 (x1 : Int) (y7 : Item) (y24 : Dice) (y26 : (List Rule)) (y5026 : (List Keep)) : Option (Exit × VS) :=
  frk
    (br (cApp ([] : List Rule) y26 48)
      (n_law22_LifetimeStricter_0_8 x1 y7 y24 y26 y5026)
      (none))
    (n_law22_LifetimeStricter_0_10 x1 y7 y24 y26 y5026)
noncomputable def n_law22_LifetimeStricter_0_13 (x1 : Int) (y7 : Item) (y24 : Dice) (y26 : (List Rule)) (y5026 : (List Keep)) : Option (Exit × VS) :=
  frk
    (n_law22_LifetimeStricter_0_10 x1 y7 y24 y26 y5026)
    (n_law22_LifetimeStricter_0_11 x1 y7 y24 y26 y5026)
noncomputable def n_law22_LifetimeStricter_0 (x1 : Int) (y7 : Item) (y24 : Dice) (y26 : (List Rule)) (y5026 : (List Keep)) : Option (Exit × VS) :=
  br (cNz 30000)
    (frk
      (frk
        (br (cApp ([] : List Rule) y26 48)
          (frk
            (br ((nextOk y24 (llen y7.2.2.2.1)))
              (br (cIx y7.2.2.2.1 (dval y24 (llen y7.2.2.2.1)))
                (frk
                  (n_law22_LifetimeStricter_0_1 x1 y7 y24 y26 y5026)
                  (frk
                    (n_law22_LifetimeStricter_0_2 x1 y7 y24 y26 y5026)
                    (n_law22_LifetimeStricter_0_4 x1 y7 y24 y26 y5026)))
                (none))
              (none))
            (frk
              (n_law22_LifetimeStricter_0_5 x1 y7 y24 y26 y5026)
              (n_law22_LifetimeStricter_0_8 x1 y7 y24 y26 y5026)))
          (none))
        (frk
          (n_law22_LifetimeStricter_0_9 x1 y7 y24 y26 y5026)
          (n_law22_LifetimeStricter_0_12 x1 y7 y24 y26 y5026)))
      (frk
        (frk
          (n_law22_LifetimeStricter_0_9 x1 y7 y24 y26 y5026)
          (frk
            (n_law22_LifetimeStricter_0_13 x1 y7 y24 y26 y5026)
            (n_law22_LifetimeStricter_0_13 x1 y7 y24 y26 y5026)))
        (frk
          (n_law22_LifetimeStricter_0_12 x1 y7 y24 y26 y5026)
          (n_law22_LifetimeStricter_0_13 x1 y7 y24 y26 y5026))))
    (none)
noncomputable def lp_law22_LifetimeStricter_0 (x1 : Int) (y7 : Item) (y24 : Dice) (y26 : (List Rule)) (y5026 : (List Keep)) : Option (Exit × VS) := ev g_law22_LifetimeStricter tb_law22_LifetimeStricter_0 (st_law22_LifetimeStricter_0 x1 y7 y24 y26 y5026) fun e S => some (e, fgt fh_law22_LifetimeStricter_0 S)
def la_law22_LifetimeStricter_0 (x1 : Int) (y7 : Item) (y24 : Dice) (y26 : (List Rule)) (y5026 : (List Keep)) : Option (Exit × VS) := some (.normal, st_law22_LifetimeStricter_0_normal (y7) (y26) (y26 ++ [newR x1 y7 y24]) (y5026))
theorem ln_law22_LifetimeStricter_0 (x1 : Int) (y7 : Item) (y24 : Dice) (y26 : (List Rule)) (y5026 : (List Keep)) : lp_law22_LifetimeStricter_0 x1 y7 y24 y26 y5026 = n_law22_LifetimeStricter_0 x1 y7 y24 y26 y5026 := by kernel_rfl
def r_law22_LifetimeStricter_1 (p0 : (List Int)) (p1 : Int) : Option (V × List VO) :=
  br ((ieq (((WantedF ((((polV (roll p0)).1)), (((((polV (roll p0)).2).1)), ())) ((itemV (polN (roll p0)) (ByteArray.mk #[100, 101, 101, 100])))).2).2) 0))
    (br ((ieq (((WantedF ((((polV (roll p0)).1) ++ [newR p1 (itemV (polN (roll p0)) (ByteArray.mk #[100, 101, 101, 100])) (itemN (polN (roll p0)) (ByteArray.mk #[100, 101, 101, 100]))]), (((((polV (roll p0)).2).1)), ())) ((itemV (polN (roll p0)) (ByteArray.mk #[100, 101, 101, 100])))).2).2) 0))
      (br ((ieq ((WantedF ((((polV (roll p0)).1)), (((((polV (roll p0)).2).1)), ())) ((itemV (polN (roll p0)) (ByteArray.mk #[100, 101, 101, 100])))).1) ((WantedF ((((polV (roll p0)).1) ++ [newR p1 (itemV (polN (roll p0)) (ByteArray.mk #[100, 101, 101, 100])) (itemN (polN (roll p0)) (ByteArray.mk #[100, 101, 101, 100]))]), (((((polV (roll p0)).2).1)), ())) ((itemV (polN (roll p0)) (ByteArray.mk #[100, 101, 101, 100])))).1)))
        (br ((beqq (((WantedF ((((polV (roll p0)).1)), (((((polV (roll p0)).2).1)), ())) ((itemV (polN (roll p0)) (ByteArray.mk #[100, 101, 101, 100])))).2).1) (((WantedF ((((polV (roll p0)).1) ++ [newR p1 (itemV (polN (roll p0)) (ByteArray.mk #[100, 101, 101, 100])) (itemN (polN (roll p0)) (ByteArray.mk #[100, 101, 101, 100]))]), (((((polV (roll p0)).2).1)), ())) ((itemV (polN (roll p0)) (ByteArray.mk #[100, 101, 101, 100])))).2).1)))
          (some (.t .bool awakeT22, []))
          (some (.t .bool false, [])))
        (some (.t .bool false, [])))
      (some (.t .bool false, [])))
    (some (.t .bool false, []))
def r_law22_LifetimeStricter (p0 : (List Int)) (p1 : Int) : Option (V × List VO) :=
  br ((!(light p0)))
    (some (.t .bool awakeT22, []))
    (br ((dOk (roll p0)))
      (br ((dOkS (polN (roll p0)) (ByteArray.mk #[100, 101, 101, 100])))
        (br ((newOk (itemV (polN (roll p0)) (ByteArray.mk #[100, 101, 101, 100])) (itemN (polN (roll p0)) (ByteArray.mk #[100, 101, 101, 100])) ((polV (roll p0)).1)))
          (br ((fineLen ((((polV (roll p0)).1)), (((((polV (roll p0)).2).1)), ())) ((itemV (polN (roll p0)) (ByteArray.mk #[100, 101, 101, 100])))))
            (br ((fineLen ((((polV (roll p0)).1) ++ [newR p1 (itemV (polN (roll p0)) (ByteArray.mk #[100, 101, 101, 100])) (itemN (polN (roll p0)) (ByteArray.mk #[100, 101, 101, 100]))]), (((((polV (roll p0)).2).1)), ())) ((itemV (polN (roll p0)) (ByteArray.mk #[100, 101, 101, 100])))))
              (br ((fineLen ((((polV (roll p0)).1)), (((((polV (roll p0)).2).1)), ())) ((itemV (polN (roll p0)) (ByteArray.mk #[100, 101, 101, 100])))))
                (br ((fineLen ((((polV (roll p0)).1) ++ [newR p1 (itemV (polN (roll p0)) (ByteArray.mk #[100, 101, 101, 100])) (itemN (polN (roll p0)) (ByteArray.mk #[100, 101, 101, 100]))]), (((((polV (roll p0)).2).1)), ())) ((itemV (polN (roll p0)) (ByteArray.mk #[100, 101, 101, 100])))))
                  (br ((!((failsF ((((polV (roll p0)).1)), (((((polV (roll p0)).2).1)), ())) ((itemV (polN (roll p0)) (ByteArray.mk #[100, 101, 101, 100])))).2)))
                    (r_law22_LifetimeStricter_1 p0 p1)
                    (br ((failsF ((((polV (roll p0)).1) ++ [newR p1 (itemV (polN (roll p0)) (ByteArray.mk #[100, 101, 101, 100])) (itemN (polN (roll p0)) (ByteArray.mk #[100, 101, 101, 100]))]), (((((polV (roll p0)).2).1)), ())) ((itemV (polN (roll p0)) (ByteArray.mk #[100, 101, 101, 100])))).2)
                      (br ((ile ((failsF ((((polV (roll p0)).1) ++ [newR p1 (itemV (polN (roll p0)) (ByteArray.mk #[100, 101, 101, 100])) (itemN (polN (roll p0)) (ByteArray.mk #[100, 101, 101, 100]))]), (((((polV (roll p0)).2).1)), ())) ((itemV (polN (roll p0)) (ByteArray.mk #[100, 101, 101, 100])))).1) ((failsF ((((polV (roll p0)).1)), (((((polV (roll p0)).2).1)), ())) ((itemV (polN (roll p0)) (ByteArray.mk #[100, 101, 101, 100])))).1)))
                        (r_law22_LifetimeStricter_1 p0 p1)
                        (some (.t .bool false, [])))
                      (some (.t .bool false, []))))
                  (none))
                (none))
              (none))
            (none))
          (none))
        (none))
      (none))
theorem e_law22_LifetimeStricter (p0 : (List Int)) (p1 : Int) : runF g_law22_LifetimeStricter tc_law22_LifetimeStricter rv_law22_LifetimeStricter false [.t (.sl tI) p0, .t (.int .u16) p1] [] = r_law22_LifetimeStricter p0 p1 := by kernel_rfl
theorem ok_law22_LifetimeStricter : Option.map (trC Try.prog) Try.f4.body = some tc_law22_LifetimeStricter.er := by kernel_rfl
theorem rok_law22_LifetimeStricter : trVs Try.prog Try.f4.results.toList = some (rv_law22_LifetimeStricter.map Prod.fst) := by kernel_rfl
theorem en_law22_LifetimeStricter : Entered Try.prog 4 := .inr ⟨by decide, _, Try.func4, by kernel_rfl, by kernel_rfl⟩
theorem gk_law22_LifetimeStricter : GOk Try.prog g_law22_LifetimeStricter := gok_of _ (by
  intro p hp
  simp only [List.mem_cons, List.not_mem_nil, or_false] at hp
  rcases hp with rfl | rfl | rfl | rfl | rfl | rfl | rfl | rfl
  · exact ⟨en_make_Light, ms_make_Light⟩
  · exact ⟨en_law22_awake, ms_law22_awake⟩
  · exact ⟨en_make_Roll, ms_make_Roll⟩
  · exact ⟨en_make_Policy, ms_make_Policy⟩
  · exact ⟨en_make_Item, ms_make_Item⟩
  · exact ⟨en_law22_fails, ms_law22_fails⟩
  · exact ⟨en_make_Dice_Next, ms_make_Dice_Next⟩
  · exact ⟨en_lifetime_Wanted, ms_lifetime_Wanted⟩)
theorem l_law22_LifetimeStricter_0 (x1 : Int) (y7 : Item) (y24 : Dice) (y26 : (List Rule)) (y5026 : (List Keep)) (h : (newOk y7 y24 y26) = true) : lp_law22_LifetimeStricter_0 x1 y7 y24 y26 y5026 = la_law22_LifetimeStricter_0 x1 y7 y24 y26 y5026 := by
  simp only [newOk, Bool.and_eq_true, decide_eq_true_eq] at h
  obtain ⟨hd, h1, h2, h3⟩ := h
  have hv := dval_lt (d := y24) (n := llen y7.2.2.2.1) (by unfold llen; omega)
  have c0 : nextOk y24 (llen y7.2.2.2.1) = true := by simp [nextOk, hd, llen]; omega
  have c1 : cIx y7.2.2.2.1 (dval y24 (llen y7.2.2.2.1)) = true := by
    simp only [cIx, decide_eq_true_eq]
    unfold llen at hv ⊢
    omega
  have c2 : cApp ([] : List Rule) y26 48 = true := cApp_ok (by simp; omega) (by omega)
  have c3 : ∀ r : Rule, cApp (([] : List Rule) ++ y26) [r] 48 = true := fun r => cApp_ok (by simp; omega) (by omega)
  rw [ln_law22_LifetimeStricter_0]
  simp only [n_law22_LifetimeStricter_0, n_law22_LifetimeStricter_0_1, n_law22_LifetimeStricter_0_2, n_law22_LifetimeStricter_0_3, n_law22_LifetimeStricter_0_4, n_law22_LifetimeStricter_0_5, n_law22_LifetimeStricter_0_6, n_law22_LifetimeStricter_0_7, n_law22_LifetimeStricter_0_8, n_law22_LifetimeStricter_0_9, n_law22_LifetimeStricter_0_10, n_law22_LifetimeStricter_0_11, n_law22_LifetimeStricter_0_12, n_law22_LifetimeStricter_0_13, frk_self, c0, c1, c2, c3, show cNz 30000 = true from rfl, br_true, frk_self]
  rfl
theorem lo_law22_LifetimeStricter_0 : ∀ S l p, g_law22_LifetimeStricter.L 0 (fgt fg_law22_LifetimeStricter_0 S) = some (true, l) → pickA l = some p → ev g_law22_LifetimeStricter tb_law22_LifetimeStricter_0 (fgt fg_law22_LifetimeStricter_0 S) (fun e S => some (e, fgt fh_law22_LifetimeStricter_0 S)) = some p :=
  lokG_of (s := sh_law22_LifetimeStricter_0) ⟨by decide, by decide⟩ (by kernel_rfl) fun x y hok p hp => by
  simp only [pickA_br, pickA_one] at hp
  exact (l_law22_LifetimeStricter_0 x.1 y.2.1 y.2.2.1 y.2.2.2.1 y.2.2.2.2.2.1 (by simpa using hok)).trans hp
theorem lk_law22_LifetimeStricter : tc_law22_LifetimeStricter.lok g_law22_LifetimeStricter := by
  repeat (first | exact trivial | exact lo_law22_LifetimeStricter_0 | refine ⟨?_, ?_⟩)
theorem new_ruled {x : Int} {i : Item} {d : Dice} (hi : itemOk i = true) (hx : 0 ≤ x ∧ x ≤ 65535) : ruledF (newR x i d) = true := by
  have hI := itemOk_iff.1 hi
  have hv := dval_lt (d := d) (n := llen i.2.2.2.1) (by unfold llen; omega)
  have hm : lgt tyLink i.2.2.2.1 (dval d (llen i.2.2.2.1)).toNat ∈ i.2.2.2.1 := lgt_mem (y := tyLink) (by unfold llen at hv ⊢; show _ < i.2.2.2.1.length; omega)
  have hu := (linksB_all hI.2.2.2.2.1 _ hm).1
  have ha := valid_alg hu
  have e1 : icv .i64 x = x := Go.IntWalk.i64_in _ (by omega)
  have e2 : irem x 30000 = x % 30000 := by unfold irem; rw [Int.tmod_eq_emod_of_nonneg (by omega)]
  refine decide_eq_true ?_
  unfold newR
  simp only [Policy.Rules, Policy.Keeps, Item.Name, Item.Kind, Item.Purpose, Item.Links, Item.Until, Keep.Alg, Keep.Bits, Link.Use, Link.Day, Rule.Allow, Rule.Alg, Rule.Below, Rule.Purpose, Rule.From, Rule.To, Dice.L, Dice.At, LinkX.day, LinkX.fall, LinkX.falls, Row.name, Row.kind, Row.way, Row.sizes, Row.strengths, e1, e2]
  omega
theorem s_law22_LifetimeStricter (p0 : List Int) (p1 : Int) (h : d16S p0 p1 = true) : r_law22_LifetimeStricter p0 p1 = some (.t .bool (lawStrict p0 p1), []) := by
  simp only [d16S, decide_eq_true_eq] at h
  unfold r_law22_LifetimeStricter r_law22_LifetimeStricter_1
  refine br_intro (fun _ => rfl) (fun g1 => ?_)
  have hd := not_light g1
  have hN : dOk (polN (roll p0)) = true := dOk_pol hd
  rw [hd, br_true, show dOkS (polN (roll p0)) (ByteArray.mk #[100, 101, 101, 100]) = true from hN, br_true]
  have hp := pol_ok (roll p0)
  have h6 := pol_size (roll p0)
  have hy : ((polV (roll p0)).1, ((polV (roll p0)).2.1, ())) = polV (roll p0) := rfl
  rw [hy]
  generalize polV (roll p0) = Y at hp h6 ⊢
  have hE : dOk (itemN (polN (roll p0)) (ByteArray.mk #[100, 101, 101, 100])) = true := dOk_item hN
  generalize hx : itemV (polN (roll p0)) (ByteArray.mk #[100, 101, 101, 100]) = I
  have hi : itemOk I = true := by rw [← hx]; exact item_ok _ named_deed
  generalize itemN (polN (roll p0)) (ByteArray.mk #[100, 101, 101, 100]) = D at hE ⊢
  have hI := itemOk_iff.1 hi
  have h0 : newOk I D Y.1 = true := by
    unfold newOk
    rw [hE, Bool.true_and]
    exact decide_eq_true ⟨hI.2.2.2.1.1, by omega, by omega⟩
  have hr := new_ruled (d := D) hi h
  have hr0 : (newR p1 I D).1 = false := rfl
  generalize newR p1 I D = R at hr hr0 ⊢
  have hz : polOk (Y.1 ++ [R], (Y.2.1, ())) = true := by
    simp only [polOk, Bool.and_eq_true, decide_eq_true_eq] at hp ⊢
    refine ⟨⟨?_, hp.1.2⟩, by simp; omega, hp.2.2⟩
    rw [List.all_append, hp.1.1]
    simp [hr]
  have f1 : fineB Y I = true := by unfold fineB; rw [hp, hi]; rfl
  have f2 : fineB (Y.1 ++ [R], (Y.2.1, ())) I = true := by unfold fineB; rw [hz, hi]; rfl
  have l1 := len_of f1
  have l2 := len_of f2
  have w1 : WantedF Y I = (wantD Y I, ile (wantD Y I) I.2.2.2.2.1, 0) := by unfold WantedF; rw [f1]; rfl
  have w2 : WantedF (Y.1 ++ [R], (Y.2.1, ())) I = (wantD Y I, ile (wantD Y I) I.2.2.2.2.1, 0) := by unfold WantedF; rw [f2]; rfl
  have q1 : failsF Y I = failsL Y I := by unfold failsF FailsI; rw [f1, if_pos rfl]; simp [ieq]
  have q2 : failsF (Y.1 ++ [R], (Y.2.1, ())) I = failsL (Y.1 ++ [R], (Y.2.1, ())) I := by unfold failsF FailsI; rw [f2, if_pos rfl]; simp [ieq]
  have hm := fails_mono (z := (Y.1 ++ [R], (Y.2.1, ()))) hp hz hi (fun u d _ _ hq => all_more hr0 hq)
  simp only [h0, l1, l2, w1, w2, q1, q2, br_true, ieq_self, beqq_self]
  refine br_intro (fun _ => rfl) (fun g => ?_)
  obtain ⟨m1, m2⟩ := hm (by simpa using g)
  rw [m1, br_true, show ile (failsL (Y.1 ++ [R], (Y.2.1, ())) I).1 (failsL Y I).1 = true from decide_eq_true m2]
  rfl
def sp_law22_LifetimeStricter : Ent := spec (.pr (.sl tI) (.pr (.int .u16) .nil)) (fun x => (d16S x.1 x.2.1)) (fun x => (.t .bool (lawStrict x.1 x.2.1)))
theorem ms_law22_LifetimeStricter : Meets Try.prog 4 (strip sp_law22_LifetimeStricter) := by
  obtain ⟨c, hc, hi⟩ := Option.map_eq_some_iff.1 ok_law22_LifetimeStricter
  exact meets_spec (R := runF g_law22_LifetimeStricter tc_law22_LifetimeStricter rv_law22_LifetimeStricter false) (meets_of (by decide) Try.func4 hc hi Try.ntmps4 rok_law22_LifetimeStricter gk_law22_LifetimeStricter lk_law22_LifetimeStricter mixed) fun x hok => (e_law22_LifetimeStricter x.1 x.2.1).trans (s_law22_LifetimeStricter x.1 x.2.1 hok)
theorem okw_LifetimeStricter (z0 : List Int) (z1 : Int) (w0 : Ty.wf (.sl (.int .i64)) z0) (w1 : Ty.wf (.int .u16) z1) : d16S z0 z1 = true := decide_eq_true (wf_u16 w1)
theorem walkLifetimeStricter (z0 : (List Int)) (z1 : Int) (W : World) (v0 : Value) (v1 : Value) (c0 : C noX W (fun _ => .no) (V.t (.sl tI) z0).d v0) (c1 : C noX W (fun _ => .no) (V.t (.int .u16) z1).d v1) (w0 : Ty.wf (.sl tI) z0) (w1 : Ty.wf (.int .u16) z1) :
    Calls Try.prog 4 #[v0, v1] W fun r w' => r = .returned (.bool true) ∧ Below W.heap.size W w' :=
  calls_true (by decide) ms_law22_LifetimeStricter (args := [.t (.sl tI) z0, .t (.int .u16) z1]) (strip_spec (x := (z0, z1, ())) rfl (okw_LifetimeStricter z0 z1 w0 w1)) (by simp only [V.ds, Cs]; exact ⟨_, _, rfl, c0, _, _, rfl, c1, rfl⟩)
end Go.Proofs.Ytfehjdaielifiaa.K
