/-
  The law LedgerLatest.
-/
import Derived.Test.YtnimpcffagidoaaL4
import Derived.KernelRfl
set_option linter.unusedSimpArgs false
set_option linter.unusedVariables false
namespace Go.Proofs.Ytnimpcffagidoaa.K
open Go.RowKit
noncomputable section
/-- the last one on the subject up to the day, and whether there is one -/
def wantS (k s day : Int) (o : Decision × Bool) (y : Decision) : Decision × Bool := if ieq y.2.2.1 k && ieq y.2.2.2.1 s && ile y.1 day then (y, true) else o
def wantL (k s day : Int) (o : Decision × Bool) (l : List Decision) : Decision × Bool := l.foldl (wantS k s day) o
def w0Ok (l : List Decision) (n i : Int) : Bool := decide (n = l.length ∧ 0 ≤ i ∧ i ≤ n ∧ l.length ≤ 100000)
open Classical in
def w1Ok (day : Int) (l : Ledger) : Bool := decide (0 ≤ day ∧ day ≤ 30 ∧ Gen zeroDec (decs l.1) ∧ l.1.length ≤ 100)
def dr_law41_LedgerLatest_0 : List DO := [(.mk (.mk (some 51) none (.m (.pu (.fa 0 (.t 11))))) []), (.mk (.mk (some 52) none (.m (.ld false 1 (.t 51)))) [0]), (.mk (.mk (some 53) none (.m (.pu (.mv (.t 7))))) []), (.mk (.mk (some 54) none (.call 25 [(.t 53), (.c (.v (.int .i64 2)))])) [2]), (.mk (.mk (some 55) none (.m (.pu (.bin false .add (.t 52) (.t 54))))) [1, 3]), (.mk (.mk (some 56) none (.m (.pu (.fa 1 (.t 11))))) []), (.mk (.mk (some 57) none (.m (.ld false 1 (.t 56)))) [5]), (.mk (.mk (some 58) none (.m (.pu (.mv (.t 9))))) []), (.mk (.mk (some 59) none (.m (.pu (.mv (.t 10))))) []), (.mk (.mk (some 60) none (.m (.pu (.mv (.t 7))))) []), (.mk (.mk (some 61) none (.call 25 [(.t 60), (.c (.v (.int .i64 2)))])) [9, 3]), (.mk (.mk (some 62) none (.m (.pu (.bd [(.v (.int .i64 0)), (.v (.int .i64 0)), (.v (.int .i64 0)), (.v (.int .i64 0)), (.v (.int .i64 0))] [(0, 1, (.t 55)), (1, 1, (.t 57)), (2, 1, (.t 58)), (3, 1, (.t 59)), (4, 1, (.t 61))])))) [4, 6, 7, 8, 10]), (.mk (.mk (some 13) none (.m (.new [(.v (.int .i64 0)), (.v (.int .i64 0)), (.v (.int .i64 0)), (.v (.int .i64 0)), (.v (.int .i64 0))]))) []), (.mk (.mk none none (.m (.st 5 (.t 13) (.t 62)))) [12, 11, 10, 0, 1, 2, 3, 4, 5, 6, 7, 8, 9, 10, 11, 12])]
def fg_law41_LedgerLatest_0 : Fg := ⟨[(8, none), (9, some tI), (10, some tI), (13, none), (15, some tI), (16, none), (17, some .bool), (18, some tI), (19, none), (20, some .bool), (21, none), (22, some .bool), (91, some (.sl tyDecision)), (92, some tI), (93, some tI)], [(8, some tyLedger), (13, some tyDecision), (16, some tyDecision), (19, some tyDecision), (21, some tyDecision)]⟩
def tb_law41_LedgerLatest_0 : TC := (.sq (.reg [(.mk (some 94) none (.m (.pu (.bin false .lss (.t 93) (.t 92)))))]) (.sq (.cd (.t 94) .sk (.fg ⟨[(8, none), (9, some tI), (10, some tI), (13, none), (15, some tI), (16, none), (17, some .bool), (18, some tI), (19, none), (20, some .bool), (21, none), (22, some .bool)], [(8, some tyLedger), (13, some tyDecision), (16, some tyDecision), (19, some tyDecision), (21, some tyDecision)]⟩ (.ex 2))) (.sq (.bk 3 (.sq (.reg [(.mk (some 95) none (.m (.pu (.ix 5 (.t 91) (.t 93))))), (.mk (some 96) none (.m (.ld true 5 (.t 95)))), (.mk (some 24) none (.m (.new [(.v (.int .i64 0)), (.v (.int .i64 0)), (.v (.int .i64 0)), (.v (.int .i64 0)), (.v (.int .i64 0))]))), (.mk none none (.m (.st 5 (.t 24) (.t 96))))]) (.sq (.reg [(.mk (some 97) none (.m (.pu (.fa 2 (.t 24))))), (.mk (some 98) none (.m (.ld false 1 (.t 97)))), (.mk (some 99) none (.m (.pu (.mv (.t 9))))), (.mk (some 100) none (.m (.pu (.bin false .eql (.t 98) (.t 99))))), (.mk (some 101) none (.m (.pu (.mv (.t 100))))), (.mk (some 102) (some (101, true)) (.m (.pu (.fa 3 (.t 24))))), (.mk (some 103) (some (101, true)) (.m (.ld false 1 (.t 102)))), (.mk (some 104) (some (101, true)) (.m (.pu (.mv (.t 10))))), (.mk (some 105) (some (101, true)) (.m (.pu (.bin false .eql (.t 103) (.t 104))))), (.mk (some 106) none (.m (.pu (.pick (.t 101) (.t 105) (.c (.v (.bool false))))))), (.mk (some 107) none (.m (.pu (.mv (.t 106))))), (.mk (some 108) (some (107, true)) (.m (.pu (.fa 0 (.t 24))))), (.mk (some 109) (some (107, true)) (.m (.ld false 1 (.t 108)))), (.mk (some 110) (some (107, true)) (.m (.pu (.mv (.t 18))))), (.mk (some 111) (some (107, true)) (.m (.pu (.bin false .leq (.t 109) (.t 110))))), (.mk (some 112) none (.m (.pu (.pick (.t 107) (.t 111) (.c (.v (.bool false)))))))]) (.cd (.t 112) (.reg [(.mk (some 113) none (.m (.ld true 5 (.t 24)))), (.mk none none (.m (.st 5 (.t 21) (.t 113)))), (.mk (some 22) none (.m (.pu (.mv (.c (.v (.bool true)))))))]) .sk)))) (.reg [(.mk (some 114) none (.m (.pu (.bin false .add (.t 93) (.c (.v (.int .i64 1))))))), (.mk (some 93) none (.m (.pu (.mv (.t 114)))))]))))
def fg_law41_LedgerLatest_1 : Fg := ⟨[(8, none), (9, some tI), (10, some tI), (13, none), (15, some tI), (16, none), (17, some .bool), (18, some tI)], [(8, some tyLedger), (13, some tyDecision), (16, some tyDecision)]⟩
def tb_law41_LedgerLatest_1 : TC := (.sq (.sq (.reg [(.mk (some 78) none (.m (.pu (.mv (.t 18))))), (.mk (some 79) none (.m (.pu (.bin false .lss (.t 78) (.c (.v (.int .i64 30)))))))]) (.cd (.t 79) .sk (.fg ⟨[(13, none), (15, some tI), (16, none), (17, some .bool)], [(13, some tyDecision), (16, some tyDecision)]⟩ (.ex 0)))) (.sq (.bk 1 (.sq (.reg [(.mk (some 83) none (.m (.ld true 1 (.t 8)))), (.mk (some 84) none (.m (.pu (.mv (.t 9))))), (.mk (some 85) none (.m (.pu (.mv (.t 10))))), (.mk (some 86) none (.m (.pu (.mv (.t 18))))), (.mk (some 87) none (.call 27 [(.t 83), (.t 84), (.t 85), (.t 86)])), (.mk (some 82) none (.m (.pu (.mv (.t 87))))), (.mk (some 88) none (.m (.pu (.ext 0 (.t 82))))), (.mk (some 89) none (.m (.pu (.ext 1 (.t 82))))), (.mk (some 19) none (.m (.new [(.v (.int .i64 0)), (.v (.int .i64 0)), (.v (.int .i64 0)), (.v (.int .i64 0)), (.v (.int .i64 0))]))), (.mk none none (.m (.st 5 (.t 19) (.t 88)))), (.mk (some 20) none (.m (.pu (.mv (.t 89)))))]) (.sq (.reg [(.mk (some 21) none (.m (.new [(.v (.int .i64 0)), (.v (.int .i64 0)), (.v (.int .i64 0)), (.v (.int .i64 0)), (.v (.int .i64 0))])))]) (.sq (.reg [(.mk (some 22) none (.m (.pu (.mv (.c (.v (.bool false)))))))]) (.sq (.sq (.reg [(.mk (some 90) none (.m (.pu (.fa 0 (.t 8))))), (.mk (some 91) none (.m (.ld false 1 (.t 90)))), (.mk (some 92) none (.m (.pu (.len false (.t 91))))), (.mk (some 93) none (.m (.pu (.mv (.c (.v (.int .i64 0)))))))]) (.bk 2 (.lp 0 fg_law41_LedgerLatest_0 tb_law41_LedgerLatest_0))) (.sq (.reg [(.mk (some 115) none (.m (.ld true 5 (.t 19)))), (.mk (some 116) none (.m (.ld true 5 (.t 21)))), (.mk (some 117) none (.m (.pu (.eqs true [0, 0, 0, 0, 0] (.t 115) (.t 116))))), (.mk (some 118) none (.m (.pu (.mv (.t 117))))), (.mk (some 119) (some (118, false)) (.m (.pu (.mv (.t 20))))), (.mk (some 120) (some (118, false)) (.m (.pu (.mv (.t 22))))), (.mk (some 121) (some (118, false)) (.m (.pu (.bin true .neq (.t 119) (.t 120))))), (.mk (some 122) none (.m (.pu (.pick (.t 118) (.c (.v (.bool true))) (.t 121)))))]) (.cd (.t 122) (.sq (.reg [(.mk (some 6) none (.m (.pu (.mv (.c (.v (.bool false)))))))]) (.fg ⟨[(6, some .bool)], []⟩ .rt)) .sk))))))) (.reg [(.mk (some 80) none (.m (.pu (.mv (.t 18))))), (.mk (some 81) none (.m (.pu (.bin false .add (.t 80) (.c (.v (.int .i64 1))))))), (.mk (some 18) none (.m (.pu (.mv (.t 81)))))])))
/-- cipherplan/cipherplanlaw41.LedgerLatest -/
def tc_law41_LedgerLatest : TC := (.sq (.reg [(.mk (some 6) none (.m (.pu (.mv (.c (.v (.bool false)))))))]) (.sq (.sq (.reg [(.mk (some 25) none (.m (.pu (.mv (.t 0))))), (.mk (some 26) none (.call 15 [(.t 25)])), (.mk (some 27) none (.m (.pu (.nt (.t 26)))))]) (.cd (.t 27) (.sq (.reg [(.mk (some 28) none (.call 24 [])), (.mk (some 6) none (.m (.pu (.mv (.t 28)))))]) .rt) .sk)) (.sq (.reg [(.mk (some 29) none (.m (.pu (.mv (.t 0))))), (.mk (some 30) none (.call 17 [(.t 29)])), (.mk (some 7) none (.m (.pu (.mv (.t 30)))))]) (.sq (.reg [(.mk (some 31) none (.m (.pu (.mv (.t 7))))), (.mk (some 32) none (.call 16 [(.t 31), (.c (.v (.int .i64 12)))])), (.mk (some 8) none (.m (.new [(.v (.slice none 0 0))]))), (.mk none none (.m (.st 1 (.t 8) (.t 32))))]) (.sq (.reg [(.mk (some 33) none (.m (.pu (.mv (.t 1))))), (.mk (some 34) none (.m (.pu (.bin false .rem (.t 33) (.c (.v (.int .u8 5))))))), (.mk (some 35) none (.m (.pu (.cv .i64 (.t 34))))), (.mk (some 36) none (.m (.pu (.bin false .add (.c (.v (.int .i64 1))) (.t 35))))), (.mk (some 37) none (.m (.pu (.mv (.t 2))))), (.mk (some 38) none (.m (.pu (.bin false .rem (.t 37) (.c (.v (.int .u8 3))))))), (.mk (some 39) none (.m (.pu (.cv .i64 (.t 38))))), (.mk (some 9) none (.m (.pu (.mv (.t 36))))), (.mk (some 10) none (.m (.pu (.mv (.t 39)))))]) (.sq (.reg [(.mk (some 11) none (.m (.new [(.v (.int .i64 0)), (.v (.int .i64 0)), (.v (.int .i64 0)), (.v (.int .i64 0)), (.v (.int .i64 0))])))]) (.sq (.sq (.reg [(.mk (some 40) none (.m (.pu (.fa 0 (.t 8))))), (.mk (some 41) none (.m (.ld false 1 (.t 40)))), (.mk (some 42) none (.m (.pu (.len false (.t 41))))), (.mk (some 12) none (.m (.pu (.mv (.t 42)))))]) (.sq (.reg [(.mk (some 43) none (.m (.pu (.mv (.t 12))))), (.mk (some 44) none (.m (.pu (.bin false .gtr (.t 43) (.c (.v (.int .i64 0)))))))]) (.cd (.t 44) (.reg [(.mk (some 45) none (.m (.pu (.fa 0 (.t 8))))), (.mk (some 46) none (.m (.ld false 1 (.t 45)))), (.mk (some 47) none (.m (.pu (.mv (.t 12))))), (.mk (some 48) none (.m (.pu (.bin false .sub (.t 47) (.c (.v (.int .i64 1))))))), (.mk (some 49) none (.m (.pu (.ix 5 (.t 46) (.t 48))))), (.mk (some 50) none (.m (.ld true 5 (.t 49)))), (.mk none none (.m (.st 5 (.t 11) (.t 50))))]) .sk))) (.sq (.dr dr_law41_LedgerLatest_0 [(0, [11]), (1, [11]), (2, [30, 5030, 10030, 15030]), (3, [30, 54, 5030, 5054, 10030, 10054, 15030, 15054]), (4, []), (5, [11]), (6, [11]), (7, []), (8, []), (9, [30, 5030, 10030, 15030]), (10, [30, 61, 5030, 5061, 10030, 10061, 15030, 15061]), (11, []), (12, [13, 5013, 10013, 15013]), (13, [13])] (.one 0 (.one 1 (.one 2 (.one 5 (.one 6 (.one 7 (.one 8 (.alt 3 (.one 4 (.one 9 (.alt 10 (.of [11, 12, 13]) (.of [12, 10, 11, 13])))) (.alt 9 (.alt 3 (.one 4 (.alt 10 (.of [11, 12, 13]) (.of [12, 10, 11, 13]))) (.of [12, 3, 4, 10, 11, 13])) (.one 12 (.alt 3 (.of [4, 9, 10, 11, 13]) (.of [9, 3, 4, 10, 11, 13]))))))))))))) (.sq (.reg [(.mk (some 64) none (.m (.ld true 1 (.t 8)))), (.mk (some 65) none (.m (.ld true 5 (.t 13)))), (.mk (some 66) none (.call 26 [(.t 64), (.t 65)])), (.mk (some 63) none (.m (.pu (.mv (.t 66))))), (.mk (some 67) none (.m (.pu (.ext 0 (.t 63))))), (.mk (some 68) none (.m (.pu (.ext 1 (.t 63))))), (.mk (some 14) none (.m (.new [(.v (.slice none 0 0))]))), (.mk none none (.m (.st 1 (.t 14) (.t 67)))), (.mk (some 15) none (.m (.pu (.mv (.t 68)))))]) (.sq (.reg [(.mk (some 70) none (.m (.ld true 1 (.t 14)))), (.mk (some 71) none (.m (.pu (.mv (.t 9))))), (.mk (some 72) none (.m (.pu (.mv (.t 10))))), (.mk (some 73) none (.m (.pu (.fa 0 (.t 13))))), (.mk (some 74) none (.m (.ld false 1 (.t 73)))), (.mk (some 75) none (.call 27 [(.t 70), (.t 71), (.t 72), (.t 74)])), (.mk (some 69) none (.m (.pu (.mv (.t 75))))), (.mk (some 76) none (.m (.pu (.ext 0 (.t 69))))), (.mk (some 77) none (.m (.pu (.ext 1 (.t 69))))), (.mk (some 16) none (.m (.new [(.v (.int .i64 0)), (.v (.int .i64 0)), (.v (.int .i64 0)), (.v (.int .i64 0)), (.v (.int .i64 0))]))), (.mk none none (.m (.st 5 (.t 16) (.t 76)))), (.mk (some 17) none (.m (.pu (.mv (.t 77)))))]) (.sq (.sq (.reg [(.mk (some 18) none (.m (.pu (.mv (.c (.v (.int .i64 0)))))))]) (.bk 0 (.lp 1 fg_law41_LedgerLatest_1 tb_law41_LedgerLatest_1))) (.sq (.reg [(.mk (some 123) none (.m (.pu (.mv (.t 15))))), (.mk (some 124) none (.m (.pu (.bin false .eql (.t 123) (.c (.v (.int .i64 0))))))), (.mk (some 125) none (.m (.pu (.mv (.t 124))))), (.mk (some 126) (some (125, true)) (.m (.pu (.mv (.t 17))))), (.mk (some 127) none (.m (.pu (.pick (.t 125) (.t 126) (.c (.v (.bool false))))))), (.mk (some 128) none (.m (.pu (.mv (.t 127))))), (.mk (some 129) (some (128, true)) (.m (.ld true 5 (.t 16)))), (.mk (some 130) (some (128, true)) (.m (.ld true 5 (.t 13)))), (.mk (some 131) (some (128, true)) (.m (.pu (.eqs false [0, 0, 0, 0, 0] (.t 129) (.t 130))))), (.mk (some 132) none (.m (.pu (.pick (.t 128) (.t 131) (.c (.v (.bool false))))))), (.mk (some 133) none (.m (.pu (.mv (.t 132))))), (.mk (some 134) (some (133, true)) (.call 24 [])), (.mk (some 135) none (.m (.pu (.pick (.t 133) (.t 134) (.c (.v (.bool false))))))), (.mk (some 6) none (.m (.pu (.mv (.t 135)))))]) .rt))))))))))))
def rv_law41_LedgerLatest : List (RV × Option Ty) := [((.t 6), some .bool)]
abbrev sh_law41_LedgerLatest_0 : Sh := ⟨[(8, .ptr 8 0), (9, .ty tI), (10, .ty tI), (13, .ptr 13 0), (15, .ty tI), (16, .ptr 16 0), (17, .ty .bool), (18, .ty tI), (19, .ptr 19 0), (20, .ty .bool), (21, .ptr 21 0), (22, .ty .bool), (91, .ty (.sl tyDecision)), (92, .ty tI), (93, .ty tI)], [(8, .box tyLedger), (13, .box tyDecision), (16, .box tyDecision), (19, .box tyDecision), (21, .box tyDecision)]⟩
def st_law41_LedgerLatest_0 (x9 : Int) (x10 : Int) (x15 : Int) (x17 : Bool) (x18 : Int) (x20 : Bool) (x22 : Bool) (x91 : (List Decision)) (x92 : Int) (x93 : Int) (y8 : Ledger) (y13 : Decision) (y16 : Decision) (y19 : Decision) (y21 : Decision) : VS := sh_law41_LedgerLatest_0.st ((), x9, x10, (), x15, (), x17, x18, (), x20, (), x22, x91, x92, x93, ()) (y8, y13, y16, y19, y21, ())
abbrev sh_law41_LedgerLatest_0_e2 : Sh := ⟨[(8, .ptr 8 0), (9, .ty tI), (10, .ty tI), (13, .ptr 13 0), (15, .ty tI), (16, .ptr 16 0), (17, .ty .bool), (18, .ty tI), (19, .ptr 19 0), (20, .ty .bool), (21, .ptr 21 0), (22, .ty .bool)], [(8, .box tyLedger), (13, .box tyDecision), (16, .box tyDecision), (19, .box tyDecision), (21, .box tyDecision)]⟩
def st_law41_LedgerLatest_0_e2 (x9 : Int) (x10 : Int) (x15 : Int) (x17 : Bool) (x18 : Int) (x20 : Bool) (x22 : Bool) (y8 : Ledger) (y13 : Decision) (y16 : Decision) (y19 : Decision) (y21 : Decision) : VS := sh_law41_LedgerLatest_0_e2.st ((), x9, x10, (), x15, (), x17, x18, (), x20, (), x22, ()) (y8, y13, y16, y19, y21, ())
-- loop 0: (x9 : Int) (x10 : Int) (x15 : Int) (x17 : Bool) (x18 : Int) (x20 : Bool) (x22 : Bool) (x91 : (List Decision)) (x92 : Int) (x93 : Int) (y8 : Ledger) (y13 : Decision) (y16 : Decision) (y19 : Decision) (y21 : Decision); out: ('exit', 2) (x9 : Int) (x10 : Int) (x15 : Int) (x17 : Bool) (x18 : Int) (x20 : Bool) (x22 : Bool) (y8 : Ledger) (y13 : Decision) (y16 : Decision) (y19 : Decision) (y21 : Decision)
abbrev sh_law41_LedgerLatest_1 : Sh := ⟨[(8, .ptr 8 0), (9, .ty tI), (10, .ty tI), (13, .ptr 13 0), (15, .ty tI), (16, .ptr 16 0), (17, .ty .bool), (18, .ty tI)], [(8, .box tyLedger), (13, .box tyDecision), (16, .box tyDecision)]⟩
def st_law41_LedgerLatest_1 (x9 : Int) (x10 : Int) (x15 : Int) (x17 : Bool) (x18 : Int) (y8 : Ledger) (y13 : Decision) (y16 : Decision) : VS := sh_law41_LedgerLatest_1.st ((), x9, x10, (), x15, (), x17, x18, ()) (y8, y13, y16, ())
abbrev sh_law41_LedgerLatest_1_ret : Sh := ⟨[(6, .ty .bool)], []⟩
def st_law41_LedgerLatest_1_ret (x6 : Bool) : VS := sh_law41_LedgerLatest_1_ret.st (x6, ()) ()
abbrev sh_law41_LedgerLatest_1_e0 : Sh := ⟨[(13, .ptr 13 0), (15, .ty tI), (16, .ptr 16 0), (17, .ty .bool)], [(13, .box tyDecision), (16, .box tyDecision)]⟩
def st_law41_LedgerLatest_1_e0 (x15 : Int) (x17 : Bool) (y13 : Decision) (y16 : Decision) : VS := sh_law41_LedgerLatest_1_e0.st ((), x15, (), x17, ()) (y13, y16, ())
-- loop 1: (x9 : Int) (x10 : Int) (x15 : Int) (x17 : Bool) (x18 : Int) (y8 : Ledger) (y13 : Decision) (y16 : Decision); out: ('ret',) (x6 : Bool); ('exit', 0) (x15 : Int) (x17 : Bool) (y13 : Decision) (y16 : Decision)
def L_law41_LedgerLatest_0 : VS → Option (Bool × List (Bool × Exit × VS)) := mkL sh_law41_LedgerLatest_0 (fun x y => (w0Ok x.2.2.2.2.2.2.2.2.2.2.2.2.1 x.2.2.2.2.2.2.2.2.2.2.2.2.2.1 x.2.2.2.2.2.2.2.2.2.2.2.2.2.2.1)) (fun x y => [(true, .exit 2, st_law41_LedgerLatest_0_e2 (x.2.1) (x.2.2.1) (x.2.2.2.2.1) (x.2.2.2.2.2.2.1) (x.2.2.2.2.2.2.2.1) (x.2.2.2.2.2.2.2.2.2.1) ((wantL x.2.1 x.2.2.1 x.2.2.2.2.2.2.2.1 (y.2.2.2.2.1, x.2.2.2.2.2.2.2.2.2.2.2.1) (x.2.2.2.2.2.2.2.2.2.2.2.2.1.drop x.2.2.2.2.2.2.2.2.2.2.2.2.2.2.1.toNat)).2) (y.1) (y.2.1) (y.2.2.1) (y.2.2.2.1) ((wantL x.2.1 x.2.2.1 x.2.2.2.2.2.2.2.1 (y.2.2.2.2.1, x.2.2.2.2.2.2.2.2.2.2.2.1) (x.2.2.2.2.2.2.2.2.2.2.2.2.1.drop x.2.2.2.2.2.2.2.2.2.2.2.2.2.2.1.toNat)).1))])
def L_law41_LedgerLatest_1 : VS → Option (Bool × List (Bool × Exit × VS)) := mkL sh_law41_LedgerLatest_1 (fun x y => (w1Ok x.2.2.2.2.2.2.2.1 y.1)) (fun x y => [(true, .exit 0, st_law41_LedgerLatest_1_e0 (x.2.2.2.2.1) (x.2.2.2.2.2.2.1) (y.2.1) (y.2.2.1))])
def g_law41_LedgerLatest : G := ⟨TYs, [], 136, EL [(15, sp_make_Light), (16, sp_move_Ledger), (17, sp_make_Roll), (24, sp_law41_awake), (25, sp_make_Dice_Next), (26, sp_ledger_Add), (27, sp_ledger_Latest)], keeps, (Ls [L_law41_LedgerLatest_0, L_law41_LedgerLatest_1])⟩
def b_law41_LedgerLatest_0 (x9 : Int) (x10 : Int) (x15 : Int) (x17 : Bool) (x18 : Int) (x20 : Bool) (x22 : Bool) (x91 : (List Decision)) (x92 : Int) (x93 : Int) (y8 : Ledger) (y13 : Decision) (y16 : Decision) (y19 : Decision) (y21 : Decision) : Option (Exit × VS) :=
  br ((ilt x93 x92))
    (br (cIx x91 x93)
      (br ((ieq ((((lgt tyDecision x91 (Int.toNat x93)).2).2).1) x9))
        (br ((ieq (((((lgt tyDecision x91 (Int.toNat x93)).2).2).2).1) x10))
          (br ((ile ((lgt tyDecision x91 (Int.toNat x93)).1) x18))
            (some (.normal, st_law41_LedgerLatest_0 x9 x10 x15 x17 x18 x20 true x91 x92 (iadd .i64 x93 1) y8 y13 y16 y19 (lgt tyDecision x91 (Int.toNat x93))))
            (some (.normal, st_law41_LedgerLatest_0 x9 x10 x15 x17 x18 x20 x22 x91 x92 (iadd .i64 x93 1) y8 y13 y16 y19 y21)))
          (some (.normal, st_law41_LedgerLatest_0 x9 x10 x15 x17 x18 x20 x22 x91 x92 (iadd .i64 x93 1) y8 y13 y16 y19 y21)))
        (some (.normal, st_law41_LedgerLatest_0 x9 x10 x15 x17 x18 x20 x22 x91 x92 (iadd .i64 x93 1) y8 y13 y16 y19 y21)))
      (none))
    (some (.exit 2, st_law41_LedgerLatest_0_e2 x9 x10 x15 x17 x18 x20 x22 y8 y13 y16 y19 y21))
noncomputable def lp_law41_LedgerLatest_0 (x9 : Int) (x10 : Int) (x15 : Int) (x17 : Bool) (x18 : Int) (x20 : Bool) (x22 : Bool) (x91 : (List Decision)) (x92 : Int) (x93 : Int) (y8 : Ledger) (y13 : Decision) (y16 : Decision) (y19 : Decision) (y21 : Decision) : Option (Exit × VS) := loopF (roundF g_law41_LedgerLatest fg_law41_LedgerLatest_0 tb_law41_LedgerLatest_0) (st_law41_LedgerLatest_0 x9 x10 x15 x17 x18 x20 x22 x91 x92 x93 y8 y13 y16 y19 y21)
noncomputable def n_law41_LedgerLatest_0 (x9 : Int) (x10 : Int) (x15 : Int) (x17 : Bool) (x18 : Int) (x20 : Bool) (x22 : Bool) (x91 : (List Decision)) (x92 : Int) (x93 : Int) (y8 : Ledger) (y13 : Decision) (y16 : Decision) (y19 : Decision) (y21 : Decision) : Option (Exit × VS) :=
  br ((ilt x93 x92))
    (br (cIx x91 x93)
      (br ((ieq ((((lgt tyDecision x91 (Int.toNat x93)).2).2).1) x9))
        (br ((ieq (((((lgt tyDecision x91 (Int.toNat x93)).2).2).2).1) x10))
          (br ((ile ((lgt tyDecision x91 (Int.toNat x93)).1) x18))
            (lp_law41_LedgerLatest_0 x9 x10 x15 x17 x18 x20 true x91 x92 (iadd .i64 x93 1) y8 y13 y16 y19 (lgt tyDecision x91 (Int.toNat x93)))
            (lp_law41_LedgerLatest_0 x9 x10 x15 x17 x18 x20 x22 x91 x92 (iadd .i64 x93 1) y8 y13 y16 y19 y21))
          (lp_law41_LedgerLatest_0 x9 x10 x15 x17 x18 x20 x22 x91 x92 (iadd .i64 x93 1) y8 y13 y16 y19 y21))
        (lp_law41_LedgerLatest_0 x9 x10 x15 x17 x18 x20 x22 x91 x92 (iadd .i64 x93 1) y8 y13 y16 y19 y21))
      (none))
    (some (.exit 2, st_law41_LedgerLatest_0_e2 x9 x10 x15 x17 x18 x20 x22 y8 y13 y16 y19 y21))
def la_law41_LedgerLatest_0 (x9 : Int) (x10 : Int) (x15 : Int) (x17 : Bool) (x18 : Int) (x20 : Bool) (x22 : Bool) (x91 : (List Decision)) (x92 : Int) (x93 : Int) (y8 : Ledger) (y13 : Decision) (y16 : Decision) (y19 : Decision) (y21 : Decision) : Option (Exit × VS) := some (.exit 2, st_law41_LedgerLatest_0_e2 (x9) (x10) (x15) (x17) (x18) (x20) ((wantL x9 x10 x18 (y21, x22) (x91.drop x93.toNat)).2) (y8) (y13) (y16) (y19) ((wantL x9 x10 x18 (y21, x22) (x91.drop x93.toNat)).1))
theorem be_law41_LedgerLatest_0 (x9 : Int) (x10 : Int) (x15 : Int) (x17 : Bool) (x18 : Int) (x20 : Bool) (x22 : Bool) (x91 : (List Decision)) (x92 : Int) (x93 : Int) (y8 : Ledger) (y13 : Decision) (y16 : Decision) (y19 : Decision) (y21 : Decision) : roundF g_law41_LedgerLatest fg_law41_LedgerLatest_0 tb_law41_LedgerLatest_0 (st_law41_LedgerLatest_0 x9 x10 x15 x17 x18 x20 x22 x91 x92 x93 y8 y13 y16 y19 y21) = b_law41_LedgerLatest_0 x9 x10 x15 x17 x18 x20 x22 x91 x92 x93 y8 y13 y16 y19 y21 := by kernel_rfl
theorem ln_law41_LedgerLatest_0 (x9 : Int) (x10 : Int) (x15 : Int) (x17 : Bool) (x18 : Int) (x20 : Bool) (x22 : Bool) (x91 : (List Decision)) (x92 : Int) (x93 : Int) (y8 : Ledger) (y13 : Decision) (y16 : Decision) (y19 : Decision) (y21 : Decision) : lp_law41_LedgerLatest_0 x9 x10 x15 x17 x18 x20 x22 x91 x92 x93 y8 y13 y16 y19 y21 = n_law41_LedgerLatest_0 x9 x10 x15 x17 x18 x20 x22 x91 x92 x93 y8 y13 y16 y19 y21 := (loopF_nxt _ _).trans (by
  rw [be_law41_LedgerLatest_0]
  simp only [b_law41_LedgerLatest_0, n_law41_LedgerLatest_0, nxt_br, nxt_n, nxt_r, nxt_e, nxt_0]
  rfl)
def b_law41_LedgerLatest_1 (x9 : Int) (x10 : Int) (x15 : Int) (x17 : Bool) (x18 : Int) (y8 : Ledger) (y13 : Decision) (y16 : Decision) : Option (Exit × VS) :=
  br ((ilt x18 30))
    (br ((latestOk y8 x9 x10 x18))
      (br ((w0Ok y8.1 (llen y8.1) (0 : Int)))
        (br ((!(and (ieq ((((latestV y8 x9 x10 x18).1)).1) (((wantL x9 x10 x18 ((0, (0, (0, (0, (0, ()))))), false) (y8.1.drop (0 : Int).toNat)).1).1)) (and (ieq (((((latestV y8 x9 x10 x18).1)).2).1) ((((wantL x9 x10 x18 ((0, (0, (0, (0, (0, ()))))), false) (y8.1.drop (0 : Int).toNat)).1).2).1)) (and (ieq ((((((latestV y8 x9 x10 x18).1)).2).2).1) (((((wantL x9 x10 x18 ((0, (0, (0, (0, (0, ()))))), false) (y8.1.drop (0 : Int).toNat)).1).2).2).1)) (and (ieq (((((((latestV y8 x9 x10 x18).1)).2).2).2).1) ((((((wantL x9 x10 x18 ((0, (0, (0, (0, (0, ()))))), false) (y8.1.drop (0 : Int).toNat)).1).2).2).2).1)) (and (ieq ((((((((latestV y8 x9 x10 x18).1)).2).2).2).2).1) (((((((wantL x9 x10 x18 ((0, (0, (0, (0, (0, ()))))), false) (y8.1.drop (0 : Int).toNat)).1).2).2).2).2).1)) true)))))))
          (some (.ret, st_law41_LedgerLatest_1_ret false))
          (br ((bneq (((latestV y8 x9 x10 x18).2)) ((wantL x9 x10 x18 ((0, (0, (0, (0, (0, ()))))), false) (y8.1.drop (0 : Int).toNat)).2)))
            (some (.ret, st_law41_LedgerLatest_1_ret false))
            (some (.normal, st_law41_LedgerLatest_1 (x9) (x10) (x15) (x17) (iadd .i64 (x18) 1) (y8) (y13) (y16)))))
        (none))
      (none))
    (some (.exit 0, st_law41_LedgerLatest_1_e0 x15 x17 y13 y16))
noncomputable def lp_law41_LedgerLatest_1 (x9 : Int) (x10 : Int) (x15 : Int) (x17 : Bool) (x18 : Int) (y8 : Ledger) (y13 : Decision) (y16 : Decision) : Option (Exit × VS) := loopF (roundF g_law41_LedgerLatest fg_law41_LedgerLatest_1 tb_law41_LedgerLatest_1) (st_law41_LedgerLatest_1 x9 x10 x15 x17 x18 y8 y13 y16)
noncomputable def n_law41_LedgerLatest_1 (x9 : Int) (x10 : Int) (x15 : Int) (x17 : Bool) (x18 : Int) (y8 : Ledger) (y13 : Decision) (y16 : Decision) : Option (Exit × VS) :=
  br ((ilt x18 30))
    (br ((latestOk y8 x9 x10 x18))
      (br ((w0Ok y8.1 (llen y8.1) (0 : Int)))
        (br ((!(and (ieq ((((latestV y8 x9 x10 x18).1)).1) (((wantL x9 x10 x18 ((0, (0, (0, (0, (0, ()))))), false) (y8.1.drop (0 : Int).toNat)).1).1)) (and (ieq (((((latestV y8 x9 x10 x18).1)).2).1) ((((wantL x9 x10 x18 ((0, (0, (0, (0, (0, ()))))), false) (y8.1.drop (0 : Int).toNat)).1).2).1)) (and (ieq ((((((latestV y8 x9 x10 x18).1)).2).2).1) (((((wantL x9 x10 x18 ((0, (0, (0, (0, (0, ()))))), false) (y8.1.drop (0 : Int).toNat)).1).2).2).1)) (and (ieq (((((((latestV y8 x9 x10 x18).1)).2).2).2).1) ((((((wantL x9 x10 x18 ((0, (0, (0, (0, (0, ()))))), false) (y8.1.drop (0 : Int).toNat)).1).2).2).2).1)) (and (ieq ((((((((latestV y8 x9 x10 x18).1)).2).2).2).2).1) (((((((wantL x9 x10 x18 ((0, (0, (0, (0, (0, ()))))), false) (y8.1.drop (0 : Int).toNat)).1).2).2).2).2).1)) true)))))))
          (some (.ret, st_law41_LedgerLatest_1_ret false))
          (br ((bneq (((latestV y8 x9 x10 x18).2)) ((wantL x9 x10 x18 ((0, (0, (0, (0, (0, ()))))), false) (y8.1.drop (0 : Int).toNat)).2)))
            (some (.ret, st_law41_LedgerLatest_1_ret false))
            (lp_law41_LedgerLatest_1 (x9) (x10) (x15) (x17) (iadd .i64 (x18) 1) (y8) (y13) (y16))))
        (none))
      (none))
    (some (.exit 0, st_law41_LedgerLatest_1_e0 x15 x17 y13 y16))
def la_law41_LedgerLatest_1 (x9 : Int) (x10 : Int) (x15 : Int) (x17 : Bool) (x18 : Int) (y8 : Ledger) (y13 : Decision) (y16 : Decision) : Option (Exit × VS) := some (.exit 0, st_law41_LedgerLatest_1_e0 (x15) (x17) (y13) (y16))
theorem be_law41_LedgerLatest_1 (x9 : Int) (x10 : Int) (x15 : Int) (x17 : Bool) (x18 : Int) (y8 : Ledger) (y13 : Decision) (y16 : Decision) : roundF g_law41_LedgerLatest fg_law41_LedgerLatest_1 tb_law41_LedgerLatest_1 (st_law41_LedgerLatest_1 x9 x10 x15 x17 x18 y8 y13 y16) = b_law41_LedgerLatest_1 x9 x10 x15 x17 x18 y8 y13 y16 := by kernel_rfl
theorem ln_law41_LedgerLatest_1 (x9 : Int) (x10 : Int) (x15 : Int) (x17 : Bool) (x18 : Int) (y8 : Ledger) (y13 : Decision) (y16 : Decision) : lp_law41_LedgerLatest_1 x9 x10 x15 x17 x18 y8 y13 y16 = n_law41_LedgerLatest_1 x9 x10 x15 x17 x18 y8 y13 y16 := (loopF_nxt _ _).trans (by
  rw [be_law41_LedgerLatest_1]
  simp only [b_law41_LedgerLatest_1, n_law41_LedgerLatest_1, nxt_br, nxt_n, nxt_r, nxt_e, nxt_0]
  rfl)
def r_law41_LedgerLatest_2 (p0 : (List Int)) (p1 : Int) (p2 : Int) : Option (V × List VO) :=
  br ((nextOk (dnext (ledN (roll p0) 12) 2) 2))
    (br ((addOk (ledV (roll p0) 12) ((iadd .i64 ((lgt tyDecision ((ledV (roll p0) 12).1) (Int.toNat (isub .i64 (llen ((ledV (roll p0) 12).1)) 1))).1) (dval (ledN (roll p0) 12) 2)), (((lgt tyDecision ((ledV (roll p0) 12).1) (Int.toNat (isub .i64 (llen ((ledV (roll p0) 12).1)) 1))).2).1, ((iadd .i64 1 (icv .i64 (irem p1 5))), ((icv .i64 (irem p2 3)), ((dval (dnext (ledN (roll p0) 12) 2) 2), ())))))))
      (br ((latestOk ((addV (ledV (roll p0) 12) ((iadd .i64 ((lgt tyDecision ((ledV (roll p0) 12).1) (Int.toNat (isub .i64 (llen ((ledV (roll p0) 12).1)) 1))).1) (dval (ledN (roll p0) 12) 2)), (((lgt tyDecision ((ledV (roll p0) 12).1) (Int.toNat (isub .i64 (llen ((ledV (roll p0) 12).1)) 1))).2).1, ((iadd .i64 1 (icv .i64 (irem p1 5))), ((icv .i64 (irem p2 3)), ((dval (dnext (ledN (roll p0) 12) 2) 2), ())))))).1) (iadd .i64 1 (icv .i64 (irem p1 5))) (icv .i64 (irem p2 3)) (iadd .i64 ((lgt tyDecision ((ledV (roll p0) 12).1) (Int.toNat (isub .i64 (llen ((ledV (roll p0) 12).1)) 1))).1) (dval (ledN (roll p0) 12) 2))))
        (br ((w1Ok (0 : Int) (ledV (roll p0) 12)))
          (br ((ieq (((addV (ledV (roll p0) 12) ((iadd .i64 ((lgt tyDecision ((ledV (roll p0) 12).1) (Int.toNat (isub .i64 (llen ((ledV (roll p0) 12).1)) 1))).1) (dval (ledN (roll p0) 12) 2)), (((lgt tyDecision ((ledV (roll p0) 12).1) (Int.toNat (isub .i64 (llen ((ledV (roll p0) 12).1)) 1))).2).1, ((iadd .i64 1 (icv .i64 (irem p1 5))), ((icv .i64 (irem p2 3)), ((dval (dnext (ledN (roll p0) 12) 2) 2), ())))))).2)) 0))
            (br ((((latestV ((addV (ledV (roll p0) 12) ((iadd .i64 ((lgt tyDecision ((ledV (roll p0) 12).1) (Int.toNat (isub .i64 (llen ((ledV (roll p0) 12).1)) 1))).1) (dval (ledN (roll p0) 12) 2)), (((lgt tyDecision ((ledV (roll p0) 12).1) (Int.toNat (isub .i64 (llen ((ledV (roll p0) 12).1)) 1))).2).1, ((iadd .i64 1 (icv .i64 (irem p1 5))), ((icv .i64 (irem p2 3)), ((dval (dnext (ledN (roll p0) 12) 2) 2), ())))))).1) (iadd .i64 1 (icv .i64 (irem p1 5))) (icv .i64 (irem p2 3)) (iadd .i64 ((lgt tyDecision ((ledV (roll p0) 12).1) (Int.toNat (isub .i64 (llen ((ledV (roll p0) 12).1)) 1))).1) (dval (ledN (roll p0) 12) 2))).2)))
              (br ((and (ieq ((((latestV ((addV (ledV (roll p0) 12) ((iadd .i64 ((lgt tyDecision ((ledV (roll p0) 12).1) (Int.toNat (isub .i64 (llen ((ledV (roll p0) 12).1)) 1))).1) (dval (ledN (roll p0) 12) 2)), (((lgt tyDecision ((ledV (roll p0) 12).1) (Int.toNat (isub .i64 (llen ((ledV (roll p0) 12).1)) 1))).2).1, ((iadd .i64 1 (icv .i64 (irem p1 5))), ((icv .i64 (irem p2 3)), ((dval (dnext (ledN (roll p0) 12) 2) 2), ())))))).1) (iadd .i64 1 (icv .i64 (irem p1 5))) (icv .i64 (irem p2 3)) (iadd .i64 ((lgt tyDecision ((ledV (roll p0) 12).1) (Int.toNat (isub .i64 (llen ((ledV (roll p0) 12).1)) 1))).1) (dval (ledN (roll p0) 12) 2))).1)).1) ((((iadd .i64 ((lgt tyDecision ((ledV (roll p0) 12).1) (Int.toNat (isub .i64 (llen ((ledV (roll p0) 12).1)) 1))).1) (dval (ledN (roll p0) 12) 2)), (((lgt tyDecision ((ledV (roll p0) 12).1) (Int.toNat (isub .i64 (llen ((ledV (roll p0) 12).1)) 1))).2).1, ((iadd .i64 1 (icv .i64 (irem p1 5))), ((icv .i64 (irem p2 3)), ((dval (dnext (ledN (roll p0) 12) 2) 2), ())))))).1)) (and (ieq (((((latestV ((addV (ledV (roll p0) 12) ((iadd .i64 ((lgt tyDecision ((ledV (roll p0) 12).1) (Int.toNat (isub .i64 (llen ((ledV (roll p0) 12).1)) 1))).1) (dval (ledN (roll p0) 12) 2)), (((lgt tyDecision ((ledV (roll p0) 12).1) (Int.toNat (isub .i64 (llen ((ledV (roll p0) 12).1)) 1))).2).1, ((iadd .i64 1 (icv .i64 (irem p1 5))), ((icv .i64 (irem p2 3)), ((dval (dnext (ledN (roll p0) 12) 2) 2), ())))))).1) (iadd .i64 1 (icv .i64 (irem p1 5))) (icv .i64 (irem p2 3)) (iadd .i64 ((lgt tyDecision ((ledV (roll p0) 12).1) (Int.toNat (isub .i64 (llen ((ledV (roll p0) 12).1)) 1))).1) (dval (ledN (roll p0) 12) 2))).1)).2).1) (((((iadd .i64 ((lgt tyDecision ((ledV (roll p0) 12).1) (Int.toNat (isub .i64 (llen ((ledV (roll p0) 12).1)) 1))).1) (dval (ledN (roll p0) 12) 2)), (((lgt tyDecision ((ledV (roll p0) 12).1) (Int.toNat (isub .i64 (llen ((ledV (roll p0) 12).1)) 1))).2).1, ((iadd .i64 1 (icv .i64 (irem p1 5))), ((icv .i64 (irem p2 3)), ((dval (dnext (ledN (roll p0) 12) 2) 2), ())))))).2).1)) (and (ieq ((((((latestV ((addV (ledV (roll p0) 12) ((iadd .i64 ((lgt tyDecision ((ledV (roll p0) 12).1) (Int.toNat (isub .i64 (llen ((ledV (roll p0) 12).1)) 1))).1) (dval (ledN (roll p0) 12) 2)), (((lgt tyDecision ((ledV (roll p0) 12).1) (Int.toNat (isub .i64 (llen ((ledV (roll p0) 12).1)) 1))).2).1, ((iadd .i64 1 (icv .i64 (irem p1 5))), ((icv .i64 (irem p2 3)), ((dval (dnext (ledN (roll p0) 12) 2) 2), ())))))).1) (iadd .i64 1 (icv .i64 (irem p1 5))) (icv .i64 (irem p2 3)) (iadd .i64 ((lgt tyDecision ((ledV (roll p0) 12).1) (Int.toNat (isub .i64 (llen ((ledV (roll p0) 12).1)) 1))).1) (dval (ledN (roll p0) 12) 2))).1)).2).2).1) ((((((iadd .i64 ((lgt tyDecision ((ledV (roll p0) 12).1) (Int.toNat (isub .i64 (llen ((ledV (roll p0) 12).1)) 1))).1) (dval (ledN (roll p0) 12) 2)), (((lgt tyDecision ((ledV (roll p0) 12).1) (Int.toNat (isub .i64 (llen ((ledV (roll p0) 12).1)) 1))).2).1, ((iadd .i64 1 (icv .i64 (irem p1 5))), ((icv .i64 (irem p2 3)), ((dval (dnext (ledN (roll p0) 12) 2) 2), ())))))).2).2).1)) (and (ieq (((((((latestV ((addV (ledV (roll p0) 12) ((iadd .i64 ((lgt tyDecision ((ledV (roll p0) 12).1) (Int.toNat (isub .i64 (llen ((ledV (roll p0) 12).1)) 1))).1) (dval (ledN (roll p0) 12) 2)), (((lgt tyDecision ((ledV (roll p0) 12).1) (Int.toNat (isub .i64 (llen ((ledV (roll p0) 12).1)) 1))).2).1, ((iadd .i64 1 (icv .i64 (irem p1 5))), ((icv .i64 (irem p2 3)), ((dval (dnext (ledN (roll p0) 12) 2) 2), ())))))).1) (iadd .i64 1 (icv .i64 (irem p1 5))) (icv .i64 (irem p2 3)) (iadd .i64 ((lgt tyDecision ((ledV (roll p0) 12).1) (Int.toNat (isub .i64 (llen ((ledV (roll p0) 12).1)) 1))).1) (dval (ledN (roll p0) 12) 2))).1)).2).2).2).1) (((((((iadd .i64 ((lgt tyDecision ((ledV (roll p0) 12).1) (Int.toNat (isub .i64 (llen ((ledV (roll p0) 12).1)) 1))).1) (dval (ledN (roll p0) 12) 2)), (((lgt tyDecision ((ledV (roll p0) 12).1) (Int.toNat (isub .i64 (llen ((ledV (roll p0) 12).1)) 1))).2).1, ((iadd .i64 1 (icv .i64 (irem p1 5))), ((icv .i64 (irem p2 3)), ((dval (dnext (ledN (roll p0) 12) 2) 2), ())))))).2).2).2).1)) (and (ieq ((((((((latestV ((addV (ledV (roll p0) 12) ((iadd .i64 ((lgt tyDecision ((ledV (roll p0) 12).1) (Int.toNat (isub .i64 (llen ((ledV (roll p0) 12).1)) 1))).1) (dval (ledN (roll p0) 12) 2)), (((lgt tyDecision ((ledV (roll p0) 12).1) (Int.toNat (isub .i64 (llen ((ledV (roll p0) 12).1)) 1))).2).1, ((iadd .i64 1 (icv .i64 (irem p1 5))), ((icv .i64 (irem p2 3)), ((dval (dnext (ledN (roll p0) 12) 2) 2), ())))))).1) (iadd .i64 1 (icv .i64 (irem p1 5))) (icv .i64 (irem p2 3)) (iadd .i64 ((lgt tyDecision ((ledV (roll p0) 12).1) (Int.toNat (isub .i64 (llen ((ledV (roll p0) 12).1)) 1))).1) (dval (ledN (roll p0) 12) 2))).1)).2).2).2).2).1) ((((((((iadd .i64 ((lgt tyDecision ((ledV (roll p0) 12).1) (Int.toNat (isub .i64 (llen ((ledV (roll p0) 12).1)) 1))).1) (dval (ledN (roll p0) 12) 2)), (((lgt tyDecision ((ledV (roll p0) 12).1) (Int.toNat (isub .i64 (llen ((ledV (roll p0) 12).1)) 1))).2).1, ((iadd .i64 1 (icv .i64 (irem p1 5))), ((icv .i64 (irem p2 3)), ((dval (dnext (ledN (roll p0) 12) 2) 2), ())))))).2).2).2).2).1)) true))))))
                (some (.t .bool awakeV, []))
                (some (.t .bool false, [])))
              (some (.t .bool false, [])))
            (some (.t .bool false, [])))
          (none))
        (none))
      (none))
    (none)
def r_law41_LedgerLatest_1 (p0 : (List Int)) (p1 : Int) (p2 : Int) : Option (V × List VO) :=
  br ((nextOk (ledN (roll p0) 12) 2))
    (frk
      (r_law41_LedgerLatest_2 p0 p1 p2)
      (r_law41_LedgerLatest_2 p0 p1 p2))
    (none)
def r_law41_LedgerLatest_3 (p0 : (List Int)) (p1 : Int) (p2 : Int) : Option (V × List VO) :=
  br ((nextOk (ledN (roll p0) 12) 2))
    (r_law41_LedgerLatest_2 p0 p1 p2)
    (none)
def r_law41_LedgerLatest_5 (p0 : (List Int)) (p1 : Int) (p2 : Int) : Option (V × List VO) :=
  br ((nextOk (dnext (ledN (roll p0) 12) 2) 2))
    (br ((addOk (ledV (roll p0) 12) ((iadd .i64 0 (dval (ledN (roll p0) 12) 2)), (0, ((iadd .i64 1 (icv .i64 (irem p1 5))), ((icv .i64 (irem p2 3)), ((dval (dnext (ledN (roll p0) 12) 2) 2), ())))))))
      (br ((latestOk ((addV (ledV (roll p0) 12) ((iadd .i64 0 (dval (ledN (roll p0) 12) 2)), (0, ((iadd .i64 1 (icv .i64 (irem p1 5))), ((icv .i64 (irem p2 3)), ((dval (dnext (ledN (roll p0) 12) 2) 2), ())))))).1) (iadd .i64 1 (icv .i64 (irem p1 5))) (icv .i64 (irem p2 3)) (iadd .i64 0 (dval (ledN (roll p0) 12) 2))))
        (br ((w1Ok (0 : Int) (ledV (roll p0) 12)))
          (br ((ieq (((addV (ledV (roll p0) 12) ((iadd .i64 0 (dval (ledN (roll p0) 12) 2)), (0, ((iadd .i64 1 (icv .i64 (irem p1 5))), ((icv .i64 (irem p2 3)), ((dval (dnext (ledN (roll p0) 12) 2) 2), ())))))).2)) 0))
            (br ((((latestV ((addV (ledV (roll p0) 12) ((iadd .i64 0 (dval (ledN (roll p0) 12) 2)), (0, ((iadd .i64 1 (icv .i64 (irem p1 5))), ((icv .i64 (irem p2 3)), ((dval (dnext (ledN (roll p0) 12) 2) 2), ())))))).1) (iadd .i64 1 (icv .i64 (irem p1 5))) (icv .i64 (irem p2 3)) (iadd .i64 0 (dval (ledN (roll p0) 12) 2))).2)))
              (br ((and (ieq ((((latestV ((addV (ledV (roll p0) 12) ((iadd .i64 0 (dval (ledN (roll p0) 12) 2)), (0, ((iadd .i64 1 (icv .i64 (irem p1 5))), ((icv .i64 (irem p2 3)), ((dval (dnext (ledN (roll p0) 12) 2) 2), ())))))).1) (iadd .i64 1 (icv .i64 (irem p1 5))) (icv .i64 (irem p2 3)) (iadd .i64 0 (dval (ledN (roll p0) 12) 2))).1)).1) ((((iadd .i64 0 (dval (ledN (roll p0) 12) 2)), (0, ((iadd .i64 1 (icv .i64 (irem p1 5))), ((icv .i64 (irem p2 3)), ((dval (dnext (ledN (roll p0) 12) 2) 2), ())))))).1)) (and (ieq (((((latestV ((addV (ledV (roll p0) 12) ((iadd .i64 0 (dval (ledN (roll p0) 12) 2)), (0, ((iadd .i64 1 (icv .i64 (irem p1 5))), ((icv .i64 (irem p2 3)), ((dval (dnext (ledN (roll p0) 12) 2) 2), ())))))).1) (iadd .i64 1 (icv .i64 (irem p1 5))) (icv .i64 (irem p2 3)) (iadd .i64 0 (dval (ledN (roll p0) 12) 2))).1)).2).1) (((((iadd .i64 0 (dval (ledN (roll p0) 12) 2)), (0, ((iadd .i64 1 (icv .i64 (irem p1 5))), ((icv .i64 (irem p2 3)), ((dval (dnext (ledN (roll p0) 12) 2) 2), ())))))).2).1)) (and (ieq ((((((latestV ((addV (ledV (roll p0) 12) ((iadd .i64 0 (dval (ledN (roll p0) 12) 2)), (0, ((iadd .i64 1 (icv .i64 (irem p1 5))), ((icv .i64 (irem p2 3)), ((dval (dnext (ledN (roll p0) 12) 2) 2), ())))))).1) (iadd .i64 1 (icv .i64 (irem p1 5))) (icv .i64 (irem p2 3)) (iadd .i64 0 (dval (ledN (roll p0) 12) 2))).1)).2).2).1) ((((((iadd .i64 0 (dval (ledN (roll p0) 12) 2)), (0, ((iadd .i64 1 (icv .i64 (irem p1 5))), ((icv .i64 (irem p2 3)), ((dval (dnext (ledN (roll p0) 12) 2) 2), ())))))).2).2).1)) (and (ieq (((((((latestV ((addV (ledV (roll p0) 12) ((iadd .i64 0 (dval (ledN (roll p0) 12) 2)), (0, ((iadd .i64 1 (icv .i64 (irem p1 5))), ((icv .i64 (irem p2 3)), ((dval (dnext (ledN (roll p0) 12) 2) 2), ())))))).1) (iadd .i64 1 (icv .i64 (irem p1 5))) (icv .i64 (irem p2 3)) (iadd .i64 0 (dval (ledN (roll p0) 12) 2))).1)).2).2).2).1) (((((((iadd .i64 0 (dval (ledN (roll p0) 12) 2)), (0, ((iadd .i64 1 (icv .i64 (irem p1 5))), ((icv .i64 (irem p2 3)), ((dval (dnext (ledN (roll p0) 12) 2) 2), ())))))).2).2).2).1)) (and (ieq ((((((((latestV ((addV (ledV (roll p0) 12) ((iadd .i64 0 (dval (ledN (roll p0) 12) 2)), (0, ((iadd .i64 1 (icv .i64 (irem p1 5))), ((icv .i64 (irem p2 3)), ((dval (dnext (ledN (roll p0) 12) 2) 2), ())))))).1) (iadd .i64 1 (icv .i64 (irem p1 5))) (icv .i64 (irem p2 3)) (iadd .i64 0 (dval (ledN (roll p0) 12) 2))).1)).2).2).2).2).1) ((((((((iadd .i64 0 (dval (ledN (roll p0) 12) 2)), (0, ((iadd .i64 1 (icv .i64 (irem p1 5))), ((icv .i64 (irem p2 3)), ((dval (dnext (ledN (roll p0) 12) 2) 2), ())))))).2).2).2).2).1)) true))))))
                (some (.t .bool awakeV, []))
                (some (.t .bool false, [])))
              (some (.t .bool false, [])))
            (some (.t .bool false, [])))
          (none))
        (none))
      (none))
    (none)
def r_law41_LedgerLatest_4 (p0 : (List Int)) (p1 : Int) (p2 : Int) : Option (V × List VO) :=
  br ((nextOk (ledN (roll p0) 12) 2))
    (frk
      (r_law41_LedgerLatest_5 p0 p1 p2)
      (r_law41_LedgerLatest_5 p0 p1 p2))
    (none)
def r_law41_LedgerLatest_6 (p0 : (List Int)) (p1 : Int) (p2 : Int) : Option (V × List VO) :=
  br ((nextOk (ledN (roll p0) 12) 2))
    (r_law41_LedgerLatest_5 p0 p1 p2)
    (none)
def r_law41_LedgerLatest (p0 : (List Int)) (p1 : Int) (p2 : Int) : Option (V × List VO) :=
  br ((!(light p0)))
    (some (.t .bool awakeV, []))
    (br ((ledOk (roll p0) 12))
      (br (cNz 5)
        (br (cNz 3)
          (br ((igt (llen ((ledV (roll p0) 12).1)) 0))
            (br (cIx ((ledV (roll p0) 12).1) (isub .i64 (llen ((ledV (roll p0) 12).1)) 1))
              (frk
                (r_law41_LedgerLatest_1 p0 p1 p2)
                (frk
                  (frk
                    (r_law41_LedgerLatest_1 p0 p1 p2)
                    (r_law41_LedgerLatest_3 p0 p1 p2))
                  (frk
                    (r_law41_LedgerLatest_3 p0 p1 p2)
                    (r_law41_LedgerLatest_3 p0 p1 p2))))
              (none))
            (frk
              (r_law41_LedgerLatest_4 p0 p1 p2)
              (frk
                (frk
                  (r_law41_LedgerLatest_4 p0 p1 p2)
                  (r_law41_LedgerLatest_6 p0 p1 p2))
                (frk
                  (r_law41_LedgerLatest_6 p0 p1 p2)
                  (r_law41_LedgerLatest_6 p0 p1 p2)))))
          (none))
        (none))
      (none))
theorem e_law41_LedgerLatest (p0 : (List Int)) (p1 : Int) (p2 : Int) : runF g_law41_LedgerLatest tc_law41_LedgerLatest rv_law41_LedgerLatest false [.t (.sl tI) p0, .t (.int .u8) p1, .t (.int .u8) p2] [] = r_law41_LedgerLatest p0 p1 p2 := by kernel_rfl
theorem ok_law41_LedgerLatest : Option.map (trC Try.prog) Try.f5.body = some tc_law41_LedgerLatest.er := by kernel_rfl
theorem rok_law41_LedgerLatest : trVs Try.prog Try.f5.results.toList = some (rv_law41_LedgerLatest.map Prod.fst) := by kernel_rfl
theorem en_law41_LedgerLatest : Entered Try.prog 5 := .inr ⟨by decide, _, Try.func5, by kernel_rfl, by kernel_rfl⟩
theorem gk_law41_LedgerLatest : GOk Try.prog g_law41_LedgerLatest := gok_of _ (by
  intro p hp
  simp only [List.mem_cons, List.not_mem_nil, or_false] at hp
  rcases hp with rfl | rfl | rfl | rfl | rfl | rfl | rfl
  · exact ⟨en_make_Light, ms_make_Light⟩
  · exact ⟨en_move_Ledger, ms_move_Ledger⟩
  · exact ⟨en_make_Roll, ms_make_Roll⟩
  · exact ⟨en_law41_awake, ms_law41_awake⟩
  · exact ⟨en_make_Dice_Next, ms_make_Dice_Next⟩
  · exact ⟨en_ledger_Add, ms_ledger_Add⟩
  · exact ⟨en_ledger_Latest, ms_ledger_Latest⟩)
theorem wantL_drop {k s day : Int} {o : Decision × Bool} {l : List Decision} {j : Nat} (h : j < l.length) : wantL k s day o (l.drop j) = wantL k s day (wantS k s day o l[j]) (l.drop (j + 1)) := by
  rw [List.drop_eq_getElem_cons h]
  rfl
theorem l_law41_LedgerLatest_0 (x9 : Int) (x10 : Int) (x15 : Int) (x17 : Bool) (x18 : Int) (x20 : Bool) (x22 : Bool) (x91 : (List Decision)) (x92 : Int) (x93 : Int) (y8 : Ledger) (y13 : Decision) (y16 : Decision) (y19 : Decision) (y21 : Decision) (h : (w0Ok x91 x92 x93) = true) : lp_law41_LedgerLatest_0 x9 x10 x15 x17 x18 x20 x22 x91 x92 x93 y8 y13 y16 y19 y21 = la_law41_LedgerLatest_0 x9 x10 x15 x17 x18 x20 x22 x91 x92 x93 y8 y13 y16 y19 y21 := by
  simp only [w0Ok, decide_eq_true_eq] at h
  obtain ⟨rfl, h1, h2, h3⟩ := h
  obtain ⟨k, rfl⟩ := Int.eq_ofNat_of_zero_le h1
  have hk : k ≤ x91.length := by omega
  clear h1 h2
  revert x22 y21
  refine range_ind x91 (fun k => ∀ x22 y21, lp_law41_LedgerLatest_0 x9 x10 x15 x17 x18 x20 x22 x91 (x91.length : Int) (k : Int) y8 y13 y16 y19 y21 = la_law41_LedgerLatest_0 x9 x10 x15 x17 x18 x20 x22 x91 (x91.length : Int) (k : Int) y8 y13 y16 y19 y21) ?_ ?_ k hk
  · intro x22 y21
    rw [ln_law41_LedgerLatest_0]
    simp [n_law41_LedgerLatest_0, la_law41_LedgerLatest_0, ilt_nat, br_false, wantL]
  · intro k hk ih x22 y21
    rw [ln_law41_LedgerLatest_0]
    simp only [n_law41_LedgerLatest_0, ilt_nat, cIx_nat, hk, decide_true, br_true, Int.toNat_natCast, lgt_get (y := tyDecision) hk, add1 (show k < 4611686018427387904 by omega), ih, la_law41_LedgerLatest_0, wantL_drop hk, wantS]
    generalize ieq _ x9 = b1
    generalize ieq _ x10 = b2
    generalize ile _ x18 = b3
    cases b1 <;> cases b2 <;> cases b3 <;> rfl
theorem wantL_is (k s day : Int) (l : List Decision) (o : Option Dec) : wantL k s day (und (o.getD zeroDec), o.isSome) l = (und ((wantO k s day o (decs l)).getD zeroDec), (wantO k s day o (decs l)).isSome) := by
  induction l generalizing o with
  | nil => rfl
  | cons y l ih =>
    have e : wantS k s day (und (o.getD zeroDec), o.isSome) y = (und ((if isOn k s (dec y) && decide ((dec y).day ≤ day) then some (dec y) else o).getD zeroDec), (if isOn k s (dec y) && decide ((dec y).day ≤ day) then some (dec y) else o).isSome) := by
      unfold wantS isOn
      have e0 : (ieq y.2.2.1 k && ieq y.2.2.2.1 s && ile y.1 day) = (decide ((dec y).kind = k) && decide ((dec y).subject = s) && decide ((dec y).day ≤ day)) := rfl
      rw [e0]
      cases decide ((dec y).kind = k) && decide ((dec y).subject = s) && decide ((dec y).day ≤ day) <;> rfl
    show wantL k s day (wantS k s day _ y) l = _
    rw [e, ih]
    rfl
theorem latest_want {l : List Decision} (h : Gen zeroDec (decs l)) (k s day : Int) : latestV (l, ()) k s day = wantL k s day (zeroT, false) l := by
  have := wantL_is k s day l none
  rw [want_latest h] at this
  exact this.symm
theorem l_law41_LedgerLatest_1 (x9 : Int) (x10 : Int) (x15 : Int) (x17 : Bool) (x18 : Int) (y8 : Ledger) (y13 : Decision) (y16 : Decision) (h : (w1Ok x18 y8) = true) : lp_law41_LedgerLatest_1 x9 x10 x15 x17 x18 y8 y13 y16 = la_law41_LedgerLatest_1 x9 x10 x15 x17 x18 y8 y13 y16 := by
  simp only [w1Ok, decide_eq_true_eq] at h
  obtain ⟨h1, h2, h3, h4⟩ := h
  obtain ⟨k, rfl⟩ := Int.eq_ofNat_of_zero_le h1
  obtain ⟨l, u⟩ := y8
  have h4 : l.length ≤ 100 := h4
  have hk : k ≤ 30 := by omega
  clear h1 h2
  refine up_ind 30 (fun k => lp_law41_LedgerLatest_1 x9 x10 x15 x17 (k : Int) (l, u) y13 y16 = la_law41_LedgerLatest_1 x9 x10 x15 x17 (k : Int) (l, u) y13 y16) ?_ ?_ k hk
  · rw [ln_law41_LedgerLatest_1]
    rfl
  · intro k hk ih
    rw [ln_law41_LedgerLatest_1]
    have e1 : ilt (k : Int) 30 = true := by simp [ilt]; omega
    have e2 : latestOk (l, u) x9 x10 (k : Int) = true := by
      simp only [latestOk, daysOk, lenOk, Bool.and_eq_true, decide_eq_true_eq]
      exact ⟨h3.days, by omega⟩
    have e3 : w0Ok l (llen l) 0 = true := by simp [w0Ok, llen]; omega
    simp only [n_law41_LedgerLatest_1, e1, e2, e3, br_true, latest_want h3, add1 (show k < 4611686018427387904 by omega), ih]
    simp only [eq_five]
    show br (!(wantL x9 x10 (k : Int) (zeroT, false) l).1 == (wantL x9 x10 (k : Int) (zeroT, false) l).1) _ (br (bneq (wantL x9 x10 (k : Int) (zeroT, false) l).2 (wantL x9 x10 (k : Int) (zeroT, false) l).2) _ _) = _
    simp [br_false, la_law41_LedgerLatest_1, bneq]
theorem lo_law41_LedgerLatest_0 : ∀ S l p, g_law41_LedgerLatest.L 0 (fgt fg_law41_LedgerLatest_0 S) = some (true, l) → pickA l = some p → loopF (roundF g_law41_LedgerLatest fg_law41_LedgerLatest_0 tb_law41_LedgerLatest_0) S = some p :=
  lok_of (s := sh_law41_LedgerLatest_0) ⟨by decide, by decide⟩ (by kernel_rfl) fun x y hok p hp => by
  simp only [pickA_br, pickA_one] at hp
  exact (l_law41_LedgerLatest_0 x.2.1 x.2.2.1 x.2.2.2.2.1 x.2.2.2.2.2.2.1 x.2.2.2.2.2.2.2.1 x.2.2.2.2.2.2.2.2.2.1 x.2.2.2.2.2.2.2.2.2.2.2.1 x.2.2.2.2.2.2.2.2.2.2.2.2.1 x.2.2.2.2.2.2.2.2.2.2.2.2.2.1 x.2.2.2.2.2.2.2.2.2.2.2.2.2.2.1 y.1 y.2.1 y.2.2.1 y.2.2.2.1 y.2.2.2.2.1 (by simpa using hok)).trans hp
theorem lo_law41_LedgerLatest_1 : ∀ S l p, g_law41_LedgerLatest.L 1 (fgt fg_law41_LedgerLatest_1 S) = some (true, l) → pickA l = some p → loopF (roundF g_law41_LedgerLatest fg_law41_LedgerLatest_1 tb_law41_LedgerLatest_1) S = some p :=
  lok_of (s := sh_law41_LedgerLatest_1) ⟨by decide, by decide⟩ (by kernel_rfl) fun x y hok p hp => by
  simp only [pickA_br, pickA_one] at hp
  exact (l_law41_LedgerLatest_1 x.2.1 x.2.2.1 x.2.2.2.2.1 x.2.2.2.2.2.2.1 x.2.2.2.2.2.2.2.1 y.1 y.2.1 y.2.2.1 (by simpa using hok)).trans hp
theorem lk_law41_LedgerLatest : tc_law41_LedgerLatest.lok g_law41_LedgerLatest := by
  repeat (first | exact trivial | exact lo_law41_LedgerLatest_0 | exact lo_law41_LedgerLatest_1 | refine ⟨?_, ?_⟩)
theorem genL_gen : ∀ (k : Nat) (d : Dice) (a : Decision), Gen (dec a) (decs (genL k d a)) ∧ (genL k d a).length = k
  | 0, _, _ => ⟨trivial, rfl⟩
  | k + 1, d, a => ⟨⟨dec_follows, (genL_gen k _ _).1⟩, by simp [genL, (genL_gen k _ _).2]⟩
theorem dOk_gen : ∀ (k : Nat) (d : Dice) (a : Decision), dOk d = true → dOk (genD k d a) = true
  | 0, _, _, h => h
  | k + 1, _, _, h => dOk_gen k _ _ (dOk_dec h)
theorem led_facts {d : Dice} {n : Int} (h : dOk d = true) (hn : 0 ≤ n ∧ n ≤ 100) : Gen zeroDec (decs (ledV d n).1) ∧ (ledV d n).1.length ≤ n.toNat ∧ dOk (ledN d n) = true := by
  have b := dval_lt (d := d) (n := n + 1) (by omega)
  have g := genL_gen (dval d (n + 1)).toNat (adv d) zeroT
  exact ⟨g.1, by show (genL _ _ _).length ≤ _; rw [g.2]; omega, dOk_gen _ _ _ (dOk_next h)⟩
abbrev newX (z : Decision) (a k s b : Int) : Decision := (iadd .i64 z.1 a, z.2.1, k, s, b, ())
theorem new_latest {l : List Decision} {z : Decision} {a k s b : Int} (hg : Gen zeroDec (decs l)) (hl : l.length ≤ 100) (hz : lastD zeroDec (decs l) = dec z) (ha : 0 ≤ a ∧ a < 2) (hk : 1 ≤ k ∧ k ≤ 5) (hs : 0 ≤ s ∧ s ≤ 2) (hb : 0 ≤ b ∧ b < 2) :
    addOk (l, ()) (newX z a k s b) = true ∧ addV (l, ()) (newX z a k s b) = ((l ++ [newX z a k s b], ()), 0) ∧ latestOk (l ++ [newX z a k s b], ()) k s (iadd .i64 z.1 a) = true ∧ latestV (l ++ [newX z a k s b], ()) k s (iadd .i64 z.1 a) = (newX z a k s b, true) := by
  have hbd := hg.last_bd 0 (by decide)
  rw [hz] at hbd
  have hlen : (decs l).length = l.length := List.length_map _
  rw [hlen] at hbd
  simp only [dec] at hbd
  have e1 : iadd .i64 z.1 a = z.1 + a := iadd_in (by omega)
  have hf : Follows (dec z) (dec (newX z a k s b)) := by
    simp only [Follows, dec, newX]
    rw [e1]
    omega
  have hv : validB (dec (newX z a k s b)) = true := valid_of (by
    simp only [dec, newX]
    rw [e1]
    omega)
  obtain ⟨r1, r2⟩ := add_gen hg (by omega) hv (by rw [hz]; simp only [dec, newX]; rw [e1]; omega)
  have e3 : decs (l ++ [newX z a k s b]) = decs l ++ [dec (newX z a k s b)] := by simp
  have hg2 : Gen zeroDec (decs (l ++ [newX z a k s b])) := by rw [e3]; exact hg.snoc (by rw [hz]; exact hf)
  have hlat := latest_new hg (x := dec (newX z a k s b)) (by rw [hz]; simp only [dec, newX]; rw [e1]; omega)
  refine ⟨by simp only [addOk, lenOk, decide_eq_true_eq]; omega, ?_, ?_, ?_⟩
  · simp only [addV, r1, r2]
    rw [← e3, und_decs]
  · simp only [latestOk, daysOk, lenOk, Bool.and_eq_true, decide_eq_true_eq]
    exact ⟨hg2.days, by simp; omega⟩
  · have : latestR (decs (l ++ [newX z a k s b])) k s (iadd .i64 z.1 a) = some (dec (newX z a k s b)) := by rw [e3]; exact hlat
    simp only [latestV, this]
    rfl
def u8sOk (_ : List Int) (a b : Int) : Bool := decide (0 ≤ a ∧ a ≤ 255) && decide (0 ≤ b ∧ b ≤ 255)
theorem irem_nn {a b : Int} (ha : 0 ≤ a) (hb : 0 < b) : 0 ≤ irem a b ∧ irem a b < b := ⟨Int.tmod_nonneg b ha, Int.tmod_lt_of_pos a hb⟩
theorem icv_in {a : Int} (h : -9223372036854775808 ≤ a ∧ a ≤ 9223372036854775807) : icv .i64 a = a := Go.IntWalk.i64_in _ h
theorem and_five {a b : Decision} : and (ieq a.1 b.1) (and (ieq a.2.1 b.2.1) (and (ieq a.2.2.1 b.2.2.1) (and (ieq a.2.2.2.1 b.2.2.2.1) (and (ieq a.2.2.2.2.1 b.2.2.2.2.1) true)))) = (a == b) := eq_five a b
theorem s_law41_LedgerLatest (p0 : List Int) (p1 p2 : Int) (h : u8sOk p0 p1 p2 = true) : r_law41_LedgerLatest p0 p1 p2 = some (.t .bool true, []) := by
  simp only [u8sOk, Bool.and_eq_true, decide_eq_true_eq] at h
  by_cases h0 : light p0 = true
  · obtain ⟨g1, g2, g3⟩ := led_facts (n := 12) (dOk_roll h0) (by decide)
    have b1 := irem_nn h.1.1 (b := 5) (by decide)
    have b2 := irem_nn h.2.1 (b := 3) (by decide)
    have e1 : icv .i64 (irem p1 5) = irem p1 5 := icv_in (by omega)
    have e2 : icv .i64 (irem p2 3) = irem p2 3 := icv_in (by omega)
    have e3 : iadd .i64 1 (irem p1 5) = 1 + irem p1 5 := iadd_in (by omega)
    have v1 := dval_lt (d := ledN (roll p0) 12) (n := 2) (by decide)
    have v2 := dval_lt (d := dnext (ledN (roll p0) 12) 2) (n := 2) (by decide)
    have n1 := nOk g3 (n := 2) (by decide)
    have n2 := nOk (dOk_next (n := 2) g3) (n := 2) (by decide)
    have l1 : ledOk (roll p0) 12 = true := by simp only [ledOk, dOk_roll h0, Bool.true_and]; rfl
    have w1 : w1Ok 0 (ledV (roll p0) 12) = true := by
      simp only [w1Ok, decide_eq_true_eq]
      exact ⟨by decide, by decide, g1, by have : (12 : Int).toNat = 12 := rfl; omega⟩
    have c5 : cNz 5 = true := rfl
    have c3 : cNz 3 = true := rfl
    have len12 : (ledV (roll p0) 12).1.length ≤ 12 := g2
    have hu : ledV (roll p0) 12 = ((ledV (roll p0) 12).1, ()) := rfl
    have fact : ∀ z, lastD zeroDec (decs (ledV (roll p0) 12).1) = dec z → _ := fun z hz => new_latest (z := z) (a := dval (ledN (roll p0) 12) 2) (k := 1 + irem p1 5) (s := irem p2 3) (b := dval (dnext (ledN (roll p0) 12) 2) 2) g1 (by omega) hz v1 (by omega) (by omega) v2
    rw [← hu] at fact
    have k2 : igt (llen (ledV (roll p0) 12).1) 0 = true → cIx (ledV (roll p0) 12).1 (isub .i64 (llen (ledV (roll p0) 12).1) 1) = true ∧ r_law41_LedgerLatest_2 p0 p1 p2 = some (.t .bool true, []) := by
      intro hp
      have hp : 0 < (ledV (roll p0) 12).1.length := by simpa [igt, llen] using hp
      obtain ⟨m, hm⟩ : ∃ m : Nat, (ledV (roll p0) 12).1.length = m + 1 := ⟨_, (Nat.succ_pred_eq_of_pos hp).symm⟩
      have e4 : isub .i64 (llen (ledV (roll p0) 12).1) 1 = (m : Int) := by rw [isub_in (by simp only [llen]; omega)]; simp only [llen]; omega
      have hlt : m < (ledV (roll p0) 12).1.length := by omega
      rw [e4]
      refine ⟨by rw [cIx_nat]; simpa using hlt, ?_⟩
      have hz : lastD zeroDec (decs (ledV (roll p0) 12).1) = dec (lgt tyDecision (ledV (roll p0) 12).1 (Int.toNat (m : Int))) := by
        rw [Int.toNat_natCast, lgt_get (y := tyDecision) hlt]
        simp only [lastD, decs, List.getLastD_eq_getLast?, List.getLast?_eq_getElem?, List.length_map, List.getElem?_map, hm, Nat.add_sub_cancel, List.getElem?_eq_getElem hlt]
        rfl
      obtain ⟨f1, f2, f3, f4⟩ := fact _ hz
      simp only [r_law41_LedgerLatest_2, n2, e1, e2, e3, e4, f1, f2, f3, f4, w1, br_true]
      simp [ieq, br_true, awakeV]
    have k7 : igt (llen (ledV (roll p0) 12).1) 0 = false → r_law41_LedgerLatest_5 p0 p1 p2 = some (.t .bool true, []) := by
      intro hp
      have hp : (ledV (roll p0) 12).1 = [] := by
        have : ¬ 0 < (ledV (roll p0) 12).1.length := by simpa [igt, llen] using hp
        exact List.eq_nil_of_length_eq_zero (by omega)
      have hz : lastD zeroDec (decs (ledV (roll p0) 12).1) = dec zeroT := by rw [hp]; rfl
      obtain ⟨f1, f2, f3, f4⟩ := fact zeroT hz
      simp only [newX, zeroT] at f1 f2 f3 f4
      simp only [r_law41_LedgerLatest_5, n2, e1, e2, e3, f1, f2, f3, f4, w1, br_true]
      simp [ieq, br_true, awakeV]
    simp only [r_law41_LedgerLatest, h0, Bool.not_true, br_false, l1, br_true, c5, c3]
    cases hq : igt (llen (ledV (roll p0) 12).1) 0 with
    | true =>
      obtain ⟨q1, q2⟩ := k2 hq
      simp only [br_true, q1, r_law41_LedgerLatest_1, r_law41_LedgerLatest_3, n1, q2, frk_self]
    | false =>
      simp only [br_false, r_law41_LedgerLatest_4, r_law41_LedgerLatest_6, n1, k7 hq, frk_self, br_true]
  · have h0 : light p0 = false := by simpa using h0
    simp only [r_law41_LedgerLatest, h0, Bool.not_false, br_true]
    rfl
def lawLatest (_ : List Int) (_ _ : Int) : Bool := true
def sp_law41_LedgerLatest : Ent := spec (.pr (.sl tI) (.pr (.int .u8) (.pr (.int .u8) .nil))) (fun x => (u8sOk x.1 x.2.1 x.2.2.1)) (fun x => (.t .bool (lawLatest x.1 x.2.1 x.2.2.1)))
theorem ms_law41_LedgerLatest : Meets Try.prog 5 (strip sp_law41_LedgerLatest) := by
  obtain ⟨c, hc, hi⟩ := Option.map_eq_some_iff.1 ok_law41_LedgerLatest
  exact meets_spec (R := runF g_law41_LedgerLatest tc_law41_LedgerLatest rv_law41_LedgerLatest false) (meets_of (by decide) Try.func5 hc hi Try.ntmps5 rok_law41_LedgerLatest gk_law41_LedgerLatest lk_law41_LedgerLatest mixed) fun x hok => (e_law41_LedgerLatest x.1 x.2.1 x.2.2.1).trans (s_law41_LedgerLatest x.1 x.2.1 x.2.2.1 hok)
end
end Go.Proofs.Ytnimpcffagidoaa.K
